/- Functions that defer a recover: how they begin and end. -/
import Derived.KernelRfl
import Derived.Tactics2
import Derived.Test.YtkgekojkboingaaGreatDoorProg
import Derived.Test.YtkgekojkboingaaGreatDoorWorldTwiceK5
namespace Go.Proofs.YtkgekojkboingaaGreatDoor
set_option linter.all false
set_option maxHeartbeats 4000000
set_option maxRecDepth 20000
open Go.RowKit Go.Proofs.Tryz
section
section
variable{P:Program}{N:cE}{w0 w:World}{K:Act→World→Prop}{e:Env}{R:List Piece}{H H':List HP}
theorem aBm{nn:Nat}{F:Nat→Prop}{p:HP}{f:FuncId}{fn:Func}{c:Code}{vs:List Value}{Post:Ending→World→Prop}(hf:P.funcs[f]? =some fn)(hb:fn.body=some c)(hN:fn.ntmps=nn)(hl:vs.length≤nn)(hp:p.sat F w)(hF:∀b,F b→b < w.heap.size)
  (h:XK ⟨nn,[]⟩ w (c.wp P (bodyPostD P fn Post)) (Dy 0 vs) [⟨w,fun b=>b < w.heap.size∧¬F b⟩] [p]):Calls P f vs.toArray w Post:=by
 refine calls_of_wp_defers hf hb (h _ _ ⟨?_,rfl,fun t v hv=>?_⟩ (aEc hp hF))
 ·simp;omega
 ·obtain⟨_,h2⟩:=Xk vs 0 t v hv;rw[Nat.sub_zero] at h2
  have hlt:t < vs.length:=by
   rcases Nat.lt_or_ge t vs.length with h | h
   ·exact h
   ·rw[List.getElem?_eq_none h] at h2;cases h2
  rw[Array.getElem?_append_left (by simpa using hlt)]
  simpa using h2
theorem Bx{nn:Nat}{f:FuncId}{fi ca:List Value}{fn:Func}{Post:Ending→World→Prop}{x:Exit}(hx:x=.ret∨x=.normal)(hf:eW P f=true)
  (jF:∀w,CallsD P f (fi++ca).toArray .returning w fun y u' w'=>y=.returned (.tuple #[])∧u'=.returning∧w'=w) (hr:fn.results=#[])
  (h:∀w,St w0 R H w→Post (.returned (.tuple #[])) w):XK ⟨nn,[Ji f fi ca]⟩ w0 (bodyPostD P fn Post x) e R H:=by
 have key:XK ⟨nn,[Ji f fi ca]⟩ w0 (bodyPostD P fn Post .ret) e R H:=aRJ (H':=H) hf (fun w1 st=>(jF w1).mono fun y u' w' h=>by
  obtain⟨h1,h2,rfl⟩:=h
  exact⟨⟨_,h1⟩,h2,st⟩) fun a w1 _ st=>⟨.tuple #[],results_none hr _ _ _,h w1 st⟩
 rcases hx with rfl | rfl
 ·exact key
 ·exact key
end
theorem Wi(w:World):CallsD Tryz.prog 89 #[] .returning w fun e u' w'=>e=.returned (.tuple #[])∧u'=.returning∧w'=w:=by
 refine callsD_of_wpS func89 rfl fun c₀ cs hu=>?_;apply wpS_region;simp[wpOpsS,go_sem,recoverD,hu,ntmps89,Exit.thenS];cases c₀;simp_all [bodyPostS,results,Tryz.results89]
section
variable{N:cE}{w0 w:World}{e:Env}{R:List Piece}{H:List HP}{K:Act→World→Prop}{f:Nat}{hL:HL}{s:aC}{z:cI}{x:aU}
theorem Hg(i:Nat){o:Nat}{v:Value}(hi:H[i]? =some (gJ f hL s z x))(hv:∀L,(jI hL.h L s z)[o]? =some v):Rd w0 R H f o v:=fun w t=>by
 obtain⟨F,⟨G,g1,g2,_⟩,h2,_⟩:=t.chunk hi;obtain⟨L,hL'⟩:=g1 0 _ rfl
 have:=((aEq hL' fun b hb=>h2 b (g2 0 b hb)).r0.at_ (hv L)).2
 rwa [Nat.zero_add] at this
end
theorem aO8(f:Nat)(hL:HL)(s:aC)(z:cI)(x:aU)(hH:s.dJ)(aR:gB hL s)(hok:cT s x)(hz:Eg s z)(hst:∀a,sF z=some a→(gI s x z a).2.1=0→(gI s x z a).1=0→tD (kB z a))(eY:z.at_ < 0)(hno:(nF s x z).2=false)(w:World)(F:Nat→Prop)(hp:(gJ f hL s z x).sat F w)(hF:∀b,F b→b < w.heap.size):
  Cz 36 #[pt f] w (Wr (.tuple #[]) (gJ f hL s (nF s x z).1 x) w F):=by
 refine aBm (vs:=[pt f]) (p:=gJ f hL s z x) func36 rfl ntmps36 (by simp) hp hF ?_;refine aA ?_;refine Yz (f:=89) (fi:=[]) (ca:=[]) rfl ?_;refine aA ?_;refine kd (bH rfl (Hg 0 rfl fun _=>rfl)) ?_;refine aA ?_;refine bX (t:=8) rfl (fun _=>?_) (fun h=>absurd eY h);refine aA ?_;refine bT 0 (gJ f hL s (nF s x z).1 x) (fun w1 F1 t h1 h2 h3=>aGV f hL s z x hH aR hok hz hst w1 F1 h1 h2) ?_;rw[hno];refine aA ?_;exact Bx (.inl rfl) (by kernel_rfl) Wi rfl fun w1 t=>⟨rfl,t.turns hF (by simp) (i:=0) rfl⟩
end
section
def aGB(m p k:Int):Bool:=decide ((iA m 0 p k).2=0∧cM (iA m 0 p k).1 28 4=0∧cM (iA m 0 p k).1 0 8=m∧cM (iA m 0 p k).1 8 2=0∧cM (iA m 0 p k).1 10 8=p∧cM (iA m 0 p k).1 18 10=k)
end
section
theorem aFM:(List.range 256).all (fun v=>decide (Bt (IntKind.u32.wrap v) (uX 8 0)=0))=true:=by decide+kernel
theorem aM1:(List.range 4).all (fun v=>decide (Bt (IntKind.u32.wrap v) (uX 2 0)=0))=true:=by decide+kernel
theorem aM2:(List.range 1024).all (fun v=>decide (Bt (IntKind.u32.wrap v) (uX 10 0)=0))=true:=by decide+kernel
theorem aAb{n:Nat}{many v:Int}(h:(List.range n).all (fun v=>decide (Bt (IntKind.u32.wrap v) (uX many 0)=0))=true)(h0:0≤v)(hv:v < n):Bt (IntKind.u32.wrap v) (uX many 0)=0:=by
 rw[List.all_eq_true] at h
 have:=of_decide_eq_true (h v.toNat (List.mem_range.2 (by omega)))
 rwa [show((v.toNat:Nat):Int)=v by omega] at this
theorem Zz{w low many v:Int}(hm:Bt (IntKind.u32.wrap v) (uX many 0)=0)(h0:0≤v)(hv:v < IntKind.i64.wrap (1*2 ^ min many.toNat 64)):(fX w low many v).2=0:=by
 unfold fX;rw[if_neg (by omega),if_neg (by rw[wN,if_neg (fun h=>h hm)];exact fun h=>h rfl)]
theorem aLW{m p k:Int}(hm:0≤m∧m < 256)(hp:0≤p∧p < 256)(hk:0≤k∧k < 1024):(iA m 0 p k).2=0:=by
 have e8:IntKind.i64.wrap (1*2 ^ min (8:Int).toNat 64)=256:=by decide+kernel
 have e2:IntKind.i64.wrap (1*2 ^ min (2:Int).toNat 64)=4:=by decide+kernel
 have Jc:IntKind.i64.wrap (1*2 ^ min (10:Int).toNat 64)=1024:=by decide+kernel
 have a1:∀w low,(fX w low 8 m).2=0:=fun w low=>Zz (aAb aFM hm.1 hm.2) hm.1 (by rw[e8];exact hm.2)
 have a2:∀w low,(fX w low 2 0).2=0:=fun w low=>Zz (aAb aM1 (by decide) (by decide)) (by decide) (by rw[e2];decide)
 have a3:∀w low,(fX w low 8 p).2=0:=fun w low=>Zz (aAb aFM hp.1 hp.2) hp.1 (by rw[e8];exact hp.2)
 have a4:∀w low,(fX w low 10 k).2=0:=fun w low=>Zz (aAb aM2 hk.1 hk.2) hk.1 (by rw[Jc];exact hk.2)
 unfold iA;rw[if_neg (fun h=>h (a1 _ _)),if_neg (fun h=>h (a2 _ _)),if_neg (fun h=>h (a3 _ _)),if_neg (fun h=>h (a4 _ _))]
theorem aCd(a b:Int):0≤Ah a b∧Ah a b < 4294967296:=Ny _
theorem aLI(w low many v:Int):0≤(fX w low many v).1∧(fX w low many v).1 < 4294967296:=by
 unfold fX;split
 ·exact⟨by decide,by decide⟩
 ·split
  ·exact⟨by decide,by decide⟩
  ·unfold wN;split
   ·exact⟨by decide,by decide⟩
   ·exact aCd _ _
def aIG(l:List Int)(v:Value)(hs:List HP)(_:Piece):Prop:=∃A c,v=.slice A l.length c∧hs=[HP.own 37 1 (.slice A l.length c) l.length (dQ l)]
def aEu(l:List Int)(v:Value)(hs:List HP)(_:Piece):Prop:=∃A c,v=.tuple #[.slice A l.length c,iv 0]∧hs=[HP.own 37 1 (.slice A l.length c) l.length (dQ l)]
theorem aJW(l:List Int)(x:Int):dQ l++[.int .u32 x]=dQ (l++[x]):=by simp[dQ]
theorem aER(l:List Int)(i:Nat)(x:Int):(dQ l).set i (.int .u32 x)=dQ (l.set i x):=by simp[dQ,List.map_set]
theorem aFk(P:Program)(a b:Int)(w:World):(Op.intBits .or .u32 a b).run P w=.ok (.int .u32 (Ah a b)) w:=by rfl
end
section
section
variable{s:aC}{x:aU}{l:Int}{b:Nat}{m a:List Int}
end
theorem aCh{s:aC}{st:List eN}(hH:s.dJ)(h:pK s st)(i:Int)(b:Bool):pK s (lN s st i b).2:=by
 unfold lN;split
 ·exact h
 ·split
  ·rename_i c x hc hx
   split
   ·exact h
   ·refine⟨by simp[h.len],fun y hy=>?_⟩;rcases List.mem_or_eq_of_mem_set hy with hy | rfl
    ·exact h.left y hy
    ·have h1:=(hH.t.aF i.toNat c hc).2
     have h2:=h.left x (List.mem_of_getElem? hx)
     unfold Uf;dsimp only;split
     ·omega
     ·exact h2
  ·exact h
theorem aJU{s:aC}{st:List fW}(hH:s.dJ)(h:tI s st)(i:Int):tI s (uR s st i).2:=by
 unfold uR;split
 ·exact h
 ·split
  ·rename_i c x hc hx
   split
   ·exact h
   ·have h1:=(hH.domains i.toNat c hc).2
    refine⟨by simp[h.len],fun y hy=>?_,fun y hy=>?_⟩
    ·rcases List.mem_or_eq_of_mem_set hy with hy | rfl
     ·exact h.left y hy
     ·exact h1
    ·rcases List.mem_or_eq_of_mem_set hy with hy | rfl
     ·exact h.phase y hy
     ·exact⟨by show(0:Int)≤114;omega,by show(114:Int) < 256;omega⟩
  ·exact h
end
section
def eM(p:Piece):Prop:=∀(i:Nat) (v:Int),[(114:Int),97,115,100][i]? =some v→p.Z 0∧p.w.cell? ⟨0,i,none⟩=some (.int .u8 v)
theorem eM.at_{p:Piece}{w:World}(h:eM p)(hl:p.Le (all w)):Sh w:=fun i v hv=>by
 obtain⟨h1,h2⟩:=h i v hv;obtain⟨h3,h4⟩:=hl 0 h1;refine⟨h3,?_⟩;rw[←h2];exact World.cell?_of_block h4
theorem eM.le{p q:Piece}(h:eM p)(hl:p.Le q):eM q:=fun i v hv=>by
 obtain⟨h1,h2⟩:=h i v hv;obtain⟨h3,h4⟩:=hl 0 h1;exact⟨h3,(World.cell?_of_block h4).trans h2⟩
def Ih(s:aC)(d:Int)(k:Nat)(p:dW×fD):dW×fD:=match s.aD[k]? with
 | some dv=>if dv.domain=d then(p.1,(oF p.2).2) else p
 | none=>p
def wQ(s:aC)(x:aU)(d:Int)(n:Nat):List (dW×fD):=x.dv.mapIdx fun k p=>if k < n then Ih s d k p else p
def Ol(s:aC)(x:aU)(d:Int):aU×Bool:=
 if sA x.dm d=48∨sA x.dm d=116 then({x with dm:=(uR s x.dm d).2},false)
 else if sA x.dm d=49 then({x with dv:=wQ s x d s.aD.length},true) else(x,false)
def Xh(s:aC)(x:aU)(c:Nat):aU×Bool:=
 ({x with ck:=(lN s x.ck c true).2},tN s (lN s x.ck c true).2 c||(decide ((mE s c).length < 2)|| !tN s (lN s x.ck c true).2 ((mE s c).getD 1 0:Nat)))
def Of(x:aU)(i:Int):aU×Bool:=if Ip x.ln i then({x with ln:=(wM x.ln i).2},false) else(x,true)
theorem aGk{x:fD}(h:zG x):zG (oF x).2:=by
 unfold oF;split
 ·exact h
 ·exact⟨by show(0:Int)≤0;omega,by show(0:Int)≤3;omega⟩
theorem aGl{s:aC}{x:aU}(hH:s.dJ)(hok:cT s x)(d:Int)(n:Nat):cT s {x with dv:=wQ s x d n}:=Ug hH hok (by simp[wQ]) fun i e p hd hp=>by
 rw[wQ,List.getElem?_mapIdx] at hp;cases hq:x.dv[i]? with
 | none=>rw[hq] at hp;cases hp
 | some q =>
  rw[hq] at hp;obtain⟨h1,h2⟩:=hok.each i e q hd hq;simp only[Option.map_some,Option.some.injEq] at hp;subst hp;split
  ·unfold Ih;rw[hd];dsimp only;split
   ·exact⟨h1,aGk h2⟩
   ·exact⟨h1,h2⟩
  ·exact⟨h1,h2⟩
section
variable{N:cE}{w0 w:World}{e:Env}{R:List Piece}{H:List HP}{Q:Exit→Act→World→Prop}{ops:Array Oper}{rest:List Oper}{K:Act→World→Prop}
variable{d:Nat}{ty:TypeId}{pos:String}{aI:Array Edge}{f h:Nat}{L:fQ}{s:aC}{z:cI}
theorem aE8(n:Nat)(Φ:List Value→Prop){x:Operand}{t:TypeId}{b o:Nat}[hT:kU t n](hx:e.ev x=some (.pointer (some ⟨b,o,none⟩)))(h:∀w,St w0 R H w→∃vs,dP w b o vs∧vs.length=n∧Φ vs)(k:∀vs,Φ vs→XK N w0 (wpList Tryz.prog ops Q rest) ((d,.agg vs.toArray)::e) R H)(hd:d < N.n:=by decide):
  XK N w0 (wpList Tryz.prog ops Q (⟨some d,.load t x,ty,pos,aI,none⟩::rest)) e R H:=rT rfl fun a w hr st=>by
 obtain⟨vs,h1,h2,h3⟩:=h w st;exact⟨.agg vs.toArray,w,aHy (N:=N) (w0:=w) (R:=[all w]) (H:=[]) (d:=d) (ty:=ty) (pos:=pos) (aI:=aI) n hT.h hx (xQ (by simp) h1) h2 a w hr (St.start w),k vs h3 _ _ (hr.put hd _) st⟩
theorem aIn(j:Nat)(hj:H[j]? =some (iG f h L s z))(hn:0 < s.aD.length)(k:∀b off,L.a4.1=some ⟨b,off,none⟩→XK N w0 K e R H):XK N w0 K e R H:=fun a w hr st=>by
 obtain⟨b,off,r,hA,_⟩:=jW.row (st.Dq j hj).so.dev (List.getElem?_eq_getElem hn);exact k b off hA a w hr st
def aEt(d:cH)(vs:List Value):Prop:=∃A n k A' n' k',vs=[iv d.clock,iv d.domain,iv d.reset,.int .u32 d.iJ,.slice A n k,.slice A' n' k']
theorem aHc{i b off:Nat}{d:cH}(kf:Cd w f h L s z)(hA:L.a4.1=some ⟨b,off,none⟩)(hd:s.aD[i]? =some d):∃vs,dP w b (off+i*6) vs∧vs.length=6∧aEt d vs:=by
 obtain⟨b',off',r,pR,hl,⟨A,n,k,A',n',k',he,_⟩,hro⟩:=jW.row kf.so.dev hd;rw[hA] at pR;cases pR;exact⟨r,hro,hl,A,n,k,A',n',k',he⟩
end
variable(f:Nat)(hL:HL)(s:aC)(z:cI)(x:aU)(w:World)
theorem aOA(hH:s.dJ)(aR:gB hL s)(hok:cT s x)(d:Int)(F:Nat→Prop)(hp:(gJ f hL s z x).sat F w)(hF:∀b,F b→b < w.heap.size)(cZ:eM ⟨w,fun b=>b < w.heap.size∧¬F b⟩):
  Cz 138 #[pt f,iv d] w (Wr (.bool (Ol s x d).2) (gJ f hL s z (Ol s x d).1) w F):=by
 have qF:=hH.t.nv
 have lB:=hok.dv
 refine cS func138 ntmps138 hp hF ?_;generalize cO:(⟨w,fun b=>b < w.heap.size∧¬F b⟩:Piece)=R0 at cZ⊢;refine aX 0 0 ?_;refine iT 0 fun L=>?_;refine aX 1 1 ?_;refine aA ?_;refine kd (bH rfl (Rd.eL 1 rfl rfl)) ?_;refine aA ?_;refine aQ (fun w1 t=>aCS hL s x w1 hok.dm d (t.mB 0 rfl aR hok)) ?_;unfold Ol;generalize Db:sA x.dm d=ph
 by_cases h48:ph=48
 ·subst h48;rw[if_pos (.inl rfl)];refine aA ?_;refine kd (bH rfl (Rd.eL 1 rfl rfl)) ?_;refine aA ?_;refine bT 0 (dM hL s {x with dm:=(uR s x.dm d).2}) (fun w1 F1 t h1 h2 h3=>aGC hL s x w1 hH aR hok d F1 h1 h2) ?_;refine aA ?_;refine aJ 1 1 ?_;refine cP 0 (fun L:fQ=>iG f hL.h L s z) L ?_;refine aJ 0 0 ?_;subst cO;exact bO 0 hF
 by_cases Wf:ph=116
 ·subst Wf;rw[if_pos (.inr rfl)];refine aA ?_;refine kd (bH rfl (Rd.eL 1 rfl rfl)) ?_;refine aA ?_;refine bT 0 (dM hL s {x with dm:=(uR s x.dm d).2}) (fun w1 F1 t h1 h2 h3=>aGC hL s x w1 hH aR hok d F1 h1 h2) ?_;refine aA ?_;refine aJ 1 1 ?_;refine cP 0 (fun L:fQ=>iG f hL.h L s z) L ?_;refine aJ 0 0 ?_;subst cO;exact bO 0 hF
 rw[if_neg (by omega)]
 by_cases Me:ph=49
 ·subst Me;rw[if_pos rfl];refine aA ?_;refine kd (bH rfl (Rd.eL 1 rfl rfl)) ?_;refine aA ?_
  have hm0:wQ s x d 0=x.dv:=Ou _ _
  refine bM [(31,iv (0)),(30,iv s.aD.length),(29,.slice L.a4.1 s.aD.length L.a4.2),(0,pt f),(1,iv d)] ?_;refine eT (fun m e R H=>∃i:Nat,i≤s.aD.length∧m=s.aD.length - i∧e=[(31,iv (i:Int)),(30,iv s.aD.length),(29,.slice L.a4.1 s.aD.length L.a4.2),(0,pt f),(1,iv d)]∧R=[R0]∧H=[dM hL s {x with dv:=wQ s x d i},iG f hL.h L s z,HP.many [bU,bU]]) s.aD.length ⟨0,by omega,rfl,rfl,rfl,by rw[hm0]⟩ fun m e R H hI=>?_;obtain⟨i,hi,rfl,rfl,rfl,rfl⟩:=hI
  have mN:=aGl hH hok d i
  refine aA ?_;refine aG rfl (fun hlt=>?_) (fun hge=>?_)
  ·have hlt:i < s.aD.length:=by omega
   obtain⟨dv,dD⟩:=get_some hlt;obtain⟨p,gF⟩:=get_some (l:=x.dv) (i:=i) (by omega)
   have kN:(wQ s x d i)[i]? =some p:=Ow gF
   have hstep:(wQ s x d i).set i (Ih s d i p)=wQ s x d (i+1):=Ov (f:=Ih s d) gF
   obtain⟨q1,q2⟩:=(mN.each i dv p dD kN).2;refine aIn 1 rfl (by omega) fun b off hA=>?_;refine aA ?_;refine kd (dat i (off+i*6) (hx:=by rw[←hA];rfl)) ?_;refine aE8 6 (aEt dv) rfl (fun w1 t=>aHc (t.Dq 1 rfl) hA dD) ?_;rintro _ ⟨A,n,k,A',n',k',rfl⟩;refine bY fun g1=>?_;refine aA ?_;refine aG rfl (fun he=>?_) (fun he=>?_)
   ·have mY:Ih s d i p=p:=by
     unfold Ih;rw[dD];exact if_neg he
    rw[mY,wK kN] at hstep;rw[hstep];refine aA ?_;refine aT [1,2,3] rfl (by decide) (fun _ h=>h) ?_;exact eR (s.aD.length - (i+1)) ⟨i+1,hlt,rfl,rfl,rfl,rfl⟩
   ·have he:dv.domain=d:=by simpa using he
    have mY:Ih s d i p=(p.1,(oF p.2).2):=by
     unfold Ih;rw[dD];exact if_pos he
    have hst:wF {x with dv:=wQ s x d i} i=oU p.2.at_:=by
     unfold wF;dsimp only;rw[kN];rfl
    refine aA ?_;refine kd (bH rfl (Rd.eL 2 rfl rfl)) ?_;refine aA ?_;refine aQ (fun w1 t=>aGD hL s _ w1 aR mN i hlt (cZ.at_ (t.le (by simp))) (t.mB 1 rfl aR mN)) ?_;rw[hst]
    by_cases ha:p.2.at_=2∨p.2.at_=3
    ·have hlf:oU p.2.at_=115∨oU p.2.at_=100:=by
      rcases ha with ha | ha<;>rw[ha]
      ·exact .inl rfl
      ·exact .inr rfl
     rcases hlf with hlf | hlf<;>rw[hlf]
     all_goals
      refine aA ?_;refine kd (bH rfl (Rd.eL 2 rfl rfl)) ?_;refine aA ?_;refine vS (α:=Int) 1 (f:=175) (fi:=[]) (ca:=[]) (fun r=>iv r) (fun _=>dM hL s (yJ {x with dv:=wQ s x d i} i)) (fun _=>True) (by kernel_rfl) rfl rfl rfl (by decide) (fun w1 F1 t h1 h2 h3=>aCT hL s _ w1 hH aR mN i hlt F1 h1 h2) ?_;rintro _ _;dsimp only[List.set]
      have hX:yJ {x with dv:=wQ s x d i} i={x with dv:=wQ s x d (i+1)}:=by
       unfold yJ;dsimp only;rw[kN,←hstep,mY]
      rw[hX];refine aA ?_;refine aT [1,2,3] rfl (by decide) (fun _ h=>h) ?_;exact eR (s.aD.length - (i+1)) ⟨i+1,hlt,rfl,rfl,rfl,rfl⟩
    ·have hq:(oF p.2).2=p.2:=by
      unfold oF;rw[if_pos (by omega)]
     have hlf:oU p.2.at_=114∨oU p.2.at_=97:=by
      have:p.2.at_=0∨p.2.at_=1:=by omega
      rcases this with ha | ha<;>rw[ha]
      ·exact .inl rfl
      ·exact .inr rfl
     rw[mY,hq,wK kN] at hstep;rcases hlf with hlf | hlf<;>rw[hlf,hstep]
     all_goals
      refine aA ?_;refine aT [1,2,3] rfl (by decide) (fun _ h=>h) ?_;exact eR (s.aD.length - (i+1)) ⟨i+1,hlt,rfl,rfl,rfl,rfl⟩
  obtain rfl:i=s.aD.length:=by omega
  refine aA ?_;refine aJ 1 1 ?_;refine cP 0 (fun L:fQ=>iG f hL.h L s z) L ?_;refine aJ 0 0 ?_;subst cO;exact bO 0 hF
 ·rw[if_neg Me];refine aA ?_;refine aG rfl (fun h=>absurd h h48) (fun _=>?_);refine aA ?_;refine aG rfl (fun h=>absurd h Wf) (fun _=>?_);refine aA ?_;refine aG rfl (fun h=>absurd h Me) (fun _=>?_);refine aA ?_;refine aJ 1 1 ?_;refine cP 0 (fun L:fQ=>iG f hL.h L s z) L ?_;refine aJ 0 0 ?_;subst cO;exact bO 0 hF
theorem aO9(hH:s.dJ)(aR:gB hL s)(hok:cT s x)(i:Int)(F:Nat→Prop)(hp:(gJ f hL s z x).sat F w)(hF:∀b,F b→b < w.heap.size):
  Cz 142 #[pt f,iv i] w (Wr (.bool (Of x i).2) (gJ f hL s z (Of x i).1) w F):=by
 refine cS func142 ntmps142 hp hF ?_;generalize cO:(⟨w,fun b=>b < w.heap.size∧¬F b⟩:Piece)=R0;refine aX 0 0 ?_;refine iT 0 fun L=>?_;refine aX 1 1 ?_;refine aA ?_;refine kd (bH rfl (Rd.eL 1 rfl rfl)) ?_;refine aA ?_;refine aQ (fun w1 t=>aNS hL s x w1 i (t.mB 0 rfl aR hok)) ?_;unfold Of;cases hh:Ip x.ln i
 ·refine aA ?_;refine aJ 1 1 ?_;refine cP 0 (fun L:fQ=>iG f hL.h L s z) L ?_;refine aJ 0 0 ?_;subst cO;exact bO 0 hF
 ·refine aA ?_;refine kd (bH rfl (Rd.eL 1 rfl rfl)) ?_;refine aA ?_;refine bT 0 (dM hL s {x with ln:=(wM x.ln i).2}) (fun w1 F1 t h1 h2 h3=>aNQ hL s x w1 hH aR hok i F1 h1 h2) ?_;refine aA ?_;refine aJ 1 1 ?_;refine cP 0 (fun L:fQ=>iG f hL.h L s z) L ?_;refine aJ 0 0 ?_;subst cO;exact bO 0 hF
theorem aOF(hH:s.dJ)(aR:gB hL s)(hok:cT s x)(c:Nat)(hc:c < s.aF.length)(F:Nat→Prop)(hp:(gJ f hL s z x).sat F w)(hF:∀b,F b→b < w.heap.size):
  Cz 140 #[pt f,iv (c:Int)] w (Wr (.bool (Xh s x c).2) (gJ f hL s z (Xh s x c).1) w F):=by
 refine cS func140 ntmps140 hp hF ?_;generalize cO:(⟨w,fun b=>b < w.heap.size∧¬F b⟩:Piece)=R0;refine aX 0 0 ?_;refine iT 0 fun L=>?_;refine aX 1 1 ?_;refine aA ?_;refine kd (bH rfl (Rd.eL 1 rfl rfl)) ?_;refine aA ?_;refine bT 0 (dM hL s {x with ck:=(lN s x.ck c true).2}) (fun w1 F1 t h1 h2 h3=>aGH hL s x w1 hH aR hok c true F1 h1 h2) ?_
 have mO:cT s {x with ck:=(lN s x.ck c true).2}:=⟨aCh hH hok.ck _ _,hok.dm,hok.ln,hok.dv,hok.each,hok.wt⟩
 unfold Xh;generalize Fj:({x with ck:=(lN s x.ck c true).2}:aU)=x2 at mO⊢
 have Bc:(lN s x.ck c true).2=x2.ck:=by rw[←Fj]
 rw[Bc];refine aA ?_;refine kd (bH rfl (Rd.eL 1 rfl rfl)) ?_;refine aA ?_;refine aQ (fun w1 t=>aGE hL s x2 w1 hH c (t.mB 0 rfl aR mO)) ?_;cases hr:tN s x2.ck c
 ·refine aA ?_;refine kd (jN rfl (aM.eL 1 rfl (vs:=[.slice L.a1.1 s.aF.length L.a1.2,.slice L.a2.1 s.domains.length L.a2.2,.slice L.a3.1 s.aY.length L.a3.2,.slice L.a4.1 s.aD.length L.a4.2]) rfl)) ?_;refine aA ?_;refine kA [] (Hh (mE s c)) (fun w1 t=>aAM (all w1) s _ _ _ _ _ L.a1.2 _ L.a2.2 _ L.a3.2 _ L.a4.2 c w1 (t.Dq 1 rfl).so hH.t (Piece.Le.refl _) hc) ?_;rintro _ w1 qm ⟨Ac,cc,rfl,jF⟩ hf _ _
  have jF:=jF.le hf
  clear hf;refine aA ?_;rcases oZ:mE s c with _ | ⟨c0,_ | ⟨c1,cr⟩⟩
  ·refine lJ ?_;refine iY ?_;refine aA ?_;refine aJ 1 1 ?_;refine cP 0 (fun L:fQ=>iG f hL.h L s z) L ?_;refine aJ 0 0 ?_;subst cO;exact bO 0 hF
  ·refine lJ ?_;refine iY ?_;refine aA ?_;refine aJ 1 1 ?_;refine cP 0 (fun L:fQ=>iG f hL.h L s z) L ?_;refine aJ 0 0 ?_;subst cO;exact bO 0 hF
  ·rw[oZ] at jF;obtain⟨b,off,hA,hb,mZ⟩:=jF.2 (by simp)
   have r1:Rd w [qm,R0] [dM hL s x2,iG f hL.h L s z,HP.many [bU,bU]] b (off+1) (iv (c1:Int)):=Rd.ro (p:=qm) (by simp) hb (mZ 1 _ rfl)
   have hlen:decide ((c0::c1::cr).length < 2)=false:=by simp
   rw[hlen];refine lJ ?_;refine jD ?_;refine Eb 27 rfl (fun h=>absurd h (by simp;omega)) (fun _=>?_);refine jD ?_;refine sY (bH rfl (Rd.eL 1 rfl rfl)) ?_;refine jD ?_;refine sY (dat 1 (off+1) (hx:=by rw[←hA];rfl) (hlt:=by simp)) ?_;refine jD ?_;refine rG (fun w1 t=>aGE hL s x2 w1 hH c1 (t.mB 0 rfl aR mO)) ?_;refine iY ?_;refine aA ?_;refine aJ 1 1 ?_;refine cP 0 (fun L:fQ=>iG f hL.h L s z) L ?_;refine aJ 0 0 ?_;subst cO;exact bO 0 hF
 ·refine aA ?_;refine aJ 1 1 ?_;refine cP 0 (fun L:fQ=>iG f hL.h L s z) L ?_;refine aJ 0 0 ?_;subst cO;exact bO 0 hF
end
section
structure gK where
 id:Int
 dev:Int
 dead:Bool
 val:Int
def gK.cells(a:gK):List Value:=[iv a.id,iv a.dev,.bool a.dead,.int .u32 a.val]
def Ed(s:aC)(x:aU):Prop:=∀(i:Nat) (d:cH) (t:jA),s.aD[i]? =some d→(x.wt[i]?).join=some t→0≤t.cF∧t.cF < d.aS.length∧0≤t.val∧t.val < 4294967296
def Uc(x:aU)(i:Nat)(wr:Bool)(cF v:Int):aU:={x with wt:=x.wt.set i (some ⟨x.aZ,wr,cF,v⟩),aZ:=x.aZ+1}
def Em(p:dW×fD)(t:jA):dW×fD:=if t.wr then(⟨p.1.now.set t.cF.toNat t.val,p.1.saved,p.1.kept⟩,p.2) else p
def iK(s:aC)(x:aU)(i:Nat):aU×Option gK:=match(x.wt[i]?).join,s.aD[i]?,x.dv[i]? with
 | some t,some d,some p=>if xL s x i then({x with wt:=x.wt.set i none,dv:=x.dv.set i (Em p t)},some ⟨t.id,i,false,p.1.now.getD t.cF.toNat 0⟩) else({x with wt:=x.wt.set i none},some ⟨t.id,i,true,d.iJ⟩)
 | _,_,_=>(x,none)
section
variable{s:aC}{x:aU}
theorem aB3(hok:cT s x)(i:Nat)(q:Option jA)(po:Int):cT s {x with wt:=x.wt.set i q,aZ:=po}:=⟨hok.ck,hok.dm,hok.ln,hok.dv,hok.each,by show(x.wt.set i q).length=_;rw[List.length_set];exact hok.wt⟩
theorem aEJ{d:cH}{p:dW×fD}{t:jA}(hp:xS d p.1)(hv:0≤t.val∧t.val < 4294967296):xS d (Em p t).1:=by
 unfold Em;split
 ·refine⟨by simp[hp.now],hp.saved,fun v h=>?_,hp.u.2⟩;rcases List.mem_or_eq_of_mem_set h with h | rfl
  ·exact hp.u.1 v h
  ·exact hv
 ·exact hp
theorem aPj(hok:cT s x){i:Nat}{d:cH}{p:dW×fD}(hd:s.aD[i]? =some d)(h:xS d p.1∧zG p.2)(wt:List (Option jA))(hw:wt.length=s.aD.length)(po:Int):cT s {x with dv:=x.dv.set i p,wt:=wt,aZ:=po}:=
 ⟨hok.ck,hok.dm,hok.ln,by simp[hok.dv],fun j d' p' hd' hp'=>by
  by_cases hij:i=j
  ·subst hij
   have hlt:i < x.dv.length:=by simpa using(List.getElem?_eq_some_iff.1 hp').1
   rw[List.getElem?_set_self hlt] at hp';cases hp';cases hd.symm.trans hd';exact h
  ·rw[List.getElem?_set_ne hij] at hp'
   exact hok.each j d' p' hd' hp',hw⟩
theorem aRn(hok:cT s x)(mL:Ed s x)(i:Nat):cT s (iK s x i).1:=by
 unfold iK;split
 ·rename_i t d p ht hd hp
  obtain⟨h1,h2⟩:=hok.each i d p hd hp;split
  ·exact aPj hok hd ⟨aEJ h1 (mL i d t hd ht).2.2,by unfold Em;split<;>exact h2⟩ _ (by simp[hok.wt]) _
  ·exact aB3 hok i none _
 ·exact hok
theorem aBM{ws:List (Option jA)}{i j:Nat}{t:jA}(h:((ws.set i none)[j]?).join=some t):(ws[j]?).join=some t:=by
 by_cases hij:i=j
 ·subst hij;rw[List.getElem?_set] at h;simp at h;split at h<;>cases h
 ·rwa [List.getElem?_set_ne hij] at h
theorem aRl(mL:Ed s x)(i:Nat):Ed s (iK s x i).1:=by
 unfold iK;split
 ·split
  ·exact fun j d t hd ht=>mL j d t hd (aBM ht)
  ·exact fun j d t hd ht=>mL j d t hd (aBM ht)
 ·exact mL
end
section
variable(L:HL)(s:aC)(x:aU)(w:World)
theorem aGF(hH:s.dJ)(aR:gB L s)(hok:cT s x)(i:Nat)(d:cH)(dD:s.aD[i]? =some d)(h0:(x.wt[i]?).join=none)(lB:s.aD.length≤4)(cF:Int)(hr:0≤cF∧cF < 4∧cF < d.aS.length)(b:Bool)(v:Int)(mM:0≤x.aZ∧x.aZ≤1000000000)(F:Nat→Prop)(hp:(dM L s x).sat F w)(hF:∀b,F b→b < w.heap.size)(cZ:eM ⟨w,fun b=>b < w.heap.size∧¬F b⟩):
  Cz 267 #[.pointer (some ⟨L.h,0,none⟩),.int .u32 (Ro i cF),.bool b,.int .u32 v] w (Wr (if wF x i=114 then .tuple #[iv x.aZ,iv 0] else .tuple #[iv 0,iv 6]) (dM L s (if wF x i=114 then Uc x i b cF v else x)) w F):=by
 have hls:=aR.ds
 have hxl:=hok.dv
 have wS:=hok.wt
 have hi:=(List.getElem?_eq_some_iff.1 dD).1
 obtain⟨l,iB⟩:=get_some (l:=L.ds) (i:=i) (by omega);obtain⟨p,gF⟩:=get_some (l:=x.dv) (i:=i) (by omega)
 have hin:bZ s.aD.length (i:Int)=true:=decide_eq_true (by omega)
 have ha:=aIc (dev:=i) (cF:=cF) ⟨by omega,by omega⟩ ⟨hr.1,hr.2.1⟩
 have hst:wF x i=oU p.2.at_:=by
  unfold wF;rw[gF];rfl
 rw[hst];refine cS func267 ntmps267 hp hF ?_;generalize cO:(⟨w,fun b=>b < w.heap.size∧¬F b⟩:Piece)=R0 at cZ⊢;refine aA ?_;refine aQ (fun w1 t=>aHL _ i cF ha.z0 ha.z1 ha.z2 ha.z3 w1) ?_;refine aA ?_;refine aQ (fun w1 t=>Px L s x w1 i (t.mB 0 rfl aR hok)) ?_;rw[hin];refine Mv 0 rfl aR hok (by omega) fun b0 off hA=>?_;refine aA ?_;refine bX (t:=25) rfl (fun h=>absurd h (by omega)) (fun _=>?_);refine aA ?_;refine kd (bH rfl (pJ 0 rfl rfl)) ?_;refine aA ?_;refine kd (dat i (off+i*6) (hx:=by rw[←hA];rfl)) ?_;refine aA ?_;refine kd (bH rfl (aBu (vs:=Jd d l) 4 (aM.dev 0 rfl aR hok hA dD iB rfl) rfl)) ?_;refine aA ?_;refine aQ (fun w1 t=>Tu l.1 d p.1 w1 ((t.mB 0 rfl aR hok).each i d l p dD iB gF).1) ?_;refine aA ?_;refine aG rfl (fun h=>absurd h (by omega)) (fun _=>?_);refine aA ?_;refine kd (bH rfl (pJ 0 rfl rfl)) ?_;refine aA ?_;refine kd (dat i (off+i*6) (hx:=by rw[←hA];rfl)) ?_;refine aA ?_;refine kd (bH rfl (aBu (vs:=Jd d l) 5 (aM.dev 0 rfl aR hok hA dD iB rfl) rfl)) ?_;refine aA ?_;refine aQ (fun w1 t=>aF6 l.2 p.2 (hok.each i d p dD gF).2 w1 (cZ.at_ (t.le (by simp))) ((t.mB 0 rfl aR hok).each i d l p dD iB gF).2) ?_;refine aA ?_
 by_cases Bi:oU p.2.at_=114
 ·rw[Bi,if_pos rfl,if_pos rfl];refine aA ?_;refine kd (bH rfl (pJ 0 rfl rfl)) ?_;refine aA ?_;refine aX 0 4 ?_;refine bT 0 (xV L.B (jT s) (x.wt.set i (some ⟨x.aZ,b,cF,v⟩)) (x.aZ+1)) (fun w1 F1 t h1 h2 h3=>aQO L.B (jT s) x.wt x.aZ i (by rw[Fb];exact hi) (by rw[Fb];omega) (by rw[Fb];exact wS) h0 _ cF ha.z0 ha.z1 ha.z2 ha.z3 d.aS.length (by simp[jT,dD]) ⟨hr.1,hr.2.2⟩ b v mM w1 F1 h1 h2) ?_;refine aJ 0 4 ?_;refine aA ?_;subst cO;exact fT rfl rfl rfl fun w1 t=>⟨rfl,t.turns hF (by simp) (i:=0) rfl⟩
 ·rw[if_neg Bi,if_neg Bi];refine aG rfl (fun _=>?_) (fun h=>absurd h (by simpa using Bi));refine aA ?_;subst cO;exact fT rfl rfl rfl fun w1 t=>⟨rfl,t.turns hF (by simp) (i:=0) rfl⟩
theorem aNW(hH:s.dJ)(aR:gB L s)(hok:cT s x)(mL:Ed s x)(i:Nat)(d:cH)(dD:s.aD[i]? =some d)(t:jA)(ht:(x.wt[i]?).join=some t)(a:gK)(hx:(iK s x i).2=some a)(F:Nat→Prop)(hp:(dM L s x).sat F w)(hF:∀b,F b→b < w.heap.size):
  Cz 151 #[.pointer (some ⟨L.h,0,none⟩),iv (i:Int)] w (Wr (.tuple #[.agg a.cells.toArray,.bool true]) (dM L s (iK s x i).1) w F):=by
 have hls:=aR.ds
 have hxl:=hok.dv
 have wS:=hok.wt
 have hi:=(List.getElem?_eq_some_iff.1 dD).1
 obtain⟨l,iB⟩:=get_some (l:=L.ds) (i:=i) (by omega);obtain⟨p,gF⟩:=get_some (l:=x.dv) (i:=i) (by omega);obtain⟨hfo,hqo⟩:=hok.each i d p dD gF;obtain⟨r1,r2,r3,r4⟩:=mL i d t dD ht
 have mO:cT s {x with wt:=x.wt.set i none}:=aB3 hok i none _
 have hwr:=aEJ (t:=t) hfo ⟨r3,r4⟩
 obtain⟨rn,ern⟩:∃n:Nat,t.cF=(n:Int):=⟨t.cF.toNat,by omega⟩
 have fN:=hfo.now
 obtain⟨rv,Pn⟩:=get_some (l:=p.1.now) (i:=rn) (by omega)
 have hal:xL s {x with wt:=x.wt.set i none} i=xL s x i:=rfl
 have hX:iK s x i=if xL s x i then({x with wt:=x.wt.set i none,dv:=x.dv.set i (Em p t)},some ⟨t.id,i,false,rv⟩) else({x with wt:=x.wt.set i none},some ⟨t.id,i,true,d.iJ⟩):=by
  unfold iK;rw[ht,dD,gF];dsimp only;rw[ern,Int.toNat_natCast,List.getD_eq_getElem?_getD,Pn];rfl
 rw[hX] at hx⊢;refine cS func151 ntmps151 hp hF ?_;generalize cO:(⟨w,fun b=>b < w.heap.size∧¬F b⟩:Piece)=R0;refine aA ?_;refine bY fun g1=>?_;refine aA ?_;refine kd (bH rfl (pJ 1 rfl rfl)) ?_;refine aA ?_;refine aX 1 4 ?_;refine bT 0 (xV L.B (jT s) (x.wt.set i none) x.aZ) (fun w1 F1 st h1 h2 h3=>aQM L.B (jT s) x.wt x.aZ i (by rw[Fb];exact hi) (by rw[Fb];exact wS) t ht w1 F1 h1 h2) ?_;refine aJ 1 4 ?_
 change XK _ _ _ _ _ [_,dM L s {x with wt:=x.wt.set i none}]
 generalize Fj:({x with wt:=x.wt.set i none}:aU)=x2 at mO hal⊢
 have Lu:x2.dv[i]? =some p:=by rw[←Fj];exact gF
 refine aA ?_;refine bY fun g2=>?_;refine Mv 2 rfl aR mO (by omega) fun b off hA=>?_;refine aA ?_;refine kd (bH rfl (pJ 2 rfl rfl)) ?_;refine aA ?_;refine kd (dat i (off+i*6) (hx:=by rw[←hA];rfl)) ?_;refine kd (jN rfl (aM.dev 2 rfl aR mO hA dD iB rfl)) ?_;refine bY fun g3=>?_;refine aA ?_;refine aQ (fun w1 st=>aGJ L s x2 w1 hH aR mO i hi (st.mB 3 rfl aR mO)) ?_;rw[hal];cases hb:xL s x i
 ·rw[hb] at hx;simp at hx;subst hx;refine aA ?_;refine kd (iI rfl) ?_;refine aA ?_;subst cO;exact yX (vs:=[iv t.id,iv i,.bool true,.int .u32 d.iJ]) rfl (by kernel_rfl) rfl rfl (aM.whole 2 rfl) rfl fun w1 st=>⟨rfl,st.turns hF (by simp) (i:=3) rfl⟩
 ·rw[hb] at hx;simp at hx;subst hx;refine aA ?_;rw[ern];refine aQ (fun w1 st=>aL2 l.1 d p.1 rn rv hfo.now Pn w1 ((st.mB 3 rfl aR mO).each i d l p dD iB Lu).1) ?_;refine aA ?_
  have Uz:t.cF.toNat=rn:=by omega
  cases hw:t.wr
  ·have hwf:Em p t=p:=by
    unfold Em;rw[hw];rfl
   have hxx:({x with wt:=x.wt.set i none,dv:=x.dv.set i p}:aU)=x2:=by
    rw[wK gF];exact Fj
   rw[hwf,hxx];refine aA ?_;refine kd (iI rfl) ?_;refine aA ?_;subst cO;exact yX (vs:=[iv t.id,iv i,.bool false,.int .u32 rv]) rfl (by kernel_rfl) rfl rfl (aM.whole 2 rfl) rfl fun w1 st=>⟨rfl,st.turns hF (by simp) (i:=3) rfl⟩
  ·have hwf:Em p t=(⟨p.1.now.set rn t.val,p.1.saved,p.1.kept⟩,p.2):=by
    unfold Em;rw[hw,Uz];rfl
   rw[hwf];refine aA ?_;refine Rq 3 i rfl dD iB Lu ?_;dsimp only[List.set];refine aX 0 0 ?_;refine bT 0 (gT l.1 d ⟨p.1.now.set rn t.val,p.1.saved,p.1.kept⟩) (fun w1 F1 st h1 h2 h3=>aLz l.1 d p.1 rn t.val hfo.now (by omega) w1 F1 h1 h2) ?_;refine aJ 0 0 ?_;refine Rx 3 i rfl dD iB Lu (p':=(⟨p.1.now.set rn t.val,p.1.saved,p.1.kept⟩,p.2)) ?_;dsimp only[List.set];refine aA ?_;refine kd (iI rfl) ?_;refine aA ?_;subst cO;subst Fj;exact yX (vs:=[iv t.id,iv i,.bool false,.int .u32 rv]) rfl (by kernel_rfl) rfl rfl (aM.whole 2 rfl) rfl fun w1 st=>⟨rfl,st.turns hF (by simp) (i:=3) rfl⟩
end
end
section
structure rK where
 st:Int
 kind:Int
 dev:Int
 cF:Int
 val:Int
 err:Int
 res:Int
 hs:List Int
def Sx:rK:=⟨0,0,0,0,0,0,0,[0,0,0,0,0,0]⟩
def hG(t:rK)(i:Nat):Int:=t.hs.getD i 0
structure bK where
 cn:Cn
 wn:eB
 t0:rK
 t1:rK
 t2:rK
 fM:Int
 steps:List fC
 sent:Bool
 aZ:Bool
 id:Int
 many:Int
def rp0(s:aC):bK:=⟨⟨[],false⟩,jK s,Sx,Sx,Sx,-1,[],false,false,0,0⟩
def bK.tk(z:bK):Nat→rK
 | 0=>z.t0
 | 1=>z.t1
 | _=>z.t2
def bK.jR(z:bK)(j:Nat)(t:rK):bK:={z with t0:=if j=0 then t else z.t0,t1:=if j=1 then t else z.t1,t2:=if j=2 then t else z.t2}
structure dK where
 a1:AC
 a2:AC
 a3:AC
 a4:AC
 gc:Nat
 gm:Nat
 nd:AC
 w1:AC
 w2:AC
 w3:AC
 st:AC
def tkC(t:rK):List Value:=[iv t.st,.int .u8 t.kind,iv t.dev,iv t.cF,.int .u32 t.val,iv t.err,.int .u32 t.res,iv (hG t 0),iv (hG t 1),iv (hG t 2),iv (hG t 3),iv (hG t 4),iv (hG t 5)]
def lK(h f:Nat)(L:dK)(s:aC)(z:bK):List Value:=
  [pt h,pt f,.slice L.a1.1 s.aF.length L.a1.2,.slice L.a2.1 s.domains.length L.a2.2,.slice L.a3.1 s.aY.length L.a3.2,.slice L.a4.1 s.aD.length L.a4.2,.pointer (some ⟨L.gc,0,none⟩),.slice L.w1.1 z.wn.d.length L.w1.2,.slice L.w2.1 z.wn.c.length L.w2.2,.slice L.w3.1 z.wn.l.length L.w3.2,
   iv z.t0.st,.int .u8 z.t0.kind,iv z.t0.dev,iv z.t0.cF,.int .u32 z.t0.val,iv z.t0.err,.int .u32 z.t0.res,iv (hG z.t0 0),iv (hG z.t0 1),iv (hG z.t0 2),iv (hG z.t0 3),iv (hG z.t0 4),iv (hG z.t0 5),
   iv z.t1.st,.int .u8 z.t1.kind,iv z.t1.dev,iv z.t1.cF,.int .u32 z.t1.val,iv z.t1.err,.int .u32 z.t1.res,iv (hG z.t1 0),iv (hG z.t1 1),iv (hG z.t1 2),iv (hG z.t1 3),iv (hG z.t1 4),iv (hG z.t1 5),
   iv z.t2.st,.int .u8 z.t2.kind,iv z.t2.dev,iv z.t2.cF,.int .u32 z.t2.val,iv z.t2.err,.int .u32 z.t2.res,iv (hG z.t2 0),iv (hG z.t2 1),iv (hG z.t2 2),iv (hG z.t2 3),iv (hG z.t2 4),iv (hG z.t2 5),
   iv z.fM,.slice L.st.1 z.steps.length L.st.2,.bool z.sent,.bool z.aZ,iv z.id,iv z.many]
def lS(L:dK)(s:aC)(p:Piece):Prop:=qO p s L.a1.1 s.aF.length L.a2.1 s.domains.length L.a3.1 s.aY.length L.a4.1 s.aD.length
theorem lS.le{L:dK}{s:aC}(p q:Piece)(hl:p.Le q)(h:lS L s p):lS L s q:=qO.le h hl
def tA(L:dK)(x:eB)(p:Piece):Prop:=aH p 1 L.w1.1 x.d.length (bF x.d)∧aH p 1 L.w2.1 x.c.length (bF x.c)∧aH p 1 L.w3.1 x.l.length (bF x.l)
theorem tA.le{L:dK}{x:eB}(p q:Piece)(hl:p.Le q)(h:tA L x p):tA L x q:=⟨h.1.le hl,h.2.1.le hl,h.2.2.le hl⟩
def Nh(L:dK)(s:aC)(p:Piece):Prop:=nD p L.nd.1 (dL s).length (dL s)
theorem Nh.le{L:dK}{s:aC}(p q:Piece)(hl:p.Le q)(h:Nh L s p):Nh L s q:=nD.le h hl
def nC(L:dK)(l:List fC)(p:Piece):Prop:=aH p 4 L.st.1 l.length (l.flatMap fC.cells)∧l.length≤L.st.2
theorem nC.le{L:dK}{l:List fC}(p q:Piece)(hl:p.Le q)(h:nC L l p):nC L l q:=⟨h.1.le hl,h.2⟩
def gA(g h f:Nat)(L:dK)(s:aC)(z:bK):HP:=HP.many [HP.aE g 190 (lK h f L s z),HP.bR (lS L s) (lS.le (L:=L) (s:=s)),HP.bR (tA L z.wn) (tA.le (L:=L) (x:=z.wn)),qR L.gc L.gm (.slice L.nd.1 (dL s).length L.nd.2) z.cn,HP.bR (Nh L s) (Nh.le (L:=L) (s:=s)),HP.bR (nC L z.steps) (nC.le (L:=L) (l:=z.steps))]
def jJ(g h f:Nat)(s:aC)(z:bK):HP:=HP.ex fun L:dK=>gA g h f L s z
structure Sc(w:World)(g h f:Nat)(L:dK)(s:aC)(z:bK):Prop where
 r0:dP w g 0 (lK h f L s z)
 so:lS L s (all w)
 wn:tA L z.wn (all w)
 cn:dP w L.gc 0 [.slice L.nd.1 (dL s).length L.nd.2,.map (some L.gm),.bool z.cn.lR]
 nd:Nh L s (all w)
 sp:nC L z.steps (all w)
theorem aIE{g h f:Nat}{L:dK}{s:aC}{z:bK}{F:Nat→Prop}{w:World}(k:(gA g h f L s z).sat F w)(hF:∀b,F b→b < w.heap.size):Sc w g h f L s z:=by
 obtain⟨G,g1,g2,_⟩:=k
 have hl:∀i,(⟨w,G i⟩:Piece).Le (all w):=fun i b hb=>⟨hF b (g2 i b hb),rfl⟩
 obtain⟨G',k1,_,_⟩:=g1 3 _ rfl;exact⟨uI (g1 0 _ rfl).2,lS.le _ _ (hl 1) (g1 1 _ rfl),tA.le _ _ (hl 2) (g1 2 _ rfl),uI (k1 0 _ rfl).2,Nh.le _ _ (hl 4) (g1 4 _ rfl),nC.le _ _ (hl 5) (g1 5 _ rfl)⟩
theorem St.aBR{w0 w:World}{R:List Piece}{H:List HP}{g h f:Nat}{L:dK}{s:aC}{z:bK}(t:St w0 R H w)(i:Nat)(hi:H[i]? =some (gA g h f L s z)):Sc w g h f L s z:=by
 obtain⟨F,h1,h2,_⟩:=t.chunk hi;exact aIE h1 h2
theorem Zp(t:Int)(w:World):Cz 98 #[iv t] w (Rt (.bool (bZ 3 t)) w):=by
 refine aO func98 ntmps98 ?_;refine aA ?_;refine bX (t:=5) rfl (fun h=>?_) (fun h=>?_)
 ·refine aA ?_;refine iS (by simp) ?_;unfold bZ
  congr 1
  simp;omega
 ·refine aA ?_;refine iS (by simp) ?_
  have:bZ 3 t=false:=decide_eq_false (by omega)
  rw[this]
theorem Fh{t:Int}(h:bZ 3 t=true):∃j:Nat,t=(j:Int)∧(j=0∨j=1∨j=2):=by
 have:=of_decide_eq_true h
 exact⟨t.toNat,by omega,by omega⟩
section
variable(g h f:Nat)(L:dK)(s:aC)(z:bK)(w:World)
theorem aLi(d:Int)(hR:Sc w g h f L s z):Cz 263 #[pt g,iv d] w (Rt (.bool (bZ s.aD.length d)) w):=by
 have k5:=hR.r0.at_ (j:=5) rfl
 refine aO func263 ntmps263 ?_;refine aA ?_;refine bX (t:=7) rfl (fun h=>?_) (fun h=>?_)
 ·refine aA ?_;refine iS (by simp) ?_;unfold bZ
  congr 1
  simp;omega
 ·refine aA ?_;refine iS (by simp) ?_
  have:bZ s.aD.length d=false:=decide_eq_false (by omega)
  rw[this]
def uH(z:bK)(t:Int):Bool:=bZ 3 t&&decide ((z.tk t.toNat).st≠0)
theorem aLl(t:Int)(hR:Sc w g h f L s z):Cz 41 #[pt g,iv t] w (Rt (.bool (uH z t)) w):=by
 have k0:=hR.r0.at_ (j:=10) rfl
 have k1:=hR.r0.at_ (j:=23) rfl
 have k2:=hR.r0.at_ (j:=36) rfl
 unfold uH;refine aO func41 ntmps41 ?_;refine aA ?_;refine aQ (fun w1 _=>Zp t w1) ?_;cases hin:bZ 3 t
 ·refine aA ?_;exact dF
 ·obtain⟨j,rfl,hj⟩:=Fh hin;rcases hj with rfl | rfl | rfl
  all_goals
   refine aA ?_;refine kd (fF _ _ (ho:=rfl)) ?_;refine aA ?_;refine iS (by simp) ?_;simp[bK.tk]
theorem aLf(hR:Sc w g h f L s z):Cz 86 #[pt g] w (Rt (iv z.fM) w):=by
 have k0:=hR.r0.at_ (j:=49) rfl
 refine aO func86 ntmps86 ?_;refine aA ?_;exact dF
end
end
section
section
variable{N:cE}{w0:World}{e:Env}{R:List Piece}{H:List HP}{Q:Exit→Act→World→Prop}{ops:Array Oper}{rest:List Oper}{pos:String}{ty:TypeId}{aI:Array Edge}
theorem Cw(i:Nat){x y:Operand}{s t:TypeId}{g o:Nat}{cs vs:List Value}(hi:H[i]? =some (HP.aE g t cs))(k:XK N w0 (wpList Tryz.prog ops Q rest) e R (H.set i (HP.aE g t (fS cs o vs))))(hx:e.ev x=some (.pointer (some ⟨g,o,none⟩)):=by rfl)(hy:e.ev y=some (.agg vs.toArray):=by rfl)(hs:(Tryz.prog.info? s).any (·.size==vs.length)=true:=by kernel_rfl)(h1:vs.all Value.oneCell'=true:=by rfl)(hl:decide (o+vs.length≤cs.length)=true:=by rfl):
  XK N w0 (wpList Tryz.prog ops Q (⟨none,.store s x y,ty,pos,aI,none⟩::rest)) e R H:=
 pY i hi hx hy hs (fun u hu=>List.all_eq_true.1 h1 u (by simpa[Value.cells] using hu)) (by simpa[Value.cells] using of_decide_eq_true hl) (by simpa[Value.cells] using k)
end
section
variable{P:Program}{N:cE}{w0 w:World}{e:Env}{R:List Piece}{H:List HP}{p:HP}{Q:Exit→Act→World→Prop}
theorem St.bL(st:St w0 R (p::H) w):St w0 R (bU::H) w:=st.vY (i:=0) (p:=p) rfl (Nat.le_refl _) rfl rfl rfl fun F _ hlt=>⟨F,trivial,fun b hb=>⟨.inl hb,hlt b hb⟩,fun _ _ _=>rfl⟩
theorem Gv(Z:List Nat){id:Nat}{l:List Oper}(h:XB P N w0 l.toArray Q R (bU::H) Z l.length (Array.replicate l.length false) e R (p::H))(hm:P.follows .mixedOrders=true:=by kernel_rfl)(hc:Region.noSelect l.toArray=true:=by kernel_rfl):XK N w0 ((Code.region id l.toArray true).wp P Q) e R (p::H):=fun a w hr st=>by
 have:=h ⟨Down.start _ _,hc⟩ a w.drew hr st.drew
 refine wp_region_any hm (aB6 (S:=St w0 R (bU::H)) (Z:=Z) _ _ _ _ ?_)
 simpa using this
end
def Qm(k:Int):Value:=if k=103 then .iface 284 (.agg #[]) else if k=112 then .iface 285 (.agg #[]) else if k=114 then .iface 287 (.agg #[.bool false]) else if k=119 then .iface 287 (.agg #[.bool true]) else if k=115 then .iface 288 (.agg #[]) else if k=109 then .iface 289 (.agg #[]) else .nilIface
def wR(k:Int):Prop:=k=103∨k=112∨k=114∨k=119∨k=115∨k=109
instance(k:Int):Decidable (wR k):=by unfold wR;infer_instance
theorem aBS(k:Int)(w:World):Cz 131 #[.int .u8 k] w (Rt (Qm k) w):=by
 unfold Qm;refine aO func131 ntmps131 ?_;refine aA ?_;refine aG rfl (fun h0=>?_) (fun h0=>?_)
 ·rw[if_pos h0];refine aB ?_;refine kd (Qu rfl) ?_;refine aA ?_;exact dF
 rw[if_neg h0];refine aA ?_;refine aG rfl (fun h1=>?_) (fun h1=>?_)
 ·rw[if_pos h1];refine aB ?_;refine kd (Qu rfl) ?_;refine aA ?_;exact dF
 rw[if_neg h1];refine aA ?_;refine aG rfl (fun h2=>?_) (fun h2=>?_)
 ·rw[if_pos h2];refine aB ?_;refine kd (Qu rfl) ?_;refine aA ?_;exact dF
 rw[if_neg h2];refine aA ?_;refine aG rfl (fun h3=>?_) (fun h3=>?_)
 ·rw[if_pos h3];refine aB ?_;refine kd (Qu rfl) ?_;refine aA ?_;exact dF
 rw[if_neg h3];refine aA ?_;refine aG rfl (fun h4=>?_) (fun h4=>?_)
 ·rw[if_pos h4];refine aB ?_;refine kd (Qu rfl) ?_;refine aA ?_;exact dF
 rw[if_neg h4];refine aA ?_;refine aG rfl (fun h5=>?_) (fun h5=>?_)
 ·rw[if_pos h5];refine aB ?_;refine kd (Qu rfl) ?_;refine aA ?_;exact dF
 rw[if_neg h5];refine aA ?_;exact dF
theorem aPd{k:Int}(h:¬wR k):Qm k=.nilIface:=by
 unfold wR at h;unfold Qm;rw[if_neg (by omega),if_neg (by omega),if_neg (by omega),if_neg (by omega),if_neg (by omega),if_neg (by omega)]
theorem aPc{k:Int}(h:wR k):∃u y,Qm k=.iface u y:=by
 rcases h with rfl | rfl | rfl | rfl | rfl | rfl<;>exact⟨_,_,rfl⟩
def wG(z:bK)(t kind dev cF val:Int):Int×bK:=if bZ 3 t=false then(4,z) else if(z.tk t.toNat).st≠0 then(7,z) else if ¬wR kind then(1,z) else(0,z.jR t.toNat {z.tk t.toNat with st:=1,kind:=kind,dev:=dev,cF:=cF,val:=val})
section
variable(g h f:Nat)(s:aC)(z:bK)(w:World)(F:Nat→Prop)
theorem aLb(t kind dev cF val:Int)(hp:(jJ g h f s z).sat F w)(hF:∀b,F b→b < w.heap.size):
  Cz 85 #[pt g,iv t,.agg #[.int .u8 kind,iv dev,iv cF,.int .u32 val]] w (Wr (iv (wG z t kind dev cF val).1) (jJ g h f s (wG z t kind dev cF val).2) w F):=by
 unfold wG;refine cS func85 ntmps85 hp hF ?_;refine aA ?_;refine bN fun g1=>?_;refine aA ?_;refine aQ (fun w1 _=>Zp t w1) ?_;cases hin:bZ 3 t
 ·refine aA ?_;exact bO 1 hF
 ·rw [if_neg (by simp)];obtain⟨j,rfl,hj⟩:=Fh hin;rw[Int.toNat_natCast];refine iT 1 fun L=>?_;refine aX 1 0 ?_
  by_cases hst:(z.tk j).st=0
  ·rw[if_neg (by simpa using hst)]
   by_cases hk:wR kind
   ·rw[if_neg (by simpa using hk)];obtain⟨u,y,hy⟩:=aPc hk;obtain⟨z',hz⟩:∃z',z'=z.jR j {z.tk j with st:=1,kind:=kind,dev:=dev,cF:=cF,val:=val}:=⟨_,rfl⟩
    rw[←hz];rcases hj with rfl | rfl | rfl
    all_goals
     refine aA ?_;refine kd (fF _ _ (ho:=rfl)) ?_;refine aA ?_;refine aG rfl (fun h1=>absurd hst h1) (fun _=>?_);refine aA ?_;refine aQ (fun w1 _=>aBS kind w1) ?_;rw[hy];refine aA ?_;refine kd (aHz rfl (.inr ⟨⟨_,_,rfl⟩,rfl⟩)) ?_;refine aA ?_;refine kd (fF _ _ (ho:=rfl)) ?_;refine aA ?_;refine Gv [2] ?_;refine bJ 0 ?_ (hsub:=fun _ h=>h.bL);refine bJ 1 ?_ (hsub:=fun _ h=>h.bL);refine aK 2 ?_ (hsub:=fun _ h=>h.bL);refine aL 3 ?_;refine bE ?_;refine bA ?_ (hS:=fun _ h=>h.bL);refine aL 4 ?_;refine bE ?_;refine bA ?_ (hS:=fun _ h=>h.bL);refine aL 5 ?_;refine eO rfl rfl ?_ (hs:=eK.mk 0 rfl cN.h rfl (of_decide_eq_true rfl));dsimp only[List.set];refine bA ?_ (hS:=fun _ h=>h.bL);refine aL 6 ?_;refine bE ?_;refine bA ?_ (hS:=fun _ h=>h.bL);refine aL 7 ?_;refine bE ?_;refine bA ?_ (hS:=fun _ h=>h.bL);refine aL 8 ?_;refine Cw 0 rfl ?_;dsimp only[List.set];refine bA ?_ (hS:=fun _ h=>h.bL);refine dX ?_;refine aA ?_;refine aJ 1 0 ?_;refine uK 1 (f:=fun L:dK=>gA g h f L s z') L (by subst hz;rfl) ?_;dsimp only[List.set];exact bO 1 hF
   ·rw[if_pos (by simpa using hk)];rcases hj with rfl | rfl | rfl
    all_goals
     refine aA ?_;refine kd (fF _ _ (ho:=rfl)) ?_;refine aA ?_;refine aG rfl (fun h1=>absurd hst h1) (fun _=>?_);refine aA ?_;refine aQ (fun w1 _=>aBS kind w1) ?_;rw[aPd hk];refine aA ?_;refine kd (aHz rfl (.inl ⟨rfl,rfl⟩)) ?_;refine aA ?_;refine aJ 1 0 ?_;refine cP 1 (fun L:dK=>gA g h f L s z) L ?_;exact bO 1 hF
  ·rw[if_pos hst];rcases hj with rfl | rfl | rfl
   all_goals
    refine aA ?_;refine kd (fF _ _ (ho:=rfl)) ?_;refine aA ?_;refine aG rfl (fun _=>?_) (fun h1=>absurd (Decidable.not_not.1 h1) hst);refine aA ?_;refine aJ 1 0 ?_;refine cP 1 (fun L:dK=>gA g h f L s z) L ?_;exact bO 1 hF
end
end
section
section
variable{N:cE}{w0:World}{e:Env}{R:List Piece}{H:List HP}{K:Act→World→Prop}
theorem aM.mid(i:Nat){b o:Nat}{t:TypeId}{cs vs:List Value}(hi:H[i]? =some (HP.aE b t cs))(hv:(cs.drop o).take vs.length=vs):aM w0 R H b o vs:=aM.aE i hi fun j v hj=>by
 rw[←hv,List.getElem?_take] at hj;split at hj
 ·rw[List.getElem?_drop] at hj;exact hj
 ·cases hj
theorem aRC(j i:Nat){ps:List HP}{p q:HP}(hj:H[j]? =some (HP.many ps))(hi:ps[i]? =some p)(hq:∀F w,p.sat F w→q.sat F w)(k:XK N w0 K e R (H.set j (HP.many (ps.set i q)))):XK N w0 K e R H:=by
 have hlt:=(List.getElem?_eq_some_iff.1 hj).1
 have hli:=(List.getElem?_eq_some_iff.1 hi).1
 refine qJ j i hj hi ?_;refine oJ 0 rfl hq ?_;refine qL j i (by rw[List.getElem?_set_self hlt]) (by rw[List.getElem?_set_self hli]) ?_;rw[List.set_set,List.set_set];exact k
end
def pT(z:bK)(j:Nat)(err res:Int):bK:={z.jR j {z.tk j with st:=3,err:=err,res:=res} with fM:= -1,steps:=[],sent:=false,aZ:=false}
def pU(z:bK)(t:Int):(Int×Int×Bool)×bK:=if bZ 3 t=false then((0,0,false),z) else if(z.tk t.toNat).st≠3 then((0,0,false),z) else(((z.tk t.toNat).err,(z.tk t.toNat).res,true),z.jR t.toNat {z.tk t.toNat with st:=0,kind:=0,dev:=0,cF:=0,val:=0,err:=0,res:=0})
section
variable(g h f:Nat)(s:aC)(z:bK)(w:World)(F:Nat→Prop)
theorem Ku(j:Nat)(fM:z.fM=(j:Int))(hj:j=0∨j=1∨j=2)(err res:Int)(hp:(jJ g h f s z).sat F w)(hF:∀b,F b→b < w.heap.size):
  Cz 158 #[pt g,.agg #[iv err,.int .u32 res]] w (Wr (.tuple #[]) (jJ g h f s (pT z j err res)) w F):=by
 refine cS func158 ntmps158 hp hF ?_;obtain⟨z',hz⟩:∃z',z'=pT z j err res:=⟨_,rfl⟩
 rw[←hz];refine iT 0 fun L=>?_;refine aX 0 0 ?_;rcases hj with rfl | rfl | rfl
 all_goals
  refine aA ?_;refine bN fun g1=>?_;refine aT [1,0,2] rfl (by decide) (fun _ h=>h) ?_;refine aA ?_;refine lJ ?_;refine jD ?_;refine sY (fF _ _ (hj:=fM) (ho:=rfl)) ?_;refine iY ?_;refine aA ?_;refine Gv [2] ?_;refine bJ 0 ?_ (hsub:=fun _ h=>h.bL);refine bJ 1 ?_ (hsub:=fun _ h=>h.bL);refine aK 2 ?_ (hsub:=fun _ h=>h.bL);refine aL 3 ?_;refine bE ?_;refine bA ?_ (hS:=fun _ h=>h.bL);refine aL 4 ?_;refine bE ?_;refine bA ?_ (hS:=fun _ h=>h.bL);refine aL 5 ?_;refine eO rfl rfl ?_ (hs:=eK.mk 0 rfl cN.h rfl (of_decide_eq_true rfl));dsimp only[List.set];refine bA ?_ (hS:=fun _ h=>h.bL);refine aL 6 ?_;refine bE ?_;refine bA ?_ (hS:=fun _ h=>h.bL);refine aL 7 ?_;refine bE ?_;refine bA ?_ (hS:=fun _ h=>h.bL);refine aL 8 ?_;refine Cw 0 rfl ?_;dsimp only[List.set];refine bA ?_ (hS:=fun _ h=>h.bL);refine dX ?_;refine aA ?_;refine eO rfl rfl ?_ (hs:=eK.mk 0 rfl cN.h rfl (of_decide_eq_true rfl));dsimp only[List.set];refine aA ?_;refine eO rfl rfl ?_ (hs:=eK.mk 0 rfl cN.h rfl (of_decide_eq_true rfl));dsimp only[List.set];refine aA ?_;refine eO rfl rfl ?_ (hs:=eK.mk 0 rfl cN.h rfl (of_decide_eq_true rfl));dsimp only[List.set];refine aA ?_;refine eO rfl rfl ?_ (hs:=eK.mk 0 rfl cN.h rfl (of_decide_eq_true rfl));dsimp only[List.set];refine aA ?_;refine aJ 1 0 ?_;refine aRC (q:=HP.bR (nC {L with st:=(none,0)} []) (nC.le (L:={L with st:=(none,0)}) (l:=[]))) 1 5 rfl rfl (fun F w _=>⟨aH.nil _ _,Nat.le_refl _⟩) ?_;dsimp only[List.set];refine uK 1 (f:=fun L:dK=>gA g h f L s z') {L with st:=(none,0)} (by subst hz;rfl) ?_;dsimp only[List.set];exact fA 1 hF
theorem aLh(t:Int)(hp:(jJ g h f s z).sat F w)(hF:∀b,F b→b < w.heap.size):
  Cz 135 #[pt g,iv t] w (Wr (.tuple #[.agg #[iv (pU z t).1.1,.int .u32 (pU z t).1.2.1],.bool (pU z t).1.2.2]) (jJ g h f s (pU z t).2) w F):=by
 unfold pU;refine cS func135 ntmps135 hp hF ?_;refine aA ?_;refine bY fun g1=>?_;refine aA ?_;refine aQ (fun w1 _=>Zp t w1) ?_;cases hin:bZ 3 t
 ·refine aA ?_;refine kd (iI rfl) ?_;refine aA ?_;exact yX (vs:=[iv 0,.int .u32 0]) rfl (by kernel_rfl) rfl rfl (aM.whole 0 rfl) rfl fun w1 t=>⟨rfl,t.turns hF (by simp) (i:=1) rfl⟩
 ·rw[if_neg (by simp)];obtain⟨j,rfl,hj⟩:=Fh hin;rw[Int.toNat_natCast];refine iT 1 fun L=>?_;refine aX 1 0 ?_
  by_cases hst:(z.tk j).st=3
  ·rw[if_neg (by simpa using hst)];obtain⟨z',hz⟩:∃z',z'=z.jR j {z.tk j with st:=0,kind:=0,dev:=0,cF:=0,val:=0,err:=0,res:=0}:=⟨_,rfl⟩
   rw[←hz];rcases hj with rfl | rfl | rfl
   all_goals
    refine aA ?_;refine kd (fF _ _ (ho:=rfl)) ?_;refine aA ?_;refine aG rfl (fun h1=>absurd hst h1) (fun _=>?_);refine aA ?_;refine kd (fF _ _ (ho:=rfl)) ?_;refine aA ?_;refine kd (jN rfl (aM.mid (vs:=[_,_]) 0 rfl rfl)) ?_;refine bY fun g2=>?_;refine aA ?_;refine kd (iI rfl) ?_;refine kd (iI rfl) ?_;refine aA ?_;refine eO rfl rfl ?_ (hs:=eK.mk 1 rfl cN.h rfl (of_decide_eq_true rfl));dsimp only[List.set];refine aA ?_;refine Cw 1 rfl ?_;dsimp only[List.set];refine aA ?_;refine Cw 1 rfl ?_;dsimp only[List.set];refine aA ?_;refine aT [1,0,2,3] rfl (by decide) (fun _ h=>h) ?_;refine aJ 2 0 ?_;refine uK 2 (f:=fun L:dK=>gA g h f L s z') L (by subst hz;rfl) ?_;dsimp only[List.set];exact yX (vs:=[_,_]) rfl (by kernel_rfl) rfl rfl (aM.whole 1 rfl) rfl fun w1 t=>⟨rfl,t.turns hF (by simp) (i:=2) rfl⟩
  ·rw[if_pos hst];rcases hj with rfl | rfl | rfl
   all_goals
    refine aA ?_;refine kd (fF _ _ (ho:=rfl)) ?_;refine aA ?_;refine aG rfl (fun _=>?_) (fun h1=>absurd (Decidable.not_not.1 h1) hst);refine aA ?_;refine kd (iI rfl) ?_;refine aA ?_;refine aJ 1 0 ?_;refine cP 1 (fun L:dK=>gA g h f L s z) L ?_;exact yX (vs:=[iv 0,.int .u32 0]) rfl (by kernel_rfl) rfl rfl (aM.whole 0 rfl) rfl fun w1 t=>⟨rfl,t.turns hF (by simp) (i:=1) rfl⟩
end
end
section
def Jn(ks:List Int)(v:Int):List Int:=if ks.contains v then ks else ks++[v]
def Kk(g:List (List Int))(ks:List Int)(i:Nat):List Int:=if ks.contains (i:Int) then(g.getD i []).foldl Jn ks else ks
def Lc(g:List (List Int))(v:Int)(n:Nat):Nat→List Int
 | 0=>[v]
 | k+1=>Kk g (Lc g v n k) (n - 1 - k)
def sB(ks:List Int)(v:Int)(n:Nat):List Nat:=(List.range n).filter fun u:Nat=>decide (¬(u:Int)=v)&&ks.contains (u:Int)
def yW(g:List (List Int))(v:Int)(n:Nat):List Nat:=sB (Lc g v n n) v n
theorem aFI(ks:List Int)(v:Int)(n:Nat):(sB ks v n).length≤n:=Nat.le_trans (List.length_filter_le _ _) (by simp)
theorem aMf(ks:List Int)(v:Int)(n:Nat):sB ks v (n+1)=if(decide (¬(n:Int)=v)&&ks.contains (n:Int))=true then sB ks v n++[n] else sB ks v n:=by
 unfold sB;rw[List.range_succ,List.filter_append];simp only[List.filter_cons,List.filter_nil];split<;>simp
theorem aMh(A:Option Addr)(n c:Nat)(g:List (List Int))(v:Int)(w:World)(hg:nD (all w) A n g)(hn:n=g.length)(hn2:n≤100)(hlen:∀l∈g,(l.length:Int)≤9223372036854775806)(hv:0≤v∧v < n)(ho:fL g=(0,List.range n)):
  Cz 250 #[.slice A n c,iv v] w (fun y w'=>(∃x,y=.returned x∧Sf g x w w')∧Below w.heap.size w w'):=by
 refine aO func250 ntmps250 ?_;refine aA ?_;refine kA [] (Sf g) (fun w1 st=>(aAa A n c g w1 (hg.le (st.le (by simp))) hn (by omega) hlen).mono fun y w' h=>h.aCc) ?_;rintro _ w1 q ⟨A',m,c',rfl,hm,hs⟩ hf _ hfr
 have hs:=hs.le hf
 rw[ho] at hs hm;rw[ho];dsimp only at hs hm⊢;refine aA ?_;refine bX (t:=18) rfl (fun h=>absurd h (by omega)) (fun _=>?_);refine aA ?_;refine aG rfl (fun h=>absurd h (by omega)) (fun _=>?_);refine aA ?_;exact fT rfl rfl rfl fun w1 t=>⟨⟨_,rfl,A',m,c',by rw[ho];rfl,by rw[ho];exact hm,by rw[ho];exact hs.le (t.mQ (by simp) (hfr (by simp)))⟩,t.below (by simp)⟩
theorem aMe(q:Piece)(r:Nat)(ks:List Int)(A:Option Addr)(n c:Nat)(v:Int)(w:World)(hn2:n≤100)(hm:vN w r (kZ ks))(hq:q.Le (all w))(hs:aH q 1 A n (aN (dR (List.range n)))):
  Cz 251 #[.slice A n c,.map (some r),iv v] w (Sb (Hh (sB ks v n)) w):=by
 refine aO func251 ntmps251 ?_;refine yY q (by simp) hq ?_;refine aA ?_;refine lI 3 1 ?_;refine bM [(12,iv 0),(11,iv n),(10,.slice A n c),(7,sn),(1,.map (some r)),(2,iv v)] ?_;refine eT (fun m e R H=>∃(i:Nat) (B:Option Addr) (k:Nat),i≤n∧m=n - i∧e=[(12,iv i),(11,iv n),(10,.slice A n c),(7,.slice B (sB ks v i).length k),(1,.map (some r)),(2,iv v)]∧R=[q,all w]∧H=[HP.own 3 1 (.slice B (sB ks v i).length k) (sB ks v i).length (aN (dR (sB ks v i)))]) n ⟨0,none,0,by omega,rfl,rfl,rfl,rfl⟩ fun m e R H hI=>?_;obtain⟨i,B,k,hi,rfl,rfl,rfl,rfl⟩:=hI
 have nQ:=aFI ks v i
 have cX:=aMf ks v i
 generalize hl:sB ks v i=l at nQ cX⊢;refine aA ?_;refine aG rfl (fun hlt=>?_) (fun hge=>?_)
 ·have hlt:i < n:=by omega
  obtain⟨b,off,hA,hz,hc⟩:=hs.2 (by omega)
  have Dj:=hc i (iv (i:Int)) (by simp[aN,dR,hlt])
  refine aA ?_;refine kd (dat i (off+i) (hx:=by rw[←hA];rfl)) ?_;refine aA ?_;refine kd (bH rfl (Rd.ro (p:=q) (by simp) hz Dj)) ?_;refine aA ?_;refine bX (t:=19) rfl (fun hv=>?_) (fun hv=>?_)
  ·refine aA ?_;refine aQ (fun w1 t=>aAj r i ks w1 (hm.below (t.below (by simp)))) ?_;rw[decide_eq_true hv,Bool.true_and] at cX;cases hk:ks.contains (i:Int)
   ·rw[hk,if_neg (by simp)] at cX;refine aA ?_;refine bM [(12,iv (i+1:Nat)),(11,iv n),(10,.slice A n c),(7,.slice B l.length k),(1,.map (some r)),(2,iv v)] ?_;exact gR (n - (i+1)) (by omega) ⟨i+1,B,k,hlt,rfl,by rw[cX],rfl,by rw[cX]⟩
   ·rw[hk,if_pos rfl] at cX;refine aA ?_;refine eG fun g4=>?_;refine gZ 1 1 8 1 (n':=l.length+1) (el:=3) (by kernel_rfl) (by kernel_rfl) (by decide) rfl rfl rfl (lW 0 rfl rfl) (by simp[Value.oneCell']) rfl (by omega) (by omega) (by decide) fun An cn=>?_;dsimp only[List.set];refine aA ?_;refine aT [1] rfl (by decide) (fun _ h=>h) ?_;refine bM [(12,iv (i+1:Nat)),(11,iv n),(10,.slice A n c),(7,.slice An (l.length+1) cn),(1,.map (some r)),(2,iv v)] ?_;exact gR (n - (i+1)) (by omega) ⟨i+1,An,cn,hlt,rfl,by rw[cX];simp,rfl,by rw[cX];simp[aN,dR]⟩
  ·rw[decide_eq_false hv,Bool.false_and,if_neg (by simp)] at cX;refine aA ?_;refine bM [(12,iv (i+1:Nat)),(11,iv n),(10,.slice A n c),(7,.slice B l.length k),(1,.map (some r)),(2,iv v)] ?_;exact gR (n - (i+1)) (by omega) ⟨i+1,B,k,hlt,rfl,by rw[cX],rfl,by rw[cX]⟩
 ·obtain rfl:i=n:=by omega
  subst hl;refine aA ?_;refine dB [] [0] [] (by simp) rfl (by decide) (by decide) fun q2 vB _ hfr=>?_
  have h2:aH q2 1 B (sB ks v i).length (aN (dR (sB ks v i))):=aH.own (vB 0 _ (by simp) rfl)
  exact aP (h:=fun w1 t=>⟨_,rfl,B,k,rfl,h2.le (t.mQ (by simp) (hfr (by simp) (by simp)))⟩)
theorem aOy(q0:Piece)(A:Option Addr)(n c:Nat)(g:List (List Int))(v:Nat)(w:World)(Il:q0.Le (all w))(hg:nD q0 A n g)(hn:n=g.length)(hn2:n≤100)(hlen:∀l∈g,(l.length:Int)≤1000)(hv:v < n)(ho:fL g=(0,List.range n)):
  Cz 248 #[.slice A n c,iv (v:Int)] w (Sb (fun x w w'=>∃A' c',x=.tuple #[.slice A' (yW g v n).length c',iv 0]∧aH (fresh w w') 1 A' (yW g v n).length (aN (dR (yW g v n)))) w):=by
 refine aO func248 ntmps248 ?_;refine yY q0 (by simp) Il ?_;refine aA ?_;refine kA [] (Sf g) (fun w1 st=>aMh A n c g v w1 (hg.le (st.le (by simp))) hn hn2 (fun l hl=>by have:=hlen l hl;omega) (by omega) ho) ?_;rintro _ w1 q ⟨A',m,c',rfl,hm,hs⟩ hf _ _
 have hs:=hs.le hf
 rw[ho] at hs hm;rw[ho];dsimp only at hs hm⊢;obtain rfl:m=n:=by simpa using hm
 refine aA ?_;refine Yv (by decide) fun r=>?_;refine aA ?_;refine bT 0 (HP.map r (kZ [(v:Int)])) (fun w1 F1 t h1 h2 h3=>aAk r v [] w1 F1 h1 h2) ?_;refine aA ?_;refine aT [0] rfl (by decide) (R':=[q,q0,all w]) (by simp) ?_;refine bM [(9,iv ((m:Int) - 1)),(6,.slice A' m c'),(8,.map (some r)),(0,.slice A m c),(1,iv (v:Int))] ?_;refine eT (fun k e R H=>k≤m∧e=[(9,iv ((k:Int) - 1)),(6,.slice A' m c'),(8,.map (some r)),(0,.slice A m c),(1,iv (v:Int))]∧R=[q,q0,all w]∧H=[HP.map r (kZ (Lc g v m (m - k)))]) m ⟨Nat.le_refl _,rfl,rfl,by rw[Nat.sub_self];rfl⟩ fun k e R H hI=>?_;obtain⟨hk,rfl,rfl,rfl⟩:=hI;refine aA ?_;refine aG rfl (fun hge=>?_) (fun hlt=>?_)
 ·obtain⟨k,rfl⟩:∃j,k=j+1:=⟨k - 1,by omega⟩
  have hkm:k < m:=by omega
  obtain⟨row,hrow⟩:=get_some (l:=g) (i:=k) (by omega)
  have cX:Lc g v m (m - k)=Kk g (Lc g v m (m - (k+1))) k:=by
   rw[show m - k=(m - (k+1))+1 by omega]
   show Kk g _ (m - 1 - (m - (k+1)))=_
   rw[show m - 1 - (m - (k+1))=k by omega]
  generalize hks:Lc g v m (m - (k+1))=ks at cX⊢;obtain⟨b,off,pR,hz,hc⟩:=hs.2 (by omega)
  have Bc:=hc k (iv (k:Int)) (by simp[aN,dR,hkm])
  obtain⟨gb,aOs,gr,hA,hgz,oG,⟨RA,rn,rk,rfl,Uz,Uy⟩,Vm⟩:=aSs hg hrow
  have hrl:=hlen row (List.mem_of_getElem? hrow)
  have hrd:=Vm 0 _ rfl
  subst Uz;refine aA ?_;refine kd (dat k (off+k) (hx:=by rw[←pR];rfl)) ?_;refine kd (bH rfl (Rd.ro (p:=q) (by simp) hz Bc)) ?_;refine aQ (fun w1 t=>aAj r k ks w1 (t.map (i:=0) rfl)) ?_;cases hkc:ks.contains (k:Int)
  ·have h2:Kk g ks k=ks:=by unfold Kk;rw[hkc];rfl
   rw[h2] at cX;refine aA ?_;refine bM [(9,iv (((k+1:Nat):Int) - 1 - 1)),(6,.slice A' m c'),(8,.map (some r)),(0,.slice A m c),(1,iv (v:Int))] ?_;exact gR k (by omega) ⟨by omega,by rw[show(((k+1:Nat):Int) - 1 - 1)=(k:Int) - 1 by omega],rfl,by rw[cX]⟩
  ·have h2:Kk g ks k=row.foldl Jn ks:=by
    unfold Kk;rw[hkc,if_pos rfl,List.getD_eq_getElem?_getD,hrow];rfl
   rw[h2] at cX;refine aA ?_;refine kd (dat k (off+k) (hx:=by rw[←pR];rfl)) ?_;refine kd (bH rfl (Rd.ro (p:=q) (by simp) hz Bc)) ?_;refine kd (dat k (aOs+k*1) (hx:=by rw[←hA];rfl)) ?_;refine kd (bH rfl (Rd.ro (p:=q0) (by simp) hgz hrd)) ?_;refine aA ?_;refine bM [(47,iv 0),(46,iv row.length),(45,.slice RA row.length rk),(9,iv (((k+1:Nat):Int) - 1)),(6,.slice A' m c'),(8,.map (some r)),(0,.slice A m c),(1,iv (v:Int))] ?_;refine eT (fun u e R H=>∃i:Nat,i≤row.length∧u=row.length - i∧e=[(47,iv i),(46,iv row.length),(45,.slice RA row.length rk),(9,iv (((k+1:Nat):Int) - 1)),(6,.slice A' m c'),(8,.map (some r)),(0,.slice A m c),(1,iv (v:Int))]∧R=[q,q0,all w]∧H=[HP.map r (kZ ((row.take i).foldl Jn ks))]) row.length ⟨0,by omega,rfl,rfl,rfl,rfl⟩ fun u e R H hI=>?_;obtain⟨i,hi,rfl,rfl,rfl,rfl⟩:=hI;refine aA ?_;refine aG rfl (fun uA=>?_) (fun aG9=>?_)
   ·have uA:i < row.length:=by omega
    obtain⟨y,hy⟩:=get_some uA;obtain⟨rb,aLt,hRA,hrz,hrc⟩:=(show aH q0 1 RA row.length (aN row) from Uy).2 (by omega)
    have hcy:=hrc i (iv y) (by simp[aN,hy])
    have iH:(row.take (i+1)).foldl Jn ks=Jn ((row.take i).foldl Jn ks) y:=by
     rw[List.take_add_one,hy,List.foldl_append];rfl
    generalize hk2:(row.take i).foldl Jn ks=ks2 at iH⊢;refine aA ?_;refine kd (dat i (aLt+i) (hx:=by rw[←hRA];rfl)) ?_;refine aA ?_;refine kd (bH rfl (Rd.ro (p:=q0) (by simp) hrz hcy)) ?_;refine aA ?_;refine bT 0 (HP.map r (kZ (Jn ks2 y))) (fun w1 F1 t h1 h2 h3=>aAk r y ks2 w1 F1 h1 h2) ?_;refine aA ?_;refine bM [(47,iv (i+1:Nat)),(46,iv row.length),(45,.slice RA row.length rk),(9,iv (((k+1:Nat):Int) - 1)),(6,.slice A' m c'),(8,.map (some r)),(0,.slice A m c),(1,iv (v:Int))] ?_;exact gR (row.length - (i+1)) (by omega) ⟨i+1,uA,rfl,rfl,rfl,by rw[iH]⟩
   ·obtain rfl:i=row.length:=by omega
    rw[List.take_length,←cX];refine aA ?_;refine bM [(9,iv (((k+1:Nat):Int) - 1 - 1)),(6,.slice A' m c'),(8,.map (some r)),(0,.slice A m c),(1,iv (v:Int))] ?_;exact gR k (by omega) ⟨by omega,by rw[show(((k+1:Nat):Int) - 1 - 1)=(k:Int) - 1 by omega],rfl,rfl⟩
 ·obtain rfl:k=0:=by omega
  rw[Nat.sub_zero];refine aA ?_;refine kA [] (Hh (yW g v m)) (fun w1 t=>aMe q r _ A' m c' v w1 hn2 (t.map (i:=0) rfl) (t.le (by simp)) hs) ?_;rintro _ w1 q2 ⟨B,kb,rfl,hb⟩ mP _ hfr;refine aA ?_;exact fT rfl rfl rfl fun w1 t=>⟨⟨_,rfl,B,kb,rfl,(hb.le mP).le (t.mQ (by simp) (hfr (by simp)))⟩,t.below (by simp)⟩
end
section
def Bw(g:List (List Int))(c:Cn)(n:Nat):Nat→List Bool
 | 0=>List.replicate n false
 | i+1=>if jH c.l (i:Int)≤0 then Bw g c n i else(yW g (i:Int) n).foldl (fun l u=>l.set u true) ((Bw g c n i).set i true)
def Xm(g:List (List Int))(n:Nat)(c:Cn):List Bool:=if c.lR then List.replicate n false else Bw g c n n
theorem aBO:∀(us:List Nat) (l:List Bool),(us.foldl (fun l u=>l.set u true) l).length=l.length
 | [],l=>rfl
 | u::us,l=>by
  rw[List.foldl_cons,aBO us];simp
theorem aAY(g:List (List Int))(c:Cn)(n:Nat):∀i,(Bw g c n i).length=n
 | 0=>by simp[Bw]
 | i + 1 => by
  unfold Bw;split
  ·exact aAY g c n i
  ·rw[aBO,List.length_set];exact aAY g c n i
theorem aR7(g:List (List Int))(n:Nat)(c:Cn):(Xm g n c).length=n:=by
 unfold Xm;split
 ·simp
 ·exact aAY g c n n
def Cb(A:Option Addr)(g:List (List Int))(p:Piece):Prop:=nD p A g.length g
theorem Cb.le{A:Option Addr}{g:List (List Int)}(p q:Piece)(hl:p.Le q)(h:Cb A g p):Cb A g q:=nD.le h hl
def Kc(gc gm:Nat)(A:Option Addr)(k:Nat)(g:List (List Int))(c:Cn):HP:=HP.many [qR gc gm (.slice A g.length k) c,HP.bR (Cb A g) (Cb.le (A:=A) (g:=g))]
theorem aD4{l:List Bool}{i:Nat}{b:Bool}:(bF l).set i (.bool b)=bF (l.set i b):=by simp[bF,List.map_set]
theorem aMg{ks:List Int}{v:Int}{n u:Nat}(h:u∈sB ks v n):u < n:=by
 unfold sB at h;exact List.mem_range.1 (List.mem_filter.1 h).1
theorem aHA(gc gm:Nat)(A:Option Addr)(k:Nat)(g:List (List Int))(c:Cn)(n:Nat)(hn:n=g.length)(hn2:n≤100)(hlen:∀l∈g,(l.length:Int)≤1000)(ho:fL g=(0,List.range n))(w:World)(F:Nat→Prop)(hp:(Kc gc gm A k g c).sat F w)(hF:∀b,F b→b < w.heap.size):
  Cz 246 #[pt gc] w (fun y w'=>∃b:Nat,y=.returned (.slice (some ⟨b,0,none⟩) n n)∧True∧∃F',(HP.many [Kc gc gm A k g c,HP.aE b 4 (bF (Xm g n c))]).sat F' w'∧iD w w' F F'):=by
 refine cS func246 ntmps246 hp hF ?_;generalize cO:(⟨w,fun b=>b < w.heap.size∧¬F b⟩:Piece)=R0;obtain⟨cl,lR⟩:=c;refine aX 0 1 ?_;refine aX 1 0 ?_;refine aX 0 0 ?_;refine aX 1 1 ?_;subst hn;refine aB ?_;refine lU (n:=g.length) 1 (el:=4) (z:=.bool false) (by kernel_rfl) (by kernel_rfl) rfl rfl rfl (by omega) (by omega) (by decide) fun gl=>?_;rw[show List.replicate g.length (Value.bool false)=bF (List.replicate g.length false) from by simp[bF]];unfold Xm;cases lR
 ·dsimp only;refine aB ?_;refine bM [(22,iv 0),(21,iv g.length),(3,.slice (some ⟨gl,0,none⟩) g.length g.length),(0,pt gc)] ?_;refine eT (fun m e R H=>∃i:Nat,i≤g.length∧m=g.length - i∧e=[(22,iv i),(21,iv g.length),(3,.slice (some ⟨gl,0,none⟩) g.length g.length),(0,pt gc)]∧R=[R0]∧H=[HP.aE gl 4 (bF (Bw g ⟨cl,false⟩ g.length i)),HP.map gm (vH cl),HP.aE gc 277 [.slice A g.length k,.map (some gm),.bool false],HP.many [bU,bU],HP.bR (Cb A g) (Cb.le (A:=A) (g:=g)),HP.many [bU,bU]]) g.length ⟨0,by omega,rfl,rfl,rfl,rfl⟩ fun m e R H hI=>?_;obtain⟨i,hi,rfl,rfl,rfl,rfl⟩:=hI
  have hal:=aAY g ⟨cl,false⟩ g.length i
  have cX:Bw g ⟨cl,false⟩ g.length (i+1)=if jH cl (i:Int)≤0 then Bw g ⟨cl,false⟩ g.length i else(yW g (i:Int) g.length).foldl (fun l u=>l.set u true) ((Bw g ⟨cl,false⟩ g.length i).set i true):=rfl
  generalize hl:Bw g ⟨cl,false⟩ g.length i=l at hal cX⊢;refine aB ?_;refine aG rfl (fun hlt=>?_) (fun hge=>?_)
  ·have hlt:i < g.length:=by omega
   refine aB ?_;refine Un 1 rfl ?_;refine aB ?_;refine aG rfl (fun h0=>?_) (fun h0=>?_)
   ·rw[if_pos h0] at cX;refine aB ?_;exact eR (g.length - (i+1)) ⟨i+1,hlt,rfl,rfl,rfl,by rw[cX]⟩
   ·rw[if_neg h0] at cX;refine aB ?_;refine eO rfl rfl ?_ (hs:=eK.mk 0 rfl cN.h rfl (by simp[bF];omega));dsimp only[List.set];rw[aD4];refine aB ?_;refine kA [] (fun x w w'=>∃A' c',x=.tuple #[.slice A' (yW g (i:Int) g.length).length c',iv 0]∧aH (fresh w w') 1 A' (yW g (i:Int) g.length).length (aN (dR (yW g (i:Int) g.length)))) (fun w1 t=>aOy (all w1) A g.length k g i w1 (Piece.Le.refl _) (t.bR 4 rfl) rfl hn2 hlen hlt ho) ?_;rintro _ w1 q ⟨B,kb,rfl,hb⟩ hf _ _
    have hb:=hb.le hf
    have Pf:=aFI (Lc g (i:Int) g.length g.length) (i:Int) g.length
    have hum:∀u∈yW g (i:Int) g.length,u < g.length:=fun u hu=>aMg hu
    change (yW g (i:Int) g.length).length≤_ at Pf
    generalize hus:yW g (i:Int) g.length=us at cX hb Pf hum⊢;refine aB ?_;refine bM [(46,iv 0),(45,iv us.length),(44,.slice B us.length kb),(22,iv i),(21,iv g.length),(3,.slice (some ⟨gl,0,none⟩) g.length g.length),(0,pt gc)] ?_;refine eT (fun m e R H=>∃j:Nat,j≤us.length∧m=us.length - j∧e=[(46,iv j),(45,iv us.length),(44,.slice B us.length kb),(22,iv i),(21,iv g.length),(3,.slice (some ⟨gl,0,none⟩) g.length g.length),(0,pt gc)]∧R=[q,R0]∧H=[HP.aE gl 4 (bF ((us.take j).foldl (fun l u=>l.set u true) (l.set i true))),HP.map gm (vH cl),HP.aE gc 277 [.slice A g.length k,.map (some gm),.bool false],HP.many [bU,bU],HP.bR (Cb A g) (Cb.le (A:=A) (g:=g)),HP.many [bU,bU]]) us.length ⟨0,by omega,rfl,rfl,rfl,rfl⟩ fun m e R H hI=>?_;obtain⟨j,hj,rfl,rfl,rfl,rfl⟩:=hI;refine aB ?_;refine aG rfl (fun uA=>?_) (fun aG9=>?_)
    ·have uA:j < us.length:=by omega
     obtain⟨u,hu⟩:=get_some uA
     have hun:=hum u (List.mem_of_getElem? hu)
     obtain⟨b,off,hB,hz,hc⟩:=hb.2 (by omega)
     have hcu:=hc j (iv (u:Int)) (by simp[aN,dR,hu])
     have iH:(us.take (j+1)).foldl (fun l u=>l.set u true) (l.set i true)=((us.take j).foldl (fun l u=>l.set u true) (l.set i true)).set u true:=by
      rw[List.take_add_one,hu,List.foldl_append];rfl
     have Df:((us.take j).foldl (fun l u=>l.set u true) (l.set i true)).length=g.length:=by rw[aBO,List.length_set];exact hal
     generalize hl3:(us.take j).foldl (fun l u=>l.set u true) (l.set i true)=l3 at iH Df⊢;refine aB ?_;refine kd (dat j (off+j) (hx:=by rw[←hB];rfl)) ?_;refine aA ?_;refine kd (bH rfl (Rd.ro (p:=q) (by simp) hz hcu)) ?_;refine aA ?_;refine kd (dat u u) ?_;refine eO rfl rfl ?_ (hs:=eK.mk 0 rfl cN.h rfl (by simp[bF];omega));dsimp only[List.set];rw[aD4,←iH];refine aB ?_;exact eR (us.length - (j+1)) ⟨j+1,uA,rfl,rfl,rfl,rfl⟩
    ·obtain rfl:j=us.length:=by omega
     rw[List.take_length,←cX];refine aB ?_;refine aT [0,1,2,3,4,5] rfl (by decide) (R':=[R0]) (by simp) ?_;exact eR (g.length - (i+1)) ⟨i+1,hlt,rfl,rfl,rfl,rfl⟩
  ·obtain rfl:i=g.length:=by omega
   subst hl;refine aB ?_;refine aT [1,2,3,4,5,0] rfl (by decide) (fun _ h=>h) ?_;refine aJ 1 1 ?_;refine aJ 0 0 ?_;refine aJ 1 0 ?_;refine aJ 0 1 ?_;refine mS ?_;subst cO;exact mF rfl rfl fun w1 t=>⟨gl,rfl,trivial,t.turns hF (by simp) (i:=0) rfl⟩
 ·dsimp only;refine aB ?_;refine aT [1,2,3,4,5,0] rfl (by decide) (fun _ h=>h) ?_;refine aJ 1 1 ?_;refine aJ 0 0 ?_;refine aJ 1 0 ?_;refine aJ 0 1 ?_;refine mS ?_;subst cO;exact mF rfl rfl fun w1 t=>⟨gl,rfl,trivial,t.turns hF (by simp) (i:=0) rfl⟩
end
section
set_option maxHeartbeats 8000000
def Yf(x:eB)(v:Value)(hs:List HP)(_:Piece):Prop:=∃(g1 g2 g3:Nat) (p:HP),v=.agg #[.slice (some ⟨g1,0,none⟩) x.d.length x.d.length,.slice (some ⟨g2,0,none⟩) x.c.length x.c.length,.slice (some ⟨g3,0,none⟩) x.l.length x.l.length]∧hs=[HP.many [HP.aE g1 4 (bF x.d),HP.aE g2 4 (bF x.c),HP.aE g3 4 (bF x.l)],p]
theorem Zc(q:Piece)(s:aC)(A1 A2 A3 A4:Option Addr)(n1 k1 n2 k2 n3 k3 n4 k4:Nat)(Aa:Option Addr)(ca:Nat)(act:List Bool)(w:World)(nA:qO q s A1 n1 A2 n2 A3 n3 A4 n4)(hm:s.made)(hq:q.Le (all w))(hact:aH (all w) 1 Aa act.length (bF act)):
  Cz 108 #[.agg #[.slice A1 n1 k1,.slice A2 n2 k2,.slice A3 n3 k3,.slice A4 n4 k4],.slice Aa act.length ca] w (fun y w'=>(∃v hs q,y=.returned v∧q.w=w'∧Yf (gL s act) v hs q∧fV w hs q)∧Below w.heap.size w w'):=by
 obtain⟨rfl,rfl,rfl,rfl⟩:=nA.len;refine aO func108 ntmps108 ?_;refine yY q (by simp) hq ?_
 have hn9:=hm.nc
 have tZ:=hm.nd
 have sL:=hm.nr
 have qF:=hm.nv
 refine aB ?_;refine bN fun g1=>?_;refine bY fun g2=>?_;refine aB ?_;refine dG (fun w1 st=>aAK s A1 A2 A3 A4 _ k1 _ k2 _ k3 _ k4 w1 (nA.W (st.le (by simp)) (Um hm))) ?_;rw[aAm hm];refine aJj rfl rfl (by decide) ?_;refine fB ?_;refine aG rfl (fun h=>absurd rfl h) (fun h=>?_)
 ·
  refine nV ?_;refine eJ ?_;refine Ru (fun e R H=>∃ga gb gc gw,e=[(5,pt gw),(4,pt g2),(2,pt g1),(1,.slice Aa act.length ca)]∧R=[q,all w]∧H=[HP.aE gw 55 [.slice (some ⟨ga,0,none⟩) s.domains.length s.domains.length,.slice (some ⟨gb,0,none⟩) s.aF.length s.aF.length,.slice (some ⟨gc,0,none⟩) s.aY.length s.aY.length],HP.aE ga 4 (bF (jK s).d),HP.aE gb 4 (bF (jK s).c),HP.aE gc 4 (bF (jK s).l),HP.aE g2 55 [sn,sn,sn],HP.aE g1 30 [.slice A1 s.aF.length k1,.slice A2 s.domains.length k2,.slice A3 s.aY.length k3,.slice A4 s.aD.length k4]]) ?_ ?_
  ·
   refine qM 14 (by kernel_rfl) (by kernel_rfl) ?_;refine fZ 0 rfl rfl rfl (Du (off:=1) (by kernel_rfl) rfl) ?_;refine fZ 1 rfl rfl rfl (Jg rfl) ?_;refine fZ 2 rfl rfl rfl (Mo (el:=88) (by kernel_rfl) rfl) ?_;refine fZ 4 rfl rfl rfl (Du (off:=0) (by kernel_rfl) rfl) ?_;refine fZ 5 rfl rfl rfl (Jg rfl) ?_;refine fZ 6 rfl rfl rfl (Mo (el:=86) (by kernel_rfl) rfl) ?_;refine fZ 8 rfl rfl rfl (Du (off:=2) (by kernel_rfl) rfl) ?_;refine fZ 9 rfl rfl rfl (Jg rfl) ?_;refine fZ 10 rfl rfl rfl (Mo (el:=90) (by kernel_rfl) rfl) ?_;refine aI3 (fuel:=2) [3,7,11,13] [[3,7,11],[3,7,11,13]] (fun i=>match i with | 3=>⟨19,4,List.replicate s.domains.length (.bool false),fun g=>.slice (some ⟨g,0,none⟩) s.domains.length s.domains.length⟩ | 7=>⟨23,4,List.replicate s.aF.length (.bool false),fun g=>.slice (some ⟨g,0,none⟩) s.aF.length s.aF.length⟩ | 11=>⟨27,4,List.replicate s.aY.length (.bool false),fun g=>.slice (some ⟨g,0,none⟩) s.aY.length s.aY.length⟩ | _=>⟨5,55,[sn,sn,sn],fun g=>pt g⟩) (fun i hi=>?_) (by show[19,23,27,5].Nodup;decide) (by kernel_rfl) (fun _ h=>h) (fun sub hsub hex g=>?_)
   ·simp only[List.mem_cons,List.not_mem_nil,or_false] at hi;rcases hi with rfl | rfl | rfl | rfl
    ·exact Ei.of rfl rfl rfl (Oy 1 (el:=4) (z:=.bool false) (by kernel_rfl) (by kernel_rfl) rfl rfl rfl (by omega) (by omega)) (Nat.le_of_ble_eq_true rfl) rfl
    ·exact Ei.of rfl rfl rfl (Oy 1 (el:=4) (z:=.bool false) (by kernel_rfl) (by kernel_rfl) rfl rfl rfl (by omega) (by omega)) (Nat.le_of_ble_eq_true rfl) rfl
    ·exact Ei.of rfl rfl rfl (Oy 1 (el:=4) (z:=.bool false) (by kernel_rfl) (by kernel_rfl) rfl rfl rfl (by omega) (by omega)) (Nat.le_of_ble_eq_true rfl) rfl
    ·exact Ei.of rfl rfl rfl (aNa (gY (by kernel_rfl))) (Nat.le_of_ble_eq_true rfl) rfl
   have iH:sub=[3,7,11]∨sub=[3,7,11,13]:=by simpa using hex
   have er:∀n:Nat,List.replicate n (Value.bool false)=bF (List.replicate n false):=fun n=>by simp[bF]
   rcases iH with rfl | rfl
   ·dsimp only[rA,vC,lA,List.map,List.foldr,List.cons_append,List.nil_append,List.length_cons,List.length_nil,Nat.reduceAdd,Nat.reduceSub];refine fG 12 rfl rfl rfl (by decide) (kQ (zs:=[sn,sn,sn]) (L:=[(0,1),(1,1),(2,1)]) (gY (by kernel_rfl)) (by kernel_rfl) rfl (by simp[eZ,gD,Value.cells];rfl)) (by kernel_rfl) (fun _ _ _ h=>h) (fun _ h=>h.tail.tail.tail) ?_;refine cJ 13 ?_;refine bY fun g6=>?_;refine gX ?_;refine gQ ?_;refine kL (fun _ h=>h.tail.tail.tail.tail) ?_;refine cJ 14 ?_;refine rR rfl rfl ?_;simp only[fS,Value.cells,List.set,List.take,List.drop,List.nil_append,List.append_nil,List.length_cons,List.length_nil,List.cons_append,Nat.reduceAdd];refine eS ?_;refine kK ?_;refine eJ ?_;exact aT [0,1,2,3,4,5] rfl (by decide) (by simp) (bM [(5,pt g6),(4,pt g2),(2,pt g1),(1,.slice Aa act.length ca)] (Xz ⟨g 3,g 7,g 11,g6,rfl,rfl,by simp only[er,jK]⟩))
   ·dsimp only[rA,vC,lA,List.map,List.foldr,List.cons_append,List.nil_append,List.length_cons,List.length_nil,Nat.reduceAdd,Nat.reduceSub];refine fG 12 rfl rfl rfl (by decide) (kQ (zs:=[sn,sn,sn]) (L:=[(0,1),(1,1),(2,1)]) (gY (by kernel_rfl)) (by kernel_rfl) rfl (by simp[eZ,gD,Value.cells];rfl)) (by kernel_rfl) (fun _ _ _ h=>h) (fun _ h=>h.tail.tail.tail.tail) ?_;refine cJ 14 ?_;refine rR rfl rfl ?_;simp only[fS,Value.cells,List.set,List.take,List.drop,List.nil_append,List.append_nil,List.length_cons,List.length_nil,List.cons_append,Nat.reduceAdd];refine eS ?_;refine kK ?_;refine eJ ?_;exact aT [3,0,1,2,4,5] rfl (by decide) (by simp) (bM [(5,.pointer (some ⟨g 13,0,none⟩)),(4,pt g2),(2,pt g1),(1,.slice Aa act.length ca)] (Xz ⟨g 3,g 7,g 11,g 13,rfl,rfl,by simp only[er,jK]⟩))
  rintro _ _ _ ⟨ga,gb,gc,gw,rfl,rfl,rfl⟩;refine aB ?_;refine bM [(32,iv 0),(31,iv s.aD.length),(30,.slice A4 s.aD.length k4),(5,pt gw),(4,pt g2),(2,pt g1),(1,.slice Aa act.length ca)] ?_;refine aB ?_;refine eT (fun m e R H=>∃(j:Nat),j≤s.aD.length∧m=s.aD.length - j∧e=[(32,iv j),(31,iv s.aD.length),(30,.slice A4 s.aD.length k4),(5,pt gw),(4,pt g2),(2,pt g1),(1,.slice Aa act.length ca)]∧R=[q,all w]∧H=[HP.aE gw 55 [.slice (some ⟨ga,0,none⟩) s.domains.length s.domains.length,.slice (some ⟨gb,0,none⟩) s.aF.length s.aF.length,.slice (some ⟨gc,0,none⟩) s.aY.length s.aY.length],HP.aE ga 4 (bF (nE s act j).d),HP.aE gb 4 (bF (nE s act j).c),HP.aE gc 4 (bF (nE s act j).l),HP.aE g2 55 [sn,sn,sn],HP.aE g1 30 [.slice A1 s.aF.length k1,.slice A2 s.domains.length k2,.slice A3 s.aY.length k3,.slice A4 s.aD.length k4]]) s.aD.length ⟨0,by omega,rfl,rfl,rfl,rfl⟩ fun m e R H hI=>?_;obtain⟨j,hj,rfl,rfl,rfl,rfl⟩:=hI;refine aB ?_;refine aG rfl (fun h=>?_) (fun h=>?_)
  ·
   refine nV ?_;refine eJ ?_;refine eA ?_;refine xN ?_;refine eA ?_
   have hjl:j < s.aD.length:=by have h':(j:Int) < (s.aD.length:Int):=h;omega
   obtain⟨x,hx⟩:∃x,s.aD[j]? =some x:=⟨_,List.getElem?_eq_getElem hjl⟩
   obtain⟨hx1,Fj,hx3,hx4,hx5,hx6,_⟩:=hm.aD j x hx;obtain⟨bV,oV,rV,rfl,hzV,_,hR,Vy⟩:=nA.dev.uU hx;obtain⟨Ar,nr,kr,An,nn,kn,rfl,_⟩:=hR
   have Li:=Zd s act j
   obtain⟨xc,hxc⟩:∃xc:Nat,x.clock=(xc:Int):=⟨x.clock.toNat,by omega⟩
   obtain⟨xd,hxd⟩:∃xd:Nat,x.domain=(xd:Int):=⟨x.domain.toNat,by omega⟩
   obtain⟨xr,hxr⟩:∃xr:Nat,x.reset=(xr:Int):=⟨x.reset.toNat,by omega⟩
   have Fu:hasB act j=true→nE s act (j+1)=⟨uW (Kj s xd) (nE s act j).d,uW ((mE s xc).filter (yE s)) (nE s act j).c,Ab (nE s act j).l (xr:Int) true⟩:=fun ha=>by
    rw[aJG hx ha,Nw,hxd,hxc,hxr];rfl
   rw[hxc,hxd,hxr] at Vy;generalize hwj:nE s act j=wj at *;refine fU ?_;refine dO rfl (by decide) ?_;refine kd (dat (j) (oV+j*6)) ?_;refine xW 6 (by kernel_rfl) rfl (aM.of (vs:=[iv (xc:Int),iv (xd:Int),iv (xr:Int),.int .u32 x.iJ,.slice Ar nr kr,.slice An nn kn]) fun f v hf=>Rd.ro (p:=q) (by simp) hzV (Vy f v hf)) rfl (by decide) ?_;refine bY fun g7=>?_;refine jM rfl (by decide) ?_;refine rR rfl rfl ?_;simp only[fS,Value.cells,List.set,List.take,List.drop,List.nil_append,List.append_nil,List.length_cons,List.length_nil,List.cons_append,Nat.reduceAdd];refine aB ?_;refine dG (fun w1 st=>aCV Aa act.length ca j act w1 (hact.le (st.le (by simp))) rfl (by omega)) ?_;refine aB ?_;refine pF rfl (fun h=>?_) (fun h=>?_)
   ·
    refine aB ?_
    have hno:hasB act j=false:=by simpa using h
    exact aT [1,2,3,4,5,6] rfl (by decide) (by simp) (bM [(32,iv ((j:Int)+1)),(31,iv s.aD.length),(30,.slice (some ⟨bV,oV,none⟩) s.aD.length k4),(5,pt gw),(4,pt g2),(2,pt g1),(1,.slice Aa act.length ca)] (gR (s.aD.length - (j+1)) (by omega) ⟨j+1,by omega,rfl,rfl,rfl,by rw[aJF hno,hwj]⟩))
   ·
    have hyes:hasB act j=true:=by simpa using h
    have Fu:=Fu hyes
    refine aB ?_;refine bM [(8,iv (xd:Int)),(7,pt g7),(32,iv j),(31,iv s.aD.length),(30,.slice (some ⟨bV,oV,none⟩) s.aD.length k4),(5,pt gw),(4,pt g2),(2,pt g1),(1,.slice Aa act.length ca)] ?_;refine aB ?_;refine eT (fun m e R H=>∃(cur:Int) (rest:List Nat) (d:List Bool),m=rest.length∧Yg s cur rest∧d.length=s.domains.length∧uW rest d=uW (Kj s xd) wj.d∧e=[(8,iv cur),(7,pt g7),(32,iv j),(31,iv s.aD.length),(30,.slice (some ⟨bV,oV,none⟩) s.aD.length k4),(5,pt gw),(4,pt g2),(2,pt g1),(1,.slice Aa act.length ca)]∧R=[q,all w]∧H=[HP.aE g7 93 [iv (xc:Int),iv (xd:Int),iv (xr:Int),.int .u32 x.iJ,.slice Ar nr kr,.slice An nn kn],HP.aE gw 55 [.slice (some ⟨ga,0,none⟩) s.domains.length s.domains.length,.slice (some ⟨gb,0,none⟩) s.aF.length s.aF.length,.slice (some ⟨gc,0,none⟩) s.aY.length s.aY.length],HP.aE ga 4 (bF d),HP.aE gb 4 (bF wj.c),HP.aE gc 4 (bF wj.l),HP.aE g2 55 [sn,sn,sn],HP.aE g1 30 [.slice A1 s.aF.length k1,.slice A2 s.domains.length k2,.slice A3 s.aY.length k3,.slice (some ⟨bV,oV,none⟩) s.aD.length k4]]) (Kj s xd).length ⟨_,Kj s xd,wj.d,rfl,aJT hm (by omega),Li.d,rfl,rfl,rfl,rfl⟩ fun m e R H hI=>?_;obtain⟨cur,rest,d,rfl,Ut,lB,hpd,rfl,rfl,rfl⟩:=hI;refine aB ?_;refine aG rfl (fun h=>?_) (fun h=>?_)
    ·
     refine aB ?_
     obtain⟨i,r,rfl⟩:∃i r,rest=i::r:=by
      cases rest with
      | nil=>exact absurd Ut h
      | cons i r=>exact⟨i,r,rfl⟩
     obtain⟨rfl,dm,sM,Ut⟩:=Ut
     have hil:=(List.getElem?_eq_some_iff.1 sM).1
     refine aB ?_;refine rQ 2 rfl (by kernel_rfl) rfl rfl rfl (by rw[aD6];omega) ?_;dsimp only[List.set];rw[aD5,show d.set i true=Ab d (i:Int) true by simp[Ab]];refine fB ?_;obtain⟨bD,oD,rD,rfl,Uq,_,rfl,Mb⟩:=nA.dom.uU sM;refine fU ?_;refine xX (off:=1) (by kernel_rfl) rfl (by decide) ?_;refine Nu rfl ?_;refine dO rfl (by decide) ?_;refine kd (dat (i) (oD+i*3)) ?_;refine xX (off:=0) (by kernel_rfl) rfl (by decide) ?_;refine kW (by kernel_rfl) rfl (Rd.ro (p:=q) (by simp) Uq (Mb 0 _ rfl)) (by decide) ?_;refine jM rfl (by decide) ?_;refine fB ?_;exact bM [(8,iv dm.above),(7,pt g7),(32,iv j),(31,iv s.aD.length),(30,.slice (some ⟨bV,oV,none⟩) s.aD.length k4),(5,pt gw),(4,pt g2),(2,pt g1),(1,.slice Aa act.length ca)] (gR r.length (by simp) ⟨dm.above,r,Ab d (i:Int) true,rfl,Ut,by rw[aBW];exact lB,by rw[←hpd];rfl,rfl,rfl,rfl⟩)
    ·
     refine aB ?_
     obtain rfl:rest=[]:=by
      cases rest with
      | nil=>rfl
      | cons i r=>exact absurd (show cur= -1 from Classical.not_not.1 h) (by have:=Ut.1;omega)
     have hpd:d=uW (Kj s xd) wj.d:=hpd
     refine aB ?_;refine kA [] (Hh (mE s xc)) (fun w1 st=>aAM q s A1 A2 A3 (some ⟨bV,oV,none⟩) _ k1 _ k2 _ k3 _ k4 xc w1 nA hm.wP (st.le (by simp)) (by omega)) ?_;rintro _ w1 qc ⟨Ac,cc,rfl,hsc⟩ hf _ _
     have hsc:=hsc.le hf
     have hcin:=fun i (hi:i∈mE s xc)=>aHI s _ _ i hi
     have jF:(mE s xc).length≤s.aF.length:=aAN s _ _
     clear hf;generalize oZ:mE s xc=ch at *;refine aB ?_;refine bM [(60,iv 0),(59,iv ch.length),(58,.slice Ac ch.length cc),(7,pt g7),(32,iv j),(31,iv s.aD.length),(30,.slice (some ⟨bV,oV,none⟩) s.aD.length k4),(5,pt gw),(4,pt g2),(2,pt g1),(1,.slice Aa act.length ca)] ?_;refine aB ?_;refine eT (fun m e R H=>∃(k:Nat),k≤ch.length∧m=ch.length - k∧e=[(60,iv k),(59,iv ch.length),(58,.slice Ac ch.length cc),(7,pt g7),(32,iv j),(31,iv s.aD.length),(30,.slice (some ⟨bV,oV,none⟩) s.aD.length k4),(5,pt gw),(4,pt g2),(2,pt g1),(1,.slice Aa act.length ca)]∧R=[qc,q,all w]∧H=[HP.aE g7 93 [iv (xc:Int),iv (xd:Int),iv (xr:Int),.int .u32 x.iJ,.slice Ar nr kr,.slice An nn kn],HP.aE gw 55 [.slice (some ⟨ga,0,none⟩) s.domains.length s.domains.length,.slice (some ⟨gb,0,none⟩) s.aF.length s.aF.length,.slice (some ⟨gc,0,none⟩) s.aY.length s.aY.length],HP.aE ga 4 (bF d),HP.aE gb 4 (bF (uW ((ch.take k).filter (yE s)) wj.c)),HP.aE gc 4 (bF wj.l),HP.aE g2 55 [sn,sn,sn],HP.aE g1 30 [.slice A1 s.aF.length k1,.slice A2 s.domains.length k2,.slice A3 s.aY.length k3,.slice (some ⟨bV,oV,none⟩) s.aD.length k4]]) ch.length ⟨0,by omega,rfl,rfl,rfl,rfl⟩ fun m e R H hI=>?_;obtain⟨k,hk,rfl,rfl,rfl,rfl⟩:=hI;refine aB ?_;refine aG rfl (fun h=>?_) (fun h=>?_)
     ·
      refine nV ?_;refine eJ ?_;refine eA ?_;refine xN ?_;refine eA ?_
      have Vh:k < ch.length:=by have h':(k:Int) < (ch.length:Int):=h;omega
      obtain⟨ci,Dj⟩:∃ci,ch[k]? =some ci:=⟨_,List.getElem?_eq_getElem Vh⟩
      have aOc:=hcin ci (List.mem_of_getElem? Dj)
      obtain⟨ck,Bc⟩:∃ck,s.aF[ci]? =some ck:=⟨_,List.getElem?_eq_getElem aOc⟩
      obtain⟨bI,oI,rfl,hzI,hcI⟩:=hsc.2 (by omega);obtain⟨bC,oC,rC,rfl,hzC,_,hR2,hcC⟩:=nA.uG.uU Bc;obtain⟨As,ns,ks,rfl,_⟩:=hR2
      have pP:(ch.take (k+1)).filter (yE s)=(ch.take k).filter (yE s)++(if yE s ci then[ci] else[]):=by
       rw[List.take_add_one,Dj,List.filter_append];cases tV:yE s ci<;>simp[tV]
      have aGs:yE s ci=decide (ck.kind=112∨ck.kind=103):=by unfold yE;rw[Bc]
      have aSI:(uW ((ch.take k).filter (yE s)) wj.c).length=s.aF.length:=by rw[aBX];exact Li.c
      refine fU ?_;refine kd (dat (k) (oI+k)) ?_;refine kW (by kernel_rfl) rfl (Rd.ro (p:=qc) (by simp) hzI (hcI k _ (aM5 Dj))) (by decide) ?_;refine jM rfl (by decide) ?_;refine fB ?_;refine eA ?_;refine fU ?_;refine xX (off:=0) (by kernel_rfl) rfl (by decide) ?_;refine Nu rfl ?_;refine dO rfl (by decide) ?_;refine kd (dat (ci) (oC+ci*6)) ?_;refine xX (off:=0) (by kernel_rfl) rfl (by decide) ?_;refine kW (by kernel_rfl) rfl (Rd.ro (p:=q) (by simp) hzC (hcC 0 _ rfl)) (by decide) ?_;refine jM rfl (by decide) ?_;refine fB ?_;refine aDQ 75 (ck.kind=112∨ck.kind=103) ?_ ?_
      ·skip
       refine aB ?_;refine bX (t:=72) rfl (fun hg=>?_) (fun hg=>?_)
       ·
        refine jL rfl rfl rfl (by decide) ?_;refine jL rfl rfl rfl (by decide) ?_
        (first | refine rU rfl rfl (by decide) ?_ | refine rW rfl rfl (by decide) ?_)
        refine fB ?_;exact aBg
       ·
        refine jC rfl rfl ?_;refine dO rfl (by decide) ?_;refine jC rfl rfl ?_;refine aEB rfl rfl (by decide) ?_
        (first | refine rU rfl rfl (by decide) ?_ | refine rW rfl rfl (by decide) ?_)
        refine fB ?_;exact aBg
      refine aG rfl (fun hkd=>?_) (fun hkd=>?_)
      ·
       refine aB ?_;refine rQ 3 rfl (by kernel_rfl) rfl rfl rfl (by rw[aD6];omega) ?_;dsimp only[List.set];rw[aD5,show(uW ((ch.take k).filter (yE s)) wj.c).set ci true=uW ((ch.take (k+1)).filter (yE s)) wj.c by rw[pP,aGs,decide_eq_true hkd];simp[uW,Ab,List.foldl_append]];refine aB ?_;exact bM [(60,iv ((k:Int)+1)),(59,iv ch.length),(58,.slice (some ⟨bI,oI,none⟩) ch.length cc),(7,pt g7),(32,iv j),(31,iv s.aD.length),(30,.slice (some ⟨bV,oV,none⟩) s.aD.length k4),(5,pt gw),(4,pt g2),(2,pt g1),(1,.slice Aa act.length ca)] (gR (ch.length - (k+1)) (by omega) ⟨k+1,by omega,rfl,rfl,rfl,rfl⟩)
      ·
       refine aB ?_;exact bM [(60,iv ((k:Int)+1)),(59,iv ch.length),(58,.slice (some ⟨bI,oI,none⟩) ch.length cc),(7,pt g7),(32,iv j),(31,iv s.aD.length),(30,.slice (some ⟨bV,oV,none⟩) s.aD.length k4),(5,pt gw),(4,pt g2),(2,pt g1),(1,.slice Aa act.length ca)] (gR (ch.length - (k+1)) (by omega) ⟨k+1,by omega,rfl,rfl,rfl,by rw[pP,aGs,decide_eq_false hkd];simp⟩)
     ·
      refine aB ?_
      have hke:k=ch.length:=by have h':¬(k:Int) < (ch.length:Int):=h;omega
      rw[hke,List.take_length]
      have nQ:=Li.l
      refine aB ?_;refine rQ 4 rfl (by kernel_rfl) rfl rfl rfl (by rw[aD6];omega) ?_;dsimp only[List.set];rw[aD5,show wj.l.set xr true=Ab wj.l (xr:Int) true by simp[Ab]];refine aB ?_;exact aT [1,2,3,4,5,6] rfl (by decide) (R':=[q,all w]) (by simp) (bM [(32,iv ((j:Int)+1)),(31,iv s.aD.length),(30,.slice (some ⟨bV,oV,none⟩) s.aD.length k4),(5,pt gw),(4,pt g2),(2,pt g1),(1,.slice Aa act.length ca)] (gR (s.aD.length - (j+1)) (by omega) ⟨j+1,by omega,rfl,rfl,rfl,by rw[Fu,hpd]⟩))
  ·
   refine aB ?_;refine rR rfl rfl ?_;simp only[fS,Value.cells,List.set,List.take,List.drop,List.nil_append,List.append_nil,List.length_cons,List.length_nil,List.cons_append,Nat.reduceAdd];refine aB ?_
   have hje:j=s.aD.length:=by have h':¬(j:Int) < (s.aD.length:Int):=h;omega
   have Li:=Zd s act j
   have hww:gL s act=nE s act j:=by rw[hje];rfl
   generalize nE s act j=wj at *;refine aT [1,2,3,4] rfl (by decide) (R':=[q,all w]) (by simp) ?_;refine vK ?_;refine dB [] [] [0,1] (by simp) rfl (by decide) (by decide) fun qf _ _ hfr=>?_
   exact Gu rfl (by kernel_rfl) rfl rfl (aM.whole 1 rfl) fun w1 st=>⟨⟨_,_,⟨w1,qf.Z⟩,rfl,rfl,by
    rw[hww]
    exact⟨ga,gb,gc,_,by rw[Li.d,Li.c,Li.l],rfl⟩,st.newR (by simp) (by simp) (hfr (by simp) (by simp))⟩,st.below (by simp)⟩
end
section
def Ia(old l:List Bool)(n:Nat):List Bool:=l.mapIdx fun k b=>if k < n then(b||hasB old k) else b
section
variable{N:cE}{w0:World}{e:Env}{R:List Piece}{H:List HP}{K:Act→World→Prop}{Φ:Piece→Prop}{hm:∀p q:Piece,p.Le q→Φ p→Φ q}{sz n b off:Nat}{A:Option Addr}{xs:List Value}
theorem aDM(i:Nat)(hi:H[i]? =some (HP.bR Φ hm))(Lh:∀p,Φ p→aH p sz A n xs)(hn:0 < n)(k:∀b off,A=some ⟨b,off,none⟩→XK N w0 K e R H):XK N w0 K e R H:=fun a w hr st=>by
 obtain⟨b,off,hA,_⟩:=(Lh _ (st.bR i hi)).2 hn;exact k b off hA a w hr st
theorem aRF(i:Nat)(hi:H[i]? =some (HP.bR Φ hm))(Lh:∀p,Φ p→aH p sz A n xs)(k:∀b off,(0 < n→A=some ⟨b,off,none⟩)→XK N w0 K e R H):XK N w0 K e R H:=by
 rcases Nat.eq_zero_or_pos n with h | h
 ·exact k 0 0 fun h'=>absurd h' (by omega)
 ·exact aDM i hi Lh h fun b off hA=>k b off fun _=>hA
theorem Rd.bR(i:Nat)(hi:H[i]? =some (HP.bR Φ hm))(Lh:∀p,Φ p→aH p sz A n xs)(hA:A=some ⟨b,off,none⟩)(hn:0 < n){j:Nat}{v:Value}(hv:xs[j]? =some v):Rd w0 R H b (off+j) v:=fun w st=>by
 obtain⟨b',off',pR,_,hc⟩:=(Lh _ (st.bR i hi)).2 hn;cases hA.symm.trans pR;exact hc j v hv
end
def gM(s:aC)(c:Cn):List Bool:=Xm (dL s) (dL s).length c
def pL(s:aC)(z:bK):eB:=⟨(gL s (gM s z.cn)).d,(gL s (gM s z.cn)).c,Ia z.wn.l (gL s (gM s z.cn)).l s.aY.length⟩
def yA(s:aC)(z:bK):bK:={z with steps:=allM s z.wn (pL s z),sent:=false,wn:=pL s z}
theorem aBB(s:aC)(act:List Bool):(gL s act).of s:=Zd s act _
theorem aJE(s:aC)(z:bK):(pL s z).of s:=by
 have h:=aBB s (gM s z.cn)
 exact⟨h.d,h.c,by show(List.mapIdx _ _).length=_;rw[List.length_mapIdx];exact h.l⟩
theorem aAc(s:aC):(dL s).length=s.aD.length:=by simp[dL]
section
variable(g h f:Nat)(s:aC)(z:bK)(w:World)(F:Nat→Prop)
theorem Zo(hm:s.made)(hz:z.wn.of s)(hp:(jJ g h f s z).sat F w)(hF:∀b,F b→b < w.heap.size):
  Cz 244 #[pt g] w (Wr (.tuple #[]) (jJ g h f s (yA s z)) w F):=by
 have qF:=hm.nv
 have hnd:=hm.nd
 have hnc:=hm.nc
 have gN:=hm.nr
 have fN:=aAc s
 have hno:∀l∈dL s,(l.length:Int)≤1000:=fun l hl=>by
  obtain⟨i,hi⟩:=List.getElem?_of_mem hl;simp only[dL,List.getElem?_map] at hi;cases hd:s.aD[i]? with
  | none=>rw[hd] at hi;cases hi
  | some d=>
   rw[hd] at hi;cases hi
   have:=(hm.aD i d hd).2.2.2.2.2.2.2.2.2.2.1
   show((d.iX.length:Nat):Int)≤1000
   omega
 have ho:fL (dL s)=(0,List.range (dL s).length):=by rw[fN];exact(aCx hm).2.2
 have hal:(gM s z.cn).length=(dL s).length:=aR7 _ _ _
 refine cS func244 ntmps244 hp hF ?_;generalize cO:(⟨w,fun b=>b < w.heap.size∧¬F b⟩:Piece)=R0;refine iT 0 fun L=>?_;refine aX 0 0 ?_;refine aX 1 4 ?_;refine aX 2 3 ?_;refine mS ?_;refine aX 2 1 ?_;refine aX 3 2 ?_;refine aT [2,0,1,3,4] rfl (by decide) (fun _ h=>h) ?_
 change XK _ _ _ _ _ [Kc L.gc L.gm L.nd.1 L.nd.2 (dL s) z.cn,HP.bR (tA L z.wn) _,HP.bR (lS L s) _,_,_]
 generalize hM:HP.many [bU,bU,bU,bU,bU,HP.bR (nC L z.steps) (nC.le (L:=L) (l:=z.steps))]=M;refine eA ?_;refine aBn (fun e R H=>∃gt ga gb gc:Nat,e=[(2,pt gt),(0,pt g)]∧R=[R0]∧H=[HP.aE gt 55 [.slice (some ⟨ga,0,none⟩) (gL s (gM s z.cn)).d.length (gL s (gM s z.cn)).d.length,.slice (some ⟨gb,0,none⟩) (gL s (gM s z.cn)).c.length (gL s (gM s z.cn)).c.length,.slice (some ⟨gc,0,none⟩) (gL s (gM s z.cn)).l.length (gL s (gM s z.cn)).l.length],HP.many [HP.aE ga 4 (bF (gL s (gM s z.cn)).d),HP.aE gb 4 (bF (gL s (gM s z.cn)).c),HP.aE gc 4 (bF (gL s (gM s z.cn)).l)],Kc L.gc L.gm L.nd.1 L.nd.2 (dL s) z.cn,HP.bR (tA L z.wn) (tA.le (L:=L) (x:=z.wn)),HP.bR (lS L s) (lS.le (L:=L) (s:=s)),HP.aE g 190 (lK h f L s z),M]) ?_ ?_
 ·refine Gv [1,2,3,5,6,7] ?_;refine bJ 0 ?_ (hsub:=fun _ h=>h.bL);refine aK 1 ?_ (hsub:=fun _ h=>h.bL);refine aK 2 ?_ (hsub:=fun _ h=>h.bL);refine aK 3 ?_ (hi:=rfl) (cK:=jN rfl (aM.mid (vs:=[_,_,_,_]) 3 rfl rfl)) (hsub:=fun _ h=>h.bL);refine bJ 4 ?_ (hsub:=fun _ h=>h.bL);refine aK 5 ?_ (hsub:=fun _ h=>h.bL);refine aK 6 ?_ (hsub:=fun _ h=>h.bL);refine aK 7 ?_ (hsub:=fun _ h=>h.bL);refine zC 8 10 rfl rfl (by kernel_rfl) ?_ ?_
  ·refine vS (α:=Nat) 0 (f:=246) (fi:=[]) (ca:=[]) (fun b=>.slice (some ⟨b,0,none⟩) (dL s).length (dL s).length) (fun b=>HP.many [Kc L.gc L.gm L.nd.1 L.nd.2 (dL s) z.cn,HP.aE b 4 (bF (gM s z.cn))]) (fun _=>True) (by kernel_rfl) rfl rfl rfl (by decide) (fun w1 F1 t h1 h2 h3=>aHA L.gc L.gm L.nd.1 L.nd.2 (dL s) z.cn _ rfl (by omega) hno ho w1 F1 h1 h2) ?_;rintro b _;dsimp only[List.set];refine bA ?_ (hS:=fun _ h=>h.bL);refine zC 9 10 rfl rfl (by kernel_rfl) ?_ ?_
   ·refine aX 0 1 ?_
    refine dS (Yf (gL s (gM s z.cn))) (fun w1 t=>by
     have h1:=t.uS (i:=0) (sz:=1) (n:=(gM s z.cn).length) rfl (by simp[bF])
     have:=Zc (all w1) s L.a1.1 L.a2.1 L.a3.1 L.a4.1 _ L.a1.2 _ L.a2.2 _ L.a3.2 _ L.a4.2 (some ⟨b,0,none⟩) (dL s).length (gM s z.cn) w1 (t.bR 3 rfl) hm (Piece.Le.refl _) h1
     rw[hal] at this
     exact this) ?_
    rintro _ _ q ⟨ga,gb,gc,px,rfl,rfl⟩ _;dsimp only[List.cons_append,List.nil_append];refine bA ?_ (hS:=fun _ h=>h.bB.tail.tail.tail.bL);refine aL 10 ?_;refine bY fun gt=>?_;refine bA ?_ (hS:=fun _ h=>h.bB.tail.tail.tail.tail.bL);refine aL 11 ?_;refine lP 0 rfl ?_;dsimp only[List.set];refine bA ?_ (hS:=fun _ h=>h.bB.tail.tail.tail.tail.bL);refine dX ?_;refine eJ ?_;refine aX 4 0 ?_;refine aT [1,2,0,6,7,8,9] rfl (by decide) (R':=[R0]) (by simp) ?_;exact nL ⟨gt,ga,gb,gc,rfl,rfl,rfl⟩
   ·refine bY fun gt=>?_;refine bA ?_ (hS:=fun _ h=>h.tail.bL);refine aL 9 ?_;refine aX 1 1 ?_
    refine dS (Yf (gL s (gM s z.cn))) (fun w1 t=>by
     have h1:=t.uS (i:=0) (sz:=1) (n:=(gM s z.cn).length) rfl (by simp[bF])
     have:=Zc (all w1) s L.a1.1 L.a2.1 L.a3.1 L.a4.1 _ L.a1.2 _ L.a2.2 _ L.a3.2 _ L.a4.2 (some ⟨b,0,none⟩) (dL s).length (gM s z.cn) w1 (t.bR 4 rfl) hm (Piece.Le.refl _) h1
     rw[hal] at this
     exact this) ?_
    rintro _ _ q ⟨ga,gb,gc,px,rfl,rfl⟩ _;dsimp only[List.cons_append,List.nil_append];refine bA ?_ (hS:=fun _ h=>h.bB.tail.tail.tail.tail.bL);refine aL 11 ?_;refine lP 3 rfl ?_;dsimp only[List.set];refine bA ?_ (hS:=fun _ h=>h.bB.tail.tail.tail.tail.bL);refine dX ?_;refine eJ ?_;refine aX 4 0 ?_;refine aT [4,1,0,6,7,8,9] rfl (by decide) (R':=[R0]) (by simp) ?_;exact nL ⟨gt,ga,gb,gc,rfl,rfl,rfl⟩
  ·refine bY fun gt=>?_;refine bA ?_ (hS:=fun _ h=>h.tail.bL);refine aL 8 ?_;refine vS (α:=Nat) 1 (f:=246) (fi:=[]) (ca:=[]) (fun b=>.slice (some ⟨b,0,none⟩) (dL s).length (dL s).length) (fun b=>HP.many [Kc L.gc L.gm L.nd.1 L.nd.2 (dL s) z.cn,HP.aE b 4 (bF (gM s z.cn))]) (fun _=>True) (by kernel_rfl) rfl rfl rfl (by decide) (fun w1 F1 t h1 h2 h3=>aHA L.gc L.gm L.nd.1 L.nd.2 (dL s) z.cn _ rfl (by omega) hno ho w1 F1 h1 h2) ?_;rintro b _;dsimp only[List.set];refine bA ?_ (hS:=fun _ h=>h.tail.bL);refine aL 9 ?_;refine aX 1 1 ?_
   refine dS (Yf (gL s (gM s z.cn))) (fun w1 t=>by
    have h1:=t.uS (i:=0) (sz:=1) (n:=(gM s z.cn).length) rfl (by simp[bF])
    have:=Zc (all w1) s L.a1.1 L.a2.1 L.a3.1 L.a4.1 _ L.a1.2 _ L.a2.2 _ L.a3.2 _ L.a4.2 (some ⟨b,0,none⟩) (dL s).length (gM s z.cn) w1 (t.bR 4 rfl) hm (Piece.Le.refl _) h1
    rw[hal] at this
    exact this) ?_
   rintro _ _ q ⟨ga,gb,gc,px,rfl,rfl⟩ _;dsimp only[List.cons_append,List.nil_append];refine bA ?_ (hS:=fun _ h=>h.bB.tail.tail.tail.tail.bL);refine aL 11 ?_;refine lP 3 rfl ?_;dsimp only[List.set];refine bA ?_ (hS:=fun _ h=>h.bB.tail.tail.tail.tail.bL);refine dX ?_;refine eJ ?_;refine aX 4 0 ?_;refine aT [4,1,0,6,7,8,9] rfl (by decide) (R':=[R0]) (by simp) ?_;exact nL ⟨gt,ga,gb,gc,rfl,rfl,rfl⟩
 rintro _ _ _ ⟨gt,ga,gb,gc,rfl,rfl,rfl⟩
 have nQ:(gL s (gM s z.cn)).l.length=(pL s z).l.length:=by
  show _=(List.mapIdx _ _).length
  rw[List.length_mapIdx]
 have wS:(gL s (gM s z.cn)).l.length=s.aY.length:=(aBB s _).l
 have hzl:=hz.l
 rw[nQ]
 have aS5:(pL s z).l.length=s.aY.length:=by rw[←nQ];exact wS
 refine aX 1 2 ?_;refine aX 2 1 ?_;refine aX 3 0 ?_;refine aT [0,1,2,3,4,5,6,7,8,9] rfl (by decide) (fun _ h=>h) ?_;refine aA ?_
 have Dm:Ia z.wn.l (gL s (gM s z.cn)).l 0=(gL s (gM s z.cn)).l:=Ou _ _
 refine bM [(21,iv 0),(20,iv z.wn.l.length),(19,.slice L.w3.1 z.wn.l.length L.w3.2),(2,pt gt),(0,pt g)] ?_;refine eT (fun m e R H=>∃i:Nat,i≤z.wn.l.length∧m=z.wn.l.length - i∧e=[(21,iv i),(20,iv z.wn.l.length),(19,.slice L.w3.1 z.wn.l.length L.w3.2),(2,pt gt),(0,pt g)]∧R=[R0]∧H=[HP.aE ga 4 (bF (gL s (gM s z.cn)).d),HP.aE gb 4 (bF (gL s (gM s z.cn)).c),HP.aE gc 4 (bF (Ia z.wn.l (gL s (gM s z.cn)).l i)),HP.aE gt 55 [.slice (some ⟨ga,0,none⟩) (gL s (gM s z.cn)).d.length (gL s (gM s z.cn)).d.length,.slice (some ⟨gb,0,none⟩) (gL s (gM s z.cn)).c.length (gL s (gM s z.cn)).c.length,.slice (some ⟨gc,0,none⟩) (pL s z).l.length (pL s z).l.length],HP.many [bU,bU,bU],Kc L.gc L.gm L.nd.1 L.nd.2 (dL s) z.cn,HP.bR (tA L z.wn) (tA.le (L:=L) (x:=z.wn)),HP.bR (lS L s) (lS.le (L:=L) (s:=s)),HP.aE g 190 (lK h f L s z),M]) z.wn.l.length ⟨0,by omega,rfl,rfl,rfl,by rw[Dm]⟩ fun m e R H hI=>?_;obtain⟨i,hi,rfl,rfl,rfl,rfl⟩:=hI;refine aA ?_;refine aG rfl (fun hlt=>?_) (fun hge=>?_)
 ·have hlt:i < z.wn.l.length:=by omega
  obtain⟨b,hb⟩:=get_some hlt;obtain⟨c,hc⟩:=get_some (l:=(gL s (gM s z.cn)).l) (i:=i) (by omega)
  have eY:(Ia z.wn.l (gL s (gM s z.cn)).l i)[i]? =some c:=Ow hc
  have hstep:(Ia z.wn.l (gL s (gM s z.cn)).l i).set i (c||hasB z.wn.l i)=Ia z.wn.l (gL s (gM s z.cn)).l (i+1):=Ov (f:=fun k b=>b||hasB z.wn.l k) hc
  have hbB:hasB z.wn.l i=b:=by show z.wn.l[i]?.getD false=b;rw[hb];rfl
  rw[hbB] at hstep
  have fM:(Ia z.wn.l (gL s (gM s z.cn)).l i).length=s.aY.length:=by rw[Ia,List.length_mapIdx];exact wS
  refine aDM (A:=L.w3.1) (sz:=1) (n:=z.wn.l.length) (xs:=bF z.wn.l) 6 rfl (fun _ h=>h.2.2) (by omega) fun wb aJ7 hwA=>?_
  have hbc:(bF z.wn.l)[i]? =some (.bool b):=by simp[bF,hb]
  refine aA ?_;refine kd (dat i (aJ7+i) (hx:=by rw[←hwA];rfl)) ?_;refine kd (bH rfl (Rd.bR 6 rfl (fun _ h=>h.2.2) hwA (by omega) hbc)) ?_;refine aA ?_;cases b
  ·rw[Bool.or_false,wK eY] at hstep;rw[hstep];refine aA ?_;exact eR (z.wn.l.length - (i+1)) ⟨i+1,hlt,rfl,rfl,rfl,rfl⟩
  ·rw[Bool.or_true] at hstep;refine aA ?_;refine kd (dat i i) ?_;refine eO rfl rfl ?_ (hs:=eK.mk 2 rfl cN.h rfl (by simp[bF];omega));dsimp only[List.set];rw[aD4,hstep];refine aA ?_;exact eR (z.wn.l.length - (i+1)) ⟨i+1,hlt,rfl,rfl,rfl,rfl⟩
 obtain rfl:i=z.wn.l.length:=by omega
 rw[hzl];refine aA ?_;refine iZ [3,4,5,7,8,9,10] ?_;refine bJ 0 ?_;refine bJ 1 ?_;refine bJ 2 ?_;refine aK 3 ?_;refine aK 4 ?_;refine aK 5 ?_ (hi:=rfl) (cK:=jN rfl (aM.mid (vs:=[_,_,_,_]) 8 rfl rfl));refine bJ 6 ?_;refine aK 7 ?_;refine aK 8 ?_;refine aK 9 ?_ (hi:=rfl) (cK:=jN rfl (aM.mid (vs:=[_,_,_]) 8 rfl rfl));refine aK 10 ?_;refine aL 11 ?_;refine kA [] (aI9 (allM s z.wn (pL s z))) (fun w1 t=>aKp (q:=all w1) (qx:=all w1) (qy:=all w1) (t.bR 7 rfl) hm (Piece.Le.refl _) (x:=z.wn) (y:=pL s z) ⟨L.w1.1,L.w1.2,L.w2.1,L.w2.2,L.w3.1,L.w3.2,rfl,t.bR 6 rfl⟩ (Piece.Le.refl _) ⟨_,_,_,_,_,_,rfl,t.uS (i:=0) rfl (by simp[bF,pL]),t.uS (i:=1) rfl (by simp[bF,pL]),t.uS (i:=2) rfl (by simp[bF,pL])⟩ (Piece.Le.refl _)) ?_;rintro _ w1 q ⟨As,cs,rfl,hs,hsc⟩ hf _ hfr
 have hs:=hs.le hf
 refine cG ?_;refine aL 12 ?_;refine bE ?_;refine cG ?_;refine aL 13 ?_;refine bE ?_;refine cG ?_;refine aL 14 ?_;refine eO rfl rfl ?_ (hs:=eK.mk 8 rfl cN.h rfl (of_decide_eq_true rfl));dsimp only[List.set];refine cG ?_;refine aL 15 ?_;refine bE ?_;refine cG ?_;refine aL 16 ?_;refine bE ?_;refine cG ?_;refine aL 17 ?_;refine eO rfl rfl ?_ (hs:=eK.mk 8 rfl cN.h rfl (of_decide_eq_true rfl));dsimp only[List.set];refine cG ?_;refine dX ?_
 refine Jq (Φ:=nC {L with st:=(As,cs)} (allM s z.wn (pL s z))) (hm:=nC.le) (hfr (by simp)) (fun p hp b hb=>by
  simp at hp;subst hp;rw[←cO] at hb
  exact hb.1) ⟨hs,hsc⟩ ?_
 refine aA ?_;refine Cw 9 rfl ?_;dsimp only[List.set];refine aA ?_;obtain⟨L',hL'⟩:∃L':dK,L'={L with w1:=(some ⟨ga,0,none⟩,(gL s (gM s z.cn)).d.length),w2:=(some ⟨gb,0,none⟩,(gL s (gM s z.cn)).c.length),w3:=(some ⟨gc,0,none⟩,(pL s z).l.length),st:=(As,cs)}:=⟨_,rfl⟩
 refine aT [1,2,3,0,6,8,9] rfl (by decide) (fun _ h=>h) ?_;refine vK ?_;refine oJ (q:=HP.bR (tA L' (pL s z)) (tA.le (L:=L') (x:=pL s z))) 0 rfl (fun F w hs=>?_) ?_
 ·obtain⟨G,k1,k2,_⟩:=hs;subst hL';exact⟨qP (c:=0) (k1 0 _ rfl) (fun b hb=>k2 0 b hb) (by simp[bF,pL]),qP (c:=0) (k1 1 _ rfl) (fun b hb=>k2 1 b hb) (by simp[bF,pL]),qP (c:=0) (k1 2 _ rfl) (fun b hb=>k2 2 b hb) (by simp[bF,pL])⟩
 dsimp only[List.set];refine aX 2 0 ?_;refine aX 3 1 ?_;refine aT [6,5,2,1,0,3] rfl (by decide) (fun _ h=>h) ?_;refine mS ?_;refine qK ?_;refine qK ?_;refine qK ?_;refine qK ?_;refine uK 0 (f:=fun L:dK=>gA g h f L s (yA s z)) L' (by subst hL';rfl) ?_;dsimp only[List.set];subst cO;exact fA 0 hF
end
end
section
theorem pI{w0:World}{R:List Piece}{H:List HP}{g h f:Nat}{L:dK}{s:aC}{z:bK}(i:Nat){o:Nat}{v:Value}(hi:H[i]? =some (gA g h f L s z))(hv:(lK h f L s z)[o]? =some v):Rd w0 R H g o v:=fun w st=>by
 have:=(st.aBR i hi).r0.at_ hv
 rw[Nat.zero_add] at this;exact this.2
def T3(j:Nat):Prop:=j=0∨j=1∨j=2
theorem Ey{h f:Nat}{L:dK}{s:aC}{z:bK}{j k:Nat}{v:Value}(hj:T3 j)(hv:(tkC (z.tk j))[k]? =some v):(lK h f L s z)[10+13*j+k]? =some v:=by
 have hk:k < 13:=by
  have:=(List.getElem?_eq_some_iff.1 hv).1
  simpa[tkC] using this
 have hk2:k=0∨k=1∨k=2∨k=3∨k=4∨k=5∨k=6∨k=7∨k=8∨k=9∨k=10∨k=11∨k=12:=by omega
 rcases hj with rfl | rfl | rfl<;>rcases hk2 with rfl | rfl | rfl | rfl | rfl | rfl | rfl | rfl | rfl | rfl | rfl | rfl | rfl<;>exact hv
theorem Zg{t:rK}{i:Nat}(hi:i < 6):(tkC t)[7+i]? =some (iv (hG t i)):=by
 have h2:i=0∨i=1∨i=2∨i=3∨i=4∨i=5:=by omega
 rcases h2 with rfl | rfl | rfl | rfl | rfl | rfl<;>rfl
theorem aGN{t:rK}{i k:Nat}{v:Int}(hl:t.hs.length=6)(hi:i < 6):hG {t with hs:=t.hs.set i v} k=if i=k then v else hG t k:=by
 show(t.hs.set i v).getD k 0=_
 rw[List.getD_eq_getElem?_getD,List.getElem?_set];split
 ·rename_i e
  subst e;rw[if_pos (by omega)];rfl
 ·show _=t.hs.getD k 0
  rw[List.getD_eq_getElem?_getD]
theorem aFu{h f:Nat}{L:dK}{s:aC}{z:bK}{j i:Nat}{v:Int}(hj:T3 j)(hi:i < 6)(hl:(z.tk j).hs.length=6):(lK h f L s z).set (10+13*j+7+i) (iv v)=lK h f L s (z.jR j {z.tk j with hs:=(z.tk j).hs.set i v}):=by
 have hs:=fun k=>aGN (t:=z.tk j) (k:=k) (v:=v) hl hi
 have h2:i=0∨i=1∨i=2∨i=3∨i=4∨i=5:=by omega
 rcases hj with rfl | rfl | rfl<;>rcases h2 with rfl | rfl | rfl | rfl | rfl | rfl<;>simp[lK,bK.jR,bK.tk] at hs⊢ <;>simp[hs]
theorem aBT{h f:Nat}{L:dK}{s:aC}{z:bK}:(lK h f L s z).length=55:=rfl
structure aEn(t:rK):Prop where
 len:t.hs.length=6
 bd:∀i,0≤hG t i∧hG t i≤1000000
def qT(t:rK)(i:Nat)(k:Int):rK:={t with hs:=t.hs.set i (hG t i+k)}
def Mg(s:aC)(z:bK)(j:Nat):Int×bK:=if(rE (dL s).length z.cn (z.tk j).dev).1≠0 then((rE (dL s).length z.cn (z.tk j).dev).1,z) else(0,yA s {z.jR j (qT (z.tk j) (z.tk j).dev.toNat 1) with cn:=(rE (dL s).length z.cn (z.tk j).dev).2})
def Kx(s:aC)(z:bK)(j:Nat):Int×bK:=if bZ s.aD.length (z.tk j).dev=false then(4,z) else if hG (z.tk j) (z.tk j).dev.toNat=0 then(6,z) else if(uF (dL s).length z.cn (z.tk j).dev).1≠0 then((uF (dL s).length z.cn (z.tk j).dev).1,z) else(0,yA s {z.jR j (qT (z.tk j) (z.tk j).dev.toNat (-1)) with cn:=(uF (dL s).length z.cn (z.tk j).dev).2})
def Kn(s:aC)(z:bK):Int×bK:=if(xI z.cn).1≠0 then((xI z.cn).1,z) else(0,yA s {z with cn:=(xI z.cn).2})
def Kw(s:aC)(z:bK):Int×bK:=if(xJ z.cn).1≠0 then((xJ z.cn).1,z) else(0,yA s {z with cn:=(xJ z.cn).2})
theorem aQD{n:Nat}{c:Cn}{d:Int}(h:(rE n c d).1≠0):(rE n c d).2=c:=by
 unfold rE at h⊢
 repeat' split
 all_goals first | rfl | (simp_all;done)
theorem aHJ{n:Nat}{c:Cn}{d:Int}(h:(rE n c d).1=0):0≤d∧d < n:=by
 unfold rE at h;split at h
 ·simp at h
 ·split at h
  ·simp at h
  ·rename_i h1
   exact Decidable.not_not.1 h1
theorem aQb{n:Nat}{c:Cn}{d:Int}(h:(uF n c d).1≠0):(uF n c d).2=c:=by
 unfold uF at h⊢
 repeat' split
 all_goals first | rfl | (simp_all;done)
theorem aPZ{c:Cn}(h:(xI c).1≠0):(xI c).2=c:=by
 unfold xI at h⊢;split
 ·rfl
 ·simp_all
theorem aQa{c:Cn}(h:(xJ c).1≠0):(xJ c).2=c:=by
 unfold xJ at h⊢;split
 ·simp_all
 ·rfl
section
variable(g h f:Nat)(s:aC)(z:bK)(w:World)(F:Nat→Prop)
theorem aKZ(hm:s.made)(hz:z.wn.of s)(a:Value)(hp:(jJ g h f s z).sat F w)(hF:∀b,F b→b < w.heap.size):
  Cz 271 #[.agg #[],pt g,a] w (Wr (iv (Kn s z).1) (jJ g h f s (Kn s z).2) w F):=by
 unfold Kn;refine cS func271 ntmps271 hp hF ?_;refine aA ?_;refine bN fun g1=>?_;refine aA ?_;refine iT 1 fun L=>?_;refine kd (bH rfl (pI 1 rfl rfl)) ?_;refine aX 1 3 ?_;refine bT 0 (qR L.gc L.gm (.slice L.nd.1 (dL s).length L.nd.2) (xI z.cn).2) (fun w1 F1 t h1 h2 h3=>aQe L.gc L.gm (dL s).length L.nd.2 L.nd.1 z.cn w1 F1 h1 h2) ?_;refine aA ?_;refine aG rfl (fun he=>?_) (fun he=>?_)
 ·rw[if_pos he,aPZ he];refine aA ?_;refine aJ 1 3 ?_;refine cP 1 (fun L:dK=>gA g h f L s z) L ?_;exact bO 1 hF
 ·rw[if_neg he];refine aJ 1 3 ?_;refine cP 1 (fun L:dK=>gA g h f L s {z with cn:=(xI z.cn).2}) L ?_;refine aA ?_;refine bT 1 (jJ g h f s (yA s {z with cn:=(xI z.cn).2})) (fun w1 F1 t h1 h2 h3=>Zo g h f s _ w1 F1 hm hz h1 h2) ?_;refine aA ?_;exact bO 1 hF
theorem aLc(hm:s.made)(hz:z.wn.of s)(a:Value)(hp:(jJ g h f s z).sat F w)(hF:∀b,F b→b < w.heap.size):
  Cz 273 #[.agg #[],pt g,a] w (Wr (iv (Kw s z).1) (jJ g h f s (Kw s z).2) w F):=by
 unfold Kw;refine cS func273 ntmps273 hp hF ?_;refine aA ?_;refine bN fun g1=>?_;refine aA ?_;refine iT 1 fun L=>?_;refine kd (bH rfl (pI 1 rfl rfl)) ?_;refine aX 1 3 ?_;refine bT 0 (qR L.gc L.gm (.slice L.nd.1 (dL s).length L.nd.2) (xJ z.cn).2) (fun w1 F1 t h1 h2 h3=>aQf L.gc L.gm (dL s).length L.nd.2 L.nd.1 z.cn w1 F1 h1 h2) ?_;refine aA ?_;refine aG rfl (fun he=>?_) (fun he=>?_)
 ·rw[if_pos he,aQa he];refine aA ?_;refine aJ 1 3 ?_;refine cP 1 (fun L:dK=>gA g h f L s z) L ?_;exact bO 1 hF
 ·rw[if_neg he];refine aJ 1 3 ?_;refine cP 1 (fun L:dK=>gA g h f L s {z with cn:=(xJ z.cn).2}) L ?_;refine aA ?_;refine bT 1 (jJ g h f s (yA s {z with cn:=(xJ z.cn).2})) (fun w1 F1 t h1 h2 h3=>Zo g h f s _ w1 F1 hm hz h1 h2) ?_;refine aA ?_;exact bO 1 hF
theorem aLg(hm:s.made)(hz:z.wn.of s)(j:Nat)(hj:T3 j)(hk:aEn (z.tk j))(hp:(jJ g h f s z).sat F w)(hF:∀b,F b→b < w.heap.size):
  Cz 242 #[.agg #[],pt g,.pointer (some ⟨g,10+13*j,none⟩)] w (Wr (iv (Mg s z j).1) (jJ g h f s (Mg s z j).2) w F):=by
 have qF:=hm.nv
 have fN:=aAc s
 have hj2:j≤2:=by rcases hj with rfl | rfl | rfl<;>decide
 unfold Mg;refine cS func242 ntmps242 hp hF ?_;refine aA ?_;refine bN fun g1=>?_;refine aA ?_;refine iT 1 fun L=>?_;refine kd (bH rfl (pI 1 rfl (Ey (k:=2) hj rfl))) ?_;refine aA ?_;refine kd (bH rfl (pI 1 rfl rfl)) ?_;refine aX 1 3 ?_;refine aA ?_;refine bT 0 (qR L.gc L.gm (.slice L.nd.1 (dL s).length L.nd.2) (rE (dL s).length z.cn (z.tk j).dev).2) (fun w1 F1 t h1 h2 h3=>aQi L.gc L.gm (dL s).length L.nd.2 L.nd.1 z.cn w1 F1 (z.tk j).dev h1 h2) ?_;refine aA ?_;refine aG rfl (fun he=>?_) (fun he=>?_)
 ·rw[if_pos he,aQD he];refine aA ?_;refine aJ 1 3 ?_;refine cP 1 (fun L:dK=>gA g h f L s z) L ?_;exact bO 1 hF
 ·rw[if_neg he];obtain⟨hd0,dD⟩:=aHJ (Decidable.not_not.1 he);obtain⟨dv,Bm⟩:∃n:Nat,(z.tk j).dev=(n:Int):=⟨(z.tk j).dev.toNat,by omega⟩
  have Bb:dv < 6:=by omega
  have hb0:=hk.bd dv
  refine aJ 1 3 ?_;refine aX 1 0 ?_;generalize mZ:(rE (dL s).length z.cn (z.tk j).dev).2=c2
  have hcell:(lK h f L s z)[10+13*j+7+dv]? =some (iv (hG (z.tk j) dv)):=by
   rw[Nat.add_assoc];exact Ey hj (Zg Bb)
  have lZ:qT (z.tk j) (z.tk j).dev.toNat (1)={z.tk j with hs:=(z.tk j).hs.set dv (hG (z.tk j) dv+1)}:=by
   unfold qT;rw[show(z.tk j).dev.toNat=dv by omega]
   all_goals rfl
  have lF:=aFu (h:=h) (f:=f) (L:=L) (s:=s) (z:=z) (i:=dv) (v:=hG (z.tk j) dv+1) hj Bb hk.len
  rw[lZ];refine aA ?_;refine iZ [2,3,4,5,6,7,8] ?_;refine bJ 0 ?_;refine bJ 1 ?_;refine aK 2 ?_;refine aK 3 ?_;refine aK 4 ?_ (hi:=rfl) (cK:=fF dv (10+13*j+7+dv) (hj:=Bm) (hlt:=Bb) (ho:=by omega));refine aK 5 ?_ (hi:=rfl) (cK:=bH rfl (Rd.aE 0 rfl hcell));refine aK 6 ?_;refine aK 7 ?_;refine aK 8 ?_;refine aL 9 ?_;refine kd (fF dv (10+13*j+7+dv) (hj:=Bm) (hlt:=Bb) (ho:=by omega)) ?_;refine cG ?_;refine aL 10 ?_;refine eO rfl rfl ?_ (hs:=eK.mk 0 rfl cN.h rfl (by rw[aBT];omega));dsimp only[List.set];rw[lF];refine cG ?_;refine dX ?_;refine aJ 1 0 ?_;refine cP 1 (fun L:dK=>gA g h f L s {z.jR j {z.tk j with hs:=(z.tk j).hs.set dv (hG (z.tk j) dv+1)} with cn:=c2}) L ?_;refine aA ?_;refine bT 1 (jJ g h f s (yA s {z.jR j {z.tk j with hs:=(z.tk j).hs.set dv (hG (z.tk j) dv+1)} with cn:=c2})) (fun w1 F1 t h1 h2 h3=>Zo g h f s _ w1 F1 hm hz h1 h2) ?_;refine aA ?_;exact bO 1 hF
theorem aLd(hm:s.made)(hz:z.wn.of s)(j:Nat)(hj:T3 j)(hk:aEn (z.tk j))(hp:(jJ g h f s z).sat F w)(hF:∀b,F b→b < w.heap.size):
  Cz 262 #[.agg #[],pt g,.pointer (some ⟨g,10+13*j,none⟩)] w (Wr (iv (Kx s z j).1) (jJ g h f s (Kx s z j).2) w F):=by
 have qF:=hm.nv
 have fN:=aAc s
 have hj2:j≤2:=by rcases hj with rfl | rfl | rfl<;>decide
 unfold Kx;refine cS func262 ntmps262 hp hF ?_;refine aA ?_;refine bN fun g1=>?_;refine aA ?_;refine iT 1 fun L=>?_;refine kd (bH rfl (pI 1 rfl (Ey (k:=2) hj rfl))) ?_;refine aA ?_;refine aQ (fun w1 t=>aLi g h f L s z w1 (z.tk j).dev (t.aBR 1 rfl)) ?_;cases hin:bZ s.aD.length (z.tk j).dev
 ·refine aA ?_;refine cP 1 (fun L:dK=>gA g h f L s z) L ?_;exact bO 1 hF
 have Pv:=of_decide_eq_true hin
 obtain⟨dv,Bm⟩:∃n:Nat,(z.tk j).dev=(n:Int):=⟨(z.tk j).dev.toNat,by omega⟩
 have Bb:dv < 6:=by omega
 have hb0:=hk.bd dv
 have aOd:(lK h f L s z)[10+13*j+7+dv]? =some (iv (hG (z.tk j) dv)):=by
  rw[Nat.add_assoc];exact Ey hj (Zg Bb)
 rw[if_neg (by simp)];refine aA ?_;refine kd (fF dv (10+13*j+7+dv) (hj:=Bm) (hlt:=Bb) (ho:=by omega)) ?_;refine kd (bH rfl (pI 1 rfl aOd)) ?_;refine aA ?_
 have Pg:(z.tk j).dev.toNat=dv:=by omega
 refine aG rfl (fun h0=>?_) (fun h0=>?_)
 ·rw[if_pos (by rw[Pg];exact h0)];refine aA ?_;refine cP 1 (fun L:dK=>gA g h f L s z) L ?_;exact bO 1 hF
 rw[if_neg (by rw[Pg];exact h0)];refine aA ?_;refine kd (bH rfl (pI 1 rfl rfl)) ?_;refine aX 1 3 ?_;refine aA ?_;refine bT 0 (qR L.gc L.gm (.slice L.nd.1 (dL s).length L.nd.2) (uF (dL s).length z.cn (z.tk j).dev).2) (fun w1 F1 t h1 h2 h3=>aQg L.gc L.gm (dL s).length L.nd.2 L.nd.1 z.cn w1 F1 (z.tk j).dev h1 h2) ?_;refine aA ?_;refine aG rfl (fun he=>?_) (fun he=>?_)
 ·rw[if_pos he,aQb he];refine aA ?_;refine aJ 1 3 ?_;refine cP 1 (fun L:dK=>gA g h f L s z) L ?_;exact bO 1 hF
 ·rw[if_neg he];refine aJ 1 3 ?_;refine aX 1 0 ?_;generalize mZ:(uF (dL s).length z.cn (z.tk j).dev).2=c2
  have hcell:(lK h f L s z)[10+13*j+7+dv]? =some (iv (hG (z.tk j) dv)):=by
   rw[Nat.add_assoc];exact Ey hj (Zg Bb)
  have lZ:qT (z.tk j) (z.tk j).dev.toNat (-1)={z.tk j with hs:=(z.tk j).hs.set dv (hG (z.tk j) dv - 1)}:=by
   unfold qT;rw[show(z.tk j).dev.toNat=dv by omega]
   all_goals rfl
  have lF:=aFu (h:=h) (f:=f) (L:=L) (s:=s) (z:=z) (i:=dv) (v:=hG (z.tk j) dv - 1) hj Bb hk.len
  rw[lZ];refine aA ?_;refine iZ [2,3,4,5,6,7,8] ?_;refine bJ 0 ?_;refine bJ 1 ?_;refine aK 2 ?_;refine aK 3 ?_;refine aK 4 ?_ (hi:=rfl) (cK:=fF dv (10+13*j+7+dv) (hj:=Bm) (hlt:=Bb) (ho:=by omega));refine aK 5 ?_ (hi:=rfl) (cK:=bH rfl (Rd.aE 0 rfl hcell));refine aK 6 ?_;refine aK 7 ?_;refine aK 8 ?_;refine aL 9 ?_;refine kd (fF dv (10+13*j+7+dv) (hj:=Bm) (hlt:=Bb) (ho:=by omega)) ?_;refine cG ?_;refine aL 10 ?_;refine eO rfl rfl ?_ (hs:=eK.mk 0 rfl cN.h rfl (by rw[aBT];omega));dsimp only[List.set];rw[lF];refine cG ?_;refine dX ?_;refine aJ 1 0 ?_;refine cP 1 (fun L:dK=>gA g h f L s {z.jR j {z.tk j with hs:=(z.tk j).hs.set dv (hG (z.tk j) dv - 1)} with cn:=c2}) L ?_;refine aA ?_;refine bT 1 (jJ g h f s (yA s {z.jR j {z.tk j with hs:=(z.tk j).hs.set dv (hG (z.tk j) dv - 1)} with cn:=c2})) (fun w1 F1 t h1 h2 h3=>Zo g h f s _ w1 F1 hm hz h1 h2) ?_;refine aA ?_;exact bO 1 hF
end
end
section
def aS2(d:cH)(vs:List Value):Prop:=∃A k A' n' k',vs=[iv d.clock,iv d.domain,iv d.reset,.int .u32 d.iJ,.slice A d.aS.length k,.slice A' n' k']
structure aJd(s:aC)(rows:List (List Value)):Prop where
 row:∀(i:Nat) (d:cH),s.aD[i]? =some d→∃r,rows[i]? =some r∧aS2 d r
 len:∀r∈rows,r.length=6
def Hf(L:dK)(s:aC)(rows:List (List Value))(p:Piece):Prop:=lS L s p∧aH p 6 L.a4.1 s.aD.length rows.flatten
theorem Hf.le{L:dK}{s:aC}{rows:List (List Value)}(p q:Piece)(hl:p.Le q)(h:Hf L s rows p):Hf L s rows q:=⟨lS.le p q hl h.1,h.2.le hl⟩
theorem aFy{α:Type}{R:α→List Value→Prop}{sz:Nat}:∀{es:List α} {rs:List (List Value)},Rows R sz es rs→∀(i:Nat) (e:α),es[i]? =some e→∃r,rs[i]? =some r∧r.length=sz∧R e r
 | [],[],_,i,e,h=>by simp at h
 | a::es,r::rs,h,0,e,he=>by
  simp at he;subst he;exact⟨r,rfl,h.1,h.2.1⟩
 | a::es,r::rs,h,i+1,e,he=>aFy h.2.2 i e (by simpa using he)
section
variable{N:cE}{w0:World}{e:Env}{R:List Piece}{H:List HP}{K:Act→World→Prop}{L:dK}{s:aC}
theorem aRL(i:Nat)(hi:H[i]? =some (HP.bR (lS L s) (lS.le (L:=L) (s:=s))))(k:∀rows,aJd s rows→XK N w0 K e R (H.set i (HP.bR (Hf L s rows) (Hf.le (L:=L) (s:=s) (rows:=rows))))):XK N w0 K e R H:=fun a w hr st=>by
 obtain⟨F,h1,hlt,_,hk⟩:=st.chunk hi;obtain⟨rows,dN,fJ,wT⟩:=(h1:lS L s ⟨w,F⟩).dev;refine k rows ⟨fun i d hd=>?_,fun r hr=>Rows.Bv dN r hr⟩ a w hr (hk w F _ (show Hf L s rows ⟨w,F⟩ from⟨h1,wT⟩) ⟨rfl,rfl,rfl,Nat.le_refl _,fun b hb=>⟨.inl hb,hlt b hb⟩,fun _ _ _=>rfl⟩);obtain⟨r,h2,_,A,n,q,A',n',q',h3,h4,_⟩:=aFy dN i d hd;subst h4;exact⟨r,h2,A,q,A',n',q',h3⟩
theorem Rd.dev(i:Nat){rows:List (List Value)}{j k b off:Nat}{r:List Value}{v:Value}{hm:∀p q:Piece,p.Le q→Hf L s rows p→Hf L s rows q}(hi:H[i]? =some (HP.bR (Hf L s rows) hm))(hq:aJd s rows)(hA:L.a4.1=some ⟨b,off,none⟩)(hr:rows[j]? =some r)(hj:j < s.aD.length)(hv:r[k]? =some v):Rd w0 R H b (off+j*6+k) v:=by
 have hk:k < 6:=by
  have h1:=hq.len r (List.mem_of_getElem? hr)
  have:=(List.getElem?_eq_some_iff.1 hv).1
  omega
 have hf:=Qg (fun x=>x) 6 rows hq.len j k r hr hk
 have:=Rd.bR (w0:=w0) (R:=R) (xs:=rows.flatten) (j:=j*6+k) (v:=v) i hi (fun p h=>h.2) hA (by omega) (by simpa[hv] using hf)
 rwa [←Nat.add_assoc] at this
end
theorem aLj(g h f:Nat)(L:dK)(s:aC)(z:bK)(w:World)(d:Int)(hR:dP w g 0 (lK h f L s z)):Cz 263 #[pt g,iv d] w (Rt (.bool (bZ s.aD.length d)) w):=by
 have k5:=hR.at_ (j:=5) rfl
 refine aO func263 ntmps263 ?_;refine aA ?_;refine bX (t:=7) rfl (fun h=>?_) (fun h=>?_)
 ·refine aA ?_;refine iS (by simp) ?_;unfold bZ
  congr 1
  simp;omega
 ·refine aA ?_;refine iS (by simp) ?_
  have:bZ s.aD.length d=false:=decide_eq_false (by omega)
  rw[this]
def Tv(s:aC)(d:Int):Int:=((s.aD[d.toNat]?).map fun d=>(d.aS.length:Int)).getD 0
def Jk(s:aC)(t:rK):Prop:=bZ s.aD.length t.dev=false∨t.cF < 0∨Tv s t.dev≤t.cF
instance(s:aC)(t:rK):Decidable (Jk s t):=by unfold Jk;infer_instance
def Gs(s:aC)(x:aU)(z:bK)(j:Nat)(wr:Bool):Int×bK×aU:=
 if Jk s (z.tk j) then(4,z,x) else if hG (z.tk j) (z.tk j).dev.toNat=0∨z.cn.lR=true then(6,z,x)
 else if wF x (z.tk j).dev.toNat=114 then(0,{z with aZ:=true,id:=x.aZ},Uc x (z.tk j).dev.toNat wr (z.tk j).cF (z.tk j).val) else(6,z,x)
def Jw(g f:Nat)(hL:HL)(s:aC)(z:bK)(x:aU):HP:=HP.many [jJ g hL.h f s z,dM hL s x]
section
variable(g f:Nat)(hL:HL)(s:aC)(z:bK)(x:aU)(w:World)(F:Nat→Prop)
theorem aFv(hm:s.made)(aR:gB hL s)(hok:cT s x)(hw0:∀i:Nat,(x.wt[i]?).join=none)(mM:0≤x.aZ∧x.aZ≤1000000000)(j:Nat)(hj:T3 j)(wr:Bool)(hp:(Jw g f hL s z x).sat F w)(hF:∀b,F b→b < w.heap.size)(cZ:eM ⟨w,fun b=>b < w.heap.size∧¬F b⟩):
  Cz 265 #[.agg #[.bool wr],pt g,.pointer (some ⟨g,10+13*j,none⟩)] w (Wr (iv (Gs s x z j wr).1) (Jw g f hL s (Gs s x z j wr).2.1 (Gs s x z j wr).2.2) w F):=by
 have qF:=hm.nv
 have hH:=hm.dJ
 have hj2:j≤2:=by rcases hj with rfl | rfl | rfl<;>decide
 unfold Gs;refine cS func265 ntmps265 hp hF ?_;generalize cO:(⟨w,fun b=>b < w.heap.size∧¬F b⟩:Piece)=R0 at cZ⊢;refine aX 0 1 ?_;refine aX 1 0 ?_;refine iT 0 fun L=>?_;refine aA ?_;refine bN fun g1=>?_;refine aA ?_;refine kd (jN (vs:=[.int .u8 (z.tk j).kind,iv (z.tk j).dev,iv (z.tk j).cF,.int .u32 (z.tk j).val]) rfl (aM.of fun k v hv=>pI 1 rfl ?_)) ?_
 ·have hk:k < 4:=by simpa using(List.getElem?_eq_some_iff.1 hv).1
  have h2:k=0∨k=1∨k=2∨k=3:=by omega
  have:=Ey (h:=hL.h) (f:=f) (L:=L) (s:=s) (z:=z) (j:=j) (k:=1+k) (v:=v) hj (by rcases h2 with rfl | rfl | rfl | rfl<;>exact hv)
  rwa [←Nat.add_assoc] at this
 refine bY fun g7=>?_;refine aA ?_;refine aX 2 1 ?_;refine aX 3 0 ?_
 have hj7:10+13*j+7 < 55:=by omega
 refine aRL 1 rfl fun rows hq=>?_;dsimp only[List.set];refine aRF (A:=L.a4.1) (sz:=6) (n:=s.aD.length) (xs:=rows.flatten) 1 rfl (fun _ h=>h.2) fun b off hA=>?_;refine aA ?_;refine lJ ?_;refine jD ?_;refine rG (fun w1 t=>aLj g hL.h f L s z w1 (z.tk j).dev (uI (t.aE (i:=0) rfl))) ?_;cases hin:bZ s.aD.length (z.tk j).dev
 ·refine iY ?_;rw[if_pos (show Jk s (z.tk j) from .inl hin)];refine aA ?_;refine oJ (q:=HP.bR (lS L s) (lS.le (L:=L) (s:=s))) 1 rfl (fun F w hs=>hs.1) ?_;dsimp only[List.set];refine aJ 3 0 ?_;refine aJ 2 1 ?_;refine cP 2 (fun L:dK=>gA g hL.h f L s z) L ?_;refine aT [2,3,4] rfl (by decide) (fun _ h=>h) ?_;refine aJ 1 0 ?_;refine aJ 0 1 ?_;subst cO;exact bO 0 hF
 ·have Pv:=of_decide_eq_true hin
  have hA:=hA (by omega)
  obtain⟨dv,Bm⟩:∃n:Nat,(z.tk j).dev=(n:Int):=⟨(z.tk j).dev.toNat,by omega⟩
  have Pg:(z.tk j).dev.toNat=dv:=by omega
  obtain⟨d,dD⟩:=get_some (l:=s.aD) (i:=dv) (by omega)
  have Va:Tv s (z.tk j).dev=d.aS.length:=by
   unfold Tv;rw[Pg,dD];rfl
  obtain⟨r,hr,A,k,A',n',k',rfl⟩:=hq.row dv d dD;refine jD ?_;refine Eb 26 rfl (fun hneg=>?_) (fun hnn=>?_)
  ·refine iY ?_;rw[if_pos (show Jk s (z.tk j) from .inr (.inl hneg))];refine aA ?_;refine oJ (q:=HP.bR (lS L s) (lS.le (L:=L) (s:=s))) 1 rfl (fun F w hs=>hs.1) ?_;dsimp only[List.set];refine aJ 3 0 ?_;refine aJ 2 1 ?_;refine cP 2 (fun L:dK=>gA g hL.h f L s z) L ?_;refine aT [2,3,4] rfl (by decide) (fun _ h=>h) ?_;refine aJ 1 0 ?_;refine aJ 0 1 ?_;subst cO;exact bO 0 hF
  ·refine jD ?_;refine sY (dat dv (off+dv*6) (hx:=by rw[←hA];rfl) (hj:=Bm)) ?_;refine jD ?_;refine sY (bH rfl (Rd.dev 1 rfl hq hA hr (by omega) rfl)) ?_;refine iY ?_;refine aA ?_;refine aG rfl (fun hge=>?_) (fun hlt=>?_)
   ·rw[if_pos (show Jk s (z.tk j) from .inr (.inr (by rw[Va];exact hge)))];refine aA ?_;refine oJ (q:=HP.bR (lS L s) (lS.le (L:=L) (s:=s))) 1 rfl (fun F w hs=>hs.1) ?_;dsimp only[List.set];refine aJ 3 0 ?_;refine aJ 2 1 ?_;refine cP 2 (fun L:dK=>gA g hL.h f L s z) L ?_;refine aT [2,3,4] rfl (by decide) (fun _ h=>h) ?_;refine aJ 1 0 ?_;refine aJ 0 1 ?_;subst cO;exact bO 0 hF
   ·have aNF:¬Jk s (z.tk j):=by
     unfold Jk;rw[hin,Va];rintro(h | h | h)
     ·cases h
     ·exact hnn h
     ·exact hlt h
    have hcell:(lK hL.h f L s z)[10+13*j+7+dv]? =some (iv (hG (z.tk j) dv)):=by
     rw[Nat.add_assoc];exact Ey hj (Zg (by omega))
    rw[if_neg aNF];refine oJ (q:=HP.bR (lS L s) (lS.le (L:=L) (s:=s))) 1 rfl (fun F w hs=>hs.1) ?_;dsimp only[List.set];refine aJ 3 0 ?_;refine aJ 2 1 ?_;refine aA ?_;refine lJ ?_;refine jD ?_;refine sY (fF dv (10+13*j+7+dv) (hj:=Bm) (hlt:=by omega) (ho:=by omega)) ?_;refine sY (bH rfl (pI 2 rfl hcell)) ?_;refine jD ?_;refine Eb 51 rfl (fun h0=>?_) (fun h0=>?_)
    ·refine iY ?_;rw[if_pos (show hG (z.tk j) (z.tk j).dev.toNat=0∨z.cn.lR=true from .inl (by rw[Pg];exact h0))];refine aA ?_;refine cP 2 (fun L:dK=>gA g hL.h f L s z) L ?_;refine aT [2,3,4] rfl (by decide) (fun _ h=>h) ?_;refine aJ 1 0 ?_;refine aJ 0 1 ?_;subst cO;exact bO 0 hF
    ·refine jD ?_;refine sY (bH rfl (pI 2 rfl rfl)) ?_;refine jD ?_;refine rG (fun w1 t=>aQj L.gc z.cn.lR w1 ((t.aBR 2 rfl).cn.at_ (j:=2) rfl)) ?_;cases aSM:z.cn.lR
     ·refine iY ?_;refine aA ?_
      have aSG:=(List.getElem?_eq_some_iff.1 dD).1
      have hrl:=(hm.aD dv d dD).2.2.2.2.2.2.2.2.1
      have Ak:0≤(z.tk j).cF:=by omega
      have dN:(z.tk j).cF < d.aS.length:=by omega
      have hno:¬(hG (z.tk j) dv=0∨false=true):=by
       rintro(h | h)
       ·exact h0 h
       ·cases h
      rw[Pg,if_neg hno];refine aA ?_;refine aQ (fun w1 t=>aQQ (z.tk j).dev (z.tk j).cF ⟨by omega,by omega⟩ ⟨Ak,by omega⟩ w1) ?_;refine aA ?_
      by_cases Bi:wF x dv=114
      ·rw[if_pos Bi];refine aT [3,0,1,2,4] rfl (by decide) (fun _ h=>h) ?_;refine Gv [1,2,3,5,6,7,8,11,12] ?_;refine bJ 0 ?_ (hsub:=fun _ h=>h.bL);refine aK 1 ?_ (hsub:=fun _ h=>h.bL);refine aK 2 ?_ (hsub:=fun _ h=>h.bL);refine aK 3 ?_ (hi:=rfl) (cK:=bH rfl (pI 3 rfl rfl)) (hsub:=fun _ h=>h.bL);refine bJ 4 ?_ (hsub:=fun _ h=>h.bL);refine aK 5 ?_ (hsub:=fun _ h=>h.bL);refine aK 6 ?_ (hsub:=fun _ h=>h.bL);refine aK 7 ?_ (hsub:=fun _ h=>h.bL);refine aK 8 ?_ (hsub:=fun _ h=>h.bL);refine aL 9 ?_
       refine aAq (v:=.tuple #[iv x.aZ,iv 0]) 0 (dM hL s (Uc x dv wr (z.tk j).cF (z.tk j).val)) (fun w1 F1 t h1 h2 h3=>by
        have:=aGF hL s x w1 hH aR hok dv d dD (hw0 dv) qF.2 (z.tk j).cF ⟨Ak,by omega,dN⟩ wr (z.tk j).val mM F1 h1 h2 (eM.le cZ (h3 _ (by simp)))
        rw[if_pos Bi,if_pos Bi,←Bm] at this
        exact this) ?_
       dsimp only[List.set];refine bA ?_ (hS:=fun _ h=>h.bL);refine aL 10 ?_;refine bE ?_;refine bA ?_ (hS:=fun _ h=>h.bL);refine aK 11 ?_ (hsub:=fun _ h=>h.bL);refine aK 12 ?_ (hsub:=fun _ h=>h.bL);refine aL 13 ?_;refine bE ?_;refine bA ?_ (hS:=fun _ h=>h.bL);refine aL 14 ?_;refine bE ?_;refine bA ?_ (hS:=fun _ h=>h.bL);refine dX ?_;refine aT [1,2,3,0,4] rfl (by decide) (fun _ h=>h) ?_;refine aX 2 0 ?_;refine aA ?_;refine eO rfl rfl ?_ (hs:=eK.mk 0 rfl cN.h rfl (of_decide_eq_true rfl));dsimp only[List.set];refine aA ?_;refine eO rfl rfl ?_ (hs:=eK.mk 0 rfl cN.h rfl (of_decide_eq_true rfl));dsimp only[List.set];refine aA ?_;refine aJ 2 0 ?_;refine cP 2 (fun L:dK=>gA g hL.h f L s {z with aZ:=true,id:=x.aZ}) L ?_;refine aT [2,3,4] rfl (by decide) (fun _ h=>h) ?_;refine aJ 1 0 ?_;refine aJ 0 1 ?_;subst cO;exact bO 0 hF
      ·rw[if_neg Bi];refine aT [3,0,1,2,4] rfl (by decide) (fun _ h=>h) ?_;refine Gv [1,2,3,5,6,7,8,11,12] ?_;refine bJ 0 ?_ (hsub:=fun _ h=>h.bL);refine aK 1 ?_ (hsub:=fun _ h=>h.bL);refine aK 2 ?_ (hsub:=fun _ h=>h.bL);refine aK 3 ?_ (hi:=rfl) (cK:=bH rfl (pI 3 rfl rfl)) (hsub:=fun _ h=>h.bL);refine bJ 4 ?_ (hsub:=fun _ h=>h.bL);refine aK 5 ?_ (hsub:=fun _ h=>h.bL);refine aK 6 ?_ (hsub:=fun _ h=>h.bL);refine aK 7 ?_ (hsub:=fun _ h=>h.bL);refine aK 8 ?_ (hsub:=fun _ h=>h.bL);refine aL 9 ?_
       refine aAq (v:=.tuple #[iv 0,iv 6]) 0 (dM hL s x) (fun w1 F1 t h1 h2 h3=>by
        have:=aGF hL s x w1 hH aR hok dv d dD (hw0 dv) qF.2 (z.tk j).cF ⟨Ak,by omega,dN⟩ wr (z.tk j).val mM F1 h1 h2 (eM.le cZ (h3 _ (by simp)))
        rw[if_neg Bi,if_neg Bi,←Bm] at this
        exact this) ?_
       dsimp only[List.set];refine bA ?_ (hS:=fun _ h=>h.bL);refine aL 10 ?_;refine bE ?_;refine bA ?_ (hS:=fun _ h=>h.bL);refine aK 11 ?_ (hsub:=fun _ h=>h.bL);refine aK 12 ?_ (hsub:=fun _ h=>h.bL);refine aL 13 ?_;refine bE ?_;refine bA ?_ (hS:=fun _ h=>h.bL);refine aL 14 ?_;refine bE ?_;refine bA ?_ (hS:=fun _ h=>h.bL);refine dX ?_;refine aT [1,2,3,0,4] rfl (by decide) (fun _ h=>h) ?_;refine aA ?_;refine cP 2 (fun L:dK=>gA g hL.h f L s z) L ?_;refine aT [2,3,4] rfl (by decide) (fun _ h=>h) ?_;refine aJ 1 0 ?_;refine aJ 0 1 ?_;subst cO;exact bO 0 hF
     ·refine iY ?_;rw[if_pos (.inr rfl)];refine aA ?_;refine cP 2 (fun L:dK=>gA g hL.h f L s z) L ?_;refine aT [2,3,4] rfl (by decide) (fun _ h=>h) ?_;refine aJ 1 0 ?_;refine aJ 0 1 ?_;subst cO;exact bO 0 hF
end
end
section
theorem aAB{P:Program}{fn:FuncId}{args:Array Value}{w:World}{p p' q:HP}{v:Value}{F:Nat→Prop}(h:∀F,p.sat F w→(∀b,F b→b < w.heap.size)→Calls P fn args w fun y w'=>y=.returned v∧∃F',p'.sat F' w'∧iD w w' F F')
  (hp:(HP.many [p,q]).sat F w) (hF:∀b,F b→b < w.heap.size):Calls P fn args w fun y w'=>y=.returned v∧∃F',(HP.many [p',q]).sat F' w'∧iD w w' F F':=by
 obtain⟨G,g1,g2,g3⟩:=hp
 have Dd:=g1 0 p rfl
 have Il:=g1 1 q rfl
 refine(h (G 0) Dd fun b hb=>hF b (g2 0 b hb)).mono fun y w' ⟨hy,F',h1,ht⟩=>⟨hy,fun b=>F' b∨G 1 b,⟨fun i=>match i with | 0=>F' | 1=>G 1 | _=>fun _=>False,fun i r hr=>?_,fun i b hb=>?_,fun i j b hij hi hj=>?_⟩,⟨ht.os,ht.tape,ht.output,ht.size,fun b hb=>?_,fun b hb hn=>?_⟩⟩
 ·match i,hr with
  | 0,hr=>cases hr;exact h1
  | 1,hr=>cases hr;exact q.loc _ _ _ Il fun b hb=>ht.old b (hF b (g2 1 b hb)) fun h0=>g3 0 1 b (by decide) h0 hb
  | i+2,hr=>simp at hr
 ·match i,hb with
  | 0,hb=>exact .inl hb
  | 1,hb=>exact .inr hb
  | i+2,hb=>exact hb.elim
 ·have key:∀b,F' b→G 1 b→False:=fun b h0 h2=>by
   rcases(ht.new b h0).1 with h3 | h3
   ·exact g3 0 1 b (by decide) h3 h2
   ·have:=hF b (g2 1 b h2)
    omega
  match i,j,hi,hj with
  | 0,0,_,_=>exact absurd rfl hij
  | 0,1,hi,hj=>exact key b hi hj
  | 1,0,hi,hj=>exact key b hj hi
  | 1,1,_,_=>exact absurd rfl hij
  | i+2,_,hi,_=>exact hi.elim
  | _,j+2,_,hj=>exact hj.elim
 ·rcases hb with hb | hb
  ·refine⟨?_,(ht.new b hb).2⟩;rcases(ht.new b hb).1 with h3 | h3
   ·exact .inl (g2 0 b h3)
   ·exact .inr h3
  ·exact⟨.inl (g2 1 b hb),Nat.lt_of_lt_of_le (hF b (g2 1 b hb)) ht.size⟩
 ·exact ht.old b hb fun h0=>hn (g2 0 b h0)
structure Sd(s:aC)(z:bK):Prop where
 wn:z.wn.of s
 hs:∀j,T3 j→aEn (z.tk j)
structure HwP(s:aC)(x:aU):Prop where
 ok:cT s x
 w0:∀i:Nat,(x.wt[i]?).join=none
 po:0≤x.aZ∧x.aZ≤1000000000
def Ds(s:aC)(x:aU)(z:bK)(j:Nat)(k:Int):Int×bK×aU:=
 if k=103 then((Mg s z j).1,(Mg s z j).2,x) else if k=112 then((Kx s z j).1,(Kx s z j).2,x) else if k=114 then Gs s x z j false else if k=119 then Gs s x z j true else if k=115 then((Kn s z).1,(Kn s z).2,x) else((Kw s z).1,(Kw s z).2,x)
theorem aPe{k:Int}(hk:wR k):∃(tx:TypeId) (u u':Value) (fn:FuncId),Qm k=.iface tx u∧(∀w,(method (Tryz.prog.types.size+Made.depth) tx u "catnap/rpm.begin").run Tryz.prog w=.ok (fn,u') w)∧eW Tryz.prog fn=true∧
  ∀(g f:Nat) (hL:HL) (s:aC) (z:bK) (x:aU) (w:World) (F:Nat→Prop) (j:Nat),s.made→gB hL s→HwP s x→Sd s z→T3 j→(Jw g f hL s z x).sat F w→(∀b,F b→b < w.heap.size)→eM ⟨w,fun b=>b < w.heap.size∧¬F b⟩→
   Cz fn #[u',pt g,.pointer (some ⟨g,10+13*j,none⟩)] w (Wr (iv (Ds s x z j k).1) (Jw g f hL s (Ds s x z j k).2.1 (Ds s x z j k).2.2) w F):=by
 rcases hk with rfl | rfl | rfl | rfl | rfl | rfl
 ·exact⟨_,_,.agg #[],242,rfl,fun w=>by kernel_rfl,(by kernel_rfl),fun g f hL s z x w F j hm aR hx hz hj hp hF _=>aAB (fun F h1 h2=>aLg g hL.h f s z w F hm hz.wn j hj (hz.hs j hj) h1 h2) hp hF⟩
 ·exact⟨_,_,.agg #[],262,rfl,fun w=>by kernel_rfl,(by kernel_rfl),fun g f hL s z x w F j hm aR hx hz hj hp hF _=>aAB (fun F h1 h2=>aLd g hL.h f s z w F hm hz.wn j hj (hz.hs j hj) h1 h2) hp hF⟩
 ·exact⟨_,_,.agg #[.bool false],265,rfl,fun w=>by kernel_rfl,(by kernel_rfl),fun g f hL s z x w F j hm aR hx hz hj hp hF cZ=>aFv g f hL s z x w F hm aR hx.ok hx.w0 hx.po j hj false hp hF cZ⟩
 ·exact⟨_,_,.agg #[.bool true],265,rfl,fun w=>by kernel_rfl,(by kernel_rfl),fun g f hL s z x w F j hm aR hx hz hj hp hF cZ=>aFv g f hL s z x w F hm aR hx.ok hx.w0 hx.po j hj true hp hF cZ⟩
 ·exact⟨_,_,.agg #[],271,rfl,fun w=>by kernel_rfl,(by kernel_rfl),fun g f hL s z x w F j hm aR hx hz hj hp hF _=>aAB (fun F h1 h2=>aKZ g hL.h f s z w F hm hz.wn _ h1 h2) hp hF⟩
 ·exact⟨_,_,.agg #[],273,rfl,fun w=>by kernel_rfl,(by kernel_rfl),fun g f hL s z x w F j hm aR hx hz hj hp hF _=>aAB (fun F h1 h2=>aLc g hL.h f s z w F hm hz.wn _ h1 h2) hp hF⟩
theorem aHn(s:aC)(x:aU)(z:bK)(j:Nat)(k:Int):(Ds s x z j k).2.1.fM=z.fM:=by
 unfold Ds Mg Kx Kn Kw Gs
 repeat' split
 all_goals rfl
theorem aLk{h f:Nat}{L:dK}{s:aC}{z:bK}{j:Nat}{v:Int}(hj:T3 j):(lK h f L s z).set (10+13*j+0) (iv v)=lK h f L s (z.jR j {z.tk j with st:=v}):=by
 rcases hj with rfl | rfl | rfl<;>rfl
def tP(z:bK)(j:Nat):bK:={z.jR j {z.tk j with st:=2} with fM:=(j:Int)}
theorem aMp{z:bK}{j:Nat}(hj:T3 j):(tP z j).tk j={z.tk j with st:=2}:=by
 rcases hj with rfl | rfl | rfl<;>rfl
theorem aMq{s:aC}{z:bK}{j:Nat}(hj:T3 j)(h:Sd s z):Sd s (tP z j):=⟨h.wn,fun i hi=>by
 have h1:=h.hs i hi
 have h2:((tP z j).tk i).hs=(z.tk i).hs:=by
  rcases hj with rfl | rfl | rfl<;>rcases hi with rfl | rfl | rfl<;>rfl
 exact⟨by rw[h2];exact h1.len,fun k=>by
  have:=h1.bd k
  unfold hG at this⊢;rw[h2]
  exact this⟩⟩
def uJ(s:aC)(x:aU)(z:bK)(j:Nat):bK×aU:=
 let r:=Ds s x (tP z j) j (z.tk j).kind
 if r.1≠0 then(pT r.2.1 j r.1 0,r.2.2) else if r.2.1.aZ=false∧r.2.1.steps.length=0 then(pT r.2.1 j 0 0,r.2.2) else r.2
theorem aLm(g f:Nat)(hL:HL)(s:aC)(z:bK)(x:aU)(w:World)(F:Nat→Prop)(j:Nat)(hm:s.made)(aR:gB hL s)(hx:HwP s x)(hz:Sd s z)(hj:T3 j)(hk:wR (z.tk j).kind)(hp:(Jw g f hL s z x).sat F w)(hF:∀b,F b→b < w.heap.size)(cZ:eM ⟨w,fun b=>b < w.heap.size∧¬F b⟩):
  Cz 133 #[pt g,iv (j:Int)] w (Wr (.tuple #[]) (Jw g f hL s (uJ s x z j).1 (uJ s x z j).2) w F):=by
 have hj2:j≤2:=by rcases hj with rfl | rfl | rfl<;>decide
 obtain⟨tx,u,u',fn,hy,hme,hcb,yM⟩:=aPe hk
 have lZ:=aMq hj hz
 have hh:=aHn s x (tP z j) j (z.tk j).kind
 unfold uJ;dsimp only;refine cS func133 ntmps133 hp hF ?_;generalize cO:(⟨w,fun b=>b < w.heap.size∧¬F b⟩:Piece)=R0 at cZ⊢;refine aX 0 0 ?_;refine iT 0 fun L=>?_;refine aX 0 0 ?_;refine aA ?_;refine eO rfl rfl ?_ (hs:=eK.mk 0 rfl cN.h rfl (of_decide_eq_true rfl));dsimp only[List.set];rw[show(lK hL.h f L s z).set (0+49) (iv (j:Int))=lK hL.h f L s {z with fM:=(j:Int)} from rfl];refine aA ?_;refine kd (fF j (10+13*j) (ho:=by omega)) ?_;refine aA ?_;refine eO rfl rfl ?_ (hs:=eK.mk 0 rfl cN.h rfl (by rw[aBT];omega));dsimp only[List.set];rw[aLk hj];refine aJ 0 0 ?_
 change XK _ _ _ _ _ [gA g hL.h f L s (tP z j),HP.many [bU,dM hL s x]]
 refine aA ?_;refine kd (bH rfl (pI 0 rfl (Ey (k:=1) hj rfl))) ?_;rw[aMp hj];refine aQ (fun w1 _=>aBS (z.tk j).kind w1) ?_;rw[hy];refine cP 0 (fun L:dK=>gA g hL.h f L s (tP z j)) L ?_;refine aJ 0 0 ?_;refine aA ?_;generalize hr:Ds s x (tP z j) j (z.tk j).kind=r at hh⊢
 refine aJs 0 (Jw g f hL s r.2.1 r.2.2) hcb rfl hme rfl rfl ⟨by decide,rfl⟩ (fun w1 F1 t h1 h2 h3=>by
  have:=yM g f hL s (tP z j) x w1 F1 j hm aR hx lZ hj h1 h2 (eM.le cZ (h3 _ (by simp)))
  rw[hr] at this
  exact this) ?_
 dsimp only[List.set];obtain⟨er,z2,x2⟩:=r;dsimp only at hh⊢;refine aA ?_;refine aG rfl (fun he=>?_) (fun he=>?_)
 ·rw[if_pos he];refine aA ?_;refine kd (iI rfl) ?_;refine aA ?_;refine aX 0 0 ?_;refine bT 0 (jJ g hL.h f s (pT z2 j er 0)) (fun w1 F1 t h1 h2 h3=>Ku g hL.h f s z2 w1 F1 j hh hj er 0 h1 h2) ?_;refine aJ 0 0 ?_;refine aA ?_;subst cO;exact fA 0 hF
 ·rw[if_neg he];refine aX 0 0 ?_;refine iT 0 fun L2=>?_;refine aA ?_;refine kd (bH rfl (pI 0 rfl rfl)) ?_;cases mM:z2.aZ
  ·refine aA ?_;refine kd (bH rfl (pI 0 rfl rfl)) ?_;refine aA ?_;refine cP 0 (fun L:dK=>gA g hL.h f L s z2) L2 ?_;refine aG rfl (fun hn=>?_) (fun hn=>?_)
   ·rw[if_pos ⟨rfl,Int.ofNat.inj hn⟩];refine aA ?_;refine kd (iI rfl) ?_;refine aA ?_;refine bT 0 (jJ g hL.h f s (pT z2 j 0 0)) (fun w1 F1 t h1 h2 h3=>Ku g hL.h f s z2 w1 F1 j hh hj 0 0 h1 h2) ?_;refine aJ 0 0 ?_;subst cO;exact fA 0 hF
   ·rw[if_neg (fun h=>hn (congrArg Int.ofNat h.2))];refine aA ?_;refine aJ 0 0 ?_;subst cO;exact fA 0 hF
  ·refine aA ?_;rw[if_neg (by simp)];refine cP 0 (fun L:dK=>gA g hL.h f L s z2) L2 ?_;refine aJ 0 0 ?_;subst cO;exact fA 0 hF
end
section
def Gh(k:Int):Value:=
 if k=117 then .func (.func 138) #[] #[] else if k=100∨k=107 then .func (.func 139) #[] #[]
 else if k=99 then .func (.func 140) #[] #[] else if k=111 then .func (.func 141) #[] #[]
 else if k=114 then .func (.func 142) #[] #[] else .func (.func 143) #[] #[]
theorem aHt(k:Int)(w:World):Cz 91 #[.int .u8 k] w (Rt (Gh k) w):=by
 refine aO func91 ntmps91 ?_;refine aA ?_;refine aG rfl (fun h1=>?_) (fun h1=>?_)
 ·refine aA ?_;exact dF (by rw[Gh,if_pos h1])
 refine aA ?_;refine aG rfl (fun h2=>?_) (fun h2=>?_)
 ·refine aA ?_;refine aG rfl (fun _=>?_) (fun h=>absurd h2 h);refine aA ?_;exact dF (by rw[Gh,if_neg h1,if_pos (.inl h2)])
 refine aA ?_;refine aG rfl (fun h3=>?_) (fun h3=>?_)
 ·refine aA ?_;exact dF (by rw[Gh,if_neg h1,if_pos (.inr h3)])
 have h23:¬(k=100∨k=107):=by omega
 refine aA ?_;refine aG rfl (fun h4=>?_) (fun h4=>?_)
 ·refine aA ?_;exact dF (by rw[Gh,if_neg h1,if_neg h23,if_pos h4])
 refine aA ?_;refine aG rfl (fun h5=>?_) (fun h5=>?_)
 ·refine aA ?_;exact dF (by rw[Gh,if_neg h1,if_neg h23,if_neg h4,if_pos h5])
 refine aA ?_;refine aG rfl (fun h6=>?_) (fun h6=>?_)
 ·refine aA ?_;exact dF (by rw[Gh,if_neg h1,if_neg h23,if_neg h4,if_neg h5,if_pos h6])
 refine aA ?_;exact dF (by rw[Gh,if_neg h1,if_neg h23,if_neg h4,if_neg h5,if_neg h6])
theorem aC1{P:Program}{fn:Func}{R:Ending→World→Prop}(hr:fn.results=#[]){t1 t2:Array Value}:∀(ds:List Deferred) (u:FrameMode) (w:World),Leaves P fn t1 R ds u w→Leaves P fn t2 R ds u w
 | [],.returning,w,h=>by
  obtain⟨v,h1,h2⟩:=h;rw[results_none hr] at h1;cases h1;exact⟨_,results_none hr _ _ _,h2⟩
 | [],.panicking _,_,h=>h
 | [],.run,_,h=>h
 | d::ds,u,w,h=>by
  obtain⟨h1,fv,cap,f,args,h2,h3,h4⟩:=h;refine⟨h1,fv,cap,f,args,h2,h3,h4.mono fun y u' w' hy=>?_⟩;cases y with
  | returned v=>exact aC1 hr ds _ _ hy
  | panicked c=>exact aC1 hr ds _ _ hy
  | outgrown=>exact hy
theorem lM{P:Program}{fn:Func}{R:Ending→World→Prop}{c:List PanicEntry}{a:Act}{d:Option Nat}{v:Value}{w:World}(hr:fn.results=#[])(h:bodyPostD P fn R (.panic c) (a.put d v) w):bodyPostD P fn R (.panic c) a w:=by
 have hd:(a.put d v).defers=a.defers:=by cases d<;>rfl
 have h2:Leaves P fn (a.put d v).tmps R (a.put d v).defers (.panicking c) w:=h
 rw[hd] at h2;exact aC1 hr _ _ _ h2
def aEz(f:Nat)(hL:HL)(s:aC)(z:cI)(x:aU)(r:aU×Bool):Prop:=
 ∃fn:FuncId,Gh z.kind=.func (.func fn) #[] #[]∧eW Tryz.prog fn=true∧cT s r.1∧∀(w:World) (F:Nat→Prop),(gJ f hL s z x).sat F w→(∀b,F b→b < w.heap.size)→eM ⟨w,fun b=>b < w.heap.size∧¬F b⟩→
  Cz fn #[pt f,iv z.id] w (Wr (.bool r.2) (gJ f hL s z r.1) w F)
def Gd(s:aC)(z:cI)(r:aU×Bool):cI:=if r.2 then yH s r.1 {z with at_:= -1} z.at_.toNat 0 else z
section
variable(f:Nat)(hL:HL)(s:aC)(z:cI)(x:aU)(w:World)
theorem aO7(hH:s.dJ)(aR:gB hL s)(hok:cT s x)(hz:Eg s z)(a:Nat)(ha:z.at_=(a:Int))(Bf:a < 2)(r:aU×Bool)(hact:aEz f hL s z x r)(Da:tD (kB z a))(F:Nat→Prop)(hp:(gJ f hL s z x).sat F w)(hF:∀b,F b→b < w.heap.size)(cZ:eM ⟨w,fun b=>b < w.heap.size∧¬F b⟩):
  Cz 36 #[pt f] w (Wr (.tuple #[]) (gJ f hL s (Gd s z r) r.1) w F):=by
 obtain⟨fn,cK,hcb,Vd,yM⟩:=hact;refine aBm (vs:=[pt f]) (p:=gJ f hL s z x) func36 rfl ntmps36 (by simp) hp hF ?_;generalize cO:(⟨w,fun b=>b < w.heap.size∧¬F b⟩:Piece)=R0 at cZ⊢;refine aA ?_;refine Yz (f:=89) (fi:=[]) (ca:=[]) rfl ?_;refine aA ?_;refine kd (bH rfl (Hg 0 rfl fun _=>rfl)) ?_;refine aA ?_;refine bX (t:=8) rfl (fun h=>absurd h (by omega)) (fun _=>?_);refine aA ?_;refine iZ [1,2,3,4,8,9,10,11] ?_;refine bJ 0 ?_ (hQ:=fun _ _ _ h=>lM rfl h);refine bJ 6 ?_ (hQ:=fun _ _ _ h=>lM rfl h);refine bJ 7 ?_ (hQ:=fun _ _ _ h=>lM rfl h);refine aK 1 ?_ (hQ:=fun _ _ _ h=>lM rfl h);refine aK 2 ?_ (hQ:=fun _ _ _ h=>lM rfl h);refine aK 3 ?_ (hQ:=fun _ _ _ h=>lM rfl h);refine aK 4 ?_ (hQ:=fun _ _ _ h=>lM rfl h) (cK:=bH rfl (Hg 0 rfl fun _=>rfl));refine aK 8 ?_ (hQ:=fun _ _ _ h=>lM rfl h);refine aK 9 ?_ (hQ:=fun _ _ _ h=>lM rfl h);refine aK 10 ?_ (hQ:=fun _ _ _ h=>lM rfl h);refine aK 11 ?_ (hQ:=fun _ _ _ h=>lM rfl h) (cK:=bH rfl (Hg 0 rfl fun _=>rfl));refine aL 5 ?_;refine aQ (fun w1 t=>aHt z.kind w1) ?_;rw[cK];refine bA ?_;refine aL 12 ?_;refine aAp 0 (fi:=[]) (ca:=[]) (gJ f hL s z r.1) (fun w1 F1 t h1 h2 h3=>by simpa using yM w1 F1 h1 h2 (eM.le cZ (h3 _ (by simp)))) ?_ (hf:=hcb);dsimp only[List.set];refine cG ?_;refine dX ?_;refine aA ?_;obtain⟨x',b⟩:=r;dsimp only at Vd⊢;cases b
 ·refine aA ?_;subst cO;exact Bx (.inr rfl) (by kernel_rfl) Wi rfl fun w1 t=>⟨rfl,t.turns hF (by simp) (i:=0) rfl⟩
 ·refine aA ?_;refine kd (bH rfl (Hg 0 rfl fun _=>rfl)) ?_;refine aA ?_;refine aX 0 0 ?_;refine iT 0 fun L=>?_;refine aX 0 0 ?_;refine eO rfl rfl ?_ (hs:=eK.mk 0 rfl cN.h rfl (by simp[jI]));dsimp only[List.set];rw[show(jI hL.h L s z).set (0+16) (iv (-1))=jI hL.h L s {z with at_:= -1} from rfl];refine aJ 0 0 ?_;refine cP 0 (fun L:fQ=>iG f hL.h L s {z with at_:= -1}) L ?_;refine aJ 0 0 ?_;refine aA ?_;rw[ha];refine bT 0 (gJ f hL s (yH s x' {z with at_:= -1} a 0) x') (fun w1 F1 t h1 h2 h3=>aDg f hL s {z with at_:= -1} x' hH aR Vd a Bf 0 (fun _=>Da) w1 F1 h1 h2) ?_;refine aA ?_
  have hend:Gd s z (x',true)=yH s x' {z with at_:= -1} a 0:=by
   unfold Gd;rw[if_pos rfl,ha];rfl
  rw[hend];subst cO;exact Bx (.inr rfl) (by kernel_rfl) Wi rfl fun w1 t=>⟨rfl,t.turns hF (by simp) (i:=0) rfl⟩
end
end
section
def Ik(s:aC)(d:Int)(k:Nat)(p:dW×fD):dW×fD:=match s.aD[k]? with
 | some dv=>if dv.domain=d then(p.1,if p.2.at_=3 then(oF p.2).2 else if p.2.at_=0 then(sV p.2).2 else p.2) else p
 | none=>p
def mA(s:aC)(x:aU)(d:Int)(n:Nat):List (dW×fD):=x.dv.mapIdx fun k p=>if k < n then Ik s d k p else p
def Zv(s:aC)(x:aU)(d:Int)(k:Nat):Bool:=match s.aD[k]?,x.dv[k]? with
 | some dv,some p=> !decide (dv.domain=d)||decide (p.2.at_=2)
 | _,_=>true
def Lm(s:aC)(x:aU)(d:Int)(n:Nat):Bool:=(List.range n).all (Zv s x d)
theorem aNy(s:aC)(x:aU)(d:Int)(n:Nat):Lm s x d (n+1)=(Lm s x d n&&Zv s x d n):=by simp[Lm,List.range_succ]
theorem aQZ{x:fD}(h:zG x):zG (sV x).2:=by
 unfold sV;split
 ·exact h
 ·exact⟨by show(0:Int)≤1;omega,by show(1:Int)≤3;omega⟩
theorem aC9{s:aC}{x:aU}(hH:s.dJ)(hok:cT s x)(d:Int)(n:Nat):cT s {x with dv:=mA s x d n}:=Ug hH hok (by simp[mA]) fun i e p hd hp=>by
 rw[mA,List.getElem?_mapIdx] at hp;cases hq:x.dv[i]? with
 | none=>rw[hq] at hp;cases hp
 | some q =>
  rw[hq] at hp;obtain⟨h1,h2⟩:=hok.each i e q hd hq;simp only[Option.map_some,Option.some.injEq] at hp;subst hp;split
  ·unfold Ik;rw[hd];dsimp only;split
   ·refine⟨h1,?_⟩;dsimp only;split
    ·exact aGk h2
    ·split
     ·exact aQZ h2
     ·exact h2
   ·exact⟨h1,h2⟩
  ·exact⟨h1,h2⟩
variable(f:Nat)(hL:HL)(s:aC)(z:cI)(x:aU)(w:World)
theorem aOE(hH:s.dJ)(aR:gB hL s)(hok:cT s x)(d:Int)(F:Nat→Prop)(hp:(gJ f hL s z x).sat F w)(hF:∀b,F b→b < w.heap.size)(cZ:eM ⟨w,fun b=>b < w.heap.size∧¬F b⟩):
  Cz 176 #[pt f,iv d] w (Wr (.bool (Lm s x d s.aD.length)) (gJ f hL s z {x with dv:=mA s x d s.aD.length}) w F):=by
 have qF:=hH.t.nv
 have lB:=hok.dv
 refine cS func176 ntmps176 hp hF ?_;generalize cO:(⟨w,fun b=>b < w.heap.size∧¬F b⟩:Piece)=R0 at cZ⊢;refine aX 0 0 ?_;refine iT 0 fun L=>?_;refine aX 1 1 ?_;refine aA ?_;refine kd (bH rfl (Rd.eL 1 rfl rfl)) ?_;refine aA ?_
 have hm0:mA s x d 0=x.dv:=Ou _ _
 refine bM [(15,iv (0)),(14,iv s.aD.length),(13,.slice L.a4.1 s.aD.length L.a4.2),(5,.bool true),(0,pt f),(1,iv d)] ?_;refine eT (fun m e R H=>∃(i:Nat) (b:Bool),i≤s.aD.length∧m=s.aD.length - i∧b=Lm s x d i∧e=[(15,iv (i:Int)),(14,iv s.aD.length),(13,.slice L.a4.1 s.aD.length L.a4.2),(5,.bool b),(0,pt f),(1,iv d)]∧R=[R0]∧H=[dM hL s {x with dv:=mA s x d i},iG f hL.h L s z,HP.many [bU,bU]]) s.aD.length ⟨0,true,by omega,rfl,rfl,rfl,rfl,by rw[hm0]⟩ fun m e R H hI=>?_;obtain⟨i,b0,hi,rfl,hb0,rfl,rfl,rfl⟩:=hI
 have mN:=aC9 hH hok d i
 refine aA ?_;refine aG rfl (fun hlt=>?_) (fun hge=>?_)
 ·have hlt:i < s.aD.length:=by omega
  obtain⟨dv,dD⟩:=get_some hlt;obtain⟨p,gF⟩:=get_some (l:=x.dv) (i:=i) (by omega)
  have kN:(mA s x d i)[i]? =some p:=Ow gF
  have hstep:(mA s x d i).set i (Ik s d i p)=mA s x d (i+1):=Ov (f:=Ik s d) gF
  have cX:=aNy s x d i
  have Vc:Zv s x d i=(!decide (dv.domain=d)||decide (p.2.at_=2)):=by
   unfold Zv;rw[dD,gF]
  rw[Vc,←hb0] at cX;obtain⟨q1,q2⟩:=(mN.each i dv p dD kN).2;refine aIn 1 rfl (by omega) fun b off hA=>?_;refine aA ?_;refine kd (dat i (off+i*6) (hx:=by rw[←hA];rfl)) ?_;refine aE8 6 (aEt dv) rfl (fun w1 t=>aHc (t.Dq 1 rfl) hA dD) ?_;rintro _ ⟨A,n,k,A',n',k',rfl⟩;refine bY fun g1=>?_;refine aA ?_;refine aG rfl (fun he=>?_) (fun he=>?_)
  ·have mY:Ik s d i p=p:=by
    unfold Ik;rw[dD];exact if_neg he
   rw[mY,wK kN] at hstep;rw[hstep];refine aA ?_;refine aT [1,2,3] rfl (by decide) (fun _ h=>h) ?_;refine bM [(15,iv ((i+1:Nat):Int)),(14,iv s.aD.length),(13,.slice L.a4.1 s.aD.length L.a4.2),(5,.bool b0),(0,pt f),(1,iv d)] ?_;exact gR (s.aD.length - (i+1)) (by omega) ⟨i+1,b0,hlt,rfl,by rw[cX,decide_eq_false he];simp,rfl,rfl,rfl⟩
  ·have he:dv.domain=d:=by simpa using he
   rw[decide_eq_true he] at cX
   have hst:wF {x with dv:=mA s x d i} i=oU p.2.at_:=by
    unfold wF;dsimp only;rw[kN];rfl
   have mY:Ik s d i p=(p.1,if p.2.at_=3 then(oF p.2).2 else if p.2.at_=0 then(sV p.2).2 else p.2):=by
    unfold Ik;rw[dD];exact if_pos he
   refine aA ?_;refine kd (bH rfl (Rd.eL 2 rfl rfl)) ?_;refine aA ?_;refine aQ (fun w1 t=>aGD hL s _ w1 aR mN i hlt (cZ.at_ (t.le (by simp))) (t.mB 1 rfl aR mN)) ?_;rw[hst]
   have hq4:p.2.at_=0∨p.2.at_=1∨p.2.at_=2∨p.2.at_=3:=by omega
   rcases hq4 with ha | ha | ha | ha<;>rw[ha] at mY cX⊢ <;>cases b0
   ·rw[show oU 0=114 from rfl];refine aA ?_;refine kd (bH rfl (Rd.eL 2 rfl rfl)) ?_;refine aA ?_;refine vS (α:=Int) 1 (f:=207) (fi:=[]) (ca:=[]) (fun r=>iv r) (fun _=>dM hL s (Gp {x with dv:=mA s x d i} i)) (fun _=>True) (by kernel_rfl) rfl rfl rfl (by decide) (fun w1 F1 t h1 h2 h3=>aGI hL s _ w1 hH aR mN i hlt F1 h1 h2) ?_;rintro _ _;dsimp only[List.set]
    have hX:Gp {x with dv:=mA s x d i} i={x with dv:=mA s x d (i+1)}:=by
     unfold Gp;dsimp only;rw[kN,←hstep,mY];rfl
    rw[hX];refine aA ?_;refine aT [1,2,3] rfl (by decide) (fun _ h=>h) ?_;refine bM [(15,iv ((i+1:Nat):Int)),(14,iv s.aD.length),(13,.slice L.a4.1 s.aD.length L.a4.2),(5,.bool false),(0,pt f),(1,iv d)] ?_;exact gR (s.aD.length - (i+1)) (by omega) ⟨i+1,false,hlt,rfl,by rw[cX];rfl,rfl,rfl,rfl⟩
   ·rw[show oU 0=114 from rfl];refine aA ?_;refine kd (bH rfl (Rd.eL 2 rfl rfl)) ?_;refine aA ?_;refine vS (α:=Int) 1 (f:=207) (fi:=[]) (ca:=[]) (fun r=>iv r) (fun _=>dM hL s (Gp {x with dv:=mA s x d i} i)) (fun _=>True) (by kernel_rfl) rfl rfl rfl (by decide) (fun w1 F1 t h1 h2 h3=>aGI hL s _ w1 hH aR mN i hlt F1 h1 h2) ?_;rintro _ _;dsimp only[List.set]
    have hX:Gp {x with dv:=mA s x d i} i={x with dv:=mA s x d (i+1)}:=by
     unfold Gp;dsimp only;rw[kN,←hstep,mY];rfl
    rw[hX];refine aA ?_;refine aT [1,2,3] rfl (by decide) (fun _ h=>h) ?_;refine bM [(15,iv ((i+1:Nat):Int)),(14,iv s.aD.length),(13,.slice L.a4.1 s.aD.length L.a4.2),(5,.bool false),(0,pt f),(1,iv d)] ?_;exact gR (s.aD.length - (i+1)) (by omega) ⟨i+1,false,hlt,rfl,by rw[cX];rfl,rfl,rfl,rfl⟩
   ·rw[show oU 1=97 from rfl];rw[mY,show(if(1:Int)=3 then(oF p.2).2 else if(1:Int)=0 then(sV p.2).2 else p.2)=p.2 from rfl,wK kN] at hstep;rw[hstep];refine aA ?_;refine aT [1,2,3] rfl (by decide) (fun _ h=>h) ?_;refine bM [(15,iv ((i+1:Nat):Int)),(14,iv s.aD.length),(13,.slice L.a4.1 s.aD.length L.a4.2),(5,.bool false),(0,pt f),(1,iv d)] ?_;exact gR (s.aD.length - (i+1)) (by omega) ⟨i+1,false,hlt,rfl,by rw[cX];rfl,rfl,rfl,rfl⟩
   ·rw[show oU 1=97 from rfl];rw[mY,show(if(1:Int)=3 then(oF p.2).2 else if(1:Int)=0 then(sV p.2).2 else p.2)=p.2 from rfl,wK kN] at hstep;rw[hstep];refine aA ?_;refine aT [1,2,3] rfl (by decide) (fun _ h=>h) ?_;refine bM [(15,iv ((i+1:Nat):Int)),(14,iv s.aD.length),(13,.slice L.a4.1 s.aD.length L.a4.2),(5,.bool false),(0,pt f),(1,iv d)] ?_;exact gR (s.aD.length - (i+1)) (by omega) ⟨i+1,false,hlt,rfl,by rw[cX];rfl,rfl,rfl,rfl⟩
   ·rw[show oU 2=115 from rfl];rw[mY,show(if(2:Int)=3 then(oF p.2).2 else if(2:Int)=0 then(sV p.2).2 else p.2)=p.2 from rfl,wK kN] at hstep;rw[hstep];refine aA ?_;refine aT [1,2,3] rfl (by decide) (fun _ h=>h) ?_;refine bM [(15,iv ((i+1:Nat):Int)),(14,iv s.aD.length),(13,.slice L.a4.1 s.aD.length L.a4.2),(5,.bool false),(0,pt f),(1,iv d)] ?_;exact gR (s.aD.length - (i+1)) (by omega) ⟨i+1,false,hlt,rfl,by rw[cX];rfl,rfl,rfl,rfl⟩
   ·rw[show oU 2=115 from rfl];rw[mY,show(if(2:Int)=3 then(oF p.2).2 else if(2:Int)=0 then(sV p.2).2 else p.2)=p.2 from rfl,wK kN] at hstep;rw[hstep];refine aA ?_;refine aT [1,2,3] rfl (by decide) (fun _ h=>h) ?_;refine bM [(15,iv ((i+1:Nat):Int)),(14,iv s.aD.length),(13,.slice L.a4.1 s.aD.length L.a4.2),(5,.bool true),(0,pt f),(1,iv d)] ?_;exact gR (s.aD.length - (i+1)) (by omega) ⟨i+1,true,hlt,rfl,by rw[cX];rfl,rfl,rfl,rfl⟩
   ·rw[show oU 3=100 from rfl];refine aA ?_;refine kd (bH rfl (Rd.eL 2 rfl rfl)) ?_;refine aA ?_;refine vS (α:=Int) 1 (f:=175) (fi:=[]) (ca:=[]) (fun r=>iv r) (fun _=>dM hL s (yJ {x with dv:=mA s x d i} i)) (fun _=>True) (by kernel_rfl) rfl rfl rfl (by decide) (fun w1 F1 t h1 h2 h3=>aCT hL s _ w1 hH aR mN i hlt F1 h1 h2) ?_;rintro _ _;dsimp only[List.set]
    have hX:yJ {x with dv:=mA s x d i} i={x with dv:=mA s x d (i+1)}:=by
     unfold yJ;dsimp only;rw[kN,←hstep,mY];rfl
    rw[hX];refine aA ?_;refine aT [1,2,3] rfl (by decide) (fun _ h=>h) ?_;refine bM [(15,iv ((i+1:Nat):Int)),(14,iv s.aD.length),(13,.slice L.a4.1 s.aD.length L.a4.2),(5,.bool false),(0,pt f),(1,iv d)] ?_;exact gR (s.aD.length - (i+1)) (by omega) ⟨i+1,false,hlt,rfl,by rw[cX];rfl,rfl,rfl,rfl⟩
   ·rw[show oU 3=100 from rfl];refine aA ?_;refine kd (bH rfl (Rd.eL 2 rfl rfl)) ?_;refine aA ?_;refine vS (α:=Int) 1 (f:=175) (fi:=[]) (ca:=[]) (fun r=>iv r) (fun _=>dM hL s (yJ {x with dv:=mA s x d i} i)) (fun _=>True) (by kernel_rfl) rfl rfl rfl (by decide) (fun w1 F1 t h1 h2 h3=>aCT hL s _ w1 hH aR mN i hlt F1 h1 h2) ?_;rintro _ _;dsimp only[List.set]
    have hX:yJ {x with dv:=mA s x d i} i={x with dv:=mA s x d (i+1)}:=by
     unfold yJ;dsimp only;rw[kN,←hstep,mY];rfl
    rw[hX];refine aA ?_;refine aT [1,2,3] rfl (by decide) (fun _ h=>h) ?_;refine bM [(15,iv ((i+1:Nat):Int)),(14,iv s.aD.length),(13,.slice L.a4.1 s.aD.length L.a4.2),(5,.bool false),(0,pt f),(1,iv d)] ?_;exact gR (s.aD.length - (i+1)) (by omega) ⟨i+1,false,hlt,rfl,by rw[cX];rfl,rfl,rfl,rfl⟩
 obtain rfl:i=s.aD.length:=by omega
 rw[←hb0];refine aA ?_;refine aJ 1 1 ?_;refine cP 0 (fun L:fQ=>iG f hL.h L s z) L ?_;refine aJ 0 0 ?_;subst cO;exact bO 0 hF
theorem aOG(hH:s.dJ)(aR:gB hL s)(hok:cT s x)(c:Int)(F:Nat→Prop)(hp:(gJ f hL s z x).sat F w)(hF:∀b,F b→b < w.heap.size):
  Cz 141 #[pt f,iv c] w (Wr (.bool true) (gJ f hL s z {x with ck:=(lN s x.ck c false).2}) w F):=by
 refine cS func141 ntmps141 hp hF ?_;generalize cO:(⟨w,fun b=>b < w.heap.size∧¬F b⟩:Piece)=R0;refine aX 0 0 ?_;refine iT 0 fun L=>?_;refine aX 1 1 ?_;refine aA ?_;refine kd (bH rfl (Rd.eL 1 rfl rfl)) ?_;refine aA ?_;refine bT 0 (dM hL s {x with ck:=(lN s x.ck c false).2}) (fun w1 F1 t h1 h2 h3=>aGH hL s x w1 hH aR hok c false F1 h1 h2) ?_;refine aA ?_;refine aJ 1 1 ?_;refine cP 0 (fun L:fQ=>iG f hL.h L s z) L ?_;refine aJ 0 0 ?_;subst cO;exact bO 0 hF
def Kz(s:aC)(x:aU)(d:Int)(keep:Bool):aU×Bool:=
 if sA x.dm d=49 then(if Lm s x d s.aD.length then {x with dv:=mA s x d s.aD.length,dm:=(xF s x.dm d keep).2} else {x with dv:=mA s x d s.aD.length},false)
 else if sA x.dm d=48∨sA x.dm d=116 then(x,true) else(x,false)
theorem aGX(hH:s.dJ)(aR:gB hL s)(hok:cT s x)(d:Int)(F:Nat→Prop)(hp:(gJ f hL s z x).sat F w)(hF:∀b,F b→b < w.heap.size)(cZ:eM ⟨w,fun b=>b < w.heap.size∧¬F b⟩):
  Cz 139 #[pt f,iv d] w (Wr (.bool (Kz s x d (decide (z.kind=107))).2) (gJ f hL s z (Kz s x d (decide (z.kind=107))).1) w F):=by
 refine cS func139 ntmps139 hp hF ?_;generalize cO:(⟨w,fun b=>b < w.heap.size∧¬F b⟩:Piece)=R0 at cZ⊢;refine aX 0 0 ?_;refine iT 0 fun L=>?_;refine aX 1 1 ?_;refine aA ?_;refine kd (bH rfl (Rd.eL 1 rfl rfl)) ?_;refine aA ?_;refine aQ (fun w1 t=>aCS hL s x w1 hok.dm d (t.mB 0 rfl aR hok)) ?_;unfold Kz;generalize Db:sA x.dm d=ph
 by_cases Me:ph=49
 ·subst Me;rw[if_pos rfl];refine aJ 1 1 ?_;refine cP 0 (fun L:fQ=>iG f hL.h L s z) L ?_;refine aJ 0 0 ?_;refine aA ?_;refine bT 0 (gJ f hL s z {x with dv:=mA s x d s.aD.length}) (fun w1 F1 t h1 h2 h3=>aOE f hL s z x w1 hH aR hok d F1 h1 h2 (eM.le cZ (h3 _ (by simp)))) ?_
  have mO:=aC9 hH hok d s.aD.length
  cases hb:Lm s x d s.aD.length
  ·refine aA ?_;subst cO;exact bO 0 hF
  ·refine aA ?_;refine aX 0 0 ?_;refine iT 0 fun L2=>?_;refine aX 1 1 ?_;refine iZ [1,2,3,6,7,8,9,10] ?_;refine bJ 0 ?_;refine bJ 4 ?_;refine bJ 5 ?_;refine aK 1 ?_;refine aK 2 ?_;refine aK 3 ?_ (cK:=bH rfl (Rd.eL 1 rfl rfl));refine aK 6 ?_;refine aK 7 ?_;refine aK 8 ?_;refine aK 9 ?_ (cK:=bH rfl (Rd.eL 1 rfl rfl));refine aK 10 ?_;refine aL 11 ?_;refine bT 0 (dM hL s {x with dv:=mA s x d s.aD.length,dm:=(xF s x.dm d (decide (z.kind=107))).2}) (fun w1 F1 t h1 h2 h3=>aNT hL s _ w1 hH aR mO d _ F1 h1 h2) ?_;refine cG ?_;refine dX ?_;refine aA ?_;refine aJ 1 1 ?_;refine cP 0 (fun L:fQ=>iG f hL.h L s z) L2 ?_;refine aJ 0 0 ?_;subst cO;exact bO 0 hF
 ·rw[if_neg Me]
  by_cases h48:ph=48
  ·subst h48;rw[if_pos (.inl rfl)];refine aA ?_;refine aJ 1 1 ?_;refine cP 0 (fun L:fQ=>iG f hL.h L s z) L ?_;refine aJ 0 0 ?_;subst cO;exact bO 0 hF
  by_cases Wf:ph=116
  ·subst Wf;rw[if_pos (.inr rfl)];refine aA ?_;refine aJ 1 1 ?_;refine cP 0 (fun L:fQ=>iG f hL.h L s z) L ?_;refine aJ 0 0 ?_;subst cO;exact bO 0 hF
  rw[if_neg (by omega)];refine aA ?_;refine aG rfl (fun h=>absurd h Me) (fun _=>?_);refine aA ?_;refine aG rfl (fun h=>absurd h h48) (fun _=>?_);refine aA ?_;refine aG rfl (fun h=>absurd h Wf) (fun _=>?_);refine aA ?_;refine aJ 1 1 ?_;refine cP 0 (fun L:fQ=>iG f hL.h L s z) L ?_;refine aJ 0 0 ?_;subst cO;exact bO 0 hF
end
section
def Jj(s:aC)(i:Int)(k:Nat)(p:dW×fD):dW×fD:=match s.aD[k]? with
 | some d=>if d.reset=i then(Dw d p.1,p.2) else p
 | none=>p
def Gm(s:aC)(dv:List (dW×fD))(i:Int)(n:Nat):List (dW×fD):=dv.mapIdx fun k p=>if k < n then Jj s i k p else p
def Jl(s:aC)(x:aU)(i:Int):aU:=if bZ x.ln.length i then {x with ln:=(rF s x.ln i).2,dv:=Gm s x.dv i s.aD.length} else x
theorem aHS{s:aC}{st:List jX}(hH:s.dJ)(h:Ef s st)(i:Int):Ef s (rF s st i).2:=by
 unfold rF;split
 ·exact h
 ·refine⟨by simp[h.len],fun y hy=>?_⟩;rcases List.mem_or_eq_of_mem_set hy with hy | rfl
  ·exact h.left y hy
  ·cases hq:s.aY[i.toNat]? with
   | none=>simp
   | some r=>
    have:=hH.aY r (List.mem_of_getElem? hq)
    simpa using this
theorem aQw{d:cH}{f:dW}(hr:∀r∈d.aS,0≤r.reset∧r.reset≤6)(h:xS d f):xS d (Dw d f):=aH5 108 hr h
theorem aHB{s:aC}{x:aU}(hH:s.dJ)(hok:cT s x)(i:Int)(n:Nat):cT s {x with dv:=Gm s x.dv i n}:=Ug hH hok (by simp[Gm]) fun k d p hd hp=>by
 rw[Gm,List.getElem?_mapIdx] at hp;cases hq:x.dv[k]? with
 | none=>rw[hq] at hp;cases hp
 | some q =>
  rw[hq] at hp;obtain⟨h1,h2⟩:=hok.each k d q hd hq;simp only[Option.map_some,Option.some.injEq] at hp;subst hp;split
  ·unfold Jj;rw[hd];dsimp only;split
   ·exact⟨aQw (hH.t.aD k d hd).2.2.2.2.2.2.2.2.2.1 h1,h2⟩
   ·exact⟨h1,h2⟩
  ·exact⟨h1,h2⟩
theorem aQY{s:aC}{x:aU}(hH:s.dJ)(hok:cT s x)(i:Int):cT s (Jl s x i):=by
 unfold Jl;split
 ·have h:=aHB hH hok i s.aD.length
  exact⟨hok.ck,hok.dm,aHS hH hok.ln i,h.dv,h.each,hok.wt⟩
 ·exact hok
section
variable(L:HL)(s:aC)(x:aU)(w:World)
theorem aNV(hH:s.dJ)(aR:gB L s)(hok:cT s x)(i:Int)(F:Nat→Prop)(hp:(dM L s x).sat F w)(hF:∀b,F b→b < w.heap.size):
  Cz 182 #[.pointer (some ⟨L.h,0,none⟩),iv i] w (Wr (iv (rF s x.ln i).1) (dM L s (Jl s x i)) w F):=by
 have qF:=hH.t.nv
 have hls:=aR.ds
 refine cS func182 ntmps182 hp hF ?_;generalize cO:(⟨w,fun b=>b < w.heap.size∧¬F b⟩:Piece)=R0;refine aA ?_;refine aQ (fun w1 t=>Ba L s x w1 (t.mB 0 rfl aR hok)) ?_;refine aA ?_;refine kd (bH rfl (pJ 0 rfl rfl)) ?_;refine aA ?_;refine aX 0 3 ?_;refine bT 0 (oL L.R s (rF s x.ln i).2) (fun w1 F1 t h1 h2 h3=>aKX L.R s x.ln hok.ln i w1 F1 h1 h2) ?_;refine aJ 0 3 ?_;unfold Jl;cases hin:bZ x.ln.length i
 ·have e:rF s x.ln i=(4,x.ln):=by
   unfold rF;rw[if_pos hin]
  rw[e];refine aA ?_;subst cO;exact bO 0 hF
 ·have e1:(rF s x.ln i).1=0:=by
   unfold rF;rw[if_neg (by simp[hin])]
  rw[e1,if_pos rfl]
  have mO:cT s {x with ln:=(rF s x.ln i).2}:=⟨hok.ck,hok.dm,aHS hH hok.ln i,hok.dv,hok.each,hok.wt⟩
  generalize Df:(rF s x.ln i).2=ln2 at mO⊢
  change XK _ _ _ _ _ [dM L s {x with ln:=ln2}]
  have lB:=hok.dv
  refine aA ?_;refine kd (bH rfl (pJ 0 rfl rfl)) ?_;refine aA ?_
  have hm0:Gm s x.dv i 0=x.dv:=Ou _ _
  refine bM [(25,iv 0),(24,iv s.aD.length),(23,.slice L.A s.aD.length L.c),(1,iv i)] ?_;refine eT (fun m e R H=>∃k:Nat,k≤s.aD.length∧m=s.aD.length - k∧e=[(25,iv k),(24,iv s.aD.length),(23,.slice L.A s.aD.length L.c),(1,iv i)]∧R=[R0]∧H=[dM L s {x with ln:=ln2,dv:=Gm s x.dv i k}]) s.aD.length ⟨0,by omega,rfl,rfl,rfl,by rw[hm0]⟩ fun m e R H hI=>?_;obtain⟨k,hk,rfl,rfl,rfl,rfl⟩:=hI
  have mN:=aHB hH mO i k
  dsimp only at mN;refine aA ?_;refine aG rfl (fun hlt=>?_) (fun hge=>?_)
  ·have hlt:k < s.aD.length:=by omega
   obtain⟨d,dD⟩:=get_some hlt;obtain⟨l,iB⟩:=get_some (l:=L.ds) (i:=k) (by omega);obtain⟨p,gF⟩:=get_some (l:=x.dv) (i:=k) (by omega)
   have kN:(Gm s x.dv i k)[k]? =some p:=Ow gF
   have hstep:(Gm s x.dv i k).set k (Jj s i k p)=Gm s x.dv i (k+1):=Ov (f:=Jj s i) gF
   have hfo:=(mN.each k d p dD kN).1
   refine Mv 0 rfl aR mN (by omega) fun b off hA=>?_;refine aA ?_;refine kd (dat k (off+k*6) (hx:=by rw[←hA];rfl)) ?_;refine kd (jN rfl (aM.dev 0 rfl aR mN hA dD iB rfl)) ?_;refine bY fun g2=>?_;refine aA ?_;refine aG rfl (fun he=>?_) (fun he=>?_)
   ·have mY:Jj s i k p=(Dw d p.1,p.2):=by
     unfold Jj;rw[dD];exact if_pos he
    refine aA ?_;refine Rq 1 k rfl dD iB kN ?_;dsimp only[List.set];refine aX 0 0 ?_;refine bT 0 (gT l.1 d (Dw d p.1)) (fun w1 F1 t h1 h2 h3=>Zt l.1 d p.1 (by have:=(hH.t.aD k d dD).2.2.2.2.2.2.2.2.1;omega) hfo w1 F1 h1 h2) ?_;refine aJ 0 0 ?_;refine Rx 1 k rfl dD iB kN (p':=(Dw d p.1,p.2)) ?_;dsimp only[List.set];rw[←mY,hstep];refine aA ?_;refine aT [1] rfl (by decide) (fun _ h=>h) ?_;exact eR (s.aD.length - (k+1)) ⟨k+1,hlt,rfl,rfl,rfl,rfl⟩
   ·have mY:Jj s i k p=p:=by
     unfold Jj;rw[dD];exact if_neg he
    rw[mY,wK kN] at hstep;rw[hstep];refine aA ?_;refine aT [1] rfl (by decide) (fun _ h=>h) ?_;exact eR (s.aD.length - (k+1)) ⟨k+1,hlt,rfl,rfl,rfl,rfl⟩
  obtain rfl:k=s.aD.length:=by omega
  refine aA ?_;subst cO;exact bO 0 hF
end
theorem aOI(f:Nat)(hL:HL)(s:aC)(z:cI)(x:aU)(w:World)(hH:s.dJ)(aR:gB hL s)(hok:cT s x)(c:Int)(F:Nat→Prop)(hp:(gJ f hL s z x).sat F w)(hF:∀b,F b→b < w.heap.size):
  Cz 143 #[pt f,iv c] w (Wr (.bool true) (gJ f hL s z (Jl s x c)) w F):=by
 refine cS func143 ntmps143 hp hF ?_;generalize cO:(⟨w,fun b=>b < w.heap.size∧¬F b⟩:Piece)=R0;refine aX 0 0 ?_;refine iT 0 fun L=>?_;refine aX 1 1 ?_;refine aA ?_;refine kd (bH rfl (Rd.eL 1 rfl rfl)) ?_;refine aA ?_;refine bT 0 (dM hL s (Jl s x c)) (fun w1 F1 t h1 h2 h3=>aNV hL s x w1 hH aR hok c F1 h1 h2) ?_;refine aA ?_;refine aJ 1 1 ?_;refine cP 0 (fun L:fQ=>iG f hL.h L s z) L ?_;refine aJ 0 0 ?_;subst cO;exact bO 0 hF
end
section
def Jo(s:aC)(x:aU)(k id:Int):aU×Bool:=if k=117 then Ol s x id else if k=99 then Xh s x id.toNat else if k=114 then Of x id else if k=100∨k=107 then Kz s x id (decide (k=107)) else if k=111 then({x with ck:=(lN s x.ck id false).2},true) else if k=97 then(Jl s x id,true) else(x,false)
structure Nj(s:aC)(k id:Int):Prop where
 kd:k=117∨k=99∨k=114∨k=100∨k=107∨k=111∨k=97
 c:k=99→0≤id∧id < (s.aF.length:Int)
theorem aLy{s:aC}{st:List jX}(h:Ef s st)(i:Int):Ef s (wM st i).2:=by
 unfold wM;split
 ·exact h
 ·split
  ·rename_i x hx
   split
   ·exact h
   ·refine⟨by simp[h.len],fun y hy=>?_⟩;rcases List.mem_or_eq_of_mem_set hy with hy | rfl
    ·exact h.left y hy
    ·exact h.left x (List.mem_of_getElem? hx)
  ·exact h
theorem aPq{s:aC}{st:List fW}(h:tI s st)(d:Int)(keep:Bool):tI s (xF s st d keep).2:=by
 unfold xF;split
 ·exact h
 ·split
  ·rename_i c y hc hy
   split
   ·exact h
   ·split
    ·exact h
    ·split
     ·exact h
     ·refine⟨by simp[h.len],fun z hz=>?_,fun z hz=>?_⟩
      ·rcases List.mem_or_eq_of_mem_set hz with hz | rfl
       ·exact h.left z hz
       ·exact h.left y (List.mem_of_getElem? hy)
      ·rcases List.mem_or_eq_of_mem_set hz with hz | rfl
       ·exact h.phase z hz
       ·exact⟨by show(0:Int)≤99;omega,by show(99:Int) < 256;omega⟩
  ·exact h
theorem aLR{s:aC}{x:aU}(hH:s.dJ)(hok:cT s x)(d:Int)(keep:Bool):cT s (Kz s x d keep).1:=by
 have h1:=aC9 hH hok d s.aD.length
 unfold Kz;split
 ·dsimp only;split
  ·exact⟨hok.ck,aPq hok.dm _ _,hok.ln,h1.dv,h1.each,hok.wt⟩
  ·exact h1
 ·split
  ·exact hok
  ·exact hok
theorem aDC{s:aC}{x:aU}(hH:s.dJ)(hok:cT s x)(k id:Int):cT s (Jo s x k id).1:=by
 unfold Jo;split
 ·unfold Ol;split
  ·exact⟨hok.ck,aJU hH hok.dm _,hok.ln,hok.dv,hok.each,hok.wt⟩
  ·split
   ·exact aGl hH hok _ _
   ·exact hok
 ·split
  ·exact⟨aCh hH hok.ck _ _,hok.dm,hok.ln,hok.dv,hok.each,hok.wt⟩
  ·split
   ·unfold Of;split
    ·exact⟨hok.ck,hok.dm,aLy hok.ln _,hok.dv,hok.each,hok.wt⟩
    ·exact hok
   ·split
    ·exact aLR hH hok _ _
    ·split
     ·exact⟨aCh hH hok.ck _ _,hok.dm,hok.ln,hok.dv,hok.each,hok.wt⟩
     ·split
      ·exact aQY hH hok _
      ·exact hok
section
variable(f:Nat)(hL:HL)(s:aC)(z:cI)(x:aU)(w:World)
theorem aIe(hH:s.dJ)(aR:gB hL s)(hok:cT s x)(hk:Nj s z.kind z.id):aEz f hL s z x (Jo s x z.kind z.id):=by
 have mO:=aDC hH hok z.kind z.id
 rcases hk.kd with h | h | h | h | h | h | h
 ·refine⟨_,by rw[h];rfl,(by kernel_rfl),mO,fun w F hp hF cZ=>?_⟩;rw[h];exact aOA f hL s z x w hH aR hok z.id F hp hF cZ
 ·refine⟨_,by rw[h];rfl,(by kernel_rfl),mO,fun w F hp hF cZ=>?_⟩;obtain⟨h0,h1⟩:=hk.c h;obtain⟨c,hc⟩:∃c:Nat,z.id=c:=⟨z.id.toNat,by omega⟩
  rw[h,hc];exact aOF f hL s z x w hH aR hok c (by omega) F hp hF
 ·refine⟨_,by rw[h];rfl,(by kernel_rfl),mO,fun w F hp hF cZ=>?_⟩;rw[h];exact aO9 f hL s z x w hH aR hok z.id F hp hF
 ·refine⟨_,by rw[h];rfl,(by kernel_rfl),mO,fun w F hp hF cZ=>?_⟩
  have:=aGX f hL s z x w hH aR hok z.id F hp hF cZ
  rw[h] at this⊢;exact this
 ·refine⟨_,by rw[h];rfl,(by kernel_rfl),mO,fun w F hp hF cZ=>?_⟩
  have:=aGX f hL s z x w hH aR hok z.id F hp hF cZ
  rw[h] at this⊢;exact this
 ·refine⟨_,by rw[h];rfl,(by kernel_rfl),mO,fun w F hp hF cZ=>?_⟩;rw[h];exact aOG f hL s z x w hH aR hok z.id F hp hF
 ·refine⟨_,by rw[h];rfl,(by kernel_rfl),mO,fun w F hp hF cZ=>?_⟩;rw[h];exact aOI f hL s z x w hH aR hok z.id F hp hF
theorem aO5(z0:cI)(hH:s.dJ)(aR:gB hL s)(hok:cT s x)(hz:Eg s z0)(eY:z0.at_ < 0)(pP:nF s x z0=(z,true))(hst:∀a,sF z0=some a→(gI s x z0 a).2.1=0→(gI s x z0 a).1=0→tD (kB z0 a))(a:Nat)(ha:z.at_=(a:Int))(Bf:a < 2)(r:aU×Bool)(hact:aEz f hL s z x r)(Da:tD (kB z a))(F:Nat→Prop)(hp:(gJ f hL s z0 x).sat F w)(hF:∀b,F b→b < w.heap.size)(cZ:eM ⟨w,fun b=>b < w.heap.size∧¬F b⟩):
  Cz 36 #[pt f] w (Wr (.tuple #[]) (gJ f hL s (Gd s z r) r.1) w F):=by
 obtain⟨fn,cK,hcb,Vd,yM⟩:=hact;refine aBm (vs:=[pt f]) (p:=gJ f hL s z0 x) func36 rfl ntmps36 (by simp) hp hF ?_;generalize cO:(⟨w,fun b=>b < w.heap.size∧¬F b⟩:Piece)=R0 at cZ⊢;refine aA ?_;refine Yz (f:=89) (fi:=[]) (ca:=[]) rfl ?_;refine aA ?_;refine kd (bH rfl (Hg 0 rfl fun _=>rfl)) ?_;refine aA ?_;refine bX (t:=8) rfl (fun _=>?_) (fun h=>absurd eY h);refine aA ?_
 refine bT 0 (gJ f hL s z x) (fun w1 F1 t h1 h2 h3=>by
  have:=aGV f hL s z0 x hH aR hok hz hst w1 F1 h1 h2
  rw[pP] at this
  exact this) ?_
 refine aA ?_;refine iZ [1,2,3,4,8,9,10,11] ?_;refine bJ 0 ?_ (hQ:=fun _ _ _ h=>lM rfl h);refine bJ 6 ?_ (hQ:=fun _ _ _ h=>lM rfl h);refine bJ 7 ?_ (hQ:=fun _ _ _ h=>lM rfl h);refine aK 1 ?_ (hQ:=fun _ _ _ h=>lM rfl h);refine aK 2 ?_ (hQ:=fun _ _ _ h=>lM rfl h);refine aK 3 ?_ (hQ:=fun _ _ _ h=>lM rfl h);refine aK 4 ?_ (hQ:=fun _ _ _ h=>lM rfl h) (cK:=bH rfl (Hg 0 rfl fun _=>rfl));refine aK 8 ?_ (hQ:=fun _ _ _ h=>lM rfl h);refine aK 9 ?_ (hQ:=fun _ _ _ h=>lM rfl h);refine aK 10 ?_ (hQ:=fun _ _ _ h=>lM rfl h);refine aK 11 ?_ (hQ:=fun _ _ _ h=>lM rfl h) (cK:=bH rfl (Hg 0 rfl fun _=>rfl));refine aL 5 ?_;refine aQ (fun w1 t=>aHt z.kind w1) ?_;rw[cK];refine bA ?_;refine aL 12 ?_;refine aAp 0 (fi:=[]) (ca:=[]) (gJ f hL s z r.1) (fun w1 F1 t h1 h2 h3=>by simpa using yM w1 F1 h1 h2 (eM.le cZ (h3 _ (by simp)))) ?_ (hf:=hcb);dsimp only[List.set];refine cG ?_;refine dX ?_;refine aA ?_;obtain⟨x',b⟩:=r;dsimp only at Vd⊢;cases b
 ·refine aA ?_;subst cO;exact Bx (.inr rfl) (by kernel_rfl) Wi rfl fun w1 t=>⟨rfl,t.turns hF (by simp) (i:=0) rfl⟩
 ·refine aA ?_;refine kd (bH rfl (Hg 0 rfl fun _=>rfl)) ?_;refine aA ?_;refine aX 0 0 ?_;refine iT 0 fun L=>?_;refine aX 0 0 ?_;refine eO rfl rfl ?_ (hs:=eK.mk 0 rfl cN.h rfl (by simp[jI]));dsimp only[List.set];rw[show(jI hL.h L s z).set (0+16) (iv (-1))=jI hL.h L s {z with at_:= -1} from rfl];refine aJ 0 0 ?_;refine cP 0 (fun L:fQ=>iG f hL.h L s {z with at_:= -1}) L ?_;refine aJ 0 0 ?_;refine aA ?_;rw[ha];refine bT 0 (gJ f hL s (yH s x' {z with at_:= -1} a 0) x') (fun w1 F1 t h1 h2 h3=>aDg f hL s {z with at_:= -1} x' hH aR Vd a Bf 0 (fun _=>Da) w1 F1 h1 h2) ?_;refine aA ?_
  have hend:Gd s z (x',true)=yH s x' {z with at_:= -1} a 0:=by
   unfold Gd;rw[if_pos rfl,ha];rfl
  rw[hend];subst cO;exact Bx (.inr rfl) (by kernel_rfl) Wi rfl fun w1 t=>⟨rfl,t.turns hF (by simp) (i:=0) rfl⟩
def wD(s:aC)(x:aU)(z:cI):cI×aU:=
 let t:=nF s x z
 let z1:=if z.at_ < 0 then t.1 else z
 if z.at_ < 0∧t.2=false then(t.1,x) else(Gd s z1 (Jo s x z1.kind z1.id),(Jo s x z1.kind z1.id).1)
structure aIB(s:aC)(x:aU)(z:cI):Prop where
 hok:cT s x
 fm:Eg s z
 at_:z.at_ < 0∨(∃a:Nat,z.at_=(a:Int)∧a < 2∧Nj s z.kind z.id∧tD (kB z a))
 ask:z.at_ < 0→∀a,sF z=some a→(gI s x z a).2.1=0→(gI s x z a).1=0→tD (kB z a)
 new:z.at_ < 0→∀a,sF z=some a→(gI s x z a).2.1≠0→Nj s (gI s x z a).2.1 (gI s x z a).2.2∧tD (kB z a)
theorem aFP{z:cI}{a:Nat}(h:z.last=0∨z.last=1)(hn:sF z=some a):a < 2:=by
 unfold sF at hn;split at hn
 ·cases hn;omega
 ·split at hn
  ·cases hn;omega
  ·cases hn
theorem aO6(hH:s.dJ)(aR:gB hL s)(h:aIB s x z)(F:Nat→Prop)(hp:(gJ f hL s z x).sat F w)(hF:∀b,F b→b < w.heap.size)(cZ:eM ⟨w,fun b=>b < w.heap.size∧¬F b⟩):
  Cz 36 #[pt f] w (Wr (.tuple #[]) (gJ f hL s (wD s x z).1 (wD s x z).2) w F):=by
 unfold wD;dsimp only
 by_cases eY:z.at_ < 0
 ·cases pP:(nF s x z).2
  ·rw[if_pos ⟨eY,rfl⟩];exact aO8 f hL s z x hH aR h.hok h.fm (h.ask eY) eY pP w F hp hF
  ·rw[if_neg (by simp),if_pos eY]
   have lZ:nF s x z=((nF s x z).1,true):=Prod.ext rfl pP
   have aOe:∃a,sF z=some a∧(gI s x z a).2.1≠0∧(nF s x z).1=(wC s x z a).1:=by
    unfold nF at pP⊢;cases hn:sF z with
    | none=>rw[hn] at pP;cases pP
    | some a=>
     rw[hn] at pP;refine⟨a,rfl,fun h0=>?_,rfl⟩;unfold wC at pP;dsimp only at pP;rw[if_pos h0] at pP;cases pP
   obtain⟨a,hn,hd,he⟩:=aOe
   have ha:=aFP h.fm.la hn
   obtain⟨hk,Da⟩:=h.new eY a hn hd
   have e:(wC s x z a).1={z with last:=a,x:=lH z.x a (gI s x z a).2.1 (gI s x z a).2.2,y:=lG z.y a (gI s x z a).2.1 (gI s x z a).2.2,at_:=a,kind:=(gI s x z a).2.1,id:=(gI s x z a).2.2}:=by
    unfold wC;dsimp only;rw[if_neg hd]
   rw[e] at he
   have hb:kB (nF s x z).1 a=kB z a:=by rw[he];rfl
   have h1:(nF s x z).1.at_=(a:Int):=by rw[he]
   have h2:(nF s x z).1.kind=(gI s x z a).2.1:=by rw[he]
   have h3:(nF s x z).1.id=(gI s x z a).2.2:=by rw[he]
   exact aO5 f hL s (nF s x z).1 x w z hH aR h.hok h.fm eY lZ (h.ask eY) a h1 ha _ (aIe f hL s (nF s x z).1 x hH aR h.hok (by rw[h2,h3];exact hk)) (by rw[hb];exact Da) F hp hF cZ
 ·rw[if_neg (fun hh=>eY hh.1),if_neg eY];rcases h.at_ with h1 | ⟨a,ha,Bf,hk,Da⟩
  ·exact absurd h1 eY
  ·exact aO7 f hL s z x w hH aR h.hok h.fm a ha Bf _ (aIe f hL s z x hH aR h.hok hk) Da F hp hF cZ
end
end
section
theorem aKr(A:Option Addr)(n c:Nat)(l:List Int)(st:Int)(w:World)(hs:aH (all w) 1 A n (dQ l))(hn:n=l.length)(h2:2≤n)(h1:l[1]? =some st):
  Cz 12 #[.slice A n c] w (Rt (.tuple #[.int .i32 (IntKind.i32.wrap st),iv 0]) w):=by
 subst hn;obtain⟨b,off,rfl,hr⟩:=aH.u32 hs (by omega)
 have k1:=hr 1 st h1
 refine aO func12 ntmps12 ?_;refine aA ?_;refine aG rfl (fun h=>absurd h (by omega)) (fun _=>?_);refine aA ?_;refine kd (dat 1 (off+1)) ?_;refine aA ?_;refine kd (Jh (ds:=.int .u32) (kd:=.i32) (c:=IntKind.i32.wrap st) (by kernel_rfl) (by kernel_rfl) rfl rfl) ?_;refine aA ?_;exact fT rfl rfl rfl fun w1 t=>⟨rfl,t.below (by simp)⟩
end
section
def aEj(g h f:Nat)(s:aC)(z:bK)(y:cI):HP:=HP.many [jJ g h f s z,Cc f h s y]
def vW(p:fC)(k:Int):List Int:=[(iA p.msg 0 p.pr k).1,p.id,p.v]
def Hv(a:List Int):Prop:=IntKind.i32.wrap (a.getD 1 0)=0∨IntKind.i32.wrap (a.getD 1 0)= -3
instance(a:List Int):Decidable (Hv a):=by unfold Hv;infer_instance
def rX(z:bK)(a:List Int):bK:=if Hv a then {z with sent:=false,steps:=z.steps.tail} else {z with sent:=false}
theorem aET{z:bK}{a:List Int}(h:Hv a):rX z a={z with sent:=false,steps:=z.steps.tail}:=if_pos h
theorem aKg{z:bK}{a:List Int}(h:¬Hv a):rX z a={z with sent:=false}:=if_neg h
def sX(z:bK)(y:cI)(j:Nat):bK×cI:=
 if z.sent=true then
  match mK y 0 with
  | none=>(z,lX y 0)
  | some a=>(if(rX z a).steps.length=0 then pT (rX z a) j 0 0 else rX z a,lX y 0)
 else
  match z.steps with
  | []=>(z,y)
  | p::_=>if(jZ y 0 (vW p z.many)).1=0 then({z with sent:=true,many:=(z.many+1) % 1024},(jZ y 0 (vW p z.many)).2) else(z,(jZ y 0 (vW p z.many)).2)
theorem aFt{h f:Nat}{L:dK}{s:aC}{z:bK}{p:fC}{tl:List fC}{A:Option Addr}{c:Nat}(hst:z.steps=p::tl):(lK h f L s z).set 50 (.slice A (z.steps.length - 1) c)=lK h f {L with st:=(A,c)} s {z with steps:=z.steps.tail}:=by
 obtain⟨cn,wn,t0,t1,t2,fM,steps,sent,aZ,id,many⟩:=z;dsimp only at hst;subst hst;rfl
theorem aH.aPp{p:Piece}{sz n k:Nat}{A A':Option Addr}{xs:List Value}(h:aH p sz A n xs)(hk:k≤n)(hA:k < n→∀b off,A=some ⟨b,off,none⟩→A'=some ⟨b,off+k*sz,none⟩):aH p sz A' (n - k) (xs.drop (k*sz)):=by
 refine⟨by rw[List.length_drop,h.1,Nat.sub_mul],fun h0=>?_⟩;obtain⟨b,off,Qd,hz,hc⟩:=h.2 (by omega);refine⟨b,off+k*sz,hA (by omega) b off Qd,hz,fun j u hu=>?_⟩;rw[List.getElem?_drop] at hu;rw[Nat.add_assoc];exact hc _ u hu
theorem aIu{N:cE}{w0:World}{e:Env}{R:List Piece}{H:List HP}{K:Act→World→Prop}(i:Nat){b:Nat}{t:TypeId}{cs cs':List Value}(hi:H[i]? =some (HP.aE b t cs))(he:cs=cs')(k:XK N w0 K e R (H.set i (HP.aE b t cs'))):XK N w0 K e R H:=by
 subst he;obtain⟨hlt,hx⟩:=List.getElem?_eq_some_iff.1 hi;rw[←hx,List.set_getElem_self hlt] at k;exact k
def Gg(L:dK):dK:={L with st:=(if L.st.2=1 then L.st.1 else L.st.1.map (·.add (1*4)),L.st.2 - 1)}
theorem nC.tail{L:dK}{p:fC}{l tl:List fC}{q:Piece}(hl:l=p::tl)(h:nC L l q):nC (Gg L) l.tail q:=by
 subst hl;obtain⟨h1,h2⟩:=h;simp only[List.length_cons] at h2;refine⟨h1.aPp (k:=1) (by simp) fun hlt b off hA=>?_,by simp only[List.tail_cons,Gg];omega⟩;simp only[List.length_cons] at hlt;unfold Gg;dsimp only;rw[if_neg (by omega),hA];rfl
section
variable(g h f:Nat)(s:aC)(z:bK)(y:cI)(w:World)(F:Nat→Prop)
theorem aLo(j:Nat)(hh:z.fM=(j:Int))(hj:T3 j)(hne:z.steps≠[])(hmy:0≤z.many∧z.many < 1024)(hpk:∀p∈z.steps,(iA p.msg 0 p.pr z.many).2=0)(hra:∀a,mK y 0=some a→2≤a.length)(hp:(aEj g h f s z y).sat F w)(hF:∀b,F b→b < w.heap.size):
  Cz 134 #[pt g] w (fun v w'=>v=.returned (.tuple #[])∧∃F',(aEj g h f s (sX z y j).1 (sX z y j).2).sat F' w'∧iD w w' F F'):=by
 obtain⟨p,tl,hst⟩:=List.exists_cons_of_ne_nil hne
 have qH:z.steps.length=tl.length+1:=by rw[hst];rfl
 refine cS func134 ntmps134 hp hF ?_;generalize cO:(⟨w,fun b=>b < w.heap.size∧¬F b⟩:Piece)=R0;refine aX 0 0 ?_;refine iT 0 fun L=>?_;refine aX 0 0 ?_;refine aX 1 5 ?_;refine aX 3 1 ?_;refine aA ?_;cases hse:z.sent
 ·have Wc:sX z y j=if(jZ y 0 (vW p z.many)).1=0 then({z with sent:=true,many:=(z.many+1) % 1024},(jZ y 0 (vW p z.many)).2) else(z,(jZ y 0 (vW p z.many)).2):=by
   unfold sX;rw[if_neg (by rw[hse];simp),hst]
  rw[Wc]
  have aN7:=hpk p (by rw[hst];simp)
  have hfm:z.steps.flatMap fC.cells=p.cells++tl.flatMap fC.cells:=by rw[hst];rfl
  refine aA ?_;refine aDM (A:=L.st.1) (sz:=4) (n:=z.steps.length) (xs:=z.steps.flatMap fC.cells) 1 rfl (fun _ h=>h.1) (by omega) fun b off hA=>?_;refine iZ [1,2,3,4,5,7,8,9,12,13] ?_;refine bJ 0 ?_;refine aK 1 ?_;refine aK 2 ?_;refine aK 3 ?_;refine aK 4 ?_ (hi:=rfl) (cK:=dat 0 off (hx:=by rw[←hA];rfl) (hj:=rfl));refine aK 5 ?_ (hi:=rfl) (cK:=jN rfl (aM.of (vs:=p.cells) fun i v hv=>Rd.bR 1 rfl (fun _ h=>h.1) hA (by omega) (by rw[hfm,List.getElem?_append_left (List.getElem?_eq_some_iff.1 hv).1];exact hv)));refine bJ 6 ?_;refine aK 7 ?_;refine aK 8 ?_;refine aK 9 ?_;refine aL 10 ?_;refine kA [] (aBz (vW p z.many)) (fun w1 t=>aJ5 p.pr p.msg p.id p.v z.many w1 aN7) ?_;rintro _ w1 q1 ⟨Am,cm,rfl,yL⟩ hf _ _
  have yL:=yL.le hf
  clear hf;refine bA ?_;refine aL 11 ?_;refine bE ?_;refine bA ?_;refine aK 12 ?_;refine aK 13 ?_;refine aL 14 ?_;refine bE ?_;refine bA ?_;refine aL 15 ?_;refine bE ?_;refine bA ?_;refine dX ?_;refine aA ?_;refine bT 0 (Cc f h s (jZ y 0 (vW p z.many)).2) (fun w1 F1 t h1 h2 h3=>aGW f h s y 0 Am _ cm (vW p z.many) w1 F1 h1 h2 (yL.le (h3 _ (by simp))) rfl (by simp[vW])) ?_;refine aA ?_;refine aG rfl (fun h0=>?_) (fun h0=>?_)
  ·rw[if_pos h0];refine aA ?_;refine eO rfl rfl ?_ (hs:=eK.mk 2 rfl cN.h rfl (of_decide_eq_true rfl));dsimp only[List.set];rw[show(lK h f L s z).set (0+51) (.bool true)=lK h f L s {z with sent:=true} from rfl];refine aA ?_;refine kd (Mp (i:=z.many) (j:=1) (c:=z.many+1) rfl rfl (iW (by omega))) ?_;refine kd (aHw (i:=z.many+1) (j:=1024) (c:=(z.many+1) % 1024) rfl rfl (by decide) (rem_in (by omega))) ?_;refine aA ?_;refine eO rfl rfl ?_ (hs:=eK.mk 2 rfl cN.h rfl (of_decide_eq_true rfl));dsimp only[List.set];rw[show(lK h f L s {z with sent:=true}).set (0+54) (iv ((z.many+1) % 1024))=lK h f L s {z with sent:=true,many:=(z.many+1) % 1024} from rfl];refine aA ?_;refine aJ 3 1 ?_;refine aJ 1 5 ?_;refine aJ 0 0 ?_;refine cP 0 (fun L:dK=>gA g h f L s {z with sent:=true,many:=(z.many+1) % 1024}) L ?_;refine aJ 0 0 ?_;subst cO;exact fA 0 hF
  ·rw[if_neg h0];refine aA ?_;refine aJ 3 1 ?_;refine aJ 1 5 ?_;refine aJ 0 0 ?_;refine cP 0 (fun L:dK=>gA g h f L s z) L ?_;refine aJ 0 0 ?_;subst cO;exact fA 0 hF
 ·cases hr:mK y 0 with
  | none =>
   have Wc:sX z y j=(z,lX y 0):=by
    unfold sX;rw[if_pos hse,hr]
   rw[Wc];refine aA ?_
   refine vS (α:=AC) 0 (f:=39) (fi:=[]) (ca:=[]) (fun c=>Oh none c) (fun c=>Ez f h s (lX y 0) [] c) (fun _=>True) (by kernel_rfl) rfl rfl rfl (by decide) (fun w1 F1 t h1 h2 h3=>by
    have:=aDh f h s y 0 w1 F1 h1 h2
    rw[hr] at this
    exact this) ?_
   rintro⟨Ar,cr⟩ _;dsimp only[List.set,Oh];refine aX 0 0 ?_;refine aT [0,2,3,4,5] rfl (by decide) (fun _ h=>h) ?_;refine aA ?_;refine aJ 3 1 ?_;refine aJ 1 5 ?_;refine aJ 0 0 ?_;refine cP 0 (fun L:dK=>gA g h f L s z) L ?_;refine aJ 0 0 ?_;subst cO;exact fA 0 hF
  | some a =>
   have Wc:sX z y j=(if(rX z a).steps.length=0 then pT (rX z a) j 0 0 else rX z a,lX y 0):=by
    unfold sX;rw[if_pos hse,hr]
   rw[Wc]
   have Bf:=hra a hr
   have ha1:a[1]? =some (a.getD 1 0):=by rw[List.getD_eq_getElem?_getD,List.getElem?_eq_getElem (by omega)];rfl
   refine aA ?_
   refine vS (α:=AC) 0 (f:=39) (fi:=[]) (ca:=[]) (fun c=>Oh (some a) c) (fun c=>Ez f h s (lX y 0) a c) (fun _=>True) (by kernel_rfl) rfl rfl rfl (by decide) (fun w1 F1 t h1 h2 h3=>by
    have:=aDh f h s y 0 w1 F1 h1 h2
    rw[hr] at this
    exact this) ?_
   rintro⟨Ar,cr⟩ _;dsimp only[List.set,Oh];refine aX 0 0 ?_;refine aX 1 1 ?_;refine aT [1,3,4,5,6,0] rfl (by decide) (fun _ h=>h) ?_;refine aA ?_;refine eO rfl rfl ?_ (hs:=eK.mk 2 rfl cN.h rfl (of_decide_eq_true rfl));dsimp only[List.set];refine aA ?_;refine aQ (fun w1 t=>aKr Ar _ cr a _ w1 (t.bR 5 rfl) rfl Bf ha1) ?_;generalize tW:IntKind.i32.wrap (a.getD 1 0)=sv;rw[show(lK h f L s z).set (0+51) (.bool false)=lK h f L s {z with sent:=false} from rfl];refine aA ?_;refine bX (t:=73) rfl (fun h0=>?_) (fun h0=>?_)
   ·rw[aET (show Hv a from .inl (tW.trans h0))];refine aA ?_;refine kd (aHu (n:=z.steps.length) (l:=1) rfl rfl (by omega)) ?_;refine aA ?_;refine eO rfl rfl ?_ (hs:=eK.mk 2 rfl cN.h rfl (of_decide_eq_true rfl));dsimp only[List.set];refine aIu 2 rfl (aFt (z:={z with sent:=false}) hst) ?_;dsimp only[List.set];refine oJ (q:=HP.bR (nC (Gg L) z.steps.tail) (nC.le (L:=Gg L) (l:=z.steps.tail))) 1 rfl (fun F w hs=>nC.tail hst hs) ?_;dsimp only[List.set];refine aA ?_;refine aJ 3 1 ?_;refine aJ 1 5 ?_;refine aJ 0 0 ?_;refine uK 0 (f:=fun L:dK=>gA g h f L s {z with sent:=false,steps:=z.steps.tail}) (Gg L) rfl ?_;dsimp only[List.set];refine aA ?_;refine aG rfl (fun hn=>?_) (fun hn=>?_)
    ·rw[if_pos (Int.ofNat.inj hn)];refine aA ?_;refine kd (iI rfl) ?_;refine aA ?_;refine bT 0 (jJ g h f s (pT {z with sent:=false,steps:=z.steps.tail} j 0 0)) (fun w1 F1 t h1 h2 h3=>Ku g h f s {z with sent:=false,steps:=z.steps.tail} w1 F1 j hh hj 0 0 h1 h2) ?_;refine aJ 0 0 ?_;subst cO;exact fA 0 hF
    ·rw[if_neg (fun h=>hn (congrArg Int.ofNat h))];refine aA ?_;refine aJ 0 0 ?_;subst cO;exact fA 0 hF
   ·refine aA ?_;refine aG rfl (fun h3=>?_) (fun h3=>?_)
    ·rw[aET (show Hv a from .inr (tW.trans h3))];refine aA ?_;refine kd (aHu (n:=z.steps.length) (l:=1) rfl rfl (by omega)) ?_;refine aA ?_;refine eO rfl rfl ?_ (hs:=eK.mk 2 rfl cN.h rfl (of_decide_eq_true rfl));dsimp only[List.set];refine aIu 2 rfl (aFt (z:={z with sent:=false}) hst) ?_;dsimp only[List.set];refine oJ (q:=HP.bR (nC (Gg L) z.steps.tail) (nC.le (L:=Gg L) (l:=z.steps.tail))) 1 rfl (fun F w hs=>nC.tail hst hs) ?_;dsimp only[List.set];refine aA ?_;refine aJ 3 1 ?_;refine aJ 1 5 ?_;refine aJ 0 0 ?_;refine uK 0 (f:=fun L:dK=>gA g h f L s {z with sent:=false,steps:=z.steps.tail}) (Gg L) rfl ?_;dsimp only[List.set];refine aA ?_;refine aG rfl (fun hn=>?_) (fun hn=>?_)
     ·rw[if_pos (Int.ofNat.inj hn)];refine aA ?_;refine kd (iI rfl) ?_;refine aA ?_;refine bT 0 (jJ g h f s (pT {z with sent:=false,steps:=z.steps.tail} j 0 0)) (fun w1 F1 t h1 h2 h3=>Ku g h f s {z with sent:=false,steps:=z.steps.tail} w1 F1 j hh hj 0 0 h1 h2) ?_;refine aJ 0 0 ?_;subst cO;exact fA 0 hF
     ·rw[if_neg (fun h=>hn (congrArg Int.ofNat h))];refine aA ?_;refine aJ 0 0 ?_;subst cO;exact fA 0 hF
    ·rw[aKg (show ¬Hv a from fun h=>h.elim (fun h=>h0 (tW▸h)) (fun h=>h3 (tW▸h)))];refine aA ?_;refine aJ 3 1 ?_;refine aJ 1 5 ?_;refine aJ 0 0 ?_;refine cP 0 (fun L:dK=>gA g h f L s {z with sent:=false}) L ?_;refine aA ?_;refine aG rfl (fun hn=>?_) (fun hn=>?_)
     ·rw[if_pos (Int.ofNat.inj hn)];refine aA ?_;refine kd (iI rfl) ?_;refine aA ?_;refine bT 0 (jJ g h f s (pT {z with sent:=false} j 0 0)) (fun w1 F1 t h1 h2 h3=>Ku g h f s {z with sent:=false} w1 F1 j hh hj 0 0 h1 h2) ?_;refine aJ 0 0 ?_;subst cO;exact fA 0 hF
     ·rw[if_neg (fun h=>hn (congrArg Int.ofNat h))];refine aA ?_;refine aJ 0 0 ?_;subst cO;exact fA 0 hF
end
end
section
theorem Oe(w:World):CallsD Tryz.prog 132 #[] .returning w fun e u' w'=>e=.returned (.tuple #[])∧u'=.returning∧w'=w:=by
 refine callsD_of_wpS func132 rfl fun c₀ cs hu=>?_;apply wpS_region;simp[wpOpsS,go_sem,recoverD,hu,ntmps132,Exit.thenS];cases c₀;simp_all [bodyPostS,results,Tryz.results132]
def aBt(g f:Nat)(hL:HL)(s:aC)(z:bK)(y:cI)(x:aU):HP:=HP.many [jJ g hL.h f s z,Cc f hL.h s y,dM hL s x]
structure aIF(s:aC)(z:bK)(y:cI):Prop where
 ok:Sd s z
 call:∀j,T3 j→(z.tk j).st=1→wR (z.tk j).kind
 work:∀j:Nat,T3 j→(z.tk j).st=2→z.fM=(j:Int)∧(z.aZ=false→z.steps≠[])
 many:0≤z.many∧z.many < 1024
 pack:∀p∈z.steps,(iA p.msg 0 p.pr z.many).2=0
 ans:∀a,mK y 0=some a→2≤a.length
def Hr(s:aC)(z:bK)(y:cI)(x:aU)(t:Int):bK×cI×aU:=
 if bZ 3 t=false then(z,y,x)
 else if(z.tk t.toNat).st=1 then(if z.fM < 0 then((uJ s x z t.toNat).1,y,(uJ s x z t.toNat).2) else(z,y,x))
 else if(z.tk t.toNat).st=2 then(if z.aZ=false then((sX z y t.toNat).1,(sX z y t.toNat).2,x) else(z,y,x))
 else(z,y,x)
theorem aLa(g f:Nat)(hL:HL)(s:aC)(z:bK)(y:cI)(x:aU)(w:World)(F:Nat→Prop)(t:Int)(hm:s.made)(aR:gB hL s)(hx:z.fM < 0→HwP s x)(hz:aIF s z y)(hp:(aBt g f hL s z y x).sat F w)(hF:∀b,F b→b < w.heap.size)(cZ:eM ⟨w,fun b=>b < w.heap.size∧¬F b⟩):
  Cz 87 #[pt g,iv t] w (fun v w'=>v=.returned (.tuple #[])∧∃F',(aBt g f hL s (Hr s z y x t).1 (Hr s z y x t).2.1 (Hr s z y x t).2.2).sat F' w'∧iD w w' F F'):=by
 unfold Hr;refine aBm (vs:=[pt g,iv t]) (p:=aBt g f hL s z y x) func87 rfl ntmps87 (by simp) hp hF ?_;generalize cO:(⟨w,fun b=>b < w.heap.size∧¬F b⟩:Piece)=R0 at cZ⊢;refine aA ?_;refine Yz (f:=132) (fi:=[]) (ca:=[]) rfl ?_;refine aA ?_;refine aQ (fun w1 _=>Zp t w1) ?_;cases hin:bZ 3 t
 ·refine aA ?_;subst cO;exact Bx (.inl rfl) (by kernel_rfl) Oe rfl fun w1 t=>⟨rfl,t.turns hF (by simp) (i:=0) rfl⟩
 ·obtain⟨j,rfl,hj⟩:=Fh hin
  have hj2:j≤2:=by rcases hj with rfl | rfl | rfl<;>decide
  rw[if_neg (by simp),Int.toNat_natCast];refine aX 0 0 ?_;refine iT 0 fun L=>?_;refine aA ?_;refine kd (fF j (10+13*j) (ho:=by omega)) ?_;refine aA ?_;refine kd (bH rfl (pI 0 rfl (Ey (k:=0) hj rfl))) ?_;refine aA ?_;refine aG rfl (fun h1=>?_) (fun h1=>?_)
  ·rw[if_pos h1];refine aA ?_;refine kd (bH rfl (pI 0 rfl rfl)) ?_;refine aA ?_;refine cP 0 (fun L:dK=>gA g hL.h f L s z) L ?_;refine aJ 0 0 ?_;refine aG rfl (fun h2=>?_) (fun h2=>?_)
   ·rw[if_pos h2];refine aX 0 0 ?_;refine aX 1 2 ?_;refine aT [1,0,2] rfl (by decide) (fun _ h=>h) ?_;refine mS ?_;refine aA ?_;refine bT 0 (Jw g f hL s (uJ s x z j).1 (uJ s x z j).2) (fun w1 F1 t h1a h2a h3=>aLm g f hL s z x w1 F1 j hm aR (hx h2) hz.ok hj (hz.call j hj h1) h1a h2a (eM.le cZ (h3 _ (by simp)))) ?_;refine aX 0 0 ?_;refine aX 1 1 ?_;refine aJ 2 2 ?_;refine aJ 1 0 ?_;refine aA ?_;subst cO;exact Bx (.inr rfl) (by kernel_rfl) Oe rfl fun w1 t=>⟨rfl,t.turns hF (by simp) (i:=1) rfl⟩
   ·rw[if_neg h2];refine aA ?_;subst cO;exact Bx (.inr rfl) (by kernel_rfl) Oe rfl fun w1 t=>⟨rfl,t.turns hF (by simp) (i:=0) rfl⟩
  ·rw[if_neg h1];refine aA ?_;refine aG rfl (fun h2=>?_) (fun h2=>?_)
   ·rw[if_pos h2];obtain⟨hh,hne⟩:=hz.work j hj h2;refine aA ?_;refine kd (bH rfl (pI 0 rfl rfl)) ?_;cases mM:z.aZ
    ·refine aA ?_;refine cP 0 (fun L:dK=>gA g hL.h f L s z) L ?_;refine aJ 0 0 ?_;refine aX 0 0 ?_;refine aX 1 1 ?_;refine aT [1,0,2] rfl (by decide) (fun _ h=>h) ?_;refine mS ?_;refine aA ?_;refine bT 0 (aEj g hL.h f s (sX z y j).1 (sX z y j).2) (fun w1 F1 t h1a h2a h3=>aLo g hL.h f s z y w1 F1 j hh hj (hne mM) hz.many hz.pack hz.ans h1a h2a) ?_;refine aX 0 0 ?_;refine aX 1 1 ?_;refine aJ 2 1 ?_;refine aJ 1 0 ?_;refine aA ?_;subst cO;exact Bx (.inr rfl) (by kernel_rfl) Oe rfl fun w1 t=>⟨rfl,t.turns hF (by simp) (i:=1) rfl⟩
    ·refine aA ?_;refine cP 0 (fun L:dK=>gA g hL.h f L s z) L ?_;refine aJ 0 0 ?_;subst cO;exact Bx (.inr rfl) (by kernel_rfl) Oe rfl fun w1 t=>⟨rfl,t.turns hF (by simp) (i:=0) rfl⟩
   ·rw[if_neg h2];refine aA ?_;refine cP 0 (fun L:dK=>gA g hL.h f L s z) L ?_;refine aJ 0 0 ?_;subst cO;exact Bx (.inr rfl) (by kernel_rfl) Oe rfl fun w1 t=>⟨rfl,t.turns hF (by simp) (i:=0) rfl⟩
end
section
def Dz(z:bK)(a:gK):bK:=if z.aZ=false then z else if a.id≠z.id then z else if a.dead=true then pT z z.fM.toNat 6 0 else pT z z.fM.toNat 0 a.val
def sW(z:bK)(l:List gK):bK:=l.foldl Dz z
def Nd(z:bK):Prop:=z.aZ=true→∃j:Nat,z.fM=(j:Int)∧T3 j
theorem aRj{z:bK}{a:gK}(h:Nd z):Nd (Dz z a):=by
 unfold Dz;split
 ·exact h
 split
 ·exact h
 split
 ·intro h1;cases h1
 ·intro h1;cases h1
theorem aRs{l:List gK}:∀{z:bK},Nd z→Nd (sW z l):=by
 induction l with
 | nil=>exact fun h=>h
 | cons a l ih=>exact fun h=>ih (aRj h)
theorem aRr{z:bK}{l:List gK}{i:Nat}{a:gK}(h:l[i]? =some a):sW z (l.take (i+1))=Dz (sW z (l.take i)) a:=by
 obtain⟨hi,rfl⟩:=List.getElem?_eq_some_iff.1 h;unfold sW;rw[List.take_succ_eq_append_getElem hi,List.foldl_append];rfl
theorem aHV{l:List gK}{i k:Nat}{a:gK}{v:Value}(h:l[i]? =some a)(hv:a.cells[k]? =some v):(l.flatMap gK.cells)[i*4+k]? =some v:=by
 induction l generalizing i with
 | nil=>simp at h
 | cons x l ih =>
  cases i with
  | zero=>
   simp at h;subst h;rw[Nat.zero_mul,Nat.zero_add,List.flatMap_cons,List.getElem?_append_left (List.getElem?_eq_some_iff.1 hv).1];exact hv
  | succ i=>
   rw[List.getElem?_cons_succ] at h;rw[List.flatMap_cons,show(i+1)*4+k=x.cells.length+(i*4+k) by simp[gK.cells];omega,List.getElem?_append_right (by omega),Nat.add_sub_cancel_left];exact ih h
theorem aLn(g h f:Nat)(s:aC)(z:bK)(w:World)(F:Nat→Prop)(A:Option Addr)(c:Nat)(l:List gK)(hl:l.length≤1000)(aN5:Nd z)(hp:(jJ g h f s z).sat F w)(hF:∀b,F b→b < w.heap.size)(hs:aH ⟨w,fun b=>b < w.heap.size∧¬F b⟩ 4 A l.length (l.flatMap gK.cells)):
  Cz 95 #[pt g,.slice A l.length c] w (fun v w'=>v=.returned (.tuple #[])∧∃F',(jJ g h f s (sW z l)).sat F' w'∧iD w w' F F'):=by
 refine cS func95 ntmps95 hp hF ?_;generalize cO:(⟨w,fun b=>b < w.heap.size∧¬F b⟩:Piece)=R0 at hs⊢;refine aA ?_;refine bM [(8,iv 0),(7,iv l.length),(6,.slice A l.length c),(0,pt g),(1,.slice A l.length c)] ?_;refine eT (fun m e R H=>∃i:Nat,i≤l.length∧m=l.length - i∧e=[(8,iv i),(7,iv l.length),(6,.slice A l.length c),(0,pt g),(1,.slice A l.length c)]∧R=[R0]∧H=[jJ g h f s (sW z (l.take i))]) l.length ⟨0,by omega,rfl,rfl,rfl,rfl⟩ fun m e R H hI=>?_;obtain⟨i,hi,rfl,rfl,rfl,rfl⟩:=hI;refine aA ?_;refine aG rfl (fun hlt=>?_) (fun hge=>?_)
 ·have hlt:i < l.length:=by omega
  obtain⟨a,ha⟩:=get_some hlt;obtain⟨b,off,rfl,eV,hc⟩:=hs.2 (by omega)
  have cX:=aRr (z:=z) ha
  have aGz:Nd (sW z (l.take i)):=aRs aN5
  generalize sW z (l.take i)=zi at cX aGz⊢;obtain⟨Gr,Rn,Ea,Bs⟩:=a;refine aA ?_;refine kd (dat i (off+i*4)) ?_;refine kd (jN rfl (aM.of (vs:=[iv Gr,iv Rn,.bool Ea,.int .u32 Bs]) fun k v hv=>Rd.ro (p:=R0) (by simp) eV (by rw[Nat.add_assoc];exact hc _ _ (aHV ha hv)))) ?_;refine bY fun g1=>?_;refine aA ?_;refine iT 1 fun L=>?_;refine lJ ?_;refine jD ?_;refine sY (bH rfl (pI 1 rfl rfl)) ?_;cases mM:zi.aZ
  ·have hst:Dz zi ⟨Gr,Rn,Ea,Bs⟩=zi:=if_pos mM
   refine iY ?_;refine cP 1 (fun L:dK=>gA g h f L s zi) L ?_;refine aA ?_;refine aT [1] rfl (by decide) (fun _ h=>h) ?_;refine bM [(8,iv (i+1:Nat)),(7,iv l.length),(6,.slice (some ⟨b,off,none⟩) l.length c),(0,pt g),(1,.slice (some ⟨b,off,none⟩) l.length c)] ?_;exact gR (l.length - (i+1)) (by omega) ⟨i+1,by omega,rfl,rfl,rfl,by rw[cX,hst];rfl⟩
  ·obtain⟨j,hj,hj3⟩:=aGz mM
   have Dm:0≤zi.fM:=by omega
   have Ln:Dz zi ⟨Gr,Rn,Ea,Bs⟩=if Gr≠zi.id then zi else if Ea=true then pT zi zi.fM.toNat 6 0 else pT zi zi.fM.toNat 0 Bs:=if_neg (by rw[mM];simp)
   refine jD ?_;refine sY (bH rfl (pI 1 rfl rfl)) ?_;refine iY ?_;refine cP 1 (fun L:dK=>gA g h f L s zi) L ?_;refine aA ?_;refine aG rfl (fun hne=>?_) (fun hne=>?_)
   ·rw[if_pos hne] at Ln;refine aA ?_;refine aT [1] rfl (by decide) (fun _ h=>h) ?_;refine bM [(8,iv (i+1:Nat)),(7,iv l.length),(6,.slice (some ⟨b,off,none⟩) l.length c),(0,pt g),(1,.slice (some ⟨b,off,none⟩) l.length c)] ?_;exact gR (l.length - (i+1)) (by omega) ⟨i+1,by omega,rfl,rfl,rfl,by rw[cX,Ln];rfl⟩
   ·rw[if_neg hne] at Ln;refine aA ?_;cases Ea
    ·refine aB ?_;refine bT 1 (jJ g h f s (pT zi zi.fM.toNat 0 Bs)) (fun w1 F1 t h1 h2 h3=>Ku g h f s zi w1 F1 zi.fM.toNat (by omega) (by rw[hj,Int.toNat_natCast];exact hj3) 0 Bs h1 h2) ?_;refine aA ?_;refine aT [1] rfl (by decide) (fun _ h=>h) ?_;refine bM [(8,iv (i+1:Nat)),(7,iv l.length),(6,.slice (some ⟨b,off,none⟩) l.length c),(0,pt g),(1,.slice (some ⟨b,off,none⟩) l.length c)] ?_;exact gR (l.length - (i+1)) (by omega) ⟨i+1,by omega,rfl,rfl,rfl,by rw[cX,Ln];rfl⟩
    ·refine aB ?_;refine bT 1 (jJ g h f s (pT zi zi.fM.toNat 6 0)) (fun w1 F1 t h1 h2 h3=>Ku g h f s zi w1 F1 zi.fM.toNat (by omega) (by rw[hj,Int.toNat_natCast];exact hj3) 6 0 h1 h2) ?_;refine aA ?_;refine aT [1] rfl (by decide) (fun _ h=>h) ?_;refine bM [(8,iv (i+1:Nat)),(7,iv l.length),(6,.slice (some ⟨b,off,none⟩) l.length c),(0,pt g),(1,.slice (some ⟨b,off,none⟩) l.length c)] ?_;exact gR (l.length - (i+1)) (by omega) ⟨i+1,by omega,rfl,rfl,rfl,by rw[cX,Ln];rfl⟩
 obtain rfl:i=l.length:=by omega
 rw[List.take_length];refine aA ?_;subst cO;exact fA 0 hF
end
section
section
variable(s:aC)(A1 A2 A3 A4:Option Addr)(n1 k1 n2 k2 n3 k3 n4 k4:Nat)(w:World)
def aJe(s:aC)(v:Value)(hs:List HP)(_:Piece):Prop:=∃gc gm A k,v=.tuple #[pt gc,iv 0]∧hs=[Kc gc gm A k (dL s) ⟨[],false⟩]
theorem aQh(hm:s.made)(hW:iE w s A1 n1 A2 n2 A3 n3 A4 n4):
  Cz 107 #[.agg #[.slice A1 n1 k1,.slice A2 n2 k2,.slice A3 n3 k3,.slice A4 n4 k4]] w (fun y w'=>(∃v hs q,y=.returned v∧q.w=w'∧aJe s v hs q∧fV w hs q)∧Below w.heap.size w w'):=by
 obtain rfl:=hW.qX;obtain rfl:=hW.qW;obtain rfl:=hW.tT;obtain rfl:=hW.sH;refine aO func107 ntmps107 ?_;refine aA ?_;refine bN fun g1=>?_;refine aA ?_;refine aQ (fun w1 t=>Re s A1 A2 A3 A4 _ k1 _ k2 _ k3 _ k4 w1 (hW.le (t.started (by simp))) (aAm hm)) ?_;refine aA ?_;refine kA [] (Hi (dL s)) (fun w1 t=>aFQ s A1 A2 A3 A4 _ k1 _ k2 _ k3 _ k4 w1 (hW.le (t.started (by simp)))) ?_;rintro _ w1 q1 ⟨Ag,cg,rfl,pQ⟩ hf _ hfr
 have pQ:=pQ.le hf
 refine Jq (Φ:=Cb Ag (dL s)) (hm:=Cb.le) (hfr (by simp)) (by simp[all]) pQ ?_;refine Yv (by decide) fun gm=>?_;refine kd (iI rfl) ?_;refine bN fun g2=>?_;refine aA ?_;refine aT [0,1,2] rfl (by decide) (R':=[all w]) (by simp) ?_;refine mS ?_;refine mS ?_;refine dB [] [] [0] (by simp) rfl (by decide) (by decide) fun q _ _ hfr=>?_;exact fT rfl rfl rfl fun w1 t=>⟨⟨_,_,⟨w1,q.Z⟩,rfl,rfl,⟨g2,gm,Ag,cg,rfl,rfl⟩,t.newR (by simp) (by simp) (hfr (by simp) (by simp))⟩,t.below (by simp)⟩
def Tr(s:aC):bK:={rp0 s with wn:=gL s []}
def aID(h f:Nat)(s:aC)(v:Value)(hs:List HP)(_:Piece):Prop:=∃g,v=.tuple #[pt g,iv 0]∧hs=[jJ g h f s (Tr s)]
theorem aKY(h f:Nat)(hm:s.made)(hW:iE w s A1 n1 A2 n2 A3 n3 A4 n4):
  Cz 50 #[pt h,pt f,.agg #[.slice A1 n1 k1,.slice A2 n2 k2,.slice A3 n3 k3,.slice A4 n4 k4]] w (fun y w'=>(∃v hs q,y=.returned v∧q.w=w'∧aID h f s v hs q∧fV w hs q)∧Below w.heap.size w w'):=by
 obtain rfl:=hW.qX;obtain rfl:=hW.qW;obtain rfl:=hW.tT;obtain rfl:=hW.sH;refine aO func50 ntmps50 ?_;refine aA ?_;refine bN fun g1=>?_;refine aA ?_;refine dS (aJe s) (fun w1 t=>aQh s A1 A2 A3 A4 _ k1 _ k2 _ k3 _ k4 w1 hm (hW.le (t.started (by simp)))) ?_;rintro _ _ q0 ⟨gc,gm,Ag,cg,rfl,rfl⟩ _;dsimp only[List.cons_append,List.nil_append];refine aT [0,1] rfl (by decide) (R':=[all w]) (by simp) ?_;refine aA ?_
 refine kA [] (fun v w w'=>aBy s v w w') (fun w1 t=>aDz s A1 A2 A3 A4 _ k1 _ k2 _ k3 _ k4 w1 (hW.le (t.started (by simp))) (fun d hd=>by
  obtain⟨j,hj⟩:=List.getElem?_of_mem hd
  have:=(hm.aD j d hj).2.2.2.2.2.2.2.2.1
  omega)) ?_
 rintro _ w1 q1 ⟨cs,rfl,hcs⟩ Fs _ sN
 have sN:=sN (by simp)
 obtain⟨B1,m1,j1,B2,m2,j2,B3,m3,j3,B4,m4,j4,rfl,hsp⟩:=uL.P hcs
 have hsp:=hsp.le Fs
 obtain⟨rfl,rfl,rfl,rfl⟩:=hsp.len;refine Jq (Φ:=lS ⟨(B1,j1),(B2,j2),(B3,j3),(B4,j4),gc,gm,(Ag,cg),(none,0),(none,0),(none,0),(none,0)⟩ s) (hm:=lS.le) sN (by simp[all]) hsp ?_;refine aA ?_;refine kd (iI rfl) ?_;refine bN fun g=>?_;refine aA ?_;refine kd (jN rfl (aM.mid (vs:=[_,_,_,_]) 0 rfl rfl)) ?_;refine dS (Yf (gL s [])) (fun w1 t=>Zc (all w1) s B1 B2 B3 B4 _ j1 _ j2 _ j3 _ j4 none 0 [] w1 (t.bR 1 rfl) hm (Piece.Le.refl _) (aH.nil _ _)) ?_;rintro _ _ q2 ⟨ga,gb,gd,px,rfl,rfl⟩ _;dsimp only[List.cons_append,List.nil_append];refine aA ?_;refine Cw 2 rfl ?_;dsimp only[List.set];refine aA ?_;obtain⟨L',hL'⟩:∃L':dK,L'=⟨(B1,j1),(B2,j2),(B3,j3),(B4,j4),gc,gm,(Ag,cg),(some ⟨ga,0,none⟩,(gL s []).d.length),(some ⟨gb,0,none⟩,(gL s []).c.length),(some ⟨gd,0,none⟩,(gL s []).l.length),(none,0)⟩:=⟨_,rfl⟩
 refine oJ (q:=HP.bR (tA L' (gL s [])) (tA.le (L:=L') (x:=gL s []))) 0 rfl (fun F w hs=>?_) ?_
 ·obtain⟨G,k1,k2,_⟩:=hs;subst hL';exact⟨qP (c:=0) (k1 0 _ rfl) (fun b hb=>k2 0 b hb) (by simp[bF]),qP (c:=0) (k1 1 _ rfl) (fun b hb=>k2 1 b hb) (by simp[bF]),qP (c:=0) (k1 2 _ rfl) (fun b hb=>k2 2 b hb) (by simp[bF])⟩
 dsimp only[List.set];refine nM (p:=HP.bR (nC L' []) (nC.le (L:=L') (l:=[]))) (fun w=>by subst hL';exact⟨aH.nil _ _,Nat.le_refl _⟩) ?_;refine aX 5 0 ?_;refine aX 6 1 ?_;refine aT [5,6,3,1,0,2] rfl (by decide) (R':=[all w]) (by simp) ?_;refine mS ?_;refine qK ?_;refine qK ?_;refine qK ?_;refine qK ?_;refine uK 0 (f:=fun L:dK=>gA g h f L s (Tr s)) L' (by subst hL';rfl) ?_;dsimp only[List.set];refine dB [] [] [0] (by simp) rfl (by decide) (by decide) fun q _ _ hfr=>?_;exact fT rfl rfl rfl fun w1 t=>⟨⟨_,_,⟨w1,q.Z⟩,rfl,rfl,⟨g,rfl,rfl⟩,t.newR (by simp) (by simp) (hfr (by simp) (by simp))⟩,t.below (by simp)⟩
end
end
section
theorem aLr(w0:Int)(A:Option Addr)(n c:Nat)(zs:List Int)(w:World)(hs:aH (all w) 1 A n (dQ zs))(hn:n=zs.length)(hn2:n≤1000000):Cz 52 #[.int .u32 w0,.slice A n c] w (fun y w'=>(∃v hs q,y=.returned v∧q.w=w'∧aIG (w0::zs) v hs q∧fV w hs q)∧Below w.heap.size w w'):=by
 refine aO func52 ntmps52 ?_;refine aB ?_;refine aB1 1 4 (el:=37) (c:=n+1) (k0:=1) (oX:=.i64) (by kernel_rfl) (by kernel_rfl) rfl (by rw[Int.natCast_add];rfl) (by omega) (by omega) (by decide) fun g1=>?_;refine aB ?_;refine eG fun g2=>?_;refine gZ 1 1 4 1 (n':=1) (el:=37) (by kernel_rfl) (by kernel_rfl) (by decide) rfl rfl rfl (lW 0 rfl rfl) (by simp[Value.oneCell']) rfl (by omega) (by omega) (by decide) fun A1 c1=>?_;dsimp only[List.set];refine aB ?_;refine gZ 1 1 4 n (n':=n+1) (el:=37) (by kernel_rfl) (by kernel_rfl) (by decide) rfl rfl rfl (rY (by simp) hs) (Ep _) (by omega) (by omega) (by omega) (by decide) fun A2 c2=>?_;dsimp only[List.set];refine aB ?_;subst hn;refine dB [] [] [1] (by simp) rfl (by decide) (by decide) fun q _ _ hfr=>?_;exact aP (h:=fun w1 st=>⟨_,_,⟨w1,q.Z⟩,rfl,rfl,⟨_,_,rfl,rfl⟩,st.newR (by simp) (by simp) (hfr (by simp) (by simp))⟩)
theorem aH8(m t p k:Int)(A:Option Addr)(n c:Nat)(zs:List Int)(w:World)(hs:aH (all w) 1 A n (dQ zs))(hn:n=zs.length)(hn2:n≤1000000)(hok:(iA m t p k).2=0):Cz 24 #[.agg #[iv m,iv t,iv p,iv k],.slice A n c] w (fun y w'=>(∃v hs q,y=.returned v∧q.w=w'∧aEu ((iA m t p k).1::zs) v hs q∧fV w hs q)∧Below w.heap.size w w'):=by
 refine aO func24 ntmps24 ?_;refine aB ?_;refine bN fun g1=>?_;refine aB ?_;refine dG (fun w1 st=>aFC m t p k w1) ?_;refine aB ?_;refine aG rfl (fun h=>?_) (fun h=>?_)
 ·
  refine aB ?_;exact absurd hok h
 ·
  refine aB ?_;refine dS (aIG ((iA m t p k).1::zs)) (fun w1 st=>aLr (iA m t p k).1 A n c zs w1 (hs.le (st.le (by simp))) hn hn2) ?_;rintro _ _ q1 ⟨A1,c1,rfl,rfl⟩ _;simp only[List.cons_append,List.nil_append];refine aB ?_;refine dB [] [] [0] (by simp) rfl (by decide) (by decide) fun q _ _ hfr=>?_;refine fT rfl rfl rfl fun w1 st=>⟨⟨_,_,⟨w1,q.Z⟩,rfl,rfl,⟨_,_,rfl,rfl⟩,st.newR (by simp) (by simp) (hfr (by simp) (by simp))⟩,st.below (by simp)⟩
end
section
theorem aFg(x:eB)(k id:Int):(oQ x k id).d.length=x.d.length∧(oQ x k id).c.length=x.c.length∧(oQ x k id).l.length=x.l.length:=by
 unfold oQ;split
 ·exact⟨Od _ _ _,rfl,rfl⟩
 ·split
  ·exact⟨rfl,Od _ _ _,rfl⟩
  ·split
   ·exact⟨rfl,rfl,Od _ _ _⟩
   ·exact⟨rfl,rfl,rfl⟩
theorem aFe{x:eB}(h:x.sm)(k id:Int):(oQ x k id).sm:=by
 obtain⟨h1,h2,h3⟩:=aFg x k id;exact⟨by rw[h1];exact h.d,by rw[h2];exact h.c,by rw[h3];exact h.l⟩
theorem aPw{x:eB}(h:x.sm)(ag:Nat)(k id:Int):(lH x ag k id).sm:=by
 unfold lH;split
 ·exact aFe h k id
 ·exact h
theorem aPv{x:eB}(h:x.sm)(ag:Nat)(k id:Int):(lG x ag k id).sm:=by
 unfold lG;split
 ·exact h
 ·exact aFe h k id
end
section
section
variable{s:aC}{x:aU}{z:cI}{b:Nat}{m:List Int}{k id:Int}
theorem aF4(hu:nB m)(h:(fE s m).1=0):tD m:=by
 cases m with
 | nil=>exact absurd h (by show ¬((-10:Int)=0);decide)
 | cons w r =>
  unfold fE at h;dsimp only at h;split at h
  ·exact absurd h (by decide)
  ·rename_i h1
   split at h
   ·exact absurd h (by decide)
   ·split at h
    ·exact absurd h (by decide)
    ·rename_i h3
     have hz:cM w 28 4=0:=by
      refine Classical.byContradiction fun hc=>h1 (.inl ?_);unfold Cl;rw[if_pos hc];decide
     refine⟨⟨w,r,rfl,hz,fun hh=>?_⟩⟩
     have hp:dY w=cM w 10 8:=by rw[dY,if_neg (by simp[hz])]
     have hmm:eH w=cM w 0 8:=by rw[eH,if_neg (by simp[hz])]
     have hn:(eF (dY w) (eH w)).n=1:=by
      rw[hp,hmm];rcases hh with⟨a,b⟩ | ⟨a,b⟩<;>rw[a,b]<;>rfl
     rw[hn] at h3
     have h4:r.length=1:=by omega
     obtain⟨i,rfl⟩:=List.length_eq_one_iff.1 h4;exact⟨i,rfl,hu i (by simp)⟩
end
end
end Go.Proofs.YtkgekojkboingaaGreatDoor
