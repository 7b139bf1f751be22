/- Functions that defer a recover: how they begin and end. -/
import Derived.KernelRfl
import Derived.Tactics2
import Derived.Test.YtkgekojkboingaaGreatDoorProg
import Derived.Test.YtkgekojkboingaaGreatDoorWorldRepliesK5
namespace Go.Proofs.YtkgekojkboingaaGreatDoor
set_option linter.all false
set_option maxHeartbeats 4000000
set_option maxRecDepth 20000
open Go.RowKit Go.Proofs.Tryz
section
section
variable{P:Program}{N:cF}{w0 w:World}{K:Act→World→Prop}{e:Env}{R:List Piece}{H H':List HP}
theorem aAU{nn:Nat}{F:Nat→Prop}{p:HP}{f:FuncId}{fn:Func}{c:Code}{vs:List Value}{Post:Ending→World→Prop}(hf:P.funcs[f]? =some fn)(hb:fn.body=some c)(hN:fn.ntmps=nn)(hl:vs.length≤nn)(hp:p.sat F w)(hF:∀b,F b→b < w.heap.size)
  (h:XK ⟨nn,[]⟩ w (c.wp P (bodyPostD P fn Post)) (Dw 0 vs) [⟨w,fun b=>b < w.heap.size∧¬F b⟩] [p]):Calls P f vs.toArray w Post:=by
 refine calls_of_wp_defers hf hb (h _ _ ⟨?_,rfl,fun t v hv=>?_⟩ (aDA hp hF))
 ·simp;omega
 ·obtain⟨_,h2⟩:=Wp vs 0 t v hv;rw[Nat.sub_zero] at h2
  have hlt:t < vs.length:=by
   rcases Nat.lt_or_ge t vs.length with h | h
   ·exact h
   ·rw[List.getElem?_eq_none h] at h2;cases h2
  rw[Array.getElem?_append_left (by simpa using hlt)]
  simpa using h2
theorem Bu{nn:Nat}{f:FuncId}{fi ca:List Value}{fn:Func}{Post:Ending→World→Prop}{x:Exit}(hx:x=.ret∨x=.normal)(hf:eY P f=true)
  (jT:∀w,CallsD P f (fi++ca).toArray .returning w fun y u' w'=>y=.returned (.tuple #[])∧u'=.returning∧w'=w) (hr:fn.results=#[])
  (h:∀w,St w0 R H w→Post (.returned (.tuple #[])) w):XK ⟨nn,[Iw f fi ca]⟩ w0 (bodyPostD P fn Post x) e R H:=by
 have key:XK ⟨nn,[Iw f fi ca]⟩ w0 (bodyPostD P fn Post .ret) e R H:=aRq (H':=H) hf (fun w1 st=>(jT w1).mono fun y u' w' h=>by
  obtain⟨h1,h2,rfl⟩:=h
  exact⟨⟨_,h1⟩,h2,st⟩) fun a w1 _ st=>⟨.tuple #[],results_none hr _ _ _,h w1 st⟩
 rcases hx with rfl | rfl
 ·exact key
 ·exact key
end
theorem Vq(w:World):CallsD Tryz.prog 89 #[] .returning w fun e u' w'=>e=.returned (.tuple #[])∧u'=.returning∧w'=w:=by
 refine callsD_of_wpS func89 rfl fun c₀ cs hu=>?_;apply wpS_region;simp[wpOpsS,go_sem,recoverD,hu,ntmps89,Exit.thenS];cases c₀;simp_all [bodyPostS,results,Tryz.results89]
section
variable{N:cF}{w0 w:World}{e:Env}{R:List Piece}{H:List HP}{K:Act→World→Prop}{f:Nat}{hL:HL}{s:aC}{z:cI}{x:aS}
theorem Gs(i:Nat){o:Nat}{v:Value}(hi:H[i]? =some (gJ f hL s z x))(hv:∀L,(jH hL.h L s z)[o]? =some v):Rd w0 R H f o v:=fun w t=>by
 obtain⟨F,⟨G,g1,g2,_⟩,h2,_⟩:=t.chunk hi;obtain⟨L,hL'⟩:=g1 0 _ rfl
 have:=((aI3 hL' fun b hb=>h2 b (g2 0 b hb)).r0.at_ (hv L)).2
 rwa [Nat.zero_add] at this
end
theorem aOd(f:Nat)(hL:HL)(s:aC)(z:cI)(x:aS)(hH:s.dJ)(aQ:fZ hL s)(hok:cT s x)(hz:Ee s z)(hst:∀a,qJ z=some a→(eT s x z a).2.1=0→(eT s x z a).1=0→tE (iQ z a))(dV:z.at_ < 0)(hno:(lN s x z).2=false)(w:World)(F:Nat→Prop)(hp:(gJ f hL s z x).sat F w)(hF:∀b,F b→b < w.heap.size):
  Cz 36 #[pt f] w (Wr (.tuple #[]) (gJ f hL s (lN s x z).1 x) w F):=by
 refine aAU (vs:=[pt f]) (p:=gJ f hL s z x) func36 rfl ntmps36 (by simp) hp hF ?_;refine aA ?_;refine Ye (f:=89) (fi:=[]) (ca:=[]) rfl ?_;refine aA ?_;refine kd (bH rfl (Gs 0 rfl fun _=>rfl)) ?_;refine aA ?_;refine bT (t:=8) rfl (fun _=>?_) (fun h=>absurd dV h);refine aA ?_;refine bU 0 (gJ f hL s (lN s x z).1 x) (fun w1 F1 t h1 h2 h3=>aGw f hL s z x hH aQ hok hz hst w1 F1 h1 h2) ?_;rw[hno];refine aA ?_;exact Bu (.inl rfl) (by kernel_rfl) Vq rfl fun w1 t=>⟨rfl,t.turns hF (by simp) (i:=0) rfl⟩
end
section
def aGc(m p k:Int):Bool:=decide ((gZ m 0 p k).2=0∧cK (gZ m 0 p k).1 28 4=0∧cK (gZ m 0 p k).1 0 8=m∧cK (gZ m 0 p k).1 8 2=0∧cK (gZ m 0 p k).1 10 8=p∧cK (gZ m 0 p k).1 18 10=k)
end
section
theorem aFr:(List.range 256).all (fun v=>decide (Br (IntKind.u32.wrap v) (uZ 8 0)=0))=true:=by decide+kernel
theorem aLW:(List.range 4).all (fun v=>decide (Br (IntKind.u32.wrap v) (uZ 2 0)=0))=true:=by decide+kernel
theorem aLX:(List.range 1024).all (fun v=>decide (Br (IntKind.u32.wrap v) (uZ 10 0)=0))=true:=by decide+kernel
theorem Zf{n:Nat}{many v:Int}(h:(List.range n).all (fun v=>decide (Br (IntKind.u32.wrap v) (uZ many 0)=0))=true)(h0:0≤v)(hv:v < n):Br (IntKind.u32.wrap v) (uZ many 0)=0:=by
 rw[List.all_eq_true] at h
 have:=of_decide_eq_true (h v.toNat (List.mem_range.2 (by omega)))
 rwa [show((v.toNat:Nat):Int)=v by omega] at this
theorem Zc{w low many v:Int}(hm:Br (IntKind.u32.wrap v) (uZ many 0)=0)(h0:0≤v)(hv:v < IntKind.i64.wrap (1*2 ^ min many.toNat 64)):(fU w low many v).2=0:=by
 unfold fU;rw[if_neg (by omega),if_neg (by rw[wN,if_neg (fun h=>h hm)];exact fun h=>h rfl)]
theorem aL0{m p k:Int}(hm:0≤m∧m < 256)(hp:0≤p∧p < 256)(hk:0≤k∧k < 1024):(gZ m 0 p k).2=0:=by
 have e8:IntKind.i64.wrap (1*2 ^ min (8:Int).toNat 64)=256:=by decide+kernel
 have e2:IntKind.i64.wrap (1*2 ^ min (2:Int).toNat 64)=4:=by decide+kernel
 have e10:IntKind.i64.wrap (1*2 ^ min (10:Int).toNat 64)=1024:=by decide+kernel
 have a1:∀w low,(fU w low 8 m).2=0:=fun w low=>Zc (Zf aFr hm.1 hm.2) hm.1 (by rw[e8];exact hm.2)
 have a2:∀w low,(fU w low 2 0).2=0:=fun w low=>Zc (Zf aLW (by decide) (by decide)) (by decide) (by rw[e2];decide)
 have a3:∀w low,(fU w low 8 p).2=0:=fun w low=>Zc (Zf aFr hp.1 hp.2) hp.1 (by rw[e8];exact hp.2)
 have a4:∀w low,(fU w low 10 k).2=0:=fun w low=>Zc (Zf aLX hk.1 hk.2) hk.1 (by rw[e10];exact hk.2)
 unfold gZ;rw[if_neg (fun h=>h (a1 _ _)),if_neg (fun h=>h (a2 _ _)),if_neg (fun h=>h (a3 _ _)),if_neg (fun h=>h (a4 _ _))]
theorem aBJ(a b:Int):0≤Ab a b∧Ab a b < 4294967296:=Nk _
theorem aLl(w low many v:Int):0≤(fU w low many v).1∧(fU w low many v).1 < 4294967296:=by
 unfold fU;split
 ·exact⟨by decide,by decide⟩
 ·split
  ·exact⟨by decide,by decide⟩
  ·unfold wN;split
   ·exact⟨by decide,by decide⟩
   ·exact aBJ _ _
def aIh(l:List Int)(v:Value)(hs:List HP)(_:Piece):Prop:=∃A c,v=.slice A l.length c∧hs=[HP.own 37 1 (.slice A l.length c) l.length (dY l)]
def aDQ(l:List Int)(v:Value)(hs:List HP)(_:Piece):Prop:=∃A c,v=.tuple #[.slice A l.length c,iv 0]∧hs=[HP.own 37 1 (.slice A l.length c) l.length (dY l)]
theorem aJz(l:List Int)(x:Int):dY l++[.int .u32 x]=dY (l++[x]):=by simp[dY]
theorem aEv(l:List Int)(i:Nat)(x:Int):(dY l).set i (.int .u32 x)=dY (l.set i x):=by simp[dY,List.map_set]
theorem aEG(P:Program)(a b:Int)(w:World):(Op.intBits .or .u32 a b).run P w=.ok (.int .u32 (Ab a b)) w:=by rfl
end
section
section
variable{s:aC}{x:aS}{l:Int}{b:Nat}{m a:List Int}
end
theorem aBN{s:aC}{st:List eM}(hH:s.dJ)(h:pK s st)(i:Int)(b:Bool):pK s (lR s st i b).2:=by
 unfold lR;split
 ·exact h
 ·split
  ·rename_i c x hc hx
   split
   ·exact h
   ·refine⟨by simp[h.len],fun y hy=>?_⟩;rcases List.mem_or_eq_of_mem_set hy with hy | rfl
    ·exact h.left y hy
    ·have h1:=(hH.t.aF i.toNat c hc).2
     have h2:=h.left x (List.mem_of_getElem? hx)
     unfold Tq;dsimp only;split
     ·omega
     ·exact h2
  ·exact h
theorem aJx{s:aC}{st:List fT}(hH:s.dJ)(h:tJ s st)(i:Int):tJ s (uT s st i).2:=by
 unfold uT;split
 ·exact h
 ·split
  ·rename_i c x hc hx
   split
   ·exact h
   ·have h1:=(hH.domains i.toNat c hc).2
    refine⟨by simp[h.len],fun y hy=>?_,fun y hy=>?_⟩
    ·rcases List.mem_or_eq_of_mem_set hy with hy | rfl
     ·exact h.left y hy
     ·exact h1
    ·rcases List.mem_or_eq_of_mem_set hy with hy | rfl
     ·exact h.phase y hy
     ·exact⟨by show(0:Int)≤114;omega,by show(114:Int) < 256;omega⟩
  ·exact h
end
section
def eS(p:Piece):Prop:=∀(i:Nat) (v:Int),[(114:Int),97,115,100][i]? =some v→p.Z 0∧p.w.cell? ⟨0,i,none⟩=some (.int .u8 v)
theorem eS.at_{p:Piece}{w:World}(h:eS p)(hl:p.Le (all w)):Rv w:=fun i v hv=>by
 obtain⟨h1,h2⟩:=h i v hv;obtain⟨h3,h4⟩:=hl 0 h1;refine⟨h3,?_⟩;rw[←h2];exact World.cell?_of_block h4
theorem eS.le{p q:Piece}(h:eS p)(hl:p.Le q):eS q:=fun i v hv=>by
 obtain⟨h1,h2⟩:=h i v hv;obtain⟨h3,h4⟩:=hl 0 h1;exact⟨h3,(World.cell?_of_block h4).trans h2⟩
def Hv(s:aC)(d:Int)(k:Nat)(p:dS×fF):dS×fF:=match s.aD[k]? with
 | some dv=>if dv.domain=d then(p.1,(oH p.2).2) else p
 | none=>p
def wP(s:aC)(x:aS)(d:Int)(n:Nat):List (dS×fF):=x.dv.mapIdx fun k p=>if k < n then Hv s d k p else p
def Oa(s:aC)(x:aS)(d:Int):aS×Bool:=
 if sC x.dm d=48∨sC x.dm d=116 then({x with dm:=(uT s x.dm d).2},false)
 else if sC x.dm d=49 then({x with dv:=wP s x d s.aD.length},true) else(x,false)
def Wm(s:aC)(x:aS)(c:Nat):aS×Bool:=
 ({x with ck:=(lR s x.ck c true).2},tO s (lR s x.ck c true).2 c||(decide ((mH s c).length < 2)|| !tO s (lR s x.ck c true).2 ((mH s c).getD 1 0:Nat)))
def Nv(x:aS)(i:Int):aS×Bool:=if Ig x.ln i then({x with ln:=(wM x.ln i).2},false) else(x,true)
theorem aFB{x:fF}(h:zG x):zG (oH x).2:=by
 unfold oH;split
 ·exact h
 ·exact⟨by show(0:Int)≤0;omega,by show(0:Int)≤3;omega⟩
theorem aFC{s:aC}{x:aS}(hH:s.dJ)(hok:cT s x)(d:Int)(n:Nat):cT s {x with dv:=wP s x d n}:=Tr hH hok (by simp[wP]) fun i e p hd hp=>by
 rw[wP,List.getElem?_mapIdx] at hp;cases hq:x.dv[i]? with
 | none=>rw[hq] at hp;cases hp
 | some q =>
  rw[hq] at hp;obtain⟨h1,h2⟩:=hok.each i e q hd hq;simp only[Option.map_some,Option.some.injEq] at hp;subst hp;split
  ·unfold Hv;rw[hd];dsimp only;split
   ·exact⟨h1,aFB h2⟩
   ·exact⟨h1,h2⟩
  ·exact⟨h1,h2⟩
section
variable{N:cF}{w0 w:World}{e:Env}{R:List Piece}{H:List HP}{Q:Exit→Act→World→Prop}{ops:Array Oper}{rest:List Oper}{K:Act→World→Prop}
variable{d:Nat}{ty:TypeId}{pos:String}{aH:Array Edge}{f h:Nat}{L:gA}{s:aC}{z:cI}
theorem aEc(n:Nat)(Φ:List Value→Prop){x:Operand}{t:TypeId}{b o:Nat}[hT:mJ t n](hx:e.ev x=some (.pointer (some ⟨b,o,none⟩)))(h:∀w,St w0 R H w→∃vs,dU w b o vs∧vs.length=n∧Φ vs)(k:∀vs,Φ vs→XK N w0 (wpList Tryz.prog ops Q rest) ((d,.agg vs.toArray)::e) R H)(hd:d < N.n:=by decide):
  XK N w0 (wpList Tryz.prog ops Q (⟨some d,.load t x,ty,pos,aH,none⟩::rest)) e R H:=rW rfl fun a w hr st=>by
 obtain⟨vs,h1,h2,h3⟩:=h w st;exact⟨.agg vs.toArray,w,aGO (N:=N) (w0:=w) (R:=[all w]) (H:=[]) (d:=d) (ty:=ty) (pos:=pos) (aH:=aH) n hT.h hx (xQ (by simp) h1) h2 a w hr (St.start w),k vs h3 _ _ (hr.put hd _) st⟩
theorem aHG(j:Nat)(hj:H[j]? =some (iE f h L s z))(hn:0 < s.aD.length)(k:∀b off,L.a4.1=some ⟨b,off,none⟩→XK N w0 K e R H):XK N w0 K e R H:=fun a w hr st=>by
 obtain⟨b,off,r,hA,_⟩:=jX.row (st.Dm j hj).so.dev (List.getElem?_eq_getElem hn);exact k b off hA a w hr st
def aDP(d:cH)(vs:List Value):Prop:=∃A n k A' n' k',vs=[iv d.clock,iv d.domain,iv d.reset,.int .u32 d.iH,.slice A n k,.slice A' n' k']
theorem aG2{i b off:Nat}{d:cH}(kf:Jo w f h L s z)(hA:L.a4.1=some ⟨b,off,none⟩)(hd:s.aD[i]? =some d):∃vs,dU w b (off+i*6) vs∧vs.length=6∧aDP d vs:=by
 obtain⟨b',off',r,pV,hl,⟨A,n,k,A',n',k',he,_⟩,hro⟩:=jX.row kf.so.dev hd;rw[hA] at pV;cases pV;exact⟨r,hro,hl,A,n,k,A',n',k',he⟩
end
variable(f:Nat)(hL:HL)(s:aC)(z:cI)(x:aS)(w:World)
theorem aOf(hH:s.dJ)(aQ:fZ hL s)(hok:cT s x)(d:Int)(F:Nat→Prop)(hp:(gJ f hL s z x).sat F w)(hF:∀b,F b→b < w.heap.size)(dD:eS ⟨w,fun b=>b < w.heap.size∧¬F b⟩):
  Cz 138 #[pt f,iv d] w (Wr (.bool (Oa s x d).2) (gJ f hL s z (Oa s x d).1) w F):=by
 have rE:=hH.t.nv
 have lB:=hok.dv
 refine cS func138 ntmps138 hp hF ?_;generalize cN:(⟨w,fun b=>b < w.heap.size∧¬F b⟩:Piece)=R0 at dD⊢;refine aV 0 0 ?_;refine iW 0 fun L=>?_;refine aV 1 1 ?_;refine aA ?_;refine kd (bH rfl (Rd.dZ 1 rfl rfl)) ?_;refine aA ?_;refine aU (fun w1 t=>aC8 hL s x w1 hok.dm d (t.mG 0 rfl aQ hok)) ?_;unfold Oa;generalize Cx:sC x.dm d=ph
 by_cases h48:ph=48
 ·subst h48;rw[if_pos (.inl rfl)];refine aA ?_;refine kd (bH rfl (Rd.dZ 1 rfl rfl)) ?_;refine aA ?_;refine bU 0 (dM hL s {x with dm:=(uT s x.dm d).2}) (fun w1 F1 t h1 h2 h3=>aGd hL s x w1 hH aQ hok d F1 h1 h2) ?_;refine aA ?_;refine aJ 1 1 ?_;refine cR 0 (fun L:gA=>iE f hL.h L s z) L ?_;refine aJ 0 0 ?_;subst cN;exact bO 0 hF
 by_cases Vn:ph=116
 ·subst Vn;rw[if_pos (.inr rfl)];refine aA ?_;refine kd (bH rfl (Rd.dZ 1 rfl rfl)) ?_;refine aA ?_;refine bU 0 (dM hL s {x with dm:=(uT s x.dm d).2}) (fun w1 F1 t h1 h2 h3=>aGd hL s x w1 hH aQ hok d F1 h1 h2) ?_;refine aA ?_;refine aJ 1 1 ?_;refine cR 0 (fun L:gA=>iE f hL.h L s z) L ?_;refine aJ 0 0 ?_;subst cN;exact bO 0 hF
 rw[if_neg (by omega)]
 by_cases Lo:ph=49
 ·subst Lo;rw[if_pos rfl];refine aA ?_;refine kd (bH rfl (Rd.dZ 1 rfl rfl)) ?_;refine aA ?_
  have hm0:wP s x d 0=x.dv:=Og _ _
  refine bL [(31,iv (0)),(30,iv s.aD.length),(29,.slice L.a4.1 s.aD.length L.a4.2),(0,pt f),(1,iv d)] ?_;refine eV (fun m e R H=>∃i:Nat,i≤s.aD.length∧m=s.aD.length - i∧e=[(31,iv (i:Int)),(30,iv s.aD.length),(29,.slice L.a4.1 s.aD.length L.a4.2),(0,pt f),(1,iv d)]∧R=[R0]∧H=[dM hL s {x with dv:=wP s x d i},iE f hL.h L s z,HP.many [cG,cG]]) s.aD.length ⟨0,by omega,rfl,rfl,rfl,by rw[hm0]⟩ fun m e R H hI=>?_;obtain⟨i,hi,rfl,rfl,rfl,rfl⟩:=hI
  have mQ:=aFC hH hok d i
  refine aA ?_;refine aG rfl (fun hlt=>?_) (fun hge=>?_)
  ·have hlt:i < s.aD.length:=by omega
   obtain⟨dv,cY⟩:=get_some hlt;obtain⟨p,gE⟩:=get_some (l:=x.dv) (i:=i) (by omega)
   have kQ:(wP s x d i)[i]? =some p:=Oi gE
   have hstep:(wP s x d i).set i (Hv s d i p)=wP s x d (i+1):=Oh (f:=Hv s d) gE
   obtain⟨q1,q2⟩:=(mQ.each i dv p cY kQ).2;refine aHG 1 rfl (by omega) fun b off hA=>?_;refine aA ?_;refine kd (dat i (off+i*6) (hx:=by rw[←hA];rfl)) ?_;refine aEc 6 (aDP dv) rfl (fun w1 t=>aG2 (t.Dm 1 rfl) hA cY) ?_;rintro _ ⟨A,n,k,A',n',k',rfl⟩;refine bX fun g1=>?_;refine aA ?_;refine aG rfl (fun he=>?_) (fun he=>?_)
   ·have nB:Hv s d i p=p:=by
     unfold Hv;rw[cY];exact if_neg he
    rw[nB,wK kQ] at hstep;rw[hstep];refine aA ?_;refine aT [1,2,3] rfl (by decide) (fun _ h=>h) ?_;exact eP (s.aD.length - (i+1)) ⟨i+1,hlt,rfl,rfl,rfl,rfl⟩
   ·have he:dv.domain=d:=by simpa using he
    have nB:Hv s d i p=(p.1,(oH p.2).2):=by
     unfold Hv;rw[cY];exact if_pos he
    have hst:wF {x with dv:=wP s x d i} i=oO p.2.at_:=by
     unfold wF;dsimp only;rw[kQ];rfl
    refine aA ?_;refine kd (bH rfl (Rd.dZ 2 rfl rfl)) ?_;refine aA ?_;refine aU (fun w1 t=>aGe hL s _ w1 aQ mQ i hlt (dD.at_ (t.le (by simp))) (t.mG 1 rfl aQ mQ)) ?_;rw[hst]
    by_cases ha:p.2.at_=2∨p.2.at_=3
    ·have hlf:oO p.2.at_=115∨oO p.2.at_=100:=by
      rcases ha with ha | ha<;>rw[ha]
      ·exact .inl rfl
      ·exact .inr rfl
     rcases hlf with hlf | hlf<;>rw[hlf]
     all_goals
      refine aA ?_;refine kd (bH rfl (Rd.dZ 2 rfl rfl)) ?_;refine aA ?_;refine vU (α:=Int) 1 (f:=175) (fi:=[]) (ca:=[]) (fun r=>iv r) (fun _=>dM hL s (yK {x with dv:=wP s x d i} i)) (fun _=>True) (by kernel_rfl) rfl rfl rfl (by decide) (fun w1 F1 t h1 h2 h3=>aC9 hL s _ w1 hH aQ mQ i hlt F1 h1 h2) ?_;rintro _ _;dsimp only[List.set]
      have hX:yK {x with dv:=wP s x d i} i={x with dv:=wP s x d (i+1)}:=by
       unfold yK;dsimp only;rw[kQ,←hstep,nB]
      rw[hX];refine aA ?_;refine aT [1,2,3] rfl (by decide) (fun _ h=>h) ?_;exact eP (s.aD.length - (i+1)) ⟨i+1,hlt,rfl,rfl,rfl,rfl⟩
    ·have hq:(oH p.2).2=p.2:=by
      unfold oH;rw[if_pos (by omega)]
     have hlf:oO p.2.at_=114∨oO p.2.at_=97:=by
      have:p.2.at_=0∨p.2.at_=1:=by omega
      rcases this with ha | ha<;>rw[ha]
      ·exact .inl rfl
      ·exact .inr rfl
     rw[nB,hq,wK kQ] at hstep;rcases hlf with hlf | hlf<;>rw[hlf,hstep]
     all_goals
      refine aA ?_;refine aT [1,2,3] rfl (by decide) (fun _ h=>h) ?_;exact eP (s.aD.length - (i+1)) ⟨i+1,hlt,rfl,rfl,rfl,rfl⟩
  obtain rfl:i=s.aD.length:=by omega
  refine aA ?_;refine aJ 1 1 ?_;refine cR 0 (fun L:gA=>iE f hL.h L s z) L ?_;refine aJ 0 0 ?_;subst cN;exact bO 0 hF
 ·rw[if_neg Lo];refine aA ?_;refine aG rfl (fun h=>absurd h h48) (fun _=>?_);refine aA ?_;refine aG rfl (fun h=>absurd h Vn) (fun _=>?_);refine aA ?_;refine aG rfl (fun h=>absurd h Lo) (fun _=>?_);refine aA ?_;refine aJ 1 1 ?_;refine cR 0 (fun L:gA=>iE f hL.h L s z) L ?_;refine aJ 0 0 ?_;subst cN;exact bO 0 hF
theorem aOe(hH:s.dJ)(aQ:fZ hL s)(hok:cT s x)(i:Int)(F:Nat→Prop)(hp:(gJ f hL s z x).sat F w)(hF:∀b,F b→b < w.heap.size):
  Cz 142 #[pt f,iv i] w (Wr (.bool (Nv x i).2) (gJ f hL s z (Nv x i).1) w F):=by
 refine cS func142 ntmps142 hp hF ?_;generalize cN:(⟨w,fun b=>b < w.heap.size∧¬F b⟩:Piece)=R0;refine aV 0 0 ?_;refine iW 0 fun L=>?_;refine aV 1 1 ?_;refine aA ?_;refine kd (bH rfl (Rd.dZ 1 rfl rfl)) ?_;refine aA ?_;refine aU (fun w1 t=>aNz hL s x w1 i (t.mG 0 rfl aQ hok)) ?_;unfold Nv;cases hh:Ig x.ln i
 ·refine aA ?_;refine aJ 1 1 ?_;refine cR 0 (fun L:gA=>iE f hL.h L s z) L ?_;refine aJ 0 0 ?_;subst cN;exact bO 0 hF
 ·refine aA ?_;refine kd (bH rfl (Rd.dZ 1 rfl rfl)) ?_;refine aA ?_;refine bU 0 (dM hL s {x with ln:=(wM x.ln i).2}) (fun w1 F1 t h1 h2 h3=>aNx hL s x w1 hH aQ hok i F1 h1 h2) ?_;refine aA ?_;refine aJ 1 1 ?_;refine cR 0 (fun L:gA=>iE f hL.h L s z) L ?_;refine aJ 0 0 ?_;subst cN;exact bO 0 hF
theorem aOj(hH:s.dJ)(aQ:fZ hL s)(hok:cT s x)(c:Nat)(hc:c < s.aF.length)(F:Nat→Prop)(hp:(gJ f hL s z x).sat F w)(hF:∀b,F b→b < w.heap.size):
  Cz 140 #[pt f,iv (c:Int)] w (Wr (.bool (Wm s x c).2) (gJ f hL s z (Wm s x c).1) w F):=by
 refine cS func140 ntmps140 hp hF ?_;generalize cN:(⟨w,fun b=>b < w.heap.size∧¬F b⟩:Piece)=R0;refine aV 0 0 ?_;refine iW 0 fun L=>?_;refine aV 1 1 ?_;refine aA ?_;refine kd (bH rfl (Rd.dZ 1 rfl rfl)) ?_;refine aA ?_;refine bU 0 (dM hL s {x with ck:=(lR s x.ck c true).2}) (fun w1 F1 t h1 h2 h3=>aGi hL s x w1 hH aQ hok c true F1 h1 h2) ?_
 have mR:cT s {x with ck:=(lR s x.ck c true).2}:=⟨aBN hH hok.ck _ _,hok.dm,hok.ln,hok.dv,hok.each,hok.wt⟩
 unfold Wm;generalize Ey:({x with ck:=(lR s x.ck c true).2}:aS)=x2 at mR⊢
 have Ba:(lR s x.ck c true).2=x2.ck:=by rw[←Ey]
 rw[Ba];refine aA ?_;refine kd (bH rfl (Rd.dZ 1 rfl rfl)) ?_;refine aA ?_;refine aU (fun w1 t=>aGf hL s x2 w1 hH c (t.mG 0 rfl aQ mR)) ?_;cases hr:tO s x2.ck c
 ·refine aA ?_;refine kd (kB rfl (aO.dZ 1 rfl (vs:=[.slice L.a1.1 s.aF.length L.a1.2,.slice L.a2.1 s.domains.length L.a2.2,.slice L.a3.1 s.bA.length L.a3.2,.slice L.a4.1 s.aD.length L.a4.2]) rfl)) ?_;refine aA ?_;refine jN [] (Gt (mH s c)) (fun w1 t=>aA3 (all w1) s _ _ _ _ _ L.a1.2 _ L.a2.2 _ L.a3.2 _ L.a4.2 c w1 (t.Dm 1 rfl).so hH.t (Piece.Le.refl _) hc) ?_;rintro _ w1 qm ⟨Ac,cc,rfl,jT⟩ hf _ _
  have jT:=jT.le hf
  clear hf;refine aA ?_;rcases oX:mH s c with _ | ⟨c0,_ | ⟨c1,cr⟩⟩
  ·refine lV ?_;refine iV ?_;refine aA ?_;refine aJ 1 1 ?_;refine cR 0 (fun L:gA=>iE f hL.h L s z) L ?_;refine aJ 0 0 ?_;subst cN;exact bO 0 hF
  ·refine lV ?_;refine iV ?_;refine aA ?_;refine aJ 1 1 ?_;refine cR 0 (fun L:gA=>iE f hL.h L s z) L ?_;refine aJ 0 0 ?_;subst cN;exact bO 0 hF
  ·rw[oX] at jT;obtain⟨b,off,hA,hb,nC⟩:=jT.2 (by simp)
   have r1:Rd w [qm,R0] [dM hL s x2,iE f hL.h L s z,HP.many [cG,cG]] b (off+1) (iv (c1:Int)):=Rd.ro (p:=qm) (by simp) hb (nC 1 _ rfl)
   have hlen:decide ((c0::c1::cr).length < 2)=false:=by simp
   rw[hlen];refine lV ?_;refine jC ?_;refine Mi 27 rfl (fun h=>absurd h (by simp;omega)) (fun _=>?_);refine jC ?_;refine yX (bH rfl (Rd.dZ 1 rfl rfl)) ?_;refine jC ?_;refine yX (dat 1 (off+1) (hx:=by rw[←hA];rfl) (hlt:=by simp)) ?_;refine jC ?_;refine sZ (fun w1 t=>aGf hL s x2 w1 hH c1 (t.mG 0 rfl aQ mR)) ?_;refine iV ?_;refine aA ?_;refine aJ 1 1 ?_;refine cR 0 (fun L:gA=>iE f hL.h L s z) L ?_;refine aJ 0 0 ?_;subst cN;exact bO 0 hF
 ·refine aA ?_;refine aJ 1 1 ?_;refine cR 0 (fun L:gA=>iE f hL.h L s z) L ?_;refine aJ 0 0 ?_;subst cN;exact bO 0 hF
end
section
structure gK where
 id:Int
 dev:Int
 dead:Bool
 val:Int
def gK.cells(a:gK):List Value:=[iv a.id,iv a.dev,.bool a.dead,.int .u32 a.val]
def Eb(s:aC)(x:aS):Prop:=∀(i:Nat) (d:cH) (t:iY),s.aD[i]? =some d→(x.wt[i]?).join=some t→0≤t.bY∧t.bY < d.aR.length∧0≤t.val∧t.val < 4294967296
def To(x:aS)(i:Nat)(wr:Bool)(bY v:Int):aS:={x with wt:=x.wt.set i (some ⟨x.bB,wr,bY,v⟩),bB:=x.bB+1}
def Ej(p:dS×fF)(t:iY):dS×fF:=if t.wr then(⟨p.1.now.set t.bY.toNat t.val,p.1.saved,p.1.kept⟩,p.2) else p
def iI(s:aC)(x:aS)(i:Nat):aS×Option gK:=match(x.wt[i]?).join,s.aD[i]?,x.dv[i]? with
 | some t,some d,some p=>if xL s x i then({x with wt:=x.wt.set i none,dv:=x.dv.set i (Ej p t)},some ⟨t.id,i,false,p.1.now.getD t.bY.toNat 0⟩) else({x with wt:=x.wt.set i none},some ⟨t.id,i,true,d.iH⟩)
 | _,_,_=>(x,none)
section
variable{s:aC}{x:aS}
theorem aBk(hok:cT s x)(i:Nat)(q:Option iY)(po:Int):cT s {x with wt:=x.wt.set i q,bB:=po}:=⟨hok.ck,hok.dm,hok.ln,hok.dv,hok.each,by show(x.wt.set i q).length=_;rw[List.length_set];exact hok.wt⟩
theorem aEn{d:cH}{p:dS×fF}{t:iY}(hp:xT d p.1)(hv:0≤t.val∧t.val < 4294967296):xT d (Ej p t).1:=by
 unfold Ej;split
 ·refine⟨by simp[hp.now],hp.saved,fun v h=>?_,hp.u.2⟩;rcases List.mem_or_eq_of_mem_set h with h | rfl
  ·exact hp.u.1 v h
  ·exact hv
 ·exact hp
theorem aOD(hok:cT s x){i:Nat}{d:cH}{p:dS×fF}(hd:s.aD[i]? =some d)(h:xT d p.1∧zG p.2)(wt:List (Option iY))(hw:wt.length=s.aD.length)(po:Int):cT s {x with dv:=x.dv.set i p,wt:=wt,bB:=po}:=
 ⟨hok.ck,hok.dm,hok.ln,by simp[hok.dv],fun j d' p' hd' hp'=>by
  by_cases hij:i=j
  ·subst hij
   have hlt:i < x.dv.length:=by simpa using(List.getElem?_eq_some_iff.1 hp').1
   rw[List.getElem?_set_self hlt] at hp';cases hp';cases hd.symm.trans hd';exact h
  ·rw[List.getElem?_set_ne hij] at hp'
   exact hok.each j d' p' hd' hp',hw⟩
theorem aQI(hok:cT s x)(mN:Eb s x)(i:Nat):cT s (iI s x i).1:=by
 unfold iI;split
 ·rename_i t d p ht hd hp
  obtain⟨h1,h2⟩:=hok.each i d p hd hp;split
  ·exact aOD hok hd ⟨aEn h1 (mN i d t hd ht).2.2,by unfold Ej;split<;>exact h2⟩ _ (by simp[hok.wt]) _
  ·exact aBk hok i none _
 ·exact hok
theorem aB3{ws:List (Option iY)}{i j:Nat}{t:iY}(h:((ws.set i none)[j]?).join=some t):(ws[j]?).join=some t:=by
 by_cases hij:i=j
 ·subst hij;rw[List.getElem?_set] at h;simp at h;split at h<;>cases h
 ·rwa [List.getElem?_set_ne hij] at h
theorem aQG(mN:Eb s x)(i:Nat):Eb s (iI s x i).1:=by
 unfold iI;split
 ·split
  ·exact fun j d t hd ht=>mN j d t hd (aB3 ht)
  ·exact fun j d t hd ht=>mN j d t hd (aB3 ht)
 ·exact mN
end
section
variable(L:HL)(s:aC)(x:aS)(w:World)
theorem aGg(hH:s.dJ)(aQ:fZ L s)(hok:cT s x)(i:Nat)(d:cH)(cY:s.aD[i]? =some d)(h0:(x.wt[i]?).join=none)(lB:s.aD.length≤4)(bY:Int)(hr:0≤bY∧bY < 4∧bY < d.aR.length)(b:Bool)(v:Int)(mP:0≤x.bB∧x.bB≤1000000000)(F:Nat→Prop)(hp:(dM L s x).sat F w)(hF:∀b,F b→b < w.heap.size)(dD:eS ⟨w,fun b=>b < w.heap.size∧¬F b⟩):
  Cz 267 #[.pointer (some ⟨L.h,0,none⟩),.int .u32 (Ra i bY),.bool b,.int .u32 v] w (Wr (if wF x i=114 then .tuple #[iv x.bB,iv 0] else .tuple #[iv 0,iv 6]) (dM L s (if wF x i=114 then To x i b bY v else x)) w F):=by
 have hls:=aQ.ds
 have hxl:=hok.dv
 have wR:=hok.wt
 have hi:=(List.getElem?_eq_some_iff.1 cY).1
 obtain⟨l,iA⟩:=get_some (l:=L.ds) (i:=i) (by omega);obtain⟨p,gE⟩:=get_some (l:=x.dv) (i:=i) (by omega)
 have hin:bZ s.aD.length (i:Int)=true:=decide_eq_true (by omega)
 have ha:=aH1 (dev:=i) (bY:=bY) ⟨by omega,by omega⟩ ⟨hr.1,hr.2.1⟩
 have hst:wF x i=oO p.2.at_:=by
  unfold wF;rw[gE];rfl
 rw[hst];refine cS func267 ntmps267 hp hF ?_;generalize cN:(⟨w,fun b=>b < w.heap.size∧¬F b⟩:Piece)=R0 at dD⊢;refine aA ?_;refine aU (fun w1 t=>aHm _ i bY ha.z0 ha.z1 ha.z2 ha.z3 w1) ?_;refine aA ?_;refine aU (fun w1 t=>Pn L s x w1 i (t.mG 0 rfl aQ hok)) ?_;rw[hin];refine Mj 0 rfl aQ hok (by omega) fun b0 off hA=>?_;refine aA ?_;refine bT (t:=25) rfl (fun h=>absurd h (by omega)) (fun _=>?_);refine aA ?_;refine kd (bH rfl (pJ 0 rfl rfl)) ?_;refine aA ?_;refine kd (dat i (off+i*6) (hx:=by rw[←hA];rfl)) ?_;refine aA ?_;refine kd (bH rfl (aBc (vs:=Ir d l) 4 (aO.dev 0 rfl aQ hok hA cY iA rfl) rfl)) ?_;refine aA ?_;refine aU (fun w1 t=>Tf l.1 d p.1 w1 ((t.mG 0 rfl aQ hok).each i d l p cY iA gE).1) ?_;refine aA ?_;refine aG rfl (fun h=>absurd h (by omega)) (fun _=>?_);refine aA ?_;refine kd (bH rfl (pJ 0 rfl rfl)) ?_;refine aA ?_;refine kd (dat i (off+i*6) (hx:=by rw[←hA];rfl)) ?_;refine aA ?_;refine kd (bH rfl (aBc (vs:=Ir d l) 5 (aO.dev 0 rfl aQ hok hA cY iA rfl) rfl)) ?_;refine aA ?_;refine aU (fun w1 t=>aFb l.2 p.2 (hok.each i d p cY gE).2 w1 (dD.at_ (t.le (by simp))) ((t.mG 0 rfl aQ hok).each i d l p cY iA gE).2) ?_;refine aA ?_
 by_cases Bf:oO p.2.at_=114
 ·rw[Bf,if_pos rfl,if_pos rfl];refine aA ?_;refine kd (bH rfl (pJ 0 rfl rfl)) ?_;refine aA ?_;refine aV 0 4 ?_;refine bU 0 (xW L.B (jS s) (x.wt.set i (some ⟨x.bB,b,bY,v⟩)) (x.bB+1)) (fun w1 F1 t h1 h2 h3=>aQt L.B (jS s) x.wt x.bB i (by rw[Ev];exact hi) (by rw[Ev];omega) (by rw[Ev];exact wR) h0 _ bY ha.z0 ha.z1 ha.z2 ha.z3 d.aR.length (by simp[jS,cY]) ⟨hr.1,hr.2.2⟩ b v mP w1 F1 h1 h2) ?_;refine aJ 0 4 ?_;refine aA ?_;subst cN;exact fQ rfl rfl rfl fun w1 t=>⟨rfl,t.turns hF (by simp) (i:=0) rfl⟩
 ·rw[if_neg Bf,if_neg Bf];refine aG rfl (fun _=>?_) (fun h=>absurd h (by simpa using Bf));refine aA ?_;subst cN;exact fQ rfl rfl rfl fun w1 t=>⟨rfl,t.turns hF (by simp) (i:=0) rfl⟩
theorem aN3(hH:s.dJ)(aQ:fZ L s)(hok:cT s x)(mN:Eb s x)(i:Nat)(d:cH)(cY:s.aD[i]? =some d)(t:iY)(ht:(x.wt[i]?).join=some t)(a:gK)(hx:(iI s x i).2=some a)(F:Nat→Prop)(hp:(dM L s x).sat F w)(hF:∀b,F b→b < w.heap.size):
  Cz 151 #[.pointer (some ⟨L.h,0,none⟩),iv (i:Int)] w (Wr (.tuple #[.agg a.cells.toArray,.bool true]) (dM L s (iI s x i).1) w F):=by
 have hls:=aQ.ds
 have hxl:=hok.dv
 have wR:=hok.wt
 have hi:=(List.getElem?_eq_some_iff.1 cY).1
 obtain⟨l,iA⟩:=get_some (l:=L.ds) (i:=i) (by omega);obtain⟨p,gE⟩:=get_some (l:=x.dv) (i:=i) (by omega);obtain⟨hfo,hqo⟩:=hok.each i d p cY gE;obtain⟨r1,r2,r3,r4⟩:=mN i d t cY ht
 have mR:cT s {x with wt:=x.wt.set i none}:=aBk hok i none _
 have hwr:=aEn (t:=t) hfo ⟨r3,r4⟩
 obtain⟨rn,ern⟩:∃n:Nat,t.bY=(n:Int):=⟨t.bY.toNat,by omega⟩
 have fL:=hfo.now
 obtain⟨rv,Pc⟩:=get_some (l:=p.1.now) (i:=rn) (by omega)
 have hal:xL s {x with wt:=x.wt.set i none} i=xL s x i:=rfl
 have hX:iI s x i=if xL s x i then({x with wt:=x.wt.set i none,dv:=x.dv.set i (Ej p t)},some ⟨t.id,i,false,rv⟩) else({x with wt:=x.wt.set i none},some ⟨t.id,i,true,d.iH⟩):=by
  unfold iI;rw[ht,cY,gE];dsimp only;rw[ern,Int.toNat_natCast,List.getD_eq_getElem?_getD,Pc];rfl
 rw[hX] at hx⊢;refine cS func151 ntmps151 hp hF ?_;generalize cN:(⟨w,fun b=>b < w.heap.size∧¬F b⟩:Piece)=R0;refine aA ?_;refine bX fun g1=>?_;refine aA ?_;refine kd (bH rfl (pJ 1 rfl rfl)) ?_;refine aA ?_;refine aV 1 4 ?_;refine bU 0 (xW L.B (jS s) (x.wt.set i none) x.bB) (fun w1 F1 st h1 h2 h3=>aQr L.B (jS s) x.wt x.bB i (by rw[Ev];exact hi) (by rw[Ev];exact wR) t ht w1 F1 h1 h2) ?_;refine aJ 1 4 ?_
 change XK _ _ _ _ _ [_,dM L s {x with wt:=x.wt.set i none}]
 generalize Ey:({x with wt:=x.wt.set i none}:aS)=x2 at mR hal⊢
 have Lc:x2.dv[i]? =some p:=by rw[←Ey];exact gE
 refine aA ?_;refine bX fun g2=>?_;refine Mj 2 rfl aQ mR (by omega) fun b off hA=>?_;refine aA ?_;refine kd (bH rfl (pJ 2 rfl rfl)) ?_;refine aA ?_;refine kd (dat i (off+i*6) (hx:=by rw[←hA];rfl)) ?_;refine kd (kB rfl (aO.dev 2 rfl aQ mR hA cY iA rfl)) ?_;refine bX fun g3=>?_;refine aA ?_;refine aU (fun w1 st=>aGk L s x2 w1 hH aQ mR i hi (st.mG 3 rfl aQ mR)) ?_;rw[hal];cases hb:xL s x i
 ·rw[hb] at hx;simp at hx;subst hx;refine aA ?_;refine kd (iN rfl) ?_;refine aA ?_;subst cN;exact yY (vs:=[iv t.id,iv i,.bool true,.int .u32 d.iH]) rfl (by kernel_rfl) rfl rfl (aO.whole 2 rfl) rfl fun w1 st=>⟨rfl,st.turns hF (by simp) (i:=3) rfl⟩
 ·rw[hb] at hx;simp at hx;subst hx;refine aA ?_;rw[ern];refine aU (fun w1 st=>aKU l.1 d p.1 rn rv hfo.now Pc w1 ((st.mG 3 rfl aQ mR).each i d l p cY iA Lc).1) ?_;refine aA ?_
  have Uh:t.bY.toNat=rn:=by omega
  cases hw:t.wr
  ·have hwf:Ej p t=p:=by
    unfold Ej;rw[hw];rfl
   have hxx:({x with wt:=x.wt.set i none,dv:=x.dv.set i p}:aS)=x2:=by
    rw[wK gE];exact Ey
   rw[hwf,hxx];refine aA ?_;refine kd (iN rfl) ?_;refine aA ?_;subst cN;exact yY (vs:=[iv t.id,iv i,.bool false,.int .u32 rv]) rfl (by kernel_rfl) rfl rfl (aO.whole 2 rfl) rfl fun w1 st=>⟨rfl,st.turns hF (by simp) (i:=3) rfl⟩
  ·have hwf:Ej p t=(⟨p.1.now.set rn t.val,p.1.saved,p.1.kept⟩,p.2):=by
    unfold Ej;rw[hw,Uh];rfl
   rw[hwf];refine aA ?_;refine Rf 3 i rfl cY iA Lc ?_;dsimp only[List.set];refine aV 0 0 ?_;refine bU 0 (gR l.1 d ⟨p.1.now.set rn t.val,p.1.saved,p.1.kept⟩) (fun w1 F1 st h1 h2 h3=>aKR l.1 d p.1 rn t.val hfo.now (by omega) w1 F1 h1 h2) ?_;refine aJ 0 0 ?_;refine Rm 3 i rfl cY iA Lc (p':=(⟨p.1.now.set rn t.val,p.1.saved,p.1.kept⟩,p.2)) ?_;dsimp only[List.set];refine aA ?_;refine kd (iN rfl) ?_;refine aA ?_;subst cN;subst Ey;exact yY (vs:=[iv t.id,iv i,.bool false,.int .u32 rv]) rfl (by kernel_rfl) rfl rfl (aO.whole 2 rfl) rfl fun w1 st=>⟨rfl,st.turns hF (by simp) (i:=3) rfl⟩
end
end
section
structure rN where
 st:Int
 kind:Int
 dev:Int
 bY:Int
 val:Int
 err:Int
 res:Int
 hs:List Int
def Sg:rN:=⟨0,0,0,0,0,0,0,[0,0,0,0,0,0]⟩
def hG(t:rN)(i:Nat):Int:=t.hs.getD i 0
structure bM where
 cn:Cn
 wn:dR
 t0:rN
 t1:rN
 t2:rN
 fA:Int
 steps:List fE
 sent:Bool
 bB:Bool
 id:Int
 many:Int
def rp0(s:aC):bM:=⟨⟨[],false⟩,fI s,Sg,Sg,Sg,-1,[],false,false,0,0⟩
def bM.tk(z:bM):Nat→rN
 | 0=>z.t0
 | 1=>z.t1
 | _=>z.t2
def bM.jQ(z:bM)(j:Nat)(t:rN):bM:={z with t0:=if j=0 then t else z.t0,t1:=if j=1 then t else z.t1,t2:=if j=2 then t else z.t2}
structure dK where
 a1:AC
 a2:AC
 a3:AC
 a4:AC
 gc:Nat
 gm:Nat
 nd:AC
 w1:AC
 w2:AC
 w3:AC
 st:AC
def tkC(t:rN):List Value:=[iv t.st,.int .u8 t.kind,iv t.dev,iv t.bY,.int .u32 t.val,iv t.err,.int .u32 t.res,iv (hG t 0),iv (hG t 1),iv (hG t 2),iv (hG t 3),iv (hG t 4),iv (hG t 5)]
def lO(h f:Nat)(L:dK)(s:aC)(z:bM):List Value:=
  [pt h,pt f,.slice L.a1.1 s.aF.length L.a1.2,.slice L.a2.1 s.domains.length L.a2.2,.slice L.a3.1 s.bA.length L.a3.2,.slice L.a4.1 s.aD.length L.a4.2,.pointer (some ⟨L.gc,0,none⟩),.slice L.w1.1 z.wn.d.length L.w1.2,.slice L.w2.1 z.wn.c.length L.w2.2,.slice L.w3.1 z.wn.l.length L.w3.2,
   iv z.t0.st,.int .u8 z.t0.kind,iv z.t0.dev,iv z.t0.bY,.int .u32 z.t0.val,iv z.t0.err,.int .u32 z.t0.res,iv (hG z.t0 0),iv (hG z.t0 1),iv (hG z.t0 2),iv (hG z.t0 3),iv (hG z.t0 4),iv (hG z.t0 5),
   iv z.t1.st,.int .u8 z.t1.kind,iv z.t1.dev,iv z.t1.bY,.int .u32 z.t1.val,iv z.t1.err,.int .u32 z.t1.res,iv (hG z.t1 0),iv (hG z.t1 1),iv (hG z.t1 2),iv (hG z.t1 3),iv (hG z.t1 4),iv (hG z.t1 5),
   iv z.t2.st,.int .u8 z.t2.kind,iv z.t2.dev,iv z.t2.bY,.int .u32 z.t2.val,iv z.t2.err,.int .u32 z.t2.res,iv (hG z.t2 0),iv (hG z.t2 1),iv (hG z.t2 2),iv (hG z.t2 3),iv (hG z.t2 4),iv (hG z.t2 5),
   iv z.fA,.slice L.st.1 z.steps.length L.st.2,.bool z.sent,.bool z.bB,iv z.id,iv z.many]
def lW(L:dK)(s:aC)(p:Piece):Prop:=qA p s L.a1.1 s.aF.length L.a2.1 s.domains.length L.a3.1 s.bA.length L.a4.1 s.aD.length
theorem lW.le{L:dK}{s:aC}(p q:Piece)(hl:p.Le q)(h:lW L s p):lW L s q:=qA.le h hl
def tB(L:dK)(x:dR)(p:Piece):Prop:=aI p 1 L.w1.1 x.d.length (bG x.d)∧aI p 1 L.w2.1 x.c.length (bG x.c)∧aI p 1 L.w3.1 x.l.length (bG x.l)
theorem tB.le{L:dK}{x:dR}(p q:Piece)(hl:p.Le q)(h:tB L x p):tB L x q:=⟨h.1.le hl,h.2.1.le hl,h.2.2.le hl⟩
def Mw(L:dK)(s:aC)(p:Piece):Prop:=nH p L.nd.1 (dL s).length (dL s)
theorem Mw.le{L:dK}{s:aC}(p q:Piece)(hl:p.Le q)(h:Mw L s p):Mw L s q:=nH.le h hl
def nG(L:dK)(l:List fE)(p:Piece):Prop:=aI p 4 L.st.1 l.length (l.flatMap fE.cells)∧l.length≤L.st.2
theorem nG.le{L:dK}{l:List fE}(p q:Piece)(hl:p.Le q)(h:nG L l p):nG L l q:=⟨h.1.le hl,h.2⟩
def fY(g h f:Nat)(L:dK)(s:aC)(z:bM):HP:=HP.many [HP.aE g 190 (lO h f L s z),HP.bR (lW L s) (lW.le (L:=L) (s:=s)),HP.bR (tB L z.wn) (tB.le (L:=L) (x:=z.wn)),qT L.gc L.gm (.slice L.nd.1 (dL s).length L.nd.2) z.cn,HP.bR (Mw L s) (Mw.le (L:=L) (s:=s)),HP.bR (nG L z.steps) (nG.le (L:=L) (l:=z.steps))]
def jJ(g h f:Nat)(s:aC)(z:bM):HP:=HP.ex fun L:dK=>fY g h f L s z
structure Xo(w:World)(g h f:Nat)(L:dK)(s:aC)(z:bM):Prop where
 r0:dU w g 0 (lO h f L s z)
 so:lW L s (all w)
 wn:tB L z.wn (all w)
 cn:dU w L.gc 0 [.slice L.nd.1 (dL s).length L.nd.2,.map (some L.gm),.bool z.cn.lT]
 nd:Mw L s (all w)
 sp:nG L z.steps (all w)
theorem aIf{g h f:Nat}{L:dK}{s:aC}{z:bM}{F:Nat→Prop}{w:World}(k:(fY g h f L s z).sat F w)(hF:∀b,F b→b < w.heap.size):Xo w g h f L s z:=by
 obtain⟨G,g1,g2,_⟩:=k
 have hl:∀i,(⟨w,G i⟩:Piece).Le (all w):=fun i b hb=>⟨hF b (g2 i b hb),rfl⟩
 obtain⟨G',k1,_,_⟩:=g1 3 _ rfl;exact⟨uI (g1 0 _ rfl).2,lW.le _ _ (hl 1) (g1 1 _ rfl),tB.le _ _ (hl 2) (g1 2 _ rfl),uI (k1 0 _ rfl).2,Mw.le _ _ (hl 4) (g1 4 _ rfl),nG.le _ _ (hl 5) (g1 5 _ rfl)⟩
theorem St.aB7{w0 w:World}{R:List Piece}{H:List HP}{g h f:Nat}{L:dK}{s:aC}{z:bM}(t:St w0 R H w)(i:Nat)(hi:H[i]? =some (fY g h f L s z)):Xo w g h f L s z:=by
 obtain⟨F,h1,h2,_⟩:=t.chunk hi;exact aIf h1 h2
theorem aB8(t:Int)(w:World):Cz 98 #[iv t] w (Rt (.bool (bZ 3 t)) w):=by
 refine aN func98 ntmps98 ?_;refine aA ?_;refine bT (t:=5) rfl (fun h=>?_) (fun h=>?_)
 ·refine aA ?_;refine jI (by simp) ?_;unfold bZ
  congr 1
  simp;omega
 ·refine aA ?_;refine jI (by simp) ?_
  have:bZ 3 t=false:=decide_eq_false (by omega)
  rw[this]
theorem Hz{t:Int}(h:bZ 3 t=true):∃j:Nat,t=(j:Int)∧(j=0∨j=1∨j=2):=by
 have:=of_decide_eq_true h
 exact⟨t.toNat,by omega,by omega⟩
section
variable(g h f:Nat)(L:dK)(s:aC)(z:bM)(w:World)
theorem aKB(d:Int)(hR:Xo w g h f L s z):Cz 263 #[pt g,iv d] w (Rt (.bool (bZ s.aD.length d)) w):=by
 have k5:=hR.r0.at_ (j:=5) rfl
 refine aN func263 ntmps263 ?_;refine aA ?_;refine bT (t:=7) rfl (fun h=>?_) (fun h=>?_)
 ·refine aA ?_;refine jI (by simp) ?_;unfold bZ
  congr 1
  simp;omega
 ·refine aA ?_;refine jI (by simp) ?_
  have:bZ s.aD.length d=false:=decide_eq_false (by omega)
  rw[this]
theorem aK8(hR:Xo w g h f L s z):Cz 86 #[pt g] w (Rt (iv z.fA) w):=by
 have k0:=hR.r0.at_ (j:=49) rfl
 refine aN func86 ntmps86 ?_;refine aA ?_;exact dI
end
end
section
section
variable{N:cF}{w0:World}{e:Env}{R:List Piece}{H:List HP}{Q:Exit→Act→World→Prop}{ops:Array Oper}{rest:List Oper}{pos:String}{ty:TypeId}{aH:Array Edge}
theorem Cs(i:Nat){x y:Operand}{s t:TypeId}{g o:Nat}{cs vs:List Value}(hi:H[i]? =some (HP.aE g t cs))(k:XK N w0 (wpList Tryz.prog ops Q rest) e R (H.set i (HP.aE g t (fP cs o vs))))(hx:e.ev x=some (.pointer (some ⟨g,o,none⟩)):=by rfl)(hy:e.ev y=some (.agg vs.toArray):=by rfl)(hs:(Tryz.prog.info? s).any (·.size==vs.length)=true:=by kernel_rfl)(h1:vs.all Value.oneCell'=true:=by rfl)(hl:decide (o+vs.length≤cs.length)=true:=by rfl):
  XK N w0 (wpList Tryz.prog ops Q (⟨none,.store s x y,ty,pos,aH,none⟩::rest)) e R H:=
 qC i hi hx hy hs (fun u hu=>List.all_eq_true.1 h1 u (by simpa[Value.cells] using hu)) (by simpa[Value.cells] using of_decide_eq_true hl) (by simpa[Value.cells] using k)
end
section
variable{P:Program}{N:cF}{w0 w:World}{e:Env}{R:List Piece}{H:List HP}{p:HP}{Q:Exit→Act→World→Prop}
theorem St.bK(st:St w0 R (p::H) w):St w0 R (cG::H) w:=st.wA (i:=0) (p:=p) rfl (Nat.le_refl _) rfl rfl rfl fun F _ hlt=>⟨F,trivial,fun b hb=>⟨.inl hb,hlt b hb⟩,fun _ _ _=>rfl⟩
theorem Gk(Z:List Nat){id:Nat}{l:List Oper}(h:XB P N w0 l.toArray Q R (cG::H) Z l.length (Array.replicate l.length false) e R (p::H))(hm:P.follows .mixedOrders=true:=by kernel_rfl)(hc:Region.noSelect l.toArray=true:=by kernel_rfl):XK N w0 ((Code.region id l.toArray true).wp P Q) e R (p::H):=fun a w hr st=>by
 have:=h ⟨Down.start _ _,hc⟩ a w.drew hr st.drew
 refine wp_region_any hm (aBn (S:=St w0 R (cG::H)) (Z:=Z) _ _ _ _ ?_)
 simpa using this
end
def Qe(k:Int):Value:=if k=103 then .iface 284 (.agg #[]) else if k=112 then .iface 285 (.agg #[]) else if k=114 then .iface 287 (.agg #[.bool false]) else if k=119 then .iface 287 (.agg #[.bool true]) else if k=115 then .iface 288 (.agg #[]) else if k=109 then .iface 289 (.agg #[]) else .nilIface
def wQ(k:Int):Prop:=k=103∨k=112∨k=114∨k=119∨k=115∨k=109
instance(k:Int):Decidable (wQ k):=by unfold wQ;infer_instance
theorem aB9(k:Int)(w:World):Cz 131 #[.int .u8 k] w (Rt (Qe k) w):=by
 unfold Qe;refine aN func131 ntmps131 ?_;refine aA ?_;refine aG rfl (fun h0=>?_) (fun h0=>?_)
 ·rw[if_pos h0];refine aB ?_;refine kd (Qk rfl) ?_;refine aA ?_;exact dI
 rw[if_neg h0];refine aA ?_;refine aG rfl (fun h1=>?_) (fun h1=>?_)
 ·rw[if_pos h1];refine aB ?_;refine kd (Qk rfl) ?_;refine aA ?_;exact dI
 rw[if_neg h1];refine aA ?_;refine aG rfl (fun h2=>?_) (fun h2=>?_)
 ·rw[if_pos h2];refine aB ?_;refine kd (Qk rfl) ?_;refine aA ?_;exact dI
 rw[if_neg h2];refine aA ?_;refine aG rfl (fun h3=>?_) (fun h3=>?_)
 ·rw[if_pos h3];refine aB ?_;refine kd (Qk rfl) ?_;refine aA ?_;exact dI
 rw[if_neg h3];refine aA ?_;refine aG rfl (fun h4=>?_) (fun h4=>?_)
 ·rw[if_pos h4];refine aB ?_;refine kd (Qk rfl) ?_;refine aA ?_;exact dI
 rw[if_neg h4];refine aA ?_;refine aG rfl (fun h5=>?_) (fun h5=>?_)
 ·rw[if_pos h5];refine aB ?_;refine kd (Qk rfl) ?_;refine aA ?_;exact dI
 rw[if_neg h5];refine aA ?_;exact dI
theorem aO7{k:Int}(h:¬wQ k):Qe k=.nilIface:=by
 unfold wQ at h;unfold Qe;rw[if_neg (by omega),if_neg (by omega),if_neg (by omega),if_neg (by omega),if_neg (by omega),if_neg (by omega)]
theorem aO6{k:Int}(h:wQ k):∃u y,Qe k=.iface u y:=by
 rcases h with rfl | rfl | rfl | rfl | rfl | rfl<;>exact⟨_,_,rfl⟩
def wG(z:bM)(t kind dev bY val:Int):Int×bM:=if bZ 3 t=false then(4,z) else if(z.tk t.toNat).st≠0 then(7,z) else if ¬wQ kind then(1,z) else(0,z.jQ t.toNat {z.tk t.toNat with st:=1,kind:=kind,dev:=dev,bY:=bY,val:=val})
section
variable(g h f:Nat)(s:aC)(z:bM)(w:World)(F:Nat→Prop)
theorem aK4(t kind dev bY val:Int)(hp:(jJ g h f s z).sat F w)(hF:∀b,F b→b < w.heap.size):
  Cz 85 #[pt g,iv t,.agg #[.int .u8 kind,iv dev,iv bY,.int .u32 val]] w (Wr (iv (wG z t kind dev bY val).1) (jJ g h f s (wG z t kind dev bY val).2) w F):=by
 unfold wG;refine cS func85 ntmps85 hp hF ?_;refine aA ?_;refine bN fun g1=>?_;refine aA ?_;refine aU (fun w1 _=>aB8 t w1) ?_;cases hin:bZ 3 t
 ·refine aA ?_;exact bO 1 hF
 ·rw [if_neg (by simp)];obtain⟨j,rfl,hj⟩:=Hz hin;rw[Int.toNat_natCast];refine iW 1 fun L=>?_;refine aV 1 0 ?_
  by_cases hst:(z.tk j).st=0
  ·rw[if_neg (by simpa using hst)]
   by_cases hk:wQ kind
   ·rw[if_neg (by simpa using hk)];obtain⟨u,y,hy⟩:=aO6 hk;obtain⟨z',hz⟩:∃z',z'=z.jQ j {z.tk j with st:=1,kind:=kind,dev:=dev,bY:=bY,val:=val}:=⟨_,rfl⟩
    rw[←hz];rcases hj with rfl | rfl | rfl
    all_goals
     refine aA ?_;refine kd (fN _ _ (ho:=rfl)) ?_;refine aA ?_;refine aG rfl (fun h1=>absurd hst h1) (fun _=>?_);refine aA ?_;refine aU (fun w1 _=>aB9 kind w1) ?_;rw[hy];refine aA ?_;refine kd (aGP rfl (.inr ⟨⟨_,_,rfl⟩,rfl⟩)) ?_;refine aA ?_;refine kd (fN _ _ (ho:=rfl)) ?_;refine aA ?_;refine Gk [2] ?_;refine bJ 0 ?_ (hsub:=fun _ h=>h.bK);refine bJ 1 ?_ (hsub:=fun _ h=>h.bK);refine aK 2 ?_ (hsub:=fun _ h=>h.bK);refine aL 3 ?_;refine bE ?_;refine aZ ?_ (hS:=fun _ h=>h.bK);refine aL 4 ?_;refine bE ?_;refine aZ ?_ (hS:=fun _ h=>h.bK);refine aL 5 ?_;refine eN rfl rfl ?_ (hs:=eJ.mk 0 rfl cO.h rfl (of_decide_eq_true rfl));dsimp only[List.set];refine aZ ?_ (hS:=fun _ h=>h.bK);refine aL 6 ?_;refine bE ?_;refine aZ ?_ (hS:=fun _ h=>h.bK);refine aL 7 ?_;refine bE ?_;refine aZ ?_ (hS:=fun _ h=>h.bK);refine aL 8 ?_;refine Cs 0 rfl ?_;dsimp only[List.set];refine aZ ?_ (hS:=fun _ h=>h.bK);refine dW ?_;refine aA ?_;refine aJ 1 0 ?_;refine uK 1 (f:=fun L:dK=>fY g h f L s z') L (by subst hz;rfl) ?_;dsimp only[List.set];exact bO 1 hF
   ·rw[if_pos (by simpa using hk)];rcases hj with rfl | rfl | rfl
    all_goals
     refine aA ?_;refine kd (fN _ _ (ho:=rfl)) ?_;refine aA ?_;refine aG rfl (fun h1=>absurd hst h1) (fun _=>?_);refine aA ?_;refine aU (fun w1 _=>aB9 kind w1) ?_;rw[aO7 hk];refine aA ?_;refine kd (aGP rfl (.inl ⟨rfl,rfl⟩)) ?_;refine aA ?_;refine aJ 1 0 ?_;refine cR 1 (fun L:dK=>fY g h f L s z) L ?_;exact bO 1 hF
  ·rw[if_pos hst];rcases hj with rfl | rfl | rfl
   all_goals
    refine aA ?_;refine kd (fN _ _ (ho:=rfl)) ?_;refine aA ?_;refine aG rfl (fun _=>?_) (fun h1=>absurd (Decidable.not_not.1 h1) hst);refine aA ?_;refine aJ 1 0 ?_;refine cR 1 (fun L:dK=>fY g h f L s z) L ?_;exact bO 1 hF
end
end
section
section
variable{N:cF}{w0:World}{e:Env}{R:List Piece}{H:List HP}{K:Act→World→Prop}
theorem xR(i:Nat){b o:Nat}{t:TypeId}{cs vs:List Value}(hi:H[i]? =some (HP.aE b t cs))(hv:(cs.drop o).take vs.length=vs):aO w0 R H b o vs:=aO.aE i hi fun j v hj=>by
 rw[←hv,List.getElem?_take] at hj;split at hj
 ·rw[List.getElem?_drop] at hj;exact hj
 ·cases hj
theorem aRi(j i:Nat){ps:List HP}{p q:HP}(hj:H[j]? =some (HP.many ps))(hi:ps[i]? =some p)(hq:∀F w,p.sat F w→q.sat F w)(k:XK N w0 K e R (H.set j (HP.many (ps.set i q)))):XK N w0 K e R H:=by
 have hlt:=(List.getElem?_eq_some_iff.1 hj).1
 have hli:=(List.getElem?_eq_some_iff.1 hi).1
 refine qM j i hj hi ?_;refine oZ 0 rfl hq ?_;refine qO j i (by rw[List.getElem?_set_self hlt]) (by rw[List.getElem?_set_self hli]) ?_;rw[List.set_set,List.set_set];exact k
end
def pX(z:bM)(j:Nat)(err res:Int):bM:={z.jQ j {z.tk j with st:=3,err:=err,res:=res} with fA:= -1,steps:=[],sent:=false,bB:=false}
def pY(z:bM)(t:Int):(Int×Int×Bool)×bM:=if bZ 3 t=false then((0,0,false),z) else if(z.tk t.toNat).st≠3 then((0,0,false),z) else(((z.tk t.toNat).err,(z.tk t.toNat).res,true),z.jQ t.toNat {z.tk t.toNat with st:=0,kind:=0,dev:=0,bY:=0,val:=0,err:=0,res:=0})
section
variable(g h f:Nat)(s:aC)(z:bM)(w:World)(F:Nat→Prop)
theorem Ki(j:Nat)(fA:z.fA=(j:Int))(hj:j=0∨j=1∨j=2)(err res:Int)(hp:(jJ g h f s z).sat F w)(hF:∀b,F b→b < w.heap.size):
  Cz 158 #[pt g,.agg #[iv err,.int .u32 res]] w (Wr (.tuple #[]) (jJ g h f s (pX z j err res)) w F):=by
 refine cS func158 ntmps158 hp hF ?_;obtain⟨z',hz⟩:∃z',z'=pX z j err res:=⟨_,rfl⟩
 rw[←hz];refine iW 0 fun L=>?_;refine aV 0 0 ?_;rcases hj with rfl | rfl | rfl
 all_goals
  refine aA ?_;refine bN fun g1=>?_;refine aT [1,0,2] rfl (by decide) (fun _ h=>h) ?_;refine aA ?_;refine lV ?_;refine jC ?_;refine yX (fN _ _ (hj:=fA) (ho:=rfl)) ?_;refine iV ?_;refine aA ?_;refine Gk [2] ?_;refine bJ 0 ?_ (hsub:=fun _ h=>h.bK);refine bJ 1 ?_ (hsub:=fun _ h=>h.bK);refine aK 2 ?_ (hsub:=fun _ h=>h.bK);refine aL 3 ?_;refine bE ?_;refine aZ ?_ (hS:=fun _ h=>h.bK);refine aL 4 ?_;refine bE ?_;refine aZ ?_ (hS:=fun _ h=>h.bK);refine aL 5 ?_;refine eN rfl rfl ?_ (hs:=eJ.mk 0 rfl cO.h rfl (of_decide_eq_true rfl));dsimp only[List.set];refine aZ ?_ (hS:=fun _ h=>h.bK);refine aL 6 ?_;refine bE ?_;refine aZ ?_ (hS:=fun _ h=>h.bK);refine aL 7 ?_;refine bE ?_;refine aZ ?_ (hS:=fun _ h=>h.bK);refine aL 8 ?_;refine Cs 0 rfl ?_;dsimp only[List.set];refine aZ ?_ (hS:=fun _ h=>h.bK);refine dW ?_;refine aA ?_;refine eN rfl rfl ?_ (hs:=eJ.mk 0 rfl cO.h rfl (of_decide_eq_true rfl));dsimp only[List.set];refine aA ?_;refine eN rfl rfl ?_ (hs:=eJ.mk 0 rfl cO.h rfl (of_decide_eq_true rfl));dsimp only[List.set];refine aA ?_;refine eN rfl rfl ?_ (hs:=eJ.mk 0 rfl cO.h rfl (of_decide_eq_true rfl));dsimp only[List.set];refine aA ?_;refine eN rfl rfl ?_ (hs:=eJ.mk 0 rfl cO.h rfl (of_decide_eq_true rfl));dsimp only[List.set];refine aA ?_;refine aJ 1 0 ?_;refine aRi (q:=HP.bR (nG {L with st:=(none,0)} []) (nG.le (L:={L with st:=(none,0)}) (l:=[]))) 1 5 rfl rfl (fun F w _=>⟨aI.nil _ _,Nat.le_refl _⟩) ?_;dsimp only[List.set];refine uK 1 (f:=fun L:dK=>fY g h f L s z') {L with st:=(none,0)} (by subst hz;rfl) ?_;dsimp only[List.set];exact fC 1 hF
theorem aKA(t:Int)(hp:(jJ g h f s z).sat F w)(hF:∀b,F b→b < w.heap.size):
  Cz 135 #[pt g,iv t] w (Wr (.tuple #[.agg #[iv (pY z t).1.1,.int .u32 (pY z t).1.2.1],.bool (pY z t).1.2.2]) (jJ g h f s (pY z t).2) w F):=by
 unfold pY;refine cS func135 ntmps135 hp hF ?_;refine aA ?_;refine bX fun g1=>?_;refine aA ?_;refine aU (fun w1 _=>aB8 t w1) ?_;cases hin:bZ 3 t
 ·refine aA ?_;refine kd (iN rfl) ?_;refine aA ?_;exact yY (vs:=[iv 0,.int .u32 0]) rfl (by kernel_rfl) rfl rfl (aO.whole 0 rfl) rfl fun w1 t=>⟨rfl,t.turns hF (by simp) (i:=1) rfl⟩
 ·rw[if_neg (by simp)];obtain⟨j,rfl,hj⟩:=Hz hin;rw[Int.toNat_natCast];refine iW 1 fun L=>?_;refine aV 1 0 ?_
  by_cases hst:(z.tk j).st=3
  ·rw[if_neg (by simpa using hst)];obtain⟨z',hz⟩:∃z',z'=z.jQ j {z.tk j with st:=0,kind:=0,dev:=0,bY:=0,val:=0,err:=0,res:=0}:=⟨_,rfl⟩
   rw[←hz];rcases hj with rfl | rfl | rfl
   all_goals
    refine aA ?_;refine kd (fN _ _ (ho:=rfl)) ?_;refine aA ?_;refine aG rfl (fun h1=>absurd hst h1) (fun _=>?_);refine aA ?_;refine kd (fN _ _ (ho:=rfl)) ?_;refine aA ?_;refine kd (kB rfl (xR (vs:=[_,_]) 0 rfl rfl)) ?_;refine bX fun g2=>?_;refine aA ?_;refine kd (iN rfl) ?_;refine kd (iN rfl) ?_;refine aA ?_;refine eN rfl rfl ?_ (hs:=eJ.mk 1 rfl cO.h rfl (of_decide_eq_true rfl));dsimp only[List.set];refine aA ?_;refine Cs 1 rfl ?_;dsimp only[List.set];refine aA ?_;refine Cs 1 rfl ?_;dsimp only[List.set];refine aA ?_;refine aT [1,0,2,3] rfl (by decide) (fun _ h=>h) ?_;refine aJ 2 0 ?_;refine uK 2 (f:=fun L:dK=>fY g h f L s z') L (by subst hz;rfl) ?_;dsimp only[List.set];exact yY (vs:=[_,_]) rfl (by kernel_rfl) rfl rfl (aO.whole 1 rfl) rfl fun w1 t=>⟨rfl,t.turns hF (by simp) (i:=2) rfl⟩
  ·rw[if_pos hst];rcases hj with rfl | rfl | rfl
   all_goals
    refine aA ?_;refine kd (fN _ _ (ho:=rfl)) ?_;refine aA ?_;refine aG rfl (fun _=>?_) (fun h1=>absurd (Decidable.not_not.1 h1) hst);refine aA ?_;refine kd (iN rfl) ?_;refine aA ?_;refine aJ 1 0 ?_;refine cR 1 (fun L:dK=>fY g h f L s z) L ?_;exact yY (vs:=[iv 0,.int .u32 0]) rfl (by kernel_rfl) rfl rfl (aO.whole 0 rfl) rfl fun w1 t=>⟨rfl,t.turns hF (by simp) (i:=1) rfl⟩
end
end
section
def Jb(ks:List Int)(v:Int):List Int:=if ks.contains v then ks else ks++[v]
def Jz(g:List (List Int))(ks:List Int)(i:Nat):List Int:=if ks.contains (i:Int) then(g.getD i []).foldl Jb ks else ks
def Kr(g:List (List Int))(v:Int)(n:Nat):Nat→List Int
 | 0=>[v]
 | k+1=>Jz g (Kr g v n k) (n - 1 - k)
def sD(ks:List Int)(v:Int)(n:Nat):List Nat:=(List.range n).filter fun u:Nat=>decide (¬(u:Int)=v)&&ks.contains (u:Int)
def yW(g:List (List Int))(v:Int)(n:Nat):List Nat:=sD (Kr g v n n) v n
theorem aFo(ks:List Int)(v:Int)(n:Nat):(sD ks v n).length≤n:=Nat.le_trans (List.length_filter_le _ _) (by simp)
theorem aL9(ks:List Int)(v:Int)(n:Nat):sD ks v (n+1)=if(decide (¬(n:Int)=v)&&ks.contains (n:Int))=true then sD ks v n++[n] else sD ks v n:=by
 unfold sD;rw[List.range_succ,List.filter_append];simp only[List.filter_cons,List.filter_nil];split<;>simp
theorem aLB(A:Option Addr)(n c:Nat)(g:List (List Int))(v:Int)(w:World)(hg:nH (all w) A n g)(hn:n=g.length)(hn2:n≤100)(hlen:∀l∈g,(l.length:Int)≤9223372036854775806)(hv:0≤v∧v < n)(ho:fK g=(0,List.range n)):
  Cz 250 #[.slice A n c,iv v] w (fun y w'=>(∃x,y=.returned x∧Rs g x w w')∧Below w.heap.size w w'):=by
 refine aN func250 ntmps250 ?_;refine aA ?_;refine jN [] (Rs g) (fun w1 st=>(Ze A n c g w1 (hg.le (st.le (by simp))) hn (by omega) hlen).mono fun y w' h=>h.aBI) ?_;rintro _ w1 q ⟨A',m,c',rfl,hm,hs⟩ hf _ hfr
 have hs:=hs.le hf
 rw[ho] at hs hm;rw[ho];dsimp only at hs hm⊢;refine aA ?_;refine bT (t:=18) rfl (fun h=>absurd h (by omega)) (fun _=>?_);refine aA ?_;refine aG rfl (fun h=>absurd h (by omega)) (fun _=>?_);refine aA ?_;exact fQ rfl rfl rfl fun w1 t=>⟨⟨_,rfl,A',m,c',by rw[ho];rfl,by rw[ho];exact hm,by rw[ho];exact hs.le (t.mT (by simp) (hfr (by simp)))⟩,t.below (by simp)⟩
theorem aL8(q:Piece)(r:Nat)(ks:List Int)(A:Option Addr)(n c:Nat)(v:Int)(w:World)(hn2:n≤100)(hm:vP w r (kZ ks))(hq:q.Le (all w))(hs:aI q 1 A n (aM (dO (List.range n)))):
  Cz 251 #[.slice A n c,.map (some r),iv v] w (Rp (Gt (sD ks v n)) w):=by
 refine aN func251 ntmps251 ?_;refine yZ q (by simp) hq ?_;refine aA ?_;refine lU 3 1 ?_;refine bL [(12,iv 0),(11,iv n),(10,.slice A n c),(7,sn),(1,.map (some r)),(2,iv v)] ?_;refine eV (fun m e R H=>∃(i:Nat) (B:Option Addr) (k:Nat),i≤n∧m=n - i∧e=[(12,iv i),(11,iv n),(10,.slice A n c),(7,.slice B (sD ks v i).length k),(1,.map (some r)),(2,iv v)]∧R=[q,all w]∧H=[HP.own 3 1 (.slice B (sD ks v i).length k) (sD ks v i).length (aM (dO (sD ks v i)))]) n ⟨0,none,0,by omega,rfl,rfl,rfl,rfl⟩ fun m e R H hI=>?_;obtain⟨i,B,k,hi,rfl,rfl,rfl,rfl⟩:=hI
 have nW:=aFo ks v i
 have dB:=aL9 ks v i
 generalize hl:sD ks v i=l at nW dB⊢;refine aA ?_;refine aG rfl (fun hlt=>?_) (fun hge=>?_)
 ·have hlt:i < n:=by omega
  obtain⟨b,off,hA,hz,hc⟩:=hs.2 (by omega)
  have Dh:=hc i (iv (i:Int)) (by simp[aM,dO,hlt])
  refine aA ?_;refine kd (dat i (off+i) (hx:=by rw[←hA];rfl)) ?_;refine aA ?_;refine kd (bH rfl (Rd.ro (p:=q) (by simp) hz Dh)) ?_;refine aA ?_;refine bT (t:=19) rfl (fun hv=>?_) (fun hv=>?_)
  ·refine aA ?_;refine aU (fun w1 t=>Zn r i ks w1 (hm.below (t.below (by simp)))) ?_;rw[decide_eq_true hv,Bool.true_and] at dB;cases hk:ks.contains (i:Int)
   ·rw[hk,if_neg (by simp)] at dB;refine aA ?_;refine bL [(12,iv (i+1:Nat)),(11,iv n),(10,.slice A n c),(7,.slice B l.length k),(1,.map (some r)),(2,iv v)] ?_;exact gQ (n - (i+1)) (by omega) ⟨i+1,B,k,hlt,rfl,by rw[dB],rfl,by rw[dB]⟩
   ·rw[hk,if_pos rfl] at dB;refine aA ?_;refine eK fun g4=>?_;refine iF 1 1 8 1 (n':=l.length+1) (el:=3) (by kernel_rfl) (by kernel_rfl) (by decide) rfl rfl rfl (mM 0 rfl rfl) (by simp[Value.oneCell']) rfl (by omega) (by omega) (by decide) fun An cn=>?_;dsimp only[List.set];refine aA ?_;refine aT [1] rfl (by decide) (fun _ h=>h) ?_;refine bL [(12,iv (i+1:Nat)),(11,iv n),(10,.slice A n c),(7,.slice An (l.length+1) cn),(1,.map (some r)),(2,iv v)] ?_;exact gQ (n - (i+1)) (by omega) ⟨i+1,An,cn,hlt,rfl,by rw[dB];simp,rfl,by rw[dB];simp[aM,dO]⟩
  ·rw[decide_eq_false hv,Bool.false_and,if_neg (by simp)] at dB;refine aA ?_;refine bL [(12,iv (i+1:Nat)),(11,iv n),(10,.slice A n c),(7,.slice B l.length k),(1,.map (some r)),(2,iv v)] ?_;exact gQ (n - (i+1)) (by omega) ⟨i+1,B,k,hlt,rfl,by rw[dB],rfl,by rw[dB]⟩
 ·obtain rfl:i=n:=by omega
  subst hl;refine aA ?_;refine dF [] [0] [] (by simp) rfl (by decide) (by decide) fun q2 vC _ hfr=>?_
  have h2:aI q2 1 B (sD ks v i).length (aM (dO (sD ks v i))):=aI.own (vC 0 _ (by simp) rfl)
  exact aP (h:=fun w1 t=>⟨_,rfl,B,k,rfl,h2.le (t.mT (by simp) (hfr (by simp) (by simp)))⟩)
theorem aNT(q0:Piece)(A:Option Addr)(n c:Nat)(g:List (List Int))(v:Nat)(w:World)(Ic:q0.Le (all w))(hg:nH q0 A n g)(hn:n=g.length)(hn2:n≤100)(hlen:∀l∈g,(l.length:Int)≤1000)(hv:v < n)(ho:fK g=(0,List.range n)):
  Cz 248 #[.slice A n c,iv (v:Int)] w (Rp (fun x w w'=>∃A' c',x=.tuple #[.slice A' (yW g v n).length c',iv 0]∧aI (fresh w w') 1 A' (yW g v n).length (aM (dO (yW g v n)))) w):=by
 refine aN func248 ntmps248 ?_;refine yZ q0 (by simp) Ic ?_;refine aA ?_;refine jN [] (Rs g) (fun w1 st=>aLB A n c g v w1 (hg.le (st.le (by simp))) hn hn2 (fun l hl=>by have:=hlen l hl;omega) (by omega) ho) ?_;rintro _ w1 q ⟨A',m,c',rfl,hm,hs⟩ hf _ _
 have hs:=hs.le hf
 rw[ho] at hs hm;rw[ho];dsimp only at hs hm⊢;obtain rfl:m=n:=by simpa using hm
 refine aA ?_;refine Ya (by decide) fun r=>?_;refine aA ?_;refine bU 0 (HP.map r (kZ [(v:Int)])) (fun w1 F1 t h1 h2 h3=>Zo r v [] w1 F1 h1 h2) ?_;refine aA ?_;refine aT [0] rfl (by decide) (R':=[q,q0,all w]) (by simp) ?_;refine bL [(9,iv ((m:Int) - 1)),(6,.slice A' m c'),(8,.map (some r)),(0,.slice A m c),(1,iv (v:Int))] ?_;refine eV (fun k e R H=>k≤m∧e=[(9,iv ((k:Int) - 1)),(6,.slice A' m c'),(8,.map (some r)),(0,.slice A m c),(1,iv (v:Int))]∧R=[q,q0,all w]∧H=[HP.map r (kZ (Kr g v m (m - k)))]) m ⟨Nat.le_refl _,rfl,rfl,by rw[Nat.sub_self];rfl⟩ fun k e R H hI=>?_;obtain⟨hk,rfl,rfl,rfl⟩:=hI;refine aA ?_;refine aG rfl (fun hge=>?_) (fun hlt=>?_)
 ·obtain⟨k,rfl⟩:∃j,k=j+1:=⟨k - 1,by omega⟩
  have hkm:k < m:=by omega
  obtain⟨row,hrow⟩:=get_some (l:=g) (i:=k) (by omega)
  have dB:Kr g v m (m - k)=Jz g (Kr g v m (m - (k+1))) k:=by
   rw[show m - k=(m - (k+1))+1 by omega]
   show Jz g _ (m - 1 - (m - (k+1)))=_
   rw[show m - 1 - (m - (k+1))=k by omega]
  generalize hks:Kr g v m (m - (k+1))=ks at dB⊢;obtain⟨b,off,pV,hz,hc⟩:=hs.2 (by omega)
  have Ba:=hc k (iv (k:Int)) (by simp[aM,dO,hkm])
  obtain⟨gb,aNN,gr,hA,hgz,oJ,⟨RA,rn,rk,rfl,Uh,Ug⟩,Uv⟩:=aRP hg hrow
  have hrl:=hlen row (List.mem_of_getElem? hrow)
  have hrd:=Uv 0 _ rfl
  subst Uh;refine aA ?_;refine kd (dat k (off+k) (hx:=by rw[←pV];rfl)) ?_;refine kd (bH rfl (Rd.ro (p:=q) (by simp) hz Ba)) ?_;refine aU (fun w1 t=>Zn r k ks w1 (t.map (i:=0) rfl)) ?_;cases hkc:ks.contains (k:Int)
  ·have h2:Jz g ks k=ks:=by unfold Jz;rw[hkc];rfl
   rw[h2] at dB;refine aA ?_;refine bL [(9,iv (((k+1:Nat):Int) - 1 - 1)),(6,.slice A' m c'),(8,.map (some r)),(0,.slice A m c),(1,iv (v:Int))] ?_;exact gQ k (by omega) ⟨by omega,by rw[show(((k+1:Nat):Int) - 1 - 1)=(k:Int) - 1 by omega],rfl,by rw[dB]⟩
  ·have h2:Jz g ks k=row.foldl Jb ks:=by
    unfold Jz;rw[hkc,if_pos rfl,List.getD_eq_getElem?_getD,hrow];rfl
   rw[h2] at dB;refine aA ?_;refine kd (dat k (off+k) (hx:=by rw[←pV];rfl)) ?_;refine kd (bH rfl (Rd.ro (p:=q) (by simp) hz Ba)) ?_;refine kd (dat k (aNN+k*1) (hx:=by rw[←hA];rfl)) ?_;refine kd (bH rfl (Rd.ro (p:=q0) (by simp) hgz hrd)) ?_;refine aA ?_;refine bL [(47,iv 0),(46,iv row.length),(45,.slice RA row.length rk),(9,iv (((k+1:Nat):Int) - 1)),(6,.slice A' m c'),(8,.map (some r)),(0,.slice A m c),(1,iv (v:Int))] ?_;refine eV (fun u e R H=>∃i:Nat,i≤row.length∧u=row.length - i∧e=[(47,iv i),(46,iv row.length),(45,.slice RA row.length rk),(9,iv (((k+1:Nat):Int) - 1)),(6,.slice A' m c'),(8,.map (some r)),(0,.slice A m c),(1,iv (v:Int))]∧R=[q,q0,all w]∧H=[HP.map r (kZ ((row.take i).foldl Jb ks))]) row.length ⟨0,by omega,rfl,rfl,rfl,rfl⟩ fun u e R H hI=>?_;obtain⟨i,hi,rfl,rfl,rfl,rfl⟩:=hI;refine aA ?_;refine aG rfl (fun uB=>?_) (fun aGa=>?_)
   ·have uB:i < row.length:=by omega
    obtain⟨y,hy⟩:=get_some uB;obtain⟨rb,aKL,hRA,hrz,hrc⟩:=(show aI q0 1 RA row.length (aM row) from Ug).2 (by omega)
    have hcy:=hrc i (iv y) (by simp[aM,hy])
    have jB:(row.take (i+1)).foldl Jb ks=Jb ((row.take i).foldl Jb ks) y:=by
     rw[List.take_add_one,hy,List.foldl_append];rfl
    generalize hk2:(row.take i).foldl Jb ks=ks2 at jB⊢;refine aA ?_;refine kd (dat i (aKL+i) (hx:=by rw[←hRA];rfl)) ?_;refine aA ?_;refine kd (bH rfl (Rd.ro (p:=q0) (by simp) hrz hcy)) ?_;refine aA ?_;refine bU 0 (HP.map r (kZ (Jb ks2 y))) (fun w1 F1 t h1 h2 h3=>Zo r y ks2 w1 F1 h1 h2) ?_;refine aA ?_;refine bL [(47,iv (i+1:Nat)),(46,iv row.length),(45,.slice RA row.length rk),(9,iv (((k+1:Nat):Int) - 1)),(6,.slice A' m c'),(8,.map (some r)),(0,.slice A m c),(1,iv (v:Int))] ?_;exact gQ (row.length - (i+1)) (by omega) ⟨i+1,uB,rfl,rfl,rfl,by rw[jB]⟩
   ·obtain rfl:i=row.length:=by omega
    rw[List.take_length,←dB];refine aA ?_;refine bL [(9,iv (((k+1:Nat):Int) - 1 - 1)),(6,.slice A' m c'),(8,.map (some r)),(0,.slice A m c),(1,iv (v:Int))] ?_;exact gQ k (by omega) ⟨by omega,by rw[show(((k+1:Nat):Int) - 1 - 1)=(k:Int) - 1 by omega],rfl,rfl⟩
 ·obtain rfl:k=0:=by omega
  rw[Nat.sub_zero];refine aA ?_;refine jN [] (Gt (yW g v m)) (fun w1 t=>aL8 q r _ A' m c' v w1 hn2 (t.map (i:=0) rfl) (t.le (by simp)) hs) ?_;rintro _ w1 q2 ⟨B,kb,rfl,hb⟩ mS _ hfr;refine aA ?_;exact fQ rfl rfl rfl fun w1 t=>⟨⟨_,rfl,B,kb,rfl,(hb.le mS).le (t.mT (by simp) (hfr (by simp)))⟩,t.below (by simp)⟩
end
section
def Bt(g:List (List Int))(c:Cn)(n:Nat):Nat→List Bool
 | 0=>List.replicate n false
 | i+1=>if jG c.l (i:Int)≤0 then Bt g c n i else(yW g (i:Int) n).foldl (fun l u=>l.set u true) ((Bt g c n i).set i true)
def Ws(g:List (List Int))(n:Nat)(c:Cn):List Bool:=if c.lT then List.replicate n false else Bt g c n n
theorem aB5:∀(us:List Nat) (l:List Bool),(us.foldl (fun l u=>l.set u true) l).length=l.length
 | [],l=>rfl
 | u::us,l=>by
  rw[List.foldl_cons,aB5 us];simp
theorem aAF(g:List (List Int))(c:Cn)(n:Nat):∀i,(Bt g c n i).length=n
 | 0=>by simp[Bt]
 | i + 1 => by
  unfold Bt;split
  ·exact aAF g c n i
  ·rw[aB5,List.length_set];exact aAF g c n i
theorem aRc(g:List (List Int))(n:Nat)(c:Cn):(Ws g n c).length=n:=by
 unfold Ws;split
 ·simp
 ·exact aAF g c n n
def Bx(A:Option Addr)(g:List (List Int))(p:Piece):Prop:=nH p A g.length g
theorem Bx.le{A:Option Addr}{g:List (List Int)}(p q:Piece)(hl:p.Le q)(h:Bx A g p):Bx A g q:=nH.le h hl
def Jq(gc gm:Nat)(A:Option Addr)(k:Nat)(g:List (List Int))(c:Cn):HP:=HP.many [qT gc gm (.slice A g.length k) c,HP.bR (Bx A g) (Bx.le (A:=A) (g:=g))]
theorem aDi{l:List Bool}{i:Nat}{b:Bool}:(bG l).set i (.bool b)=bG (l.set i b):=by simp[bG,List.map_set]
theorem aLA{ks:List Int}{v:Int}{n u:Nat}(h:u∈sD ks v n):u < n:=by
 unfold sD at h;exact List.mem_range.1 (List.mem_filter.1 h).1
theorem aHb(gc gm:Nat)(A:Option Addr)(k:Nat)(g:List (List Int))(c:Cn)(n:Nat)(hn:n=g.length)(hn2:n≤100)(hlen:∀l∈g,(l.length:Int)≤1000)(ho:fK g=(0,List.range n))(w:World)(F:Nat→Prop)(hp:(Jq gc gm A k g c).sat F w)(hF:∀b,F b→b < w.heap.size):
  Cz 246 #[pt gc] w (fun y w'=>∃b:Nat,y=.returned (.slice (some ⟨b,0,none⟩) n n)∧True∧∃F',(HP.many [Jq gc gm A k g c,HP.aE b 4 (bG (Ws g n c))]).sat F' w'∧iC w w' F F'):=by
 refine cS func246 ntmps246 hp hF ?_;generalize cN:(⟨w,fun b=>b < w.heap.size∧¬F b⟩:Piece)=R0;obtain⟨cl,lT⟩:=c;refine aV 0 1 ?_;refine aV 1 0 ?_;refine aV 0 0 ?_;refine aV 1 1 ?_;subst hn;refine aB ?_;refine lY (n:=g.length) 1 (el:=4) (z:=.bool false) (by kernel_rfl) (by kernel_rfl) rfl rfl rfl (by omega) (by omega) (by decide) fun gl=>?_;rw[show List.replicate g.length (Value.bool false)=bG (List.replicate g.length false) from by simp[bG]];unfold Ws;cases lT
 ·dsimp only;refine aB ?_;refine bL [(22,iv 0),(21,iv g.length),(3,.slice (some ⟨gl,0,none⟩) g.length g.length),(0,pt gc)] ?_;refine eV (fun m e R H=>∃i:Nat,i≤g.length∧m=g.length - i∧e=[(22,iv i),(21,iv g.length),(3,.slice (some ⟨gl,0,none⟩) g.length g.length),(0,pt gc)]∧R=[R0]∧H=[HP.aE gl 4 (bG (Bt g ⟨cl,false⟩ g.length i)),HP.map gm (vH cl),HP.aE gc 277 [.slice A g.length k,.map (some gm),.bool false],HP.many [cG,cG],HP.bR (Bx A g) (Bx.le (A:=A) (g:=g)),HP.many [cG,cG]]) g.length ⟨0,by omega,rfl,rfl,rfl,rfl⟩ fun m e R H hI=>?_;obtain⟨i,hi,rfl,rfl,rfl,rfl⟩:=hI
  have hal:=aAF g ⟨cl,false⟩ g.length i
  have dB:Bt g ⟨cl,false⟩ g.length (i+1)=if jG cl (i:Int)≤0 then Bt g ⟨cl,false⟩ g.length i else(yW g (i:Int) g.length).foldl (fun l u=>l.set u true) ((Bt g ⟨cl,false⟩ g.length i).set i true):=rfl
  generalize hl:Bt g ⟨cl,false⟩ g.length i=l at hal dB⊢;refine aB ?_;refine aG rfl (fun hlt=>?_) (fun hge=>?_)
  ·have hlt:i < g.length:=by omega
   refine aB ?_;refine Tx 1 rfl ?_;refine aB ?_;refine aG rfl (fun h0=>?_) (fun h0=>?_)
   ·rw[if_pos h0] at dB;refine aB ?_;exact eP (g.length - (i+1)) ⟨i+1,hlt,rfl,rfl,rfl,by rw[dB]⟩
   ·rw[if_neg h0] at dB;refine aB ?_;refine eN rfl rfl ?_ (hs:=eJ.mk 0 rfl cO.h rfl (by simp[bG];omega));dsimp only[List.set];rw[aDi];refine aB ?_;refine jN [] (fun x w w'=>∃A' c',x=.tuple #[.slice A' (yW g (i:Int) g.length).length c',iv 0]∧aI (fresh w w') 1 A' (yW g (i:Int) g.length).length (aM (dO (yW g (i:Int) g.length)))) (fun w1 t=>aNT (all w1) A g.length k g i w1 (Piece.Le.refl _) (t.bR 4 rfl) rfl hn2 hlen hlt ho) ?_;rintro _ w1 q ⟨B,kb,rfl,hb⟩ hf _ _
    have hb:=hb.le hf
    have Ow:=aFo (Kr g (i:Int) g.length g.length) (i:Int) g.length
    have hum:∀u∈yW g (i:Int) g.length,u < g.length:=fun u hu=>aLA hu
    change (yW g (i:Int) g.length).length≤_ at Ow
    generalize hus:yW g (i:Int) g.length=us at dB hb Ow hum⊢;refine aB ?_;refine bL [(46,iv 0),(45,iv us.length),(44,.slice B us.length kb),(22,iv i),(21,iv g.length),(3,.slice (some ⟨gl,0,none⟩) g.length g.length),(0,pt gc)] ?_;refine eV (fun m e R H=>∃j:Nat,j≤us.length∧m=us.length - j∧e=[(46,iv j),(45,iv us.length),(44,.slice B us.length kb),(22,iv i),(21,iv g.length),(3,.slice (some ⟨gl,0,none⟩) g.length g.length),(0,pt gc)]∧R=[q,R0]∧H=[HP.aE gl 4 (bG ((us.take j).foldl (fun l u=>l.set u true) (l.set i true))),HP.map gm (vH cl),HP.aE gc 277 [.slice A g.length k,.map (some gm),.bool false],HP.many [cG,cG],HP.bR (Bx A g) (Bx.le (A:=A) (g:=g)),HP.many [cG,cG]]) us.length ⟨0,by omega,rfl,rfl,rfl,rfl⟩ fun m e R H hI=>?_;obtain⟨j,hj,rfl,rfl,rfl,rfl⟩:=hI;refine aB ?_;refine aG rfl (fun uB=>?_) (fun aGa=>?_)
    ·have uB:j < us.length:=by omega
     obtain⟨u,hu⟩:=get_some uB
     have hun:=hum u (List.mem_of_getElem? hu)
     obtain⟨b,off,hB,hz,hc⟩:=hb.2 (by omega)
     have hcu:=hc j (iv (u:Int)) (by simp[aM,dO,hu])
     have jB:(us.take (j+1)).foldl (fun l u=>l.set u true) (l.set i true)=((us.take j).foldl (fun l u=>l.set u true) (l.set i true)).set u true:=by
      rw[List.take_add_one,hu,List.foldl_append];rfl
     have Dd:((us.take j).foldl (fun l u=>l.set u true) (l.set i true)).length=g.length:=by rw[aB5,List.length_set];exact hal
     generalize hl3:(us.take j).foldl (fun l u=>l.set u true) (l.set i true)=l3 at jB Dd⊢;refine aB ?_;refine kd (dat j (off+j) (hx:=by rw[←hB];rfl)) ?_;refine aA ?_;refine kd (bH rfl (Rd.ro (p:=q) (by simp) hz hcu)) ?_;refine aA ?_;refine kd (dat u u) ?_;refine eN rfl rfl ?_ (hs:=eJ.mk 0 rfl cO.h rfl (by simp[bG];omega));dsimp only[List.set];rw[aDi,←jB];refine aB ?_;exact eP (us.length - (j+1)) ⟨j+1,uB,rfl,rfl,rfl,rfl⟩
    ·obtain rfl:j=us.length:=by omega
     rw[List.take_length,←dB];refine aB ?_;refine aT [0,1,2,3,4,5] rfl (by decide) (R':=[R0]) (by simp) ?_;exact eP (g.length - (i+1)) ⟨i+1,hlt,rfl,rfl,rfl,rfl⟩
  ·obtain rfl:i=g.length:=by omega
   subst hl;refine aB ?_;refine aT [1,2,3,4,5,0] rfl (by decide) (fun _ h=>h) ?_;refine aJ 1 1 ?_;refine aJ 0 0 ?_;refine aJ 1 0 ?_;refine aJ 0 1 ?_;refine mU ?_;subst cN;exact mI rfl rfl fun w1 t=>⟨gl,rfl,trivial,t.turns hF (by simp) (i:=0) rfl⟩
 ·dsimp only;refine aB ?_;refine aT [1,2,3,4,5,0] rfl (by decide) (fun _ h=>h) ?_;refine aJ 1 1 ?_;refine aJ 0 0 ?_;refine aJ 1 0 ?_;refine aJ 0 1 ?_;refine mU ?_;subst cN;exact mI rfl rfl fun w1 t=>⟨gl,rfl,trivial,t.turns hF (by simp) (i:=0) rfl⟩
end
section
set_option maxHeartbeats 8000000
def Xj(x:dR)(v:Value)(hs:List HP)(_:Piece):Prop:=∃(g1 g2 g3:Nat) (p:HP),v=.agg #[.slice (some ⟨g1,0,none⟩) x.d.length x.d.length,.slice (some ⟨g2,0,none⟩) x.c.length x.c.length,.slice (some ⟨g3,0,none⟩) x.l.length x.l.length]∧hs=[HP.many [HP.aE g1 4 (bG x.d),HP.aE g2 4 (bG x.c),HP.aE g3 4 (bG x.l)],p]
theorem Yh(q:Piece)(s:aC)(A1 A2 A3 A4:Option Addr)(n1 k1 n2 k2 n3 k3 n4 k4:Nat)(Aa:Option Addr)(ca:Nat)(act:List Bool)(w:World)(nD:qA q s A1 n1 A2 n2 A3 n3 A4 n4)(hm:s.made)(hq:q.Le (all w))(hact:aI (all w) 1 Aa act.length (bG act)):
  Cz 108 #[.agg #[.slice A1 n1 k1,.slice A2 n2 k2,.slice A3 n3 k3,.slice A4 n4 k4],.slice Aa act.length ca] w (fun y w'=>(∃v hs q,y=.returned v∧q.w=w'∧Xj (gM s act) v hs q∧gI w hs q)∧Below w.heap.size w w'):=by
 obtain⟨rfl,rfl,rfl,rfl⟩:=nD.len;refine aN func108 ntmps108 ?_;refine yZ q (by simp) hq ?_
 have hn9:=hm.nc
 have uA:=hm.nd
 have sL:=hm.nr
 have rE:=hm.nv
 refine aB ?_;refine bN fun g1=>?_;refine bX fun g2=>?_;refine aB ?_;refine cZ (fun w1 st=>aA1 s A1 A2 A3 A4 _ k1 _ k2 _ k3 _ k4 w1 (nD.W (st.le (by simp)) (Zq hm))) ?_;rw[Zr hm];refine aIE rfl rfl (by decide) ?_;refine fD ?_;refine aG rfl (fun h=>absurd rfl h) (fun h=>?_)
 ·
  refine oA ?_;refine eB ?_;refine Rj (fun e R H=>∃ga gb gc gw,e=[(5,pt gw),(4,pt g2),(2,pt g1),(1,.slice Aa act.length ca)]∧R=[q,all w]∧H=[HP.aE gw 55 [.slice (some ⟨ga,0,none⟩) s.domains.length s.domains.length,.slice (some ⟨gb,0,none⟩) s.aF.length s.aF.length,.slice (some ⟨gc,0,none⟩) s.bA.length s.bA.length],HP.aE ga 4 (bG (fI s).d),HP.aE gb 4 (bG (fI s).c),HP.aE gc 4 (bG (fI s).l),HP.aE g2 55 [sn,sn,sn],HP.aE g1 30 [.slice A1 s.aF.length k1,.slice A2 s.domains.length k2,.slice A3 s.bA.length k3,.slice A4 s.aD.length k4]]) ?_ ?_
  ·
   refine qP 14 (by kernel_rfl) (by kernel_rfl) ?_;refine fX 0 rfl rfl rfl (Dr (off:=1) (by kernel_rfl) rfl) ?_;refine fX 1 rfl rfl rfl (Iu rfl) ?_;refine fX 2 rfl rfl rfl (Ma (el:=88) (by kernel_rfl) rfl) ?_;refine fX 4 rfl rfl rfl (Dr (off:=0) (by kernel_rfl) rfl) ?_;refine fX 5 rfl rfl rfl (Iu rfl) ?_;refine fX 6 rfl rfl rfl (Ma (el:=86) (by kernel_rfl) rfl) ?_;refine fX 8 rfl rfl rfl (Dr (off:=2) (by kernel_rfl) rfl) ?_;refine fX 9 rfl rfl rfl (Iu rfl) ?_;refine fX 10 rfl rfl rfl (Ma (el:=90) (by kernel_rfl) rfl) ?_;refine aHS (fuel:=2) [3,7,11,13] [[3,7,11],[3,7,11,13]] (fun i=>match i with | 3=>⟨19,4,List.replicate s.domains.length (.bool false),fun g=>.slice (some ⟨g,0,none⟩) s.domains.length s.domains.length⟩ | 7=>⟨23,4,List.replicate s.aF.length (.bool false),fun g=>.slice (some ⟨g,0,none⟩) s.aF.length s.aF.length⟩ | 11=>⟨27,4,List.replicate s.bA.length (.bool false),fun g=>.slice (some ⟨g,0,none⟩) s.bA.length s.bA.length⟩ | _=>⟨5,55,[sn,sn,sn],fun g=>pt g⟩) (fun i hi=>?_) (by show[19,23,27,5].Nodup;decide) (by kernel_rfl) (fun _ h=>h) (fun sub hsub hex g=>?_)
   ·simp only[List.mem_cons,List.not_mem_nil,or_false] at hi;rcases hi with rfl | rfl | rfl | rfl
    ·exact Eg.of rfl rfl rfl (Ol 1 (el:=4) (z:=.bool false) (by kernel_rfl) (by kernel_rfl) rfl rfl rfl (by omega) (by omega)) (Nat.le_of_ble_eq_true rfl) rfl
    ·exact Eg.of rfl rfl rfl (Ol 1 (el:=4) (z:=.bool false) (by kernel_rfl) (by kernel_rfl) rfl rfl rfl (by omega) (by omega)) (Nat.le_of_ble_eq_true rfl) rfl
    ·exact Eg.of rfl rfl rfl (Ol 1 (el:=4) (z:=.bool false) (by kernel_rfl) (by kernel_rfl) rfl rfl rfl (by omega) (by omega)) (Nat.le_of_ble_eq_true rfl) rfl
    ·exact Eg.of rfl rfl rfl (aM5 (gY (by kernel_rfl))) (Nat.le_of_ble_eq_true rfl) rfl
   have jB:sub=[3,7,11]∨sub=[3,7,11,13]:=by simpa using hex
   have er:∀n:Nat,List.replicate n (Value.bool false)=bG (List.replicate n false):=fun n=>by simp[bG]
   rcases jB with rfl | rfl
   ·dsimp only[rF,vD,lA,List.map,List.foldr,List.cons_append,List.nil_append,List.length_cons,List.length_nil,Nat.reduceAdd,Nat.reduceSub];refine fH 12 rfl rfl rfl (by decide) (kS (zs:=[sn,sn,sn]) (L:=[(0,1),(1,1),(2,1)]) (gY (by kernel_rfl)) (by kernel_rfl) rfl (by simp[fB,gB,Value.cells];rfl)) (by kernel_rfl) (fun _ _ _ h=>h) (fun _ h=>h.tail.tail.tail) ?_;refine cJ 13 ?_;refine bX fun g6=>?_;refine gX ?_;refine gP ?_;refine kK (fun _ h=>h.tail.tail.tail.tail) ?_;refine cJ 14 ?_;refine rU rfl rfl ?_;simp only[fP,Value.cells,List.set,List.take,List.drop,List.nil_append,List.append_nil,List.length_cons,List.length_nil,List.cons_append,Nat.reduceAdd];refine eR ?_;refine kJ ?_;refine eB ?_;exact aT [0,1,2,3,4,5] rfl (by decide) (by simp) (bL [(5,pt g6),(4,pt g2),(2,pt g1),(1,.slice Aa act.length ca)] (Xd ⟨g 3,g 7,g 11,g6,rfl,rfl,by simp only[er,fI]⟩))
   ·dsimp only[rF,vD,lA,List.map,List.foldr,List.cons_append,List.nil_append,List.length_cons,List.length_nil,Nat.reduceAdd,Nat.reduceSub];refine fH 12 rfl rfl rfl (by decide) (kS (zs:=[sn,sn,sn]) (L:=[(0,1),(1,1),(2,1)]) (gY (by kernel_rfl)) (by kernel_rfl) rfl (by simp[fB,gB,Value.cells];rfl)) (by kernel_rfl) (fun _ _ _ h=>h) (fun _ h=>h.tail.tail.tail.tail) ?_;refine cJ 14 ?_;refine rU rfl rfl ?_;simp only[fP,Value.cells,List.set,List.take,List.drop,List.nil_append,List.append_nil,List.length_cons,List.length_nil,List.cons_append,Nat.reduceAdd];refine eR ?_;refine kJ ?_;refine eB ?_;exact aT [3,0,1,2,4,5] rfl (by decide) (by simp) (bL [(5,.pointer (some ⟨g 13,0,none⟩)),(4,pt g2),(2,pt g1),(1,.slice Aa act.length ca)] (Xd ⟨g 3,g 7,g 11,g 13,rfl,rfl,by simp only[er,fI]⟩))
  rintro _ _ _ ⟨ga,gb,gc,gw,rfl,rfl,rfl⟩;refine aB ?_;refine bL [(32,iv 0),(31,iv s.aD.length),(30,.slice A4 s.aD.length k4),(5,pt gw),(4,pt g2),(2,pt g1),(1,.slice Aa act.length ca)] ?_;refine aB ?_;refine eV (fun m e R H=>∃(j:Nat),j≤s.aD.length∧m=s.aD.length - j∧e=[(32,iv j),(31,iv s.aD.length),(30,.slice A4 s.aD.length k4),(5,pt gw),(4,pt g2),(2,pt g1),(1,.slice Aa act.length ca)]∧R=[q,all w]∧H=[HP.aE gw 55 [.slice (some ⟨ga,0,none⟩) s.domains.length s.domains.length,.slice (some ⟨gb,0,none⟩) s.aF.length s.aF.length,.slice (some ⟨gc,0,none⟩) s.bA.length s.bA.length],HP.aE ga 4 (bG (nJ s act j).d),HP.aE gb 4 (bG (nJ s act j).c),HP.aE gc 4 (bG (nJ s act j).l),HP.aE g2 55 [sn,sn,sn],HP.aE g1 30 [.slice A1 s.aF.length k1,.slice A2 s.domains.length k2,.slice A3 s.bA.length k3,.slice A4 s.aD.length k4]]) s.aD.length ⟨0,by omega,rfl,rfl,rfl,rfl⟩ fun m e R H hI=>?_;obtain⟨j,hj,rfl,rfl,rfl,rfl⟩:=hI;refine aB ?_;refine aG rfl (fun h=>?_) (fun h=>?_)
  ·
   refine oA ?_;refine eB ?_;refine eA ?_;refine xN ?_;refine eA ?_
   have hjl:j < s.aD.length:=by have h':(j:Int) < (s.aD.length:Int):=h;omega
   obtain⟨x,hx⟩:∃x,s.aD[j]? =some x:=⟨_,List.getElem?_eq_getElem hjl⟩
   obtain⟨hx1,Ey,hx3,hx4,hx5,hx6,_⟩:=hm.aD j x hx;obtain⟨bV,oV,rV,rfl,hzV,_,hR,Vh⟩:=nD.dev.tP hx;obtain⟨Ar,nr,kr,An,nn,kn,rfl,_⟩:=hR
   have Kw:=Yi s act j
   obtain⟨xc,hxc⟩:∃xc:Nat,x.clock=(xc:Int):=⟨x.clock.toNat,by omega⟩
   obtain⟨xd,hxd⟩:∃xd:Nat,x.domain=(xd:Int):=⟨x.domain.toNat,by omega⟩
   obtain⟨xr,hxr⟩:∃xr:Nat,x.reset=(xr:Int):=⟨x.reset.toNat,by omega⟩
   have Fk:hasB act j=true→nJ s act (j+1)=⟨uY (Jy s xd) (nJ s act j).d,uY ((mH s xc).filter (yF s)) (nJ s act j).c,zZ (nJ s act j).l (xr:Int) true⟩:=fun ha=>by
    rw[aJj hx ha,Ni,hxd,hxc,hxr];rfl
   rw[hxc,hxd,hxr] at Vh;generalize hwj:nJ s act j=wj at *;refine fR ?_;refine dN rfl (by decide) ?_;refine kd (dat (j) (oV+j*6)) ?_;refine xX 6 (by kernel_rfl) rfl (aO.of (vs:=[iv (xc:Int),iv (xd:Int),iv (xr:Int),.int .u32 x.iH,.slice Ar nr kr,.slice An nn kn]) fun f v hf=>Rd.ro (p:=q) (by simp) hzV (Vh f v hf)) rfl (by decide) ?_;refine bX fun g7=>?_;refine jM rfl (by decide) ?_;refine rU rfl rfl ?_;simp only[fP,Value.cells,List.set,List.take,List.drop,List.nil_append,List.append_nil,List.length_cons,List.length_nil,List.cons_append,Nat.reduceAdd];refine aB ?_;refine cZ (fun w1 st=>aCB Aa act.length ca j act w1 (hact.le (st.le (by simp))) rfl (by omega)) ?_;refine aB ?_;refine pE rfl (fun h=>?_) (fun h=>?_)
   ·
    refine aB ?_
    have hno:hasB act j=false:=by simpa using h
    exact aT [1,2,3,4,5,6] rfl (by decide) (by simp) (bL [(32,iv ((j:Int)+1)),(31,iv s.aD.length),(30,.slice (some ⟨bV,oV,none⟩) s.aD.length k4),(5,pt gw),(4,pt g2),(2,pt g1),(1,.slice Aa act.length ca)] (gQ (s.aD.length - (j+1)) (by omega) ⟨j+1,by omega,rfl,rfl,rfl,by rw[aJi hno,hwj]⟩))
   ·
    have hyes:hasB act j=true:=by simpa using h
    have Fk:=Fk hyes
    refine aB ?_;refine bL [(8,iv (xd:Int)),(7,pt g7),(32,iv j),(31,iv s.aD.length),(30,.slice (some ⟨bV,oV,none⟩) s.aD.length k4),(5,pt gw),(4,pt g2),(2,pt g1),(1,.slice Aa act.length ca)] ?_;refine aB ?_;refine eV (fun m e R H=>∃(cur:Int) (rest:List Nat) (d:List Bool),m=rest.length∧Xk s cur rest∧d.length=s.domains.length∧uY rest d=uY (Jy s xd) wj.d∧e=[(8,iv cur),(7,pt g7),(32,iv j),(31,iv s.aD.length),(30,.slice (some ⟨bV,oV,none⟩) s.aD.length k4),(5,pt gw),(4,pt g2),(2,pt g1),(1,.slice Aa act.length ca)]∧R=[q,all w]∧H=[HP.aE g7 93 [iv (xc:Int),iv (xd:Int),iv (xr:Int),.int .u32 x.iH,.slice Ar nr kr,.slice An nn kn],HP.aE gw 55 [.slice (some ⟨ga,0,none⟩) s.domains.length s.domains.length,.slice (some ⟨gb,0,none⟩) s.aF.length s.aF.length,.slice (some ⟨gc,0,none⟩) s.bA.length s.bA.length],HP.aE ga 4 (bG d),HP.aE gb 4 (bG wj.c),HP.aE gc 4 (bG wj.l),HP.aE g2 55 [sn,sn,sn],HP.aE g1 30 [.slice A1 s.aF.length k1,.slice A2 s.domains.length k2,.slice A3 s.bA.length k3,.slice (some ⟨bV,oV,none⟩) s.aD.length k4]]) (Jy s xd).length ⟨_,Jy s xd,wj.d,rfl,aJw hm (by omega),Kw.d,rfl,rfl,rfl,rfl⟩ fun m e R H hI=>?_;obtain⟨cur,rest,d,rfl,Uc,lB,hpd,rfl,rfl,rfl⟩:=hI;refine aB ?_;refine aG rfl (fun h=>?_) (fun h=>?_)
    ·
     refine aB ?_
     obtain⟨i,r,rfl⟩:∃i r,rest=i::r:=by
      cases rest with
      | nil=>exact absurd Uc h
      | cons i r=>exact⟨i,r,rfl⟩
     obtain⟨rfl,dm,sM,Uc⟩:=Uc
     have hil:=(List.getElem?_eq_some_iff.1 sM).1
     refine aB ?_;refine rT 2 rfl (by kernel_rfl) rfl rfl rfl (by rw[aDk];omega) ?_;dsimp only[List.set];rw[aDj,show d.set i true=zZ d (i:Int) true by simp[zZ]];refine fD ?_;obtain⟨bD,oD,rD,rfl,Tz,_,rfl,Ll⟩:=nD.dom.tP sM;refine fR ?_;refine xY (off:=1) (by kernel_rfl) rfl (by decide) ?_;refine Nh rfl ?_;refine dN rfl (by decide) ?_;refine kd (dat (i) (oD+i*3)) ?_;refine xY (off:=0) (by kernel_rfl) rfl (by decide) ?_;refine kV (by kernel_rfl) rfl (Rd.ro (p:=q) (by simp) Tz (Ll 0 _ rfl)) (by decide) ?_;refine jM rfl (by decide) ?_;refine fD ?_;exact bL [(8,iv dm.above),(7,pt g7),(32,iv j),(31,iv s.aD.length),(30,.slice (some ⟨bV,oV,none⟩) s.aD.length k4),(5,pt gw),(4,pt g2),(2,pt g1),(1,.slice Aa act.length ca)] (gQ r.length (by simp) ⟨dm.above,r,zZ d (i:Int) true,rfl,Uc,by rw[aBD];exact lB,by rw[←hpd];rfl,rfl,rfl,rfl⟩)
    ·
     refine aB ?_
     obtain rfl:rest=[]:=by
      cases rest with
      | nil=>rfl
      | cons i r=>exact absurd (show cur= -1 from Classical.not_not.1 h) (by have:=Uc.1;omega)
     have hpd:d=uY (Jy s xd) wj.d:=hpd
     refine aB ?_;refine jN [] (Gt (mH s xc)) (fun w1 st=>aA3 q s A1 A2 A3 (some ⟨bV,oV,none⟩) _ k1 _ k2 _ k3 _ k4 xc w1 nD hm.qH (st.le (by simp)) (by omega)) ?_;rintro _ w1 qc ⟨Ac,cc,rfl,hsc⟩ hf _ _
     have hsc:=hsc.le hf
     have hcin:=fun i (hi:i∈mH s xc)=>aHi s _ _ i hi
     have jT:(mH s xc).length≤s.aF.length:=aA4 s _ _
     clear hf;generalize oX:mH s xc=ch at *;refine aB ?_;refine bL [(60,iv 0),(59,iv ch.length),(58,.slice Ac ch.length cc),(7,pt g7),(32,iv j),(31,iv s.aD.length),(30,.slice (some ⟨bV,oV,none⟩) s.aD.length k4),(5,pt gw),(4,pt g2),(2,pt g1),(1,.slice Aa act.length ca)] ?_;refine aB ?_;refine eV (fun m e R H=>∃(k:Nat),k≤ch.length∧m=ch.length - k∧e=[(60,iv k),(59,iv ch.length),(58,.slice Ac ch.length cc),(7,pt g7),(32,iv j),(31,iv s.aD.length),(30,.slice (some ⟨bV,oV,none⟩) s.aD.length k4),(5,pt gw),(4,pt g2),(2,pt g1),(1,.slice Aa act.length ca)]∧R=[qc,q,all w]∧H=[HP.aE g7 93 [iv (xc:Int),iv (xd:Int),iv (xr:Int),.int .u32 x.iH,.slice Ar nr kr,.slice An nn kn],HP.aE gw 55 [.slice (some ⟨ga,0,none⟩) s.domains.length s.domains.length,.slice (some ⟨gb,0,none⟩) s.aF.length s.aF.length,.slice (some ⟨gc,0,none⟩) s.bA.length s.bA.length],HP.aE ga 4 (bG d),HP.aE gb 4 (bG (uY ((ch.take k).filter (yF s)) wj.c)),HP.aE gc 4 (bG wj.l),HP.aE g2 55 [sn,sn,sn],HP.aE g1 30 [.slice A1 s.aF.length k1,.slice A2 s.domains.length k2,.slice A3 s.bA.length k3,.slice (some ⟨bV,oV,none⟩) s.aD.length k4]]) ch.length ⟨0,by omega,rfl,rfl,rfl,rfl⟩ fun m e R H hI=>?_;obtain⟨k,hk,rfl,rfl,rfl,rfl⟩:=hI;refine aB ?_;refine aG rfl (fun h=>?_) (fun h=>?_)
     ·
      refine oA ?_;refine eB ?_;refine eA ?_;refine xN ?_;refine eA ?_
      have Uo:k < ch.length:=by have h':(k:Int) < (ch.length:Int):=h;omega
      obtain⟨ci,Dh⟩:∃ci,ch[k]? =some ci:=⟨_,List.getElem?_eq_getElem Uo⟩
      have aN9:=hcin ci (List.mem_of_getElem? Dh)
      obtain⟨ck,Ba⟩:∃ck,s.aF[ci]? =some ck:=⟨_,List.getElem?_eq_getElem aN9⟩
      obtain⟨bI,oI,rfl,hzI,hcI⟩:=hsc.2 (by omega);obtain⟨bC,oC,rC,rfl,Zz,_,hR2,hcC⟩:=nD.sU.tP Ba;obtain⟨As,ns,ks,rfl,_⟩:=hR2
      have pS:(ch.take (k+1)).filter (yF s)=(ch.take k).filter (yF s)++(if yF s ci then[ci] else[]):=by
       rw[List.take_add_one,Dh,List.filter_append];cases rB:yF s ci<;>simp[rB]
      have aFJ:yF s ci=decide (ck.kind=112∨ck.kind=103):=by unfold yF;rw[Ba]
      have aSo:(uY ((ch.take k).filter (yF s)) wj.c).length=s.aF.length:=by rw[aBE];exact Kw.c
      refine fR ?_;refine kd (dat (k) (oI+k)) ?_;refine kV (by kernel_rfl) rfl (Rd.ro (p:=qc) (by simp) hzI (hcI k _ (aMa Dh))) (by decide) ?_;refine jM rfl (by decide) ?_;refine fD ?_;refine eA ?_;refine fR ?_;refine xY (off:=0) (by kernel_rfl) rfl (by decide) ?_;refine Nh rfl ?_;refine dN rfl (by decide) ?_;refine kd (dat (ci) (oC+ci*6)) ?_;refine xY (off:=0) (by kernel_rfl) rfl (by decide) ?_;refine kV (by kernel_rfl) rfl (Rd.ro (p:=q) (by simp) Zz (hcC 0 _ rfl)) (by decide) ?_;refine jM rfl (by decide) ?_;refine fD ?_;refine aDy 75 (ck.kind=112∨ck.kind=103) ?_ ?_
      ·skip
       refine aB ?_;refine bT (t:=72) rfl (fun hg=>?_) (fun hg=>?_)
       ·
        refine jL rfl rfl rfl (by decide) ?_;refine jL rfl rfl rfl (by decide) ?_
        (first | refine rX rfl rfl (by decide) ?_ | refine rY rfl rfl (by decide) ?_)
        refine fD ?_;exact aAO
       ·
        refine jA rfl rfl ?_;refine dN rfl (by decide) ?_;refine jA rfl rfl ?_;refine aEf rfl rfl (by decide) ?_
        (first | refine rX rfl rfl (by decide) ?_ | refine rY rfl rfl (by decide) ?_)
        refine fD ?_;exact aAO
      refine aG rfl (fun hkd=>?_) (fun hkd=>?_)
      ·
       refine aB ?_;refine rT 3 rfl (by kernel_rfl) rfl rfl rfl (by rw[aDk];omega) ?_;dsimp only[List.set];rw[aDj,show(uY ((ch.take k).filter (yF s)) wj.c).set ci true=uY ((ch.take (k+1)).filter (yF s)) wj.c by rw[pS,aFJ,decide_eq_true hkd];simp[uY,zZ,List.foldl_append]];refine aB ?_;exact bL [(60,iv ((k:Int)+1)),(59,iv ch.length),(58,.slice (some ⟨bI,oI,none⟩) ch.length cc),(7,pt g7),(32,iv j),(31,iv s.aD.length),(30,.slice (some ⟨bV,oV,none⟩) s.aD.length k4),(5,pt gw),(4,pt g2),(2,pt g1),(1,.slice Aa act.length ca)] (gQ (ch.length - (k+1)) (by omega) ⟨k+1,by omega,rfl,rfl,rfl,rfl⟩)
      ·
       refine aB ?_;exact bL [(60,iv ((k:Int)+1)),(59,iv ch.length),(58,.slice (some ⟨bI,oI,none⟩) ch.length cc),(7,pt g7),(32,iv j),(31,iv s.aD.length),(30,.slice (some ⟨bV,oV,none⟩) s.aD.length k4),(5,pt gw),(4,pt g2),(2,pt g1),(1,.slice Aa act.length ca)] (gQ (ch.length - (k+1)) (by omega) ⟨k+1,by omega,rfl,rfl,rfl,by rw[pS,aFJ,decide_eq_false hkd];simp⟩)
     ·
      refine aB ?_
      have hke:k=ch.length:=by have h':¬(k:Int) < (ch.length:Int):=h;omega
      rw[hke,List.take_length]
      have nW:=Kw.l
      refine aB ?_;refine rT 4 rfl (by kernel_rfl) rfl rfl rfl (by rw[aDk];omega) ?_;dsimp only[List.set];rw[aDj,show wj.l.set xr true=zZ wj.l (xr:Int) true by simp[zZ]];refine aB ?_;exact aT [1,2,3,4,5,6] rfl (by decide) (R':=[q,all w]) (by simp) (bL [(32,iv ((j:Int)+1)),(31,iv s.aD.length),(30,.slice (some ⟨bV,oV,none⟩) s.aD.length k4),(5,pt gw),(4,pt g2),(2,pt g1),(1,.slice Aa act.length ca)] (gQ (s.aD.length - (j+1)) (by omega) ⟨j+1,by omega,rfl,rfl,rfl,by rw[Fk,hpd]⟩))
  ·
   refine aB ?_;refine rU rfl rfl ?_;simp only[fP,Value.cells,List.set,List.take,List.drop,List.nil_append,List.append_nil,List.length_cons,List.length_nil,List.cons_append,Nat.reduceAdd];refine aB ?_
   have hje:j=s.aD.length:=by have h':¬(j:Int) < (s.aD.length:Int):=h;omega
   have Kw:=Yi s act j
   have hww:gM s act=nJ s act j:=by rw[hje];rfl
   generalize nJ s act j=wj at *;refine aT [1,2,3,4] rfl (by decide) (R':=[q,all w]) (by simp) ?_;refine vL ?_;refine dF [] [] [0,1] (by simp) rfl (by decide) (by decide) fun qf _ _ hfr=>?_
   exact Ml rfl (by kernel_rfl) rfl rfl (aO.whole 1 rfl) fun w1 st=>⟨⟨_,_,⟨w1,qf.Z⟩,rfl,rfl,by
    rw[hww]
    exact⟨ga,gb,gc,_,by rw[Kw.d,Kw.c,Kw.l],rfl⟩,st.newR (by simp) (by simp) (hfr (by simp) (by simp))⟩,st.below (by simp)⟩
end
section
def Hp(old l:List Bool)(n:Nat):List Bool:=l.mapIdx fun k b=>if k < n then(b||hasB old k) else b
section
variable{N:cF}{w0:World}{e:Env}{R:List Piece}{H:List HP}{K:Act→World→Prop}{Φ:Piece→Prop}{hm:∀p q:Piece,p.Le q→Φ p→Φ q}{sz n b off:Nat}{A:Option Addr}{xs:List Value}
theorem aDt(i:Nat)(hi:H[i]? =some (HP.bR Φ hm))(Ku:∀p,Φ p→aI p sz A n xs)(hn:0 < n)(k:∀b off,A=some ⟨b,off,none⟩→XK N w0 K e R H):XK N w0 K e R H:=fun a w hr st=>by
 obtain⟨b,off,hA,_⟩:=(Ku _ (st.bR i hi)).2 hn;exact k b off hA a w hr st
theorem aRl(i:Nat)(hi:H[i]? =some (HP.bR Φ hm))(Ku:∀p,Φ p→aI p sz A n xs)(k:∀b off,(0 < n→A=some ⟨b,off,none⟩)→XK N w0 K e R H):XK N w0 K e R H:=by
 rcases Nat.eq_zero_or_pos n with h | h
 ·exact k 0 0 fun h'=>absurd h' (by omega)
 ·exact aDt i hi Ku h fun b off hA=>k b off fun _=>hA
theorem Rd.bR(i:Nat)(hi:H[i]? =some (HP.bR Φ hm))(Ku:∀p,Φ p→aI p sz A n xs)(hA:A=some ⟨b,off,none⟩)(hn:0 < n){j:Nat}{v:Value}(hv:xs[j]? =some v):Rd w0 R H b (off+j) v:=fun w st=>by
 obtain⟨b',off',pV,_,hc⟩:=(Ku _ (st.bR i hi)).2 hn;cases hA.symm.trans pV;exact hc j v hv
end
def gN(s:aC)(c:Cn):List Bool:=Ws (dL s) (dL s).length c
def pL(s:aC)(z:bM):dR:=⟨(gM s (gN s z.cn)).d,(gM s (gN s z.cn)).c,Hp z.wn.l (gM s (gN s z.cn)).l s.bA.length⟩
def yB(s:aC)(z:bM):bM:={z with steps:=allM s z.wn (pL s z),sent:=false,wn:=pL s z}
theorem aBr(s:aC)(act:List Bool):(gM s act).of s:=Yi s act _
theorem aJh(s:aC)(z:bM):(pL s z).of s:=by
 have h:=aBr s (gN s z.cn)
 exact⟨h.d,h.c,by show(List.mapIdx _ _).length=_;rw[List.length_mapIdx];exact h.l⟩
theorem Zg(s:aC):(dL s).length=s.aD.length:=by simp[dL]
section
variable(g h f:Nat)(s:aC)(z:bM)(w:World)(F:Nat→Prop)
theorem Yt(hm:s.made)(hz:z.wn.of s)(hp:(jJ g h f s z).sat F w)(hF:∀b,F b→b < w.heap.size):
  Cz 244 #[pt g] w (Wr (.tuple #[]) (jJ g h f s (yB s z)) w F):=by
 have rE:=hm.nv
 have hnd:=hm.nd
 have hnc:=hm.nc
 have gF:=hm.nr
 have fL:=Zg s
 have hno:∀l∈dL s,(l.length:Int)≤1000:=fun l hl=>by
  obtain⟨i,hi⟩:=List.getElem?_of_mem hl;simp only[dL,List.getElem?_map] at hi;cases hd:s.aD[i]? with
  | none=>rw[hd] at hi;cases hi
  | some d=>
   rw[hd] at hi;cases hi
   have:=(hm.aD i d hd).2.2.2.2.2.2.2.2.2.2.1
   show((d.iU.length:Nat):Int)≤1000
   omega
 have ho:fK (dL s)=(0,List.range (dL s).length):=by rw[fL];exact(aCe hm).2.2
 have hal:(gN s z.cn).length=(dL s).length:=aRc _ _ _
 refine cS func244 ntmps244 hp hF ?_;generalize cN:(⟨w,fun b=>b < w.heap.size∧¬F b⟩:Piece)=R0;refine iW 0 fun L=>?_;refine aV 0 0 ?_;refine aV 1 4 ?_;refine aV 2 3 ?_;refine mU ?_;refine aV 2 1 ?_;refine aV 3 2 ?_;refine aT [2,0,1,3,4] rfl (by decide) (fun _ h=>h) ?_
 change XK _ _ _ _ _ [Jq L.gc L.gm L.nd.1 L.nd.2 (dL s) z.cn,HP.bR (tB L z.wn) _,HP.bR (lW L s) _,_,_]
 generalize hM:HP.many [cG,cG,cG,cG,cG,HP.bR (nG L z.steps) (nG.le (L:=L) (l:=z.steps))]=M;refine eA ?_;refine aAV (fun e R H=>∃gt ga gb gc:Nat,e=[(2,pt gt),(0,pt g)]∧R=[R0]∧H=[HP.aE gt 55 [.slice (some ⟨ga,0,none⟩) (gM s (gN s z.cn)).d.length (gM s (gN s z.cn)).d.length,.slice (some ⟨gb,0,none⟩) (gM s (gN s z.cn)).c.length (gM s (gN s z.cn)).c.length,.slice (some ⟨gc,0,none⟩) (gM s (gN s z.cn)).l.length (gM s (gN s z.cn)).l.length],HP.many [HP.aE ga 4 (bG (gM s (gN s z.cn)).d),HP.aE gb 4 (bG (gM s (gN s z.cn)).c),HP.aE gc 4 (bG (gM s (gN s z.cn)).l)],Jq L.gc L.gm L.nd.1 L.nd.2 (dL s) z.cn,HP.bR (tB L z.wn) (tB.le (L:=L) (x:=z.wn)),HP.bR (lW L s) (lW.le (L:=L) (s:=s)),HP.aE g 190 (lO h f L s z),M]) ?_ ?_
 ·refine Gk [1,2,3,5,6,7] ?_;refine bJ 0 ?_ (hsub:=fun _ h=>h.bK);refine aK 1 ?_ (hsub:=fun _ h=>h.bK);refine aK 2 ?_ (hsub:=fun _ h=>h.bK);refine aK 3 ?_ (hi:=rfl) (cM:=kB rfl (xR (vs:=[_,_,_,_]) 3 rfl rfl)) (hsub:=fun _ h=>h.bK);refine bJ 4 ?_ (hsub:=fun _ h=>h.bK);refine aK 5 ?_ (hsub:=fun _ h=>h.bK);refine aK 6 ?_ (hsub:=fun _ h=>h.bK);refine aK 7 ?_ (hsub:=fun _ h=>h.bK);refine vM 8 10 rfl rfl (by kernel_rfl) ?_ ?_
  ·refine vU (α:=Nat) 0 (f:=246) (fi:=[]) (ca:=[]) (fun b=>.slice (some ⟨b,0,none⟩) (dL s).length (dL s).length) (fun b=>HP.many [Jq L.gc L.gm L.nd.1 L.nd.2 (dL s) z.cn,HP.aE b 4 (bG (gN s z.cn))]) (fun _=>True) (by kernel_rfl) rfl rfl rfl (by decide) (fun w1 F1 t h1 h2 h3=>aHb L.gc L.gm L.nd.1 L.nd.2 (dL s) z.cn _ rfl (by omega) hno ho w1 F1 h1 h2) ?_;rintro b _;dsimp only[List.set];refine aZ ?_ (hS:=fun _ h=>h.bK);refine vM 9 10 rfl rfl (by kernel_rfl) ?_ ?_
   ·refine aV 0 1 ?_
    refine eX (Xj (gM s (gN s z.cn))) (fun w1 t=>by
     have h1:=t.uU (i:=0) (sz:=1) (n:=(gN s z.cn).length) rfl (by simp[bG])
     have:=Yh (all w1) s L.a1.1 L.a2.1 L.a3.1 L.a4.1 _ L.a1.2 _ L.a2.2 _ L.a3.2 _ L.a4.2 (some ⟨b,0,none⟩) (dL s).length (gN s z.cn) w1 (t.bR 3 rfl) hm (Piece.Le.refl _) h1
     rw[hal] at this
     exact this) ?_
    rintro _ _ q ⟨ga,gb,gc,px,rfl,rfl⟩ _;dsimp only[List.cons_append,List.nil_append];refine aZ ?_ (hS:=fun _ h=>h.aY.tail.tail.tail.bK);refine aL 10 ?_;refine bX fun gt=>?_;refine aZ ?_ (hS:=fun _ h=>h.aY.tail.tail.tail.tail.bK);refine aL 11 ?_;refine kO 0 rfl ?_;dsimp only[List.set];refine aZ ?_ (hS:=fun _ h=>h.aY.tail.tail.tail.tail.bK);refine dW ?_;refine eB ?_;refine aV 4 0 ?_;refine aT [1,2,0,6,7,8,9] rfl (by decide) (R':=[R0]) (by simp) ?_;exact nR ⟨gt,ga,gb,gc,rfl,rfl,rfl⟩
   ·refine bX fun gt=>?_;refine aZ ?_ (hS:=fun _ h=>h.tail.bK);refine aL 9 ?_;refine aV 1 1 ?_
    refine eX (Xj (gM s (gN s z.cn))) (fun w1 t=>by
     have h1:=t.uU (i:=0) (sz:=1) (n:=(gN s z.cn).length) rfl (by simp[bG])
     have:=Yh (all w1) s L.a1.1 L.a2.1 L.a3.1 L.a4.1 _ L.a1.2 _ L.a2.2 _ L.a3.2 _ L.a4.2 (some ⟨b,0,none⟩) (dL s).length (gN s z.cn) w1 (t.bR 4 rfl) hm (Piece.Le.refl _) h1
     rw[hal] at this
     exact this) ?_
    rintro _ _ q ⟨ga,gb,gc,px,rfl,rfl⟩ _;dsimp only[List.cons_append,List.nil_append];refine aZ ?_ (hS:=fun _ h=>h.aY.tail.tail.tail.tail.bK);refine aL 11 ?_;refine kO 3 rfl ?_;dsimp only[List.set];refine aZ ?_ (hS:=fun _ h=>h.aY.tail.tail.tail.tail.bK);refine dW ?_;refine eB ?_;refine aV 4 0 ?_;refine aT [4,1,0,6,7,8,9] rfl (by decide) (R':=[R0]) (by simp) ?_;exact nR ⟨gt,ga,gb,gc,rfl,rfl,rfl⟩
  ·refine bX fun gt=>?_;refine aZ ?_ (hS:=fun _ h=>h.tail.bK);refine aL 8 ?_;refine vU (α:=Nat) 1 (f:=246) (fi:=[]) (ca:=[]) (fun b=>.slice (some ⟨b,0,none⟩) (dL s).length (dL s).length) (fun b=>HP.many [Jq L.gc L.gm L.nd.1 L.nd.2 (dL s) z.cn,HP.aE b 4 (bG (gN s z.cn))]) (fun _=>True) (by kernel_rfl) rfl rfl rfl (by decide) (fun w1 F1 t h1 h2 h3=>aHb L.gc L.gm L.nd.1 L.nd.2 (dL s) z.cn _ rfl (by omega) hno ho w1 F1 h1 h2) ?_;rintro b _;dsimp only[List.set];refine aZ ?_ (hS:=fun _ h=>h.tail.bK);refine aL 9 ?_;refine aV 1 1 ?_
   refine eX (Xj (gM s (gN s z.cn))) (fun w1 t=>by
    have h1:=t.uU (i:=0) (sz:=1) (n:=(gN s z.cn).length) rfl (by simp[bG])
    have:=Yh (all w1) s L.a1.1 L.a2.1 L.a3.1 L.a4.1 _ L.a1.2 _ L.a2.2 _ L.a3.2 _ L.a4.2 (some ⟨b,0,none⟩) (dL s).length (gN s z.cn) w1 (t.bR 4 rfl) hm (Piece.Le.refl _) h1
    rw[hal] at this
    exact this) ?_
   rintro _ _ q ⟨ga,gb,gc,px,rfl,rfl⟩ _;dsimp only[List.cons_append,List.nil_append];refine aZ ?_ (hS:=fun _ h=>h.aY.tail.tail.tail.tail.bK);refine aL 11 ?_;refine kO 3 rfl ?_;dsimp only[List.set];refine aZ ?_ (hS:=fun _ h=>h.aY.tail.tail.tail.tail.bK);refine dW ?_;refine eB ?_;refine aV 4 0 ?_;refine aT [4,1,0,6,7,8,9] rfl (by decide) (R':=[R0]) (by simp) ?_;exact nR ⟨gt,ga,gb,gc,rfl,rfl,rfl⟩
 rintro _ _ _ ⟨gt,ga,gb,gc,rfl,rfl,rfl⟩
 have nW:(gM s (gN s z.cn)).l.length=(pL s z).l.length:=by
  show _=(List.mapIdx _ _).length
  rw[List.length_mapIdx]
 have wR:(gM s (gN s z.cn)).l.length=s.bA.length:=(aBr s _).l
 have hzl:=hz.l
 rw[nW]
 have aSb:(pL s z).l.length=s.bA.length:=by rw[←nW];exact wR
 refine aV 1 2 ?_;refine aV 2 1 ?_;refine aV 3 0 ?_;refine aT [0,1,2,3,4,5,6,7,8,9] rfl (by decide) (fun _ h=>h) ?_;refine aA ?_
 have Di:Hp z.wn.l (gM s (gN s z.cn)).l 0=(gM s (gN s z.cn)).l:=Og _ _
 refine bL [(21,iv 0),(20,iv z.wn.l.length),(19,.slice L.w3.1 z.wn.l.length L.w3.2),(2,pt gt),(0,pt g)] ?_;refine eV (fun m e R H=>∃i:Nat,i≤z.wn.l.length∧m=z.wn.l.length - i∧e=[(21,iv i),(20,iv z.wn.l.length),(19,.slice L.w3.1 z.wn.l.length L.w3.2),(2,pt gt),(0,pt g)]∧R=[R0]∧H=[HP.aE ga 4 (bG (gM s (gN s z.cn)).d),HP.aE gb 4 (bG (gM s (gN s z.cn)).c),HP.aE gc 4 (bG (Hp z.wn.l (gM s (gN s z.cn)).l i)),HP.aE gt 55 [.slice (some ⟨ga,0,none⟩) (gM s (gN s z.cn)).d.length (gM s (gN s z.cn)).d.length,.slice (some ⟨gb,0,none⟩) (gM s (gN s z.cn)).c.length (gM s (gN s z.cn)).c.length,.slice (some ⟨gc,0,none⟩) (pL s z).l.length (pL s z).l.length],HP.many [cG,cG,cG],Jq L.gc L.gm L.nd.1 L.nd.2 (dL s) z.cn,HP.bR (tB L z.wn) (tB.le (L:=L) (x:=z.wn)),HP.bR (lW L s) (lW.le (L:=L) (s:=s)),HP.aE g 190 (lO h f L s z),M]) z.wn.l.length ⟨0,by omega,rfl,rfl,rfl,by rw[Di]⟩ fun m e R H hI=>?_;obtain⟨i,hi,rfl,rfl,rfl,rfl⟩:=hI;refine aA ?_;refine aG rfl (fun hlt=>?_) (fun hge=>?_)
 ·have hlt:i < z.wn.l.length:=by omega
  obtain⟨b,hb⟩:=get_some hlt;obtain⟨c,hc⟩:=get_some (l:=(gM s (gN s z.cn)).l) (i:=i) (by omega)
  have dV:(Hp z.wn.l (gM s (gN s z.cn)).l i)[i]? =some c:=Oi hc
  have hstep:(Hp z.wn.l (gM s (gN s z.cn)).l i).set i (c||hasB z.wn.l i)=Hp z.wn.l (gM s (gN s z.cn)).l (i+1):=Oh (f:=fun k b=>b||hasB z.wn.l k) hc
  have hbB:hasB z.wn.l i=b:=by show z.wn.l[i]?.getD false=b;rw[hb];rfl
  rw[hbB] at hstep
  have fA:(Hp z.wn.l (gM s (gN s z.cn)).l i).length=s.bA.length:=by rw[Hp,List.length_mapIdx];exact wR
  refine aDt (A:=L.w3.1) (sz:=1) (n:=z.wn.l.length) (xs:=bG z.wn.l) 6 rfl (fun _ h=>h.2.2) (by omega) fun wb aJb hwA=>?_
  have hbc:(bG z.wn.l)[i]? =some (.bool b):=by simp[bG,hb]
  refine aA ?_;refine kd (dat i (aJb+i) (hx:=by rw[←hwA];rfl)) ?_;refine kd (bH rfl (Rd.bR 6 rfl (fun _ h=>h.2.2) hwA (by omega) hbc)) ?_;refine aA ?_;cases b
  ·rw[Bool.or_false,wK dV] at hstep;rw[hstep];refine aA ?_;exact eP (z.wn.l.length - (i+1)) ⟨i+1,hlt,rfl,rfl,rfl,rfl⟩
  ·rw[Bool.or_true] at hstep;refine aA ?_;refine kd (dat i i) ?_;refine eN rfl rfl ?_ (hs:=eJ.mk 2 rfl cO.h rfl (by simp[bG];omega));dsimp only[List.set];rw[aDi,hstep];refine aA ?_;exact eP (z.wn.l.length - (i+1)) ⟨i+1,hlt,rfl,rfl,rfl,rfl⟩
 obtain rfl:i=z.wn.l.length:=by omega
 rw[hzl];refine aA ?_;refine iX [3,4,5,7,8,9,10] ?_;refine bJ 0 ?_;refine bJ 1 ?_;refine bJ 2 ?_;refine aK 3 ?_;refine aK 4 ?_;refine aK 5 ?_ (hi:=rfl) (cM:=kB rfl (xR (vs:=[_,_,_,_]) 8 rfl rfl));refine bJ 6 ?_;refine aK 7 ?_;refine aK 8 ?_;refine aK 9 ?_ (hi:=rfl) (cM:=kB rfl (xR (vs:=[_,_,_]) 8 rfl rfl));refine aK 10 ?_;refine aL 11 ?_;refine jN [] (aHY (allM s z.wn (pL s z))) (fun w1 t=>aJG (q:=all w1) (qx:=all w1) (qy:=all w1) (t.bR 7 rfl) hm (Piece.Le.refl _) (x:=z.wn) (y:=pL s z) ⟨L.w1.1,L.w1.2,L.w2.1,L.w2.2,L.w3.1,L.w3.2,rfl,t.bR 6 rfl⟩ (Piece.Le.refl _) ⟨_,_,_,_,_,_,rfl,t.uU (i:=0) rfl (by simp[bG,pL]),t.uU (i:=1) rfl (by simp[bG,pL]),t.uU (i:=2) rfl (by simp[bG,pL])⟩ (Piece.Le.refl _)) ?_;rintro _ w1 q ⟨As,cs,rfl,hs,hsc⟩ hf _ hfr
 have hs:=hs.le hf
 refine cE ?_;refine aL 12 ?_;refine bE ?_;refine cE ?_;refine aL 13 ?_;refine bE ?_;refine cE ?_;refine aL 14 ?_;refine eN rfl rfl ?_ (hs:=eJ.mk 8 rfl cO.h rfl (of_decide_eq_true rfl));dsimp only[List.set];refine cE ?_;refine aL 15 ?_;refine bE ?_;refine cE ?_;refine aL 16 ?_;refine bE ?_;refine cE ?_;refine aL 17 ?_;refine eN rfl rfl ?_ (hs:=eJ.mk 8 rfl cO.h rfl (of_decide_eq_true rfl));dsimp only[List.set];refine cE ?_;refine dW ?_
 refine Jd (Φ:=nG {L with st:=(As,cs)} (allM s z.wn (pL s z))) (hm:=nG.le) (hfr (by simp)) (fun p hp b hb=>by
  simp at hp;subst hp;rw[←cN] at hb
  exact hb.1) ⟨hs,hsc⟩ ?_
 refine aA ?_;refine Cs 9 rfl ?_;dsimp only[List.set];refine aA ?_;obtain⟨L',hL'⟩:∃L':dK,L'={L with w1:=(some ⟨ga,0,none⟩,(gM s (gN s z.cn)).d.length),w2:=(some ⟨gb,0,none⟩,(gM s (gN s z.cn)).c.length),w3:=(some ⟨gc,0,none⟩,(pL s z).l.length),st:=(As,cs)}:=⟨_,rfl⟩
 refine aT [1,2,3,0,6,8,9] rfl (by decide) (fun _ h=>h) ?_;refine vL ?_;refine oZ (q:=HP.bR (tB L' (pL s z)) (tB.le (L:=L') (x:=pL s z))) 0 rfl (fun F w hs=>?_) ?_
 ·obtain⟨G,k1,k2,_⟩:=hs;subst hL';exact⟨qR (c:=0) (k1 0 _ rfl) (fun b hb=>k2 0 b hb) (by simp[bG,pL]),qR (c:=0) (k1 1 _ rfl) (fun b hb=>k2 1 b hb) (by simp[bG,pL]),qR (c:=0) (k1 2 _ rfl) (fun b hb=>k2 2 b hb) (by simp[bG,pL])⟩
 dsimp only[List.set];refine aV 2 0 ?_;refine aV 3 1 ?_;refine aT [6,5,2,1,0,3] rfl (by decide) (fun _ h=>h) ?_;refine mU ?_;refine qN ?_;refine qN ?_;refine qN ?_;refine qN ?_;refine uK 0 (f:=fun L:dK=>fY g h f L s (yB s z)) L' (by subst hL';rfl) ?_;dsimp only[List.set];subst cN;exact fC 0 hF
end
end
section
theorem pI{w0:World}{R:List Piece}{H:List HP}{g h f:Nat}{L:dK}{s:aC}{z:bM}(i:Nat){o:Nat}{v:Value}(hi:H[i]? =some (fY g h f L s z))(hv:(lO h f L s z)[o]? =some v):Rd w0 R H g o v:=fun w st=>by
 have:=(st.aB7 i hi).r0.at_ hv
 rw[Nat.zero_add] at this;exact this.2
def T3(j:Nat):Prop:=j=0∨j=1∨j=2
theorem Es{h f:Nat}{L:dK}{s:aC}{z:bM}{j k:Nat}{v:Value}(hj:T3 j)(hv:(tkC (z.tk j))[k]? =some v):(lO h f L s z)[10+13*j+k]? =some v:=by
 have hk:k < 13:=by
  have:=(List.getElem?_eq_some_iff.1 hv).1
  simpa[tkC] using this
 have hk2:k=0∨k=1∨k=2∨k=3∨k=4∨k=5∨k=6∨k=7∨k=8∨k=9∨k=10∨k=11∨k=12:=by omega
 rcases hj with rfl | rfl | rfl<;>rcases hk2 with rfl | rfl | rfl | rfl | rfl | rfl | rfl | rfl | rfl | rfl | rfl | rfl | rfl<;>exact hv
theorem Yl{t:rN}{i:Nat}(hi:i < 6):(tkC t)[7+i]? =some (iv (hG t i)):=by
 have h2:i=0∨i=1∨i=2∨i=3∨i=4∨i=5:=by omega
 rcases h2 with rfl | rfl | rfl | rfl | rfl | rfl<;>rfl
theorem aGo{t:rN}{i k:Nat}{v:Int}(hl:t.hs.length=6)(hi:i < 6):hG {t with hs:=t.hs.set i v} k=if i=k then v else hG t k:=by
 show(t.hs.set i v).getD k 0=_
 rw[List.getD_eq_getElem?_getD,List.getElem?_set];split
 ·rename_i e
  subst e;rw[if_pos (by omega)];rfl
 ·show _=t.hs.getD k 0
  rw[List.getD_eq_getElem?_getD]
theorem aEO{h f:Nat}{L:dK}{s:aC}{z:bM}{j i:Nat}{v:Int}(hj:T3 j)(hi:i < 6)(hl:(z.tk j).hs.length=6):(lO h f L s z).set (10+13*j+7+i) (iv v)=lO h f L s (z.jQ j {z.tk j with hs:=(z.tk j).hs.set i v}):=by
 have hs:=fun k=>aGo (t:=z.tk j) (k:=k) (v:=v) hl hi
 have h2:i=0∨i=1∨i=2∨i=3∨i=4∨i=5:=by omega
 rcases hj with rfl | rfl | rfl<;>rcases h2 with rfl | rfl | rfl | rfl | rfl | rfl<;>simp[lO,bM.jQ,bM.tk] at hs⊢ <;>simp[hs]
theorem aBA{h f:Nat}{L:dK}{s:aC}{z:bM}:(lO h f L s z).length=55:=rfl
structure aDJ(t:rN):Prop where
 len:t.hs.length=6
 bd:∀i,0≤hG t i∧hG t i≤1000000
def qW(t:rN)(i:Nat)(k:Int):rN:={t with hs:=t.hs.set i (hG t i+k)}
def Lr(s:aC)(z:bM)(j:Nat):Int×bM:=if(rH (dL s).length z.cn (z.tk j).dev).1≠0 then((rH (dL s).length z.cn (z.tk j).dev).1,z) else(0,yB s {z.jQ j (qW (z.tk j) (z.tk j).dev.toNat 1) with cn:=(rH (dL s).length z.cn (z.tk j).dev).2})
def Kl(s:aC)(z:bM)(j:Nat):Int×bM:=if bZ s.aD.length (z.tk j).dev=false then(4,z) else if hG (z.tk j) (z.tk j).dev.toNat=0 then(6,z) else if(uH (dL s).length z.cn (z.tk j).dev).1≠0 then((uH (dL s).length z.cn (z.tk j).dev).1,z) else(0,yB s {z.jQ j (qW (z.tk j) (z.tk j).dev.toNat (-1)) with cn:=(uH (dL s).length z.cn (z.tk j).dev).2})
def Kc(s:aC)(z:bM):Int×bM:=if(xI z.cn).1≠0 then((xI z.cn).1,z) else(0,yB s {z with cn:=(xI z.cn).2})
def Kk(s:aC)(z:bM):Int×bM:=if(xJ z.cn).1≠0 then((xJ z.cn).1,z) else(0,yB s {z with cn:=(xJ z.cn).2})
theorem aQi{n:Nat}{c:Cn}{d:Int}(h:(rH n c d).1≠0):(rH n c d).2=c:=by
 unfold rH at h⊢
 repeat' split
 all_goals first | rfl | (simp_all;done)
theorem aHj{n:Nat}{c:Cn}{d:Int}(h:(rH n c d).1=0):0≤d∧d < n:=by
 unfold rH at h;split at h
 ·simp at h
 ·split at h
  ·simp at h
  ·rename_i h1
   exact Decidable.not_not.1 h1
theorem aP5{n:Nat}{c:Cn}{d:Int}(h:(uH n c d).1≠0):(uH n c d).2=c:=by
 unfold uH at h⊢
 repeat' split
 all_goals first | rfl | (simp_all;done)
theorem aP3{c:Cn}(h:(xI c).1≠0):(xI c).2=c:=by
 unfold xI at h⊢;split
 ·rfl
 ·simp_all
theorem aP4{c:Cn}(h:(xJ c).1≠0):(xJ c).2=c:=by
 unfold xJ at h⊢;split
 ·simp_all
 ·rfl
section
variable(g h f:Nat)(s:aC)(z:bM)(w:World)(F:Nat→Prop)
theorem aK2(hm:s.made)(hz:z.wn.of s)(a:Value)(hp:(jJ g h f s z).sat F w)(hF:∀b,F b→b < w.heap.size):
  Cz 271 #[.agg #[],pt g,a] w (Wr (iv (Kc s z).1) (jJ g h f s (Kc s z).2) w F):=by
 unfold Kc;refine cS func271 ntmps271 hp hF ?_;refine aA ?_;refine bN fun g1=>?_;refine aA ?_;refine iW 1 fun L=>?_;refine kd (bH rfl (pI 1 rfl rfl)) ?_;refine aV 1 3 ?_;refine bU 0 (qT L.gc L.gm (.slice L.nd.1 (dL s).length L.nd.2) (xI z.cn).2) (fun w1 F1 t h1 h2 h3=>aP8 L.gc L.gm (dL s).length L.nd.2 L.nd.1 z.cn w1 F1 h1 h2) ?_;refine aA ?_;refine aG rfl (fun he=>?_) (fun he=>?_)
 ·rw[if_pos he,aP3 he];refine aA ?_;refine aJ 1 3 ?_;refine cR 1 (fun L:dK=>fY g h f L s z) L ?_;exact bO 1 hF
 ·rw[if_neg he];refine aJ 1 3 ?_;refine cR 1 (fun L:dK=>fY g h f L s {z with cn:=(xI z.cn).2}) L ?_;refine aA ?_;refine bU 1 (jJ g h f s (yB s {z with cn:=(xI z.cn).2})) (fun w1 F1 t h1 h2 h3=>Yt g h f s _ w1 F1 hm hz h1 h2) ?_;refine aA ?_;exact bO 1 hF
theorem aK5(hm:s.made)(hz:z.wn.of s)(a:Value)(hp:(jJ g h f s z).sat F w)(hF:∀b,F b→b < w.heap.size):
  Cz 273 #[.agg #[],pt g,a] w (Wr (iv (Kk s z).1) (jJ g h f s (Kk s z).2) w F):=by
 unfold Kk;refine cS func273 ntmps273 hp hF ?_;refine aA ?_;refine bN fun g1=>?_;refine aA ?_;refine iW 1 fun L=>?_;refine kd (bH rfl (pI 1 rfl rfl)) ?_;refine aV 1 3 ?_;refine bU 0 (qT L.gc L.gm (.slice L.nd.1 (dL s).length L.nd.2) (xJ z.cn).2) (fun w1 F1 t h1 h2 h3=>aP9 L.gc L.gm (dL s).length L.nd.2 L.nd.1 z.cn w1 F1 h1 h2) ?_;refine aA ?_;refine aG rfl (fun he=>?_) (fun he=>?_)
 ·rw[if_pos he,aP4 he];refine aA ?_;refine aJ 1 3 ?_;refine cR 1 (fun L:dK=>fY g h f L s z) L ?_;exact bO 1 hF
 ·rw[if_neg he];refine aJ 1 3 ?_;refine cR 1 (fun L:dK=>fY g h f L s {z with cn:=(xJ z.cn).2}) L ?_;refine aA ?_;refine bU 1 (jJ g h f s (yB s {z with cn:=(xJ z.cn).2})) (fun w1 F1 t h1 h2 h3=>Yt g h f s _ w1 F1 hm hz h1 h2) ?_;refine aA ?_;exact bO 1 hF
theorem aK9(hm:s.made)(hz:z.wn.of s)(j:Nat)(hj:T3 j)(hk:aDJ (z.tk j))(hp:(jJ g h f s z).sat F w)(hF:∀b,F b→b < w.heap.size):
  Cz 242 #[.agg #[],pt g,.pointer (some ⟨g,10+13*j,none⟩)] w (Wr (iv (Lr s z j).1) (jJ g h f s (Lr s z j).2) w F):=by
 have rE:=hm.nv
 have fL:=Zg s
 have hj2:j≤2:=by rcases hj with rfl | rfl | rfl<;>decide
 unfold Lr;refine cS func242 ntmps242 hp hF ?_;refine aA ?_;refine bN fun g1=>?_;refine aA ?_;refine iW 1 fun L=>?_;refine kd (bH rfl (pI 1 rfl (Es (k:=2) hj rfl))) ?_;refine aA ?_;refine kd (bH rfl (pI 1 rfl rfl)) ?_;refine aV 1 3 ?_;refine aA ?_;refine bU 0 (qT L.gc L.gm (.slice L.nd.1 (dL s).length L.nd.2) (rH (dL s).length z.cn (z.tk j).dev).2) (fun w1 F1 t h1 h2 h3=>aPC L.gc L.gm (dL s).length L.nd.2 L.nd.1 z.cn w1 F1 (z.tk j).dev h1 h2) ?_;refine aA ?_;refine aG rfl (fun he=>?_) (fun he=>?_)
 ·rw[if_pos he,aQi he];refine aA ?_;refine aJ 1 3 ?_;refine cR 1 (fun L:dK=>fY g h f L s z) L ?_;exact bO 1 hF
 ·rw[if_neg he];obtain⟨hd0,cY⟩:=aHj (Decidable.not_not.1 he);obtain⟨dv,Bk⟩:∃n:Nat,(z.tk j).dev=(n:Int):=⟨(z.tk j).dev.toNat,by omega⟩
  have Az:dv < 6:=by omega
  have hb0:=hk.bd dv
  refine aJ 1 3 ?_;refine aV 1 0 ?_;generalize nC:(rH (dL s).length z.cn (z.tk j).dev).2=c2
  have hcell:(lO h f L s z)[10+13*j+7+dv]? =some (iv (hG (z.tk j) dv)):=by
   rw[Nat.add_assoc];exact Es hj (Yl Az)
  have mE:qW (z.tk j) (z.tk j).dev.toNat (1)={z.tk j with hs:=(z.tk j).hs.set dv (hG (z.tk j) dv+1)}:=by
   unfold qW;rw[show(z.tk j).dev.toNat=dv by omega]
   all_goals rfl
  have lK:=aEO (h:=h) (f:=f) (L:=L) (s:=s) (z:=z) (i:=dv) (v:=hG (z.tk j) dv+1) hj Az hk.len
  rw[mE];refine aA ?_;refine iX [2,3,4,5,6,7,8] ?_;refine bJ 0 ?_;refine bJ 1 ?_;refine aK 2 ?_;refine aK 3 ?_;refine aK 4 ?_ (hi:=rfl) (cM:=fN dv (10+13*j+7+dv) (hj:=Bk) (hlt:=Az) (ho:=by omega));refine aK 5 ?_ (hi:=rfl) (cM:=bH rfl (Rd.aE 0 rfl hcell));refine aK 6 ?_;refine aK 7 ?_;refine aK 8 ?_;refine aL 9 ?_;refine kd (fN dv (10+13*j+7+dv) (hj:=Bk) (hlt:=Az) (ho:=by omega)) ?_;refine cE ?_;refine aL 10 ?_;refine eN rfl rfl ?_ (hs:=eJ.mk 0 rfl cO.h rfl (by rw[aBA];omega));dsimp only[List.set];rw[lK];refine cE ?_;refine dW ?_;refine aJ 1 0 ?_;refine cR 1 (fun L:dK=>fY g h f L s {z.jQ j {z.tk j with hs:=(z.tk j).hs.set dv (hG (z.tk j) dv+1)} with cn:=c2}) L ?_;refine aA ?_;refine bU 1 (jJ g h f s (yB s {z.jQ j {z.tk j with hs:=(z.tk j).hs.set dv (hG (z.tk j) dv+1)} with cn:=c2})) (fun w1 F1 t h1 h2 h3=>Yt g h f s _ w1 F1 hm hz h1 h2) ?_;refine aA ?_;exact bO 1 hF
theorem aK6(hm:s.made)(hz:z.wn.of s)(j:Nat)(hj:T3 j)(hk:aDJ (z.tk j))(hp:(jJ g h f s z).sat F w)(hF:∀b,F b→b < w.heap.size):
  Cz 262 #[.agg #[],pt g,.pointer (some ⟨g,10+13*j,none⟩)] w (Wr (iv (Kl s z j).1) (jJ g h f s (Kl s z j).2) w F):=by
 have rE:=hm.nv
 have fL:=Zg s
 have hj2:j≤2:=by rcases hj with rfl | rfl | rfl<;>decide
 unfold Kl;refine cS func262 ntmps262 hp hF ?_;refine aA ?_;refine bN fun g1=>?_;refine aA ?_;refine iW 1 fun L=>?_;refine kd (bH rfl (pI 1 rfl (Es (k:=2) hj rfl))) ?_;refine aA ?_;refine aU (fun w1 t=>aKB g h f L s z w1 (z.tk j).dev (t.aB7 1 rfl)) ?_;cases hin:bZ s.aD.length (z.tk j).dev
 ·refine aA ?_;refine cR 1 (fun L:dK=>fY g h f L s z) L ?_;exact bO 1 hF
 have Pk:=of_decide_eq_true hin
 obtain⟨dv,Bk⟩:∃n:Nat,(z.tk j).dev=(n:Int):=⟨(z.tk j).dev.toNat,by omega⟩
 have Az:dv < 6:=by omega
 have hb0:=hk.bd dv
 have aNA:(lO h f L s z)[10+13*j+7+dv]? =some (iv (hG (z.tk j) dv)):=by
  rw[Nat.add_assoc];exact Es hj (Yl Az)
 rw[if_neg (by simp)];refine aA ?_;refine kd (fN dv (10+13*j+7+dv) (hj:=Bk) (hlt:=Az) (ho:=by omega)) ?_;refine kd (bH rfl (pI 1 rfl aNA)) ?_;refine aA ?_
 have Ox:(z.tk j).dev.toNat=dv:=by omega
 refine aG rfl (fun h0=>?_) (fun h0=>?_)
 ·rw[if_pos (by rw[Ox];exact h0)];refine aA ?_;refine cR 1 (fun L:dK=>fY g h f L s z) L ?_;exact bO 1 hF
 rw[if_neg (by rw[Ox];exact h0)];refine aA ?_;refine kd (bH rfl (pI 1 rfl rfl)) ?_;refine aV 1 3 ?_;refine aA ?_;refine bU 0 (qT L.gc L.gm (.slice L.nd.1 (dL s).length L.nd.2) (uH (dL s).length z.cn (z.tk j).dev).2) (fun w1 F1 t h1 h2 h3=>aPA L.gc L.gm (dL s).length L.nd.2 L.nd.1 z.cn w1 F1 (z.tk j).dev h1 h2) ?_;refine aA ?_;refine aG rfl (fun he=>?_) (fun he=>?_)
 ·rw[if_pos he,aP5 he];refine aA ?_;refine aJ 1 3 ?_;refine cR 1 (fun L:dK=>fY g h f L s z) L ?_;exact bO 1 hF
 ·rw[if_neg he];refine aJ 1 3 ?_;refine aV 1 0 ?_;generalize nC:(uH (dL s).length z.cn (z.tk j).dev).2=c2
  have hcell:(lO h f L s z)[10+13*j+7+dv]? =some (iv (hG (z.tk j) dv)):=by
   rw[Nat.add_assoc];exact Es hj (Yl Az)
  have mE:qW (z.tk j) (z.tk j).dev.toNat (-1)={z.tk j with hs:=(z.tk j).hs.set dv (hG (z.tk j) dv - 1)}:=by
   unfold qW;rw[show(z.tk j).dev.toNat=dv by omega]
   all_goals rfl
  have lK:=aEO (h:=h) (f:=f) (L:=L) (s:=s) (z:=z) (i:=dv) (v:=hG (z.tk j) dv - 1) hj Az hk.len
  rw[mE];refine aA ?_;refine iX [2,3,4,5,6,7,8] ?_;refine bJ 0 ?_;refine bJ 1 ?_;refine aK 2 ?_;refine aK 3 ?_;refine aK 4 ?_ (hi:=rfl) (cM:=fN dv (10+13*j+7+dv) (hj:=Bk) (hlt:=Az) (ho:=by omega));refine aK 5 ?_ (hi:=rfl) (cM:=bH rfl (Rd.aE 0 rfl hcell));refine aK 6 ?_;refine aK 7 ?_;refine aK 8 ?_;refine aL 9 ?_;refine kd (fN dv (10+13*j+7+dv) (hj:=Bk) (hlt:=Az) (ho:=by omega)) ?_;refine cE ?_;refine aL 10 ?_;refine eN rfl rfl ?_ (hs:=eJ.mk 0 rfl cO.h rfl (by rw[aBA];omega));dsimp only[List.set];rw[lK];refine cE ?_;refine dW ?_;refine aJ 1 0 ?_;refine cR 1 (fun L:dK=>fY g h f L s {z.jQ j {z.tk j with hs:=(z.tk j).hs.set dv (hG (z.tk j) dv - 1)} with cn:=c2}) L ?_;refine aA ?_;refine bU 1 (jJ g h f s (yB s {z.jQ j {z.tk j with hs:=(z.tk j).hs.set dv (hG (z.tk j) dv - 1)} with cn:=c2})) (fun w1 F1 t h1 h2 h3=>Yt g h f s _ w1 F1 hm hz h1 h2) ?_;refine aA ?_;exact bO 1 hF
end
end
section
def aRY(d:cH)(vs:List Value):Prop:=∃A k A' n' k',vs=[iv d.clock,iv d.domain,iv d.reset,.int .u32 d.iH,.slice A d.aR.length k,.slice A' n' k']
structure aI6(s:aC)(rows:List (List Value)):Prop where
 row:∀(i:Nat) (d:cH),s.aD[i]? =some d→∃r,rows[i]? =some r∧aRY d r
 len:∀r∈rows,r.length=6
def Gr(L:dK)(s:aC)(rows:List (List Value))(p:Piece):Prop:=lW L s p∧aI p 6 L.a4.1 s.aD.length rows.flatten
theorem Gr.le{L:dK}{s:aC}{rows:List (List Value)}(p q:Piece)(hl:p.Le q)(h:Gr L s rows p):Gr L s rows q:=⟨lW.le p q hl h.1,h.2.le hl⟩
theorem aES{α:Type}{R:α→List Value→Prop}{sz:Nat}:∀{es:List α} {rs:List (List Value)},Rows R sz es rs→∀(i:Nat) (e:α),es[i]? =some e→∃r,rs[i]? =some r∧r.length=sz∧R e r
 | [],[],_,i,e,h=>by simp at h
 | a::es,r::rs,h,0,e,he=>by
  simp at he;subst he;exact⟨r,rfl,h.1,h.2.1⟩
 | a::es,r::rs,h,i+1,e,he=>aES h.2.2 i e (by simpa using he)
section
variable{N:cF}{w0:World}{e:Env}{R:List Piece}{H:List HP}{K:Act→World→Prop}{L:dK}{s:aC}
theorem aRs(i:Nat)(hi:H[i]? =some (HP.bR (lW L s) (lW.le (L:=L) (s:=s))))(k:∀rows,aI6 s rows→XK N w0 K e R (H.set i (HP.bR (Gr L s rows) (Gr.le (L:=L) (s:=s) (rows:=rows))))):XK N w0 K e R H:=fun a w hr st=>by
 obtain⟨F,h1,hlt,_,hk⟩:=st.chunk hi;obtain⟨rows,dQ,fV,wS⟩:=(h1:lW L s ⟨w,F⟩).dev;refine k rows ⟨fun i d hd=>?_,fun r hr=>Rows.Mg dQ r hr⟩ a w hr (hk w F _ (show Gr L s rows ⟨w,F⟩ from⟨h1,wS⟩) ⟨rfl,rfl,rfl,Nat.le_refl _,fun b hb=>⟨.inl hb,hlt b hb⟩,fun _ _ _=>rfl⟩);obtain⟨r,h2,_,A,n,q,A',n',q',h3,h4,_⟩:=aES dQ i d hd;subst h4;exact⟨r,h2,A,q,A',n',q',h3⟩
theorem Rd.dev(i:Nat){rows:List (List Value)}{j k b off:Nat}{r:List Value}{v:Value}{hm:∀p q:Piece,p.Le q→Gr L s rows p→Gr L s rows q}(hi:H[i]? =some (HP.bR (Gr L s rows) hm))(hq:aI6 s rows)(hA:L.a4.1=some ⟨b,off,none⟩)(hr:rows[j]? =some r)(hj:j < s.aD.length)(hv:r[k]? =some v):Rd w0 R H b (off+j*6+k) v:=by
 have hk:k < 6:=by
  have h1:=hq.len r (List.mem_of_getElem? hr)
  have:=(List.getElem?_eq_some_iff.1 hv).1
  omega
 have hf:=Px (fun x=>x) 6 rows hq.len j k r hr hk
 have:=Rd.bR (w0:=w0) (R:=R) (xs:=rows.flatten) (j:=j*6+k) (v:=v) i hi (fun p h=>h.2) hA (by omega) (by simpa[hv] using hf)
 rwa [←Nat.add_assoc] at this
end
theorem aKC(g h f:Nat)(L:dK)(s:aC)(z:bM)(w:World)(d:Int)(hR:dU w g 0 (lO h f L s z)):Cz 263 #[pt g,iv d] w (Rt (.bool (bZ s.aD.length d)) w):=by
 have k5:=hR.at_ (j:=5) rfl
 refine aN func263 ntmps263 ?_;refine aA ?_;refine bT (t:=7) rfl (fun h=>?_) (fun h=>?_)
 ·refine aA ?_;refine jI (by simp) ?_;unfold bZ
  congr 1
  simp;omega
 ·refine aA ?_;refine jI (by simp) ?_
  have:bZ s.aD.length d=false:=decide_eq_false (by omega)
  rw[this]
def Tg(s:aC)(d:Int):Int:=((s.aD[d.toNat]?).map fun d=>(d.aR.length:Int)).getD 0
def Iz(s:aC)(t:rN):Prop:=bZ s.aD.length t.dev=false∨t.bY < 0∨Tg s t.dev≤t.bY
instance(s:aC)(t:rN):Decidable (Iz s t):=by unfold Iz;infer_instance
def Gh(s:aC)(x:aS)(z:bM)(j:Nat)(wr:Bool):Int×bM×aS:=
 if Iz s (z.tk j) then(4,z,x) else if hG (z.tk j) (z.tk j).dev.toNat=0∨z.cn.lT=true then(6,z,x)
 else if wF x (z.tk j).dev.toNat=114 then(0,{z with bB:=true,id:=x.bB},To x (z.tk j).dev.toNat wr (z.tk j).bY (z.tk j).val) else(6,z,x)
def Jk(g f:Nat)(hL:HL)(s:aC)(z:bM)(x:aS):HP:=HP.many [jJ g hL.h f s z,dM hL s x]
section
variable(g f:Nat)(hL:HL)(s:aC)(z:bM)(x:aS)(w:World)(F:Nat→Prop)
theorem aEP(hm:s.made)(aQ:fZ hL s)(hok:cT s x)(hw0:∀i:Nat,(x.wt[i]?).join=none)(mP:0≤x.bB∧x.bB≤1000000000)(j:Nat)(hj:T3 j)(wr:Bool)(hp:(Jk g f hL s z x).sat F w)(hF:∀b,F b→b < w.heap.size)(dD:eS ⟨w,fun b=>b < w.heap.size∧¬F b⟩):
  Cz 265 #[.agg #[.bool wr],pt g,.pointer (some ⟨g,10+13*j,none⟩)] w (Wr (iv (Gh s x z j wr).1) (Jk g f hL s (Gh s x z j wr).2.1 (Gh s x z j wr).2.2) w F):=by
 have rE:=hm.nv
 have hH:=hm.dJ
 have hj2:j≤2:=by rcases hj with rfl | rfl | rfl<;>decide
 unfold Gh;refine cS func265 ntmps265 hp hF ?_;generalize cN:(⟨w,fun b=>b < w.heap.size∧¬F b⟩:Piece)=R0 at dD⊢;refine aV 0 1 ?_;refine aV 1 0 ?_;refine iW 0 fun L=>?_;refine aA ?_;refine bN fun g1=>?_;refine aA ?_;refine kd (kB (vs:=[.int .u8 (z.tk j).kind,iv (z.tk j).dev,iv (z.tk j).bY,.int .u32 (z.tk j).val]) rfl (aO.of fun k v hv=>pI 1 rfl ?_)) ?_
 ·have hk:k < 4:=by simpa using(List.getElem?_eq_some_iff.1 hv).1
  have h2:k=0∨k=1∨k=2∨k=3:=by omega
  have:=Es (h:=hL.h) (f:=f) (L:=L) (s:=s) (z:=z) (j:=j) (k:=1+k) (v:=v) hj (by rcases h2 with rfl | rfl | rfl | rfl<;>exact hv)
  rwa [←Nat.add_assoc] at this
 refine bX fun g7=>?_;refine aA ?_;refine aV 2 1 ?_;refine aV 3 0 ?_
 have hj7:10+13*j+7 < 55:=by omega
 refine aRs 1 rfl fun rows hq=>?_;dsimp only[List.set];refine aRl (A:=L.a4.1) (sz:=6) (n:=s.aD.length) (xs:=rows.flatten) 1 rfl (fun _ h=>h.2) fun b off hA=>?_;refine aA ?_;refine lV ?_;refine jC ?_;refine sZ (fun w1 t=>aKC g hL.h f L s z w1 (z.tk j).dev (uI (t.aE (i:=0) rfl))) ?_;cases hin:bZ s.aD.length (z.tk j).dev
 ·refine iV ?_;rw[if_pos (show Iz s (z.tk j) from .inl hin)];refine aA ?_;refine oZ (q:=HP.bR (lW L s) (lW.le (L:=L) (s:=s))) 1 rfl (fun F w hs=>hs.1) ?_;dsimp only[List.set];refine aJ 3 0 ?_;refine aJ 2 1 ?_;refine cR 2 (fun L:dK=>fY g hL.h f L s z) L ?_;refine aT [2,3,4] rfl (by decide) (fun _ h=>h) ?_;refine aJ 1 0 ?_;refine aJ 0 1 ?_;subst cN;exact bO 0 hF
 ·have Pk:=of_decide_eq_true hin
  have hA:=hA (by omega)
  obtain⟨dv,Bk⟩:∃n:Nat,(z.tk j).dev=(n:Int):=⟨(z.tk j).dev.toNat,by omega⟩
  have Ox:(z.tk j).dev.toNat=dv:=by omega
  obtain⟨d,cY⟩:=get_some (l:=s.aD) (i:=dv) (by omega)
  have Ui:Tg s (z.tk j).dev=d.aR.length:=by
   unfold Tg;rw[Ox,cY];rfl
  obtain⟨r,hr,A,k,A',n',k',rfl⟩:=hq.row dv d cY;refine jC ?_;refine Mi 26 rfl (fun hneg=>?_) (fun hnn=>?_)
  ·refine iV ?_;rw[if_pos (show Iz s (z.tk j) from .inr (.inl hneg))];refine aA ?_;refine oZ (q:=HP.bR (lW L s) (lW.le (L:=L) (s:=s))) 1 rfl (fun F w hs=>hs.1) ?_;dsimp only[List.set];refine aJ 3 0 ?_;refine aJ 2 1 ?_;refine cR 2 (fun L:dK=>fY g hL.h f L s z) L ?_;refine aT [2,3,4] rfl (by decide) (fun _ h=>h) ?_;refine aJ 1 0 ?_;refine aJ 0 1 ?_;subst cN;exact bO 0 hF
  ·refine jC ?_;refine yX (dat dv (off+dv*6) (hx:=by rw[←hA];rfl) (hj:=Bk)) ?_;refine jC ?_;refine yX (bH rfl (Rd.dev 1 rfl hq hA hr (by omega) rfl)) ?_;refine iV ?_;refine aA ?_;refine aG rfl (fun hge=>?_) (fun hlt=>?_)
   ·rw[if_pos (show Iz s (z.tk j) from .inr (.inr (by rw[Ui];exact hge)))];refine aA ?_;refine oZ (q:=HP.bR (lW L s) (lW.le (L:=L) (s:=s))) 1 rfl (fun F w hs=>hs.1) ?_;dsimp only[List.set];refine aJ 3 0 ?_;refine aJ 2 1 ?_;refine cR 2 (fun L:dK=>fY g hL.h f L s z) L ?_;refine aT [2,3,4] rfl (by decide) (fun _ h=>h) ?_;refine aJ 1 0 ?_;refine aJ 0 1 ?_;subst cN;exact bO 0 hF
   ·have aNm:¬Iz s (z.tk j):=by
     unfold Iz;rw[hin,Ui];rintro(h | h | h)
     ·cases h
     ·exact hnn h
     ·exact hlt h
    have hcell:(lO hL.h f L s z)[10+13*j+7+dv]? =some (iv (hG (z.tk j) dv)):=by
     rw[Nat.add_assoc];exact Es hj (Yl (by omega))
    rw[if_neg aNm];refine oZ (q:=HP.bR (lW L s) (lW.le (L:=L) (s:=s))) 1 rfl (fun F w hs=>hs.1) ?_;dsimp only[List.set];refine aJ 3 0 ?_;refine aJ 2 1 ?_;refine aA ?_;refine lV ?_;refine jC ?_;refine yX (fN dv (10+13*j+7+dv) (hj:=Bk) (hlt:=by omega) (ho:=by omega)) ?_;refine yX (bH rfl (pI 2 rfl hcell)) ?_;refine jC ?_;refine Mi 51 rfl (fun h0=>?_) (fun h0=>?_)
    ·refine iV ?_;rw[if_pos (show hG (z.tk j) (z.tk j).dev.toNat=0∨z.cn.lT=true from .inl (by rw[Ox];exact h0))];refine aA ?_;refine cR 2 (fun L:dK=>fY g hL.h f L s z) L ?_;refine aT [2,3,4] rfl (by decide) (fun _ h=>h) ?_;refine aJ 1 0 ?_;refine aJ 0 1 ?_;subst cN;exact bO 0 hF
    ·refine jC ?_;refine yX (bH rfl (pI 2 rfl rfl)) ?_;refine jC ?_;refine sZ (fun w1 t=>aPD L.gc z.cn.lT w1 ((t.aB7 2 rfl).cn.at_ (j:=2) rfl)) ?_;cases aSs:z.cn.lT
     ·refine iV ?_;refine aA ?_
      have aSm:=(List.getElem?_eq_some_iff.1 cY).1
      have hrl:=(hm.aD dv d cY).2.2.2.2.2.2.2.2.1
      have Cw:0≤(z.tk j).bY:=by omega
      have dQ:(z.tk j).bY < d.aR.length:=by omega
      have hno:¬(hG (z.tk j) dv=0∨false=true):=by
       rintro(h | h)
       ·exact h0 h
       ·cases h
      rw[Ox,if_neg hno];refine aA ?_;refine aU (fun w1 t=>aQv (z.tk j).dev (z.tk j).bY ⟨by omega,by omega⟩ ⟨Cw,by omega⟩ w1) ?_;refine aA ?_
      by_cases Bf:wF x dv=114
      ·rw[if_pos Bf];refine aT [3,0,1,2,4] rfl (by decide) (fun _ h=>h) ?_;refine Gk [1,2,3,5,6,7,8,11,12] ?_;refine bJ 0 ?_ (hsub:=fun _ h=>h.bK);refine aK 1 ?_ (hsub:=fun _ h=>h.bK);refine aK 2 ?_ (hsub:=fun _ h=>h.bK);refine aK 3 ?_ (hi:=rfl) (cM:=bH rfl (pI 3 rfl rfl)) (hsub:=fun _ h=>h.bK);refine bJ 4 ?_ (hsub:=fun _ h=>h.bK);refine aK 5 ?_ (hsub:=fun _ h=>h.bK);refine aK 6 ?_ (hsub:=fun _ h=>h.bK);refine aK 7 ?_ (hsub:=fun _ h=>h.bK);refine aK 8 ?_ (hsub:=fun _ h=>h.bK);refine aL 9 ?_
       refine Zv (v:=.tuple #[iv x.bB,iv 0]) 0 (dM hL s (To x dv wr (z.tk j).bY (z.tk j).val)) (fun w1 F1 t h1 h2 h3=>by
        have:=aGg hL s x w1 hH aQ hok dv d cY (hw0 dv) rE.2 (z.tk j).bY ⟨Cw,by omega,dQ⟩ wr (z.tk j).val mP F1 h1 h2 (eS.le dD (h3 _ (by simp)))
        rw[if_pos Bf,if_pos Bf,←Bk] at this
        exact this) ?_
       dsimp only[List.set];refine aZ ?_ (hS:=fun _ h=>h.bK);refine aL 10 ?_;refine bE ?_;refine aZ ?_ (hS:=fun _ h=>h.bK);refine aK 11 ?_ (hsub:=fun _ h=>h.bK);refine aK 12 ?_ (hsub:=fun _ h=>h.bK);refine aL 13 ?_;refine bE ?_;refine aZ ?_ (hS:=fun _ h=>h.bK);refine aL 14 ?_;refine bE ?_;refine aZ ?_ (hS:=fun _ h=>h.bK);refine dW ?_;refine aT [1,2,3,0,4] rfl (by decide) (fun _ h=>h) ?_;refine aV 2 0 ?_;refine aA ?_;refine eN rfl rfl ?_ (hs:=eJ.mk 0 rfl cO.h rfl (of_decide_eq_true rfl));dsimp only[List.set];refine aA ?_;refine eN rfl rfl ?_ (hs:=eJ.mk 0 rfl cO.h rfl (of_decide_eq_true rfl));dsimp only[List.set];refine aA ?_;refine aJ 2 0 ?_;refine cR 2 (fun L:dK=>fY g hL.h f L s {z with bB:=true,id:=x.bB}) L ?_;refine aT [2,3,4] rfl (by decide) (fun _ h=>h) ?_;refine aJ 1 0 ?_;refine aJ 0 1 ?_;subst cN;exact bO 0 hF
      ·rw[if_neg Bf];refine aT [3,0,1,2,4] rfl (by decide) (fun _ h=>h) ?_;refine Gk [1,2,3,5,6,7,8,11,12] ?_;refine bJ 0 ?_ (hsub:=fun _ h=>h.bK);refine aK 1 ?_ (hsub:=fun _ h=>h.bK);refine aK 2 ?_ (hsub:=fun _ h=>h.bK);refine aK 3 ?_ (hi:=rfl) (cM:=bH rfl (pI 3 rfl rfl)) (hsub:=fun _ h=>h.bK);refine bJ 4 ?_ (hsub:=fun _ h=>h.bK);refine aK 5 ?_ (hsub:=fun _ h=>h.bK);refine aK 6 ?_ (hsub:=fun _ h=>h.bK);refine aK 7 ?_ (hsub:=fun _ h=>h.bK);refine aK 8 ?_ (hsub:=fun _ h=>h.bK);refine aL 9 ?_
       refine Zv (v:=.tuple #[iv 0,iv 6]) 0 (dM hL s x) (fun w1 F1 t h1 h2 h3=>by
        have:=aGg hL s x w1 hH aQ hok dv d cY (hw0 dv) rE.2 (z.tk j).bY ⟨Cw,by omega,dQ⟩ wr (z.tk j).val mP F1 h1 h2 (eS.le dD (h3 _ (by simp)))
        rw[if_neg Bf,if_neg Bf,←Bk] at this
        exact this) ?_
       dsimp only[List.set];refine aZ ?_ (hS:=fun _ h=>h.bK);refine aL 10 ?_;refine bE ?_;refine aZ ?_ (hS:=fun _ h=>h.bK);refine aK 11 ?_ (hsub:=fun _ h=>h.bK);refine aK 12 ?_ (hsub:=fun _ h=>h.bK);refine aL 13 ?_;refine bE ?_;refine aZ ?_ (hS:=fun _ h=>h.bK);refine aL 14 ?_;refine bE ?_;refine aZ ?_ (hS:=fun _ h=>h.bK);refine dW ?_;refine aT [1,2,3,0,4] rfl (by decide) (fun _ h=>h) ?_;refine aA ?_;refine cR 2 (fun L:dK=>fY g hL.h f L s z) L ?_;refine aT [2,3,4] rfl (by decide) (fun _ h=>h) ?_;refine aJ 1 0 ?_;refine aJ 0 1 ?_;subst cN;exact bO 0 hF
     ·refine iV ?_;rw[if_pos (.inr rfl)];refine aA ?_;refine cR 2 (fun L:dK=>fY g hL.h f L s z) L ?_;refine aT [2,3,4] rfl (by decide) (fun _ h=>h) ?_;refine aJ 1 0 ?_;refine aJ 0 1 ?_;subst cN;exact bO 0 hF
end
end
section
theorem aAr{P:Program}{fn:FuncId}{args:Array Value}{w:World}{p p' q:HP}{v:Value}{F:Nat→Prop}(h:∀F,p.sat F w→(∀b,F b→b < w.heap.size)→Calls P fn args w fun y w'=>y=.returned v∧∃F',p'.sat F' w'∧iC w w' F F')
  (hp:(HP.many [p,q]).sat F w) (hF:∀b,F b→b < w.heap.size):Calls P fn args w fun y w'=>y=.returned v∧∃F',(HP.many [p',q]).sat F' w'∧iC w w' F F':=by
 obtain⟨G,g1,g2,g3⟩:=hp
 have Da:=g1 0 p rfl
 have Ic:=g1 1 q rfl
 refine(h (G 0) Da fun b hb=>hF b (g2 0 b hb)).mono fun y w' ⟨hy,F',h1,ht⟩=>⟨hy,fun b=>F' b∨G 1 b,⟨fun i=>match i with | 0=>F' | 1=>G 1 | _=>fun _=>False,fun i r hr=>?_,fun i b hb=>?_,fun i j b hij hi hj=>?_⟩,⟨ht.os,ht.tape,ht.output,ht.size,fun b hb=>?_,fun b hb hn=>?_⟩⟩
 ·match i,hr with
  | 0,hr=>cases hr;exact h1
  | 1,hr=>cases hr;exact q.loc _ _ _ Ic fun b hb=>ht.old b (hF b (g2 1 b hb)) fun h0=>g3 0 1 b (by decide) h0 hb
  | i+2,hr=>simp at hr
 ·match i,hb with
  | 0,hb=>exact .inl hb
  | 1,hb=>exact .inr hb
  | i+2,hb=>exact hb.elim
 ·have key:∀b,F' b→G 1 b→False:=fun b h0 h2=>by
   rcases(ht.new b h0).1 with h3 | h3
   ·exact g3 0 1 b (by decide) h3 h2
   ·have:=hF b (g2 1 b h2)
    omega
  match i,j,hi,hj with
  | 0,0,_,_=>exact absurd rfl hij
  | 0,1,hi,hj=>exact key b hi hj
  | 1,0,hi,hj=>exact key b hj hi
  | 1,1,_,_=>exact absurd rfl hij
  | i+2,_,hi,_=>exact hi.elim
  | _,j+2,_,hj=>exact hj.elim
 ·rcases hb with hb | hb
  ·refine⟨?_,(ht.new b hb).2⟩;rcases(ht.new b hb).1 with h3 | h3
   ·exact .inl (g2 0 b h3)
   ·exact .inr h3
  ·exact⟨.inl (g2 1 b hb),Nat.lt_of_lt_of_le (hF b (g2 1 b hb)) ht.size⟩
 ·exact ht.old b hb fun h0=>hn (g2 0 b h0)
structure Rq(s:aC)(z:bM):Prop where
 wn:z.wn.of s
 hs:∀j,T3 j→aDJ (z.tk j)
structure HwP(s:aC)(x:aS):Prop where
 ok:cT s x
 w0:∀i:Nat,(x.wt[i]?).join=none
 po:0≤x.bB∧x.bB≤1000000000
def Dp(s:aC)(x:aS)(z:bM)(j:Nat)(k:Int):Int×bM×aS:=
 if k=103 then((Lr s z j).1,(Lr s z j).2,x) else if k=112 then((Kl s z j).1,(Kl s z j).2,x) else if k=114 then Gh s x z j false else if k=119 then Gh s x z j true else if k=115 then((Kc s z).1,(Kc s z).2,x) else((Kk s z).1,(Kk s z).2,x)
theorem aO8{k:Int}(hk:wQ k):∃(tx:TypeId) (u u':Value) (fn:FuncId),Qe k=.iface tx u∧(∀w,(method (Tryz.prog.types.size+Made.depth) tx u "catnap/rpm.begin").run Tryz.prog w=.ok (fn,u') w)∧eY Tryz.prog fn=true∧
  ∀(g f:Nat) (hL:HL) (s:aC) (z:bM) (x:aS) (w:World) (F:Nat→Prop) (j:Nat),s.made→fZ hL s→HwP s x→Rq s z→T3 j→(Jk g f hL s z x).sat F w→(∀b,F b→b < w.heap.size)→eS ⟨w,fun b=>b < w.heap.size∧¬F b⟩→
   Cz fn #[u',pt g,.pointer (some ⟨g,10+13*j,none⟩)] w (Wr (iv (Dp s x z j k).1) (Jk g f hL s (Dp s x z j k).2.1 (Dp s x z j k).2.2) w F):=by
 rcases hk with rfl | rfl | rfl | rfl | rfl | rfl
 ·exact⟨_,_,.agg #[],242,rfl,fun w=>by kernel_rfl,(by kernel_rfl),fun g f hL s z x w F j hm aQ hx hz hj hp hF _=>aAr (fun F h1 h2=>aK9 g hL.h f s z w F hm hz.wn j hj (hz.hs j hj) h1 h2) hp hF⟩
 ·exact⟨_,_,.agg #[],262,rfl,fun w=>by kernel_rfl,(by kernel_rfl),fun g f hL s z x w F j hm aQ hx hz hj hp hF _=>aAr (fun F h1 h2=>aK6 g hL.h f s z w F hm hz.wn j hj (hz.hs j hj) h1 h2) hp hF⟩
 ·exact⟨_,_,.agg #[.bool false],265,rfl,fun w=>by kernel_rfl,(by kernel_rfl),fun g f hL s z x w F j hm aQ hx hz hj hp hF dD=>aEP g f hL s z x w F hm aQ hx.ok hx.w0 hx.po j hj false hp hF dD⟩
 ·exact⟨_,_,.agg #[.bool true],265,rfl,fun w=>by kernel_rfl,(by kernel_rfl),fun g f hL s z x w F j hm aQ hx hz hj hp hF dD=>aEP g f hL s z x w F hm aQ hx.ok hx.w0 hx.po j hj true hp hF dD⟩
 ·exact⟨_,_,.agg #[],271,rfl,fun w=>by kernel_rfl,(by kernel_rfl),fun g f hL s z x w F j hm aQ hx hz hj hp hF _=>aAr (fun F h1 h2=>aK2 g hL.h f s z w F hm hz.wn _ h1 h2) hp hF⟩
 ·exact⟨_,_,.agg #[],273,rfl,fun w=>by kernel_rfl,(by kernel_rfl),fun g f hL s z x w F j hm aQ hx hz hj hp hF _=>aAr (fun F h1 h2=>aK5 g hL.h f s z w F hm hz.wn _ h1 h2) hp hF⟩
theorem aGD(s:aC)(x:aS)(z:bM)(j:Nat)(k:Int):(Dp s x z j k).2.1.fA=z.fA:=by
 unfold Dp Lr Kl Kc Kk Gh
 repeat' split
 all_goals rfl
theorem aKD{h f:Nat}{L:dK}{s:aC}{z:bM}{j:Nat}{v:Int}(hj:T3 j):(lO h f L s z).set (10+13*j+0) (iv v)=lO h f L s (z.jQ j {z.tk j with st:=v}):=by
 rcases hj with rfl | rfl | rfl<;>rfl
def tS(z:bM)(j:Nat):bM:={z.jQ j {z.tk j with st:=2} with fA:=(j:Int)}
theorem aLK{z:bM}{j:Nat}(hj:T3 j):(tS z j).tk j={z.tk j with st:=2}:=by
 rcases hj with rfl | rfl | rfl<;>rfl
theorem aLL{s:aC}{z:bM}{j:Nat}(hj:T3 j)(h:Rq s z):Rq s (tS z j):=⟨h.wn,fun i hi=>by
 have h1:=h.hs i hi
 have h2:((tS z j).tk i).hs=(z.tk i).hs:=by
  rcases hj with rfl | rfl | rfl<;>rcases hi with rfl | rfl | rfl<;>rfl
 exact⟨by rw[h2];exact h1.len,fun k=>by
  have:=h1.bd k
  unfold hG at this⊢;rw[h2]
  exact this⟩⟩
def uJ(s:aC)(x:aS)(z:bM)(j:Nat):bM×aS:=
 let r:=Dp s x (tS z j) j (z.tk j).kind
 if r.1≠0 then(pX r.2.1 j r.1 0,r.2.2) else if r.2.1.bB=false∧r.2.1.steps.length=0 then(pX r.2.1 j 0 0,r.2.2) else r.2
theorem aKE(g f:Nat)(hL:HL)(s:aC)(z:bM)(x:aS)(w:World)(F:Nat→Prop)(j:Nat)(hm:s.made)(aQ:fZ hL s)(hx:HwP s x)(hz:Rq s z)(hj:T3 j)(hk:wQ (z.tk j).kind)(hp:(Jk g f hL s z x).sat F w)(hF:∀b,F b→b < w.heap.size)(dD:eS ⟨w,fun b=>b < w.heap.size∧¬F b⟩):
  Cz 133 #[pt g,iv (j:Int)] w (Wr (.tuple #[]) (Jk g f hL s (uJ s x z j).1 (uJ s x z j).2) w F):=by
 have hj2:j≤2:=by rcases hj with rfl | rfl | rfl<;>decide
 obtain⟨tx,u,u',fn,hy,hme,hcb,yO⟩:=aO8 hk
 have mE:=aLL hj hz
 have hh:=aGD s x (tS z j) j (z.tk j).kind
 unfold uJ;dsimp only;refine cS func133 ntmps133 hp hF ?_;generalize cN:(⟨w,fun b=>b < w.heap.size∧¬F b⟩:Piece)=R0 at dD⊢;refine aV 0 0 ?_;refine iW 0 fun L=>?_;refine aV 0 0 ?_;refine aA ?_;refine eN rfl rfl ?_ (hs:=eJ.mk 0 rfl cO.h rfl (of_decide_eq_true rfl));dsimp only[List.set];rw[show(lO hL.h f L s z).set (0+49) (iv (j:Int))=lO hL.h f L s {z with fA:=(j:Int)} from rfl];refine aA ?_;refine kd (fN j (10+13*j) (ho:=by omega)) ?_;refine aA ?_;refine eN rfl rfl ?_ (hs:=eJ.mk 0 rfl cO.h rfl (by rw[aBA];omega));dsimp only[List.set];rw[aKD hj];refine aJ 0 0 ?_
 change XK _ _ _ _ _ [fY g hL.h f L s (tS z j),HP.many [cG,dM hL s x]]
 refine aA ?_;refine kd (bH rfl (pI 0 rfl (Es (k:=1) hj rfl))) ?_;rw[aLK hj];refine aU (fun w1 _=>aB9 (z.tk j).kind w1) ?_;rw[hy];refine cR 0 (fun L:dK=>fY g hL.h f L s (tS z j)) L ?_;refine aJ 0 0 ?_;refine aA ?_;generalize hr:Dp s x (tS z j) j (z.tk j).kind=r at hh⊢
 refine aIN 0 (Jk g f hL s r.2.1 r.2.2) hcb rfl hme rfl rfl ⟨by decide,rfl⟩ (fun w1 F1 t h1 h2 h3=>by
  have:=yO g f hL s (tS z j) x w1 F1 j hm aQ hx mE hj h1 h2 (eS.le dD (h3 _ (by simp)))
  rw[hr] at this
  exact this) ?_
 dsimp only[List.set];obtain⟨er,z2,x2⟩:=r;dsimp only at hh⊢;refine aA ?_;refine aG rfl (fun he=>?_) (fun he=>?_)
 ·rw[if_pos he];refine aA ?_;refine kd (iN rfl) ?_;refine aA ?_;refine aV 0 0 ?_;refine bU 0 (jJ g hL.h f s (pX z2 j er 0)) (fun w1 F1 t h1 h2 h3=>Ki g hL.h f s z2 w1 F1 j hh hj er 0 h1 h2) ?_;refine aJ 0 0 ?_;refine aA ?_;subst cN;exact fC 0 hF
 ·rw[if_neg he];refine aV 0 0 ?_;refine iW 0 fun L2=>?_;refine aA ?_;refine kd (bH rfl (pI 0 rfl rfl)) ?_;cases mP:z2.bB
  ·refine aA ?_;refine kd (bH rfl (pI 0 rfl rfl)) ?_;refine aA ?_;refine cR 0 (fun L:dK=>fY g hL.h f L s z2) L2 ?_;refine aG rfl (fun hn=>?_) (fun hn=>?_)
   ·rw[if_pos ⟨rfl,Int.ofNat.inj hn⟩];refine aA ?_;refine kd (iN rfl) ?_;refine aA ?_;refine bU 0 (jJ g hL.h f s (pX z2 j 0 0)) (fun w1 F1 t h1 h2 h3=>Ki g hL.h f s z2 w1 F1 j hh hj 0 0 h1 h2) ?_;refine aJ 0 0 ?_;subst cN;exact fC 0 hF
   ·rw[if_neg (fun h=>hn (congrArg Int.ofNat h.2))];refine aA ?_;refine aJ 0 0 ?_;subst cN;exact fC 0 hF
  ·refine aA ?_;rw[if_neg (by simp)];refine cR 0 (fun L:dK=>fY g hL.h f L s z2) L2 ?_;refine aJ 0 0 ?_;subst cN;exact fC 0 hF
end
section
def Fy(k:Int):Value:=
 if k=117 then .func (.func 138) #[] #[] else if k=100∨k=107 then .func (.func 139) #[] #[]
 else if k=99 then .func (.func 140) #[] #[] else if k=111 then .func (.func 141) #[] #[]
 else if k=114 then .func (.func 142) #[] #[] else .func (.func 143) #[] #[]
theorem aGJ(k:Int)(w:World):Cz 91 #[.int .u8 k] w (Rt (Fy k) w):=by
 refine aN func91 ntmps91 ?_;refine aA ?_;refine aG rfl (fun h1=>?_) (fun h1=>?_)
 ·refine aA ?_;exact dI (by rw[Fy,if_pos h1])
 refine aA ?_;refine aG rfl (fun h2=>?_) (fun h2=>?_)
 ·refine aA ?_;refine aG rfl (fun _=>?_) (fun h=>absurd h2 h);refine aA ?_;exact dI (by rw[Fy,if_neg h1,if_pos (.inl h2)])
 refine aA ?_;refine aG rfl (fun h3=>?_) (fun h3=>?_)
 ·refine aA ?_;exact dI (by rw[Fy,if_neg h1,if_pos (.inr h3)])
 have h23:¬(k=100∨k=107):=by omega
 refine aA ?_;refine aG rfl (fun h4=>?_) (fun h4=>?_)
 ·refine aA ?_;exact dI (by rw[Fy,if_neg h1,if_neg h23,if_pos h4])
 refine aA ?_;refine aG rfl (fun h5=>?_) (fun h5=>?_)
 ·refine aA ?_;exact dI (by rw[Fy,if_neg h1,if_neg h23,if_neg h4,if_pos h5])
 refine aA ?_;refine aG rfl (fun h6=>?_) (fun h6=>?_)
 ·refine aA ?_;exact dI (by rw[Fy,if_neg h1,if_neg h23,if_neg h4,if_neg h5,if_pos h6])
 refine aA ?_;exact dI (by rw[Fy,if_neg h1,if_neg h23,if_neg h4,if_neg h5,if_neg h6])
theorem aCi{P:Program}{fn:Func}{R:Ending→World→Prop}(hr:fn.results=#[]){t1 t2:Array Value}:∀(ds:List Deferred) (u:FrameMode) (w:World),Leaves P fn t1 R ds u w→Leaves P fn t2 R ds u w
 | [],.returning,w,h=>by
  obtain⟨v,h1,h2⟩:=h;rw[results_none hr] at h1;cases h1;exact⟨_,results_none hr _ _ _,h2⟩
 | [],.panicking _,_,h=>h
 | [],.run,_,h=>h
 | d::ds,u,w,h=>by
  obtain⟨h1,fv,cap,f,args,h2,h3,h4⟩:=h;refine⟨h1,fv,cap,f,args,h2,h3,h4.mono fun y u' w' hy=>?_⟩;cases y with
  | returned v=>exact aCi hr ds _ _ hy
  | panicked c=>exact aCi hr ds _ _ hy
  | outgrown=>exact hy
theorem lQ{P:Program}{fn:Func}{R:Ending→World→Prop}{c:List PanicEntry}{a:Act}{d:Option Nat}{v:Value}{w:World}(hr:fn.results=#[])(h:bodyPostD P fn R (.panic c) (a.put d v) w):bodyPostD P fn R (.panic c) a w:=by
 have hd:(a.put d v).defers=a.defers:=by cases d<;>rfl
 have h2:Leaves P fn (a.put d v).tmps R (a.put d v).defers (.panicking c) w:=h
 rw[hd] at h2;exact aCi hr _ _ _ h2
def aDU(f:Nat)(hL:HL)(s:aC)(z:cI)(x:aS)(r:aS×Bool):Prop:=
 ∃fn:FuncId,Fy z.kind=.func (.func fn) #[] #[]∧eY Tryz.prog fn=true∧cT s r.1∧∀(w:World) (F:Nat→Prop),(gJ f hL s z x).sat F w→(∀b,F b→b < w.heap.size)→eS ⟨w,fun b=>b < w.heap.size∧¬F b⟩→
  Cz fn #[pt f,iv z.id] w (Wr (.bool r.2) (gJ f hL s z r.1) w F)
def Bj(s:aC)(z:cI)(r:aS×Bool):cI:=if r.2 then tQ s r.1 {z with at_:= -1} z.at_.toNat 0 else z
section
variable(f:Nat)(hL:HL)(s:aC)(z:cI)(x:aS)(w:World)
theorem aOc(hH:s.dJ)(aQ:fZ hL s)(hok:cT s x)(hz:Ee s z)(a:Nat)(ha:z.at_=(a:Int))(Bc:a < 2)(r:aS×Bool)(hact:aDU f hL s z x r)(Cv:tE (iQ z a))(F:Nat→Prop)(hp:(gJ f hL s z x).sat F w)(hF:∀b,F b→b < w.heap.size)(dD:eS ⟨w,fun b=>b < w.heap.size∧¬F b⟩):
  Cz 36 #[pt f] w (Wr (.tuple #[]) (gJ f hL s (Bj s z r) r.1) w F):=by
 obtain⟨fn,cM,hcb,Ul,yO⟩:=hact;refine aAU (vs:=[pt f]) (p:=gJ f hL s z x) func36 rfl ntmps36 (by simp) hp hF ?_;generalize cN:(⟨w,fun b=>b < w.heap.size∧¬F b⟩:Piece)=R0 at dD⊢;refine aA ?_;refine Ye (f:=89) (fi:=[]) (ca:=[]) rfl ?_;refine aA ?_;refine kd (bH rfl (Gs 0 rfl fun _=>rfl)) ?_;refine aA ?_;refine bT (t:=8) rfl (fun h=>absurd h (by omega)) (fun _=>?_);refine aA ?_;refine iX [1,2,3,4,8,9,10,11] ?_;refine bJ 0 ?_ (hQ:=fun _ _ _ h=>lQ rfl h);refine bJ 6 ?_ (hQ:=fun _ _ _ h=>lQ rfl h);refine bJ 7 ?_ (hQ:=fun _ _ _ h=>lQ rfl h);refine aK 1 ?_ (hQ:=fun _ _ _ h=>lQ rfl h);refine aK 2 ?_ (hQ:=fun _ _ _ h=>lQ rfl h);refine aK 3 ?_ (hQ:=fun _ _ _ h=>lQ rfl h);refine aK 4 ?_ (hQ:=fun _ _ _ h=>lQ rfl h) (cM:=bH rfl (Gs 0 rfl fun _=>rfl));refine aK 8 ?_ (hQ:=fun _ _ _ h=>lQ rfl h);refine aK 9 ?_ (hQ:=fun _ _ _ h=>lQ rfl h);refine aK 10 ?_ (hQ:=fun _ _ _ h=>lQ rfl h);refine aK 11 ?_ (hQ:=fun _ _ _ h=>lQ rfl h) (cM:=bH rfl (Gs 0 rfl fun _=>rfl));refine aL 5 ?_;refine aU (fun w1 t=>aGJ z.kind w1) ?_;rw[cM];refine aZ ?_;refine aL 12 ?_;refine Zu 0 (fi:=[]) (ca:=[]) (gJ f hL s z r.1) (fun w1 F1 t h1 h2 h3=>by simpa using yO w1 F1 h1 h2 (eS.le dD (h3 _ (by simp)))) ?_ (hf:=hcb);dsimp only[List.set];refine cE ?_;refine dW ?_;refine aA ?_;obtain⟨x',b⟩:=r;dsimp only at Ul⊢;cases b
 ·refine aA ?_;subst cN;exact Bu (.inr rfl) (by kernel_rfl) Vq rfl fun w1 t=>⟨rfl,t.turns hF (by simp) (i:=0) rfl⟩
 ·refine aA ?_;refine kd (bH rfl (Gs 0 rfl fun _=>rfl)) ?_;refine aA ?_;refine aV 0 0 ?_;refine iW 0 fun L=>?_;refine aV 0 0 ?_;refine eN rfl rfl ?_ (hs:=eJ.mk 0 rfl cO.h rfl (by simp[jH]));dsimp only[List.set];rw[show(jH hL.h L s z).set (0+16) (iv (-1))=jH hL.h L s {z with at_:= -1} from rfl];refine aJ 0 0 ?_;refine cR 0 (fun L:gA=>iE f hL.h L s {z with at_:= -1}) L ?_;refine aJ 0 0 ?_;refine aA ?_;rw[ha];refine bU 0 (gJ f hL s (tQ s x' {z with at_:= -1} a 0) x') (fun w1 F1 t h1 h2 h3=>aCM f hL s {z with at_:= -1} x' hH aQ Ul a Bc 0 (fun _=>Cv) w1 F1 h1 h2) ?_;refine aA ?_
  have hend:Bj s z (x',true)=tQ s x' {z with at_:= -1} a 0:=by
   unfold Bj;rw[if_pos rfl,ha];rfl
  rw[hend];subst cN;exact Bu (.inr rfl) (by kernel_rfl) Vq rfl fun w1 t=>⟨rfl,t.turns hF (by simp) (i:=0) rfl⟩
end
end
section
def Ib(s:aC)(d:Int)(k:Nat)(p:dS×fF):dS×fF:=match s.aD[k]? with
 | some dv=>if dv.domain=d then(p.1,if p.2.at_=3 then(oH p.2).2 else if p.2.at_=0 then(sX p.2).2 else p.2) else p
 | none=>p
def mF(s:aC)(x:aS)(d:Int)(n:Nat):List (dS×fF):=x.dv.mapIdx fun k p=>if k < n then Ib s d k p else p
def Yz(s:aC)(x:aS)(d:Int)(k:Nat):Bool:=match s.aD[k]?,x.dv[k]? with
 | some dv,some p=> !decide (dv.domain=d)||decide (p.2.at_=2)
 | _,_=>true
def Kx(s:aC)(x:aS)(d:Int)(n:Nat):Bool:=(List.range n).all (Yz s x d)
theorem aMT(s:aC)(x:aS)(d:Int)(n:Nat):Kx s x d (n+1)=(Kx s x d n&&Yz s x d n):=by simp[Kx,List.range_succ]
theorem aQ6{x:fF}(h:zG x):zG (sX x).2:=by
 unfold sX;split
 ·exact h
 ·exact⟨by show(0:Int)≤1;omega,by show(1:Int)≤3;omega⟩
theorem aCq{s:aC}{x:aS}(hH:s.dJ)(hok:cT s x)(d:Int)(n:Nat):cT s {x with dv:=mF s x d n}:=Tr hH hok (by simp[mF]) fun i e p hd hp=>by
 rw[mF,List.getElem?_mapIdx] at hp;cases hq:x.dv[i]? with
 | none=>rw[hq] at hp;cases hp
 | some q =>
  rw[hq] at hp;obtain⟨h1,h2⟩:=hok.each i e q hd hq;simp only[Option.map_some,Option.some.injEq] at hp;subst hp;split
  ·unfold Ib;rw[hd];dsimp only;split
   ·refine⟨h1,?_⟩;dsimp only;split
    ·exact aFB h2
    ·split
     ·exact aQ6 h2
     ·exact h2
   ·exact⟨h1,h2⟩
  ·exact⟨h1,h2⟩
variable(f:Nat)(hL:HL)(s:aC)(z:cI)(x:aS)(w:World)
theorem aOi(hH:s.dJ)(aQ:fZ hL s)(hok:cT s x)(d:Int)(F:Nat→Prop)(hp:(gJ f hL s z x).sat F w)(hF:∀b,F b→b < w.heap.size)(dD:eS ⟨w,fun b=>b < w.heap.size∧¬F b⟩):
  Cz 176 #[pt f,iv d] w (Wr (.bool (Kx s x d s.aD.length)) (gJ f hL s z {x with dv:=mF s x d s.aD.length}) w F):=by
 have rE:=hH.t.nv
 have lB:=hok.dv
 refine cS func176 ntmps176 hp hF ?_;generalize cN:(⟨w,fun b=>b < w.heap.size∧¬F b⟩:Piece)=R0 at dD⊢;refine aV 0 0 ?_;refine iW 0 fun L=>?_;refine aV 1 1 ?_;refine aA ?_;refine kd (bH rfl (Rd.dZ 1 rfl rfl)) ?_;refine aA ?_
 have hm0:mF s x d 0=x.dv:=Og _ _
 refine bL [(15,iv (0)),(14,iv s.aD.length),(13,.slice L.a4.1 s.aD.length L.a4.2),(5,.bool true),(0,pt f),(1,iv d)] ?_;refine eV (fun m e R H=>∃(i:Nat) (b:Bool),i≤s.aD.length∧m=s.aD.length - i∧b=Kx s x d i∧e=[(15,iv (i:Int)),(14,iv s.aD.length),(13,.slice L.a4.1 s.aD.length L.a4.2),(5,.bool b),(0,pt f),(1,iv d)]∧R=[R0]∧H=[dM hL s {x with dv:=mF s x d i},iE f hL.h L s z,HP.many [cG,cG]]) s.aD.length ⟨0,true,by omega,rfl,rfl,rfl,rfl,by rw[hm0]⟩ fun m e R H hI=>?_;obtain⟨i,b0,hi,rfl,hb0,rfl,rfl,rfl⟩:=hI
 have mQ:=aCq hH hok d i
 refine aA ?_;refine aG rfl (fun hlt=>?_) (fun hge=>?_)
 ·have hlt:i < s.aD.length:=by omega
  obtain⟨dv,cY⟩:=get_some hlt;obtain⟨p,gE⟩:=get_some (l:=x.dv) (i:=i) (by omega)
  have kQ:(mF s x d i)[i]? =some p:=Oi gE
  have hstep:(mF s x d i).set i (Ib s d i p)=mF s x d (i+1):=Oh (f:=Ib s d) gE
  have dB:=aMT s x d i
  have Uk:Yz s x d i=(!decide (dv.domain=d)||decide (p.2.at_=2)):=by
   unfold Yz;rw[cY,gE]
  rw[Uk,←hb0] at dB;obtain⟨q1,q2⟩:=(mQ.each i dv p cY kQ).2;refine aHG 1 rfl (by omega) fun b off hA=>?_;refine aA ?_;refine kd (dat i (off+i*6) (hx:=by rw[←hA];rfl)) ?_;refine aEc 6 (aDP dv) rfl (fun w1 t=>aG2 (t.Dm 1 rfl) hA cY) ?_;rintro _ ⟨A,n,k,A',n',k',rfl⟩;refine bX fun g1=>?_;refine aA ?_;refine aG rfl (fun he=>?_) (fun he=>?_)
  ·have nB:Ib s d i p=p:=by
    unfold Ib;rw[cY];exact if_neg he
   rw[nB,wK kQ] at hstep;rw[hstep];refine aA ?_;refine aT [1,2,3] rfl (by decide) (fun _ h=>h) ?_;refine bL [(15,iv ((i+1:Nat):Int)),(14,iv s.aD.length),(13,.slice L.a4.1 s.aD.length L.a4.2),(5,.bool b0),(0,pt f),(1,iv d)] ?_;exact gQ (s.aD.length - (i+1)) (by omega) ⟨i+1,b0,hlt,rfl,by rw[dB,decide_eq_false he];simp,rfl,rfl,rfl⟩
  ·have he:dv.domain=d:=by simpa using he
   rw[decide_eq_true he] at dB
   have hst:wF {x with dv:=mF s x d i} i=oO p.2.at_:=by
    unfold wF;dsimp only;rw[kQ];rfl
   have nB:Ib s d i p=(p.1,if p.2.at_=3 then(oH p.2).2 else if p.2.at_=0 then(sX p.2).2 else p.2):=by
    unfold Ib;rw[cY];exact if_pos he
   refine aA ?_;refine kd (bH rfl (Rd.dZ 2 rfl rfl)) ?_;refine aA ?_;refine aU (fun w1 t=>aGe hL s _ w1 aQ mQ i hlt (dD.at_ (t.le (by simp))) (t.mG 1 rfl aQ mQ)) ?_;rw[hst]
   have hq4:p.2.at_=0∨p.2.at_=1∨p.2.at_=2∨p.2.at_=3:=by omega
   rcases hq4 with ha | ha | ha | ha<;>rw[ha] at nB dB⊢ <;>cases b0
   ·rw[show oO 0=114 from rfl];refine aA ?_;refine kd (bH rfl (Rd.dZ 2 rfl rfl)) ?_;refine aA ?_;refine vU (α:=Int) 1 (f:=207) (fi:=[]) (ca:=[]) (fun r=>iv r) (fun _=>dM hL s (Gf {x with dv:=mF s x d i} i)) (fun _=>True) (by kernel_rfl) rfl rfl rfl (by decide) (fun w1 F1 t h1 h2 h3=>aGj hL s _ w1 hH aQ mQ i hlt F1 h1 h2) ?_;rintro _ _;dsimp only[List.set]
    have hX:Gf {x with dv:=mF s x d i} i={x with dv:=mF s x d (i+1)}:=by
     unfold Gf;dsimp only;rw[kQ,←hstep,nB];rfl
    rw[hX];refine aA ?_;refine aT [1,2,3] rfl (by decide) (fun _ h=>h) ?_;refine bL [(15,iv ((i+1:Nat):Int)),(14,iv s.aD.length),(13,.slice L.a4.1 s.aD.length L.a4.2),(5,.bool false),(0,pt f),(1,iv d)] ?_;exact gQ (s.aD.length - (i+1)) (by omega) ⟨i+1,false,hlt,rfl,by rw[dB];rfl,rfl,rfl,rfl⟩
   ·rw[show oO 0=114 from rfl];refine aA ?_;refine kd (bH rfl (Rd.dZ 2 rfl rfl)) ?_;refine aA ?_;refine vU (α:=Int) 1 (f:=207) (fi:=[]) (ca:=[]) (fun r=>iv r) (fun _=>dM hL s (Gf {x with dv:=mF s x d i} i)) (fun _=>True) (by kernel_rfl) rfl rfl rfl (by decide) (fun w1 F1 t h1 h2 h3=>aGj hL s _ w1 hH aQ mQ i hlt F1 h1 h2) ?_;rintro _ _;dsimp only[List.set]
    have hX:Gf {x with dv:=mF s x d i} i={x with dv:=mF s x d (i+1)}:=by
     unfold Gf;dsimp only;rw[kQ,←hstep,nB];rfl
    rw[hX];refine aA ?_;refine aT [1,2,3] rfl (by decide) (fun _ h=>h) ?_;refine bL [(15,iv ((i+1:Nat):Int)),(14,iv s.aD.length),(13,.slice L.a4.1 s.aD.length L.a4.2),(5,.bool false),(0,pt f),(1,iv d)] ?_;exact gQ (s.aD.length - (i+1)) (by omega) ⟨i+1,false,hlt,rfl,by rw[dB];rfl,rfl,rfl,rfl⟩
   ·rw[show oO 1=97 from rfl];rw[nB,show(if(1:Int)=3 then(oH p.2).2 else if(1:Int)=0 then(sX p.2).2 else p.2)=p.2 from rfl,wK kQ] at hstep;rw[hstep];refine aA ?_;refine aT [1,2,3] rfl (by decide) (fun _ h=>h) ?_;refine bL [(15,iv ((i+1:Nat):Int)),(14,iv s.aD.length),(13,.slice L.a4.1 s.aD.length L.a4.2),(5,.bool false),(0,pt f),(1,iv d)] ?_;exact gQ (s.aD.length - (i+1)) (by omega) ⟨i+1,false,hlt,rfl,by rw[dB];rfl,rfl,rfl,rfl⟩
   ·rw[show oO 1=97 from rfl];rw[nB,show(if(1:Int)=3 then(oH p.2).2 else if(1:Int)=0 then(sX p.2).2 else p.2)=p.2 from rfl,wK kQ] at hstep;rw[hstep];refine aA ?_;refine aT [1,2,3] rfl (by decide) (fun _ h=>h) ?_;refine bL [(15,iv ((i+1:Nat):Int)),(14,iv s.aD.length),(13,.slice L.a4.1 s.aD.length L.a4.2),(5,.bool false),(0,pt f),(1,iv d)] ?_;exact gQ (s.aD.length - (i+1)) (by omega) ⟨i+1,false,hlt,rfl,by rw[dB];rfl,rfl,rfl,rfl⟩
   ·rw[show oO 2=115 from rfl];rw[nB,show(if(2:Int)=3 then(oH p.2).2 else if(2:Int)=0 then(sX p.2).2 else p.2)=p.2 from rfl,wK kQ] at hstep;rw[hstep];refine aA ?_;refine aT [1,2,3] rfl (by decide) (fun _ h=>h) ?_;refine bL [(15,iv ((i+1:Nat):Int)),(14,iv s.aD.length),(13,.slice L.a4.1 s.aD.length L.a4.2),(5,.bool false),(0,pt f),(1,iv d)] ?_;exact gQ (s.aD.length - (i+1)) (by omega) ⟨i+1,false,hlt,rfl,by rw[dB];rfl,rfl,rfl,rfl⟩
   ·rw[show oO 2=115 from rfl];rw[nB,show(if(2:Int)=3 then(oH p.2).2 else if(2:Int)=0 then(sX p.2).2 else p.2)=p.2 from rfl,wK kQ] at hstep;rw[hstep];refine aA ?_;refine aT [1,2,3] rfl (by decide) (fun _ h=>h) ?_;refine bL [(15,iv ((i+1:Nat):Int)),(14,iv s.aD.length),(13,.slice L.a4.1 s.aD.length L.a4.2),(5,.bool true),(0,pt f),(1,iv d)] ?_;exact gQ (s.aD.length - (i+1)) (by omega) ⟨i+1,true,hlt,rfl,by rw[dB];rfl,rfl,rfl,rfl⟩
   ·rw[show oO 3=100 from rfl];refine aA ?_;refine kd (bH rfl (Rd.dZ 2 rfl rfl)) ?_;refine aA ?_;refine vU (α:=Int) 1 (f:=175) (fi:=[]) (ca:=[]) (fun r=>iv r) (fun _=>dM hL s (yK {x with dv:=mF s x d i} i)) (fun _=>True) (by kernel_rfl) rfl rfl rfl (by decide) (fun w1 F1 t h1 h2 h3=>aC9 hL s _ w1 hH aQ mQ i hlt F1 h1 h2) ?_;rintro _ _;dsimp only[List.set]
    have hX:yK {x with dv:=mF s x d i} i={x with dv:=mF s x d (i+1)}:=by
     unfold yK;dsimp only;rw[kQ,←hstep,nB];rfl
    rw[hX];refine aA ?_;refine aT [1,2,3] rfl (by decide) (fun _ h=>h) ?_;refine bL [(15,iv ((i+1:Nat):Int)),(14,iv s.aD.length),(13,.slice L.a4.1 s.aD.length L.a4.2),(5,.bool false),(0,pt f),(1,iv d)] ?_;exact gQ (s.aD.length - (i+1)) (by omega) ⟨i+1,false,hlt,rfl,by rw[dB];rfl,rfl,rfl,rfl⟩
   ·rw[show oO 3=100 from rfl];refine aA ?_;refine kd (bH rfl (Rd.dZ 2 rfl rfl)) ?_;refine aA ?_;refine vU (α:=Int) 1 (f:=175) (fi:=[]) (ca:=[]) (fun r=>iv r) (fun _=>dM hL s (yK {x with dv:=mF s x d i} i)) (fun _=>True) (by kernel_rfl) rfl rfl rfl (by decide) (fun w1 F1 t h1 h2 h3=>aC9 hL s _ w1 hH aQ mQ i hlt F1 h1 h2) ?_;rintro _ _;dsimp only[List.set]
    have hX:yK {x with dv:=mF s x d i} i={x with dv:=mF s x d (i+1)}:=by
     unfold yK;dsimp only;rw[kQ,←hstep,nB];rfl
    rw[hX];refine aA ?_;refine aT [1,2,3] rfl (by decide) (fun _ h=>h) ?_;refine bL [(15,iv ((i+1:Nat):Int)),(14,iv s.aD.length),(13,.slice L.a4.1 s.aD.length L.a4.2),(5,.bool false),(0,pt f),(1,iv d)] ?_;exact gQ (s.aD.length - (i+1)) (by omega) ⟨i+1,false,hlt,rfl,by rw[dB];rfl,rfl,rfl,rfl⟩
 obtain rfl:i=s.aD.length:=by omega
 rw[←hb0];refine aA ?_;refine aJ 1 1 ?_;refine cR 0 (fun L:gA=>iE f hL.h L s z) L ?_;refine aJ 0 0 ?_;subst cN;exact bO 0 hF
theorem aOk(hH:s.dJ)(aQ:fZ hL s)(hok:cT s x)(c:Int)(F:Nat→Prop)(hp:(gJ f hL s z x).sat F w)(hF:∀b,F b→b < w.heap.size):
  Cz 141 #[pt f,iv c] w (Wr (.bool true) (gJ f hL s z {x with ck:=(lR s x.ck c false).2}) w F):=by
 refine cS func141 ntmps141 hp hF ?_;generalize cN:(⟨w,fun b=>b < w.heap.size∧¬F b⟩:Piece)=R0;refine aV 0 0 ?_;refine iW 0 fun L=>?_;refine aV 1 1 ?_;refine aA ?_;refine kd (bH rfl (Rd.dZ 1 rfl rfl)) ?_;refine aA ?_;refine bU 0 (dM hL s {x with ck:=(lR s x.ck c false).2}) (fun w1 F1 t h1 h2 h3=>aGi hL s x w1 hH aQ hok c false F1 h1 h2) ?_;refine aA ?_;refine aJ 1 1 ?_;refine cR 0 (fun L:gA=>iE f hL.h L s z) L ?_;refine aJ 0 0 ?_;subst cN;exact bO 0 hF
def Kn(s:aC)(x:aS)(d:Int)(keep:Bool):aS×Bool:=
 if sC x.dm d=49 then(if Kx s x d s.aD.length then {x with dv:=mF s x d s.aD.length,dm:=(xF s x.dm d keep).2} else {x with dv:=mF s x d s.aD.length},false)
 else if sC x.dm d=48∨sC x.dm d=116 then(x,true) else(x,false)
theorem aGy(hH:s.dJ)(aQ:fZ hL s)(hok:cT s x)(d:Int)(F:Nat→Prop)(hp:(gJ f hL s z x).sat F w)(hF:∀b,F b→b < w.heap.size)(dD:eS ⟨w,fun b=>b < w.heap.size∧¬F b⟩):
  Cz 139 #[pt f,iv d] w (Wr (.bool (Kn s x d (decide (z.kind=107))).2) (gJ f hL s z (Kn s x d (decide (z.kind=107))).1) w F):=by
 refine cS func139 ntmps139 hp hF ?_;generalize cN:(⟨w,fun b=>b < w.heap.size∧¬F b⟩:Piece)=R0 at dD⊢;refine aV 0 0 ?_;refine iW 0 fun L=>?_;refine aV 1 1 ?_;refine aA ?_;refine kd (bH rfl (Rd.dZ 1 rfl rfl)) ?_;refine aA ?_;refine aU (fun w1 t=>aC8 hL s x w1 hok.dm d (t.mG 0 rfl aQ hok)) ?_;unfold Kn;generalize Cx:sC x.dm d=ph
 by_cases Lo:ph=49
 ·subst Lo;rw[if_pos rfl];refine aJ 1 1 ?_;refine cR 0 (fun L:gA=>iE f hL.h L s z) L ?_;refine aJ 0 0 ?_;refine aA ?_;refine bU 0 (gJ f hL s z {x with dv:=mF s x d s.aD.length}) (fun w1 F1 t h1 h2 h3=>aOi f hL s z x w1 hH aQ hok d F1 h1 h2 (eS.le dD (h3 _ (by simp)))) ?_
  have mR:=aCq hH hok d s.aD.length
  cases hb:Kx s x d s.aD.length
  ·refine aA ?_;subst cN;exact bO 0 hF
  ·refine aA ?_;refine aV 0 0 ?_;refine iW 0 fun L2=>?_;refine aV 1 1 ?_;refine iX [1,2,3,6,7,8,9,10] ?_;refine bJ 0 ?_;refine bJ 4 ?_;refine bJ 5 ?_;refine aK 1 ?_;refine aK 2 ?_;refine aK 3 ?_ (cM:=bH rfl (Rd.dZ 1 rfl rfl));refine aK 6 ?_;refine aK 7 ?_;refine aK 8 ?_;refine aK 9 ?_ (cM:=bH rfl (Rd.dZ 1 rfl rfl));refine aK 10 ?_;refine aL 11 ?_;refine bU 0 (dM hL s {x with dv:=mF s x d s.aD.length,dm:=(xF s x.dm d (decide (z.kind=107))).2}) (fun w1 F1 t h1 h2 h3=>aN0 hL s _ w1 hH aQ mR d _ F1 h1 h2) ?_;refine cE ?_;refine dW ?_;refine aA ?_;refine aJ 1 1 ?_;refine cR 0 (fun L:gA=>iE f hL.h L s z) L2 ?_;refine aJ 0 0 ?_;subst cN;exact bO 0 hF
 ·rw[if_neg Lo]
  by_cases h48:ph=48
  ·subst h48;rw[if_pos (.inl rfl)];refine aA ?_;refine aJ 1 1 ?_;refine cR 0 (fun L:gA=>iE f hL.h L s z) L ?_;refine aJ 0 0 ?_;subst cN;exact bO 0 hF
  by_cases Vn:ph=116
  ·subst Vn;rw[if_pos (.inr rfl)];refine aA ?_;refine aJ 1 1 ?_;refine cR 0 (fun L:gA=>iE f hL.h L s z) L ?_;refine aJ 0 0 ?_;subst cN;exact bO 0 hF
  rw[if_neg (by omega)];refine aA ?_;refine aG rfl (fun h=>absurd h Lo) (fun _=>?_);refine aA ?_;refine aG rfl (fun h=>absurd h h48) (fun _=>?_);refine aA ?_;refine aG rfl (fun h=>absurd h Vn) (fun _=>?_);refine aA ?_;refine aJ 1 1 ?_;refine cR 0 (fun L:gA=>iE f hL.h L s z) L ?_;refine aJ 0 0 ?_;subst cN;exact bO 0 hF
end
section
def Iy(s:aC)(i:Int)(k:Nat)(p:dS×fF):dS×fF:=match s.aD[k]? with
 | some d=>if d.reset=i then(Dt d p.1,p.2) else p
 | none=>p
def Gd(s:aC)(dv:List (dS×fF))(i:Int)(n:Nat):List (dS×fF):=dv.mapIdx fun k p=>if k < n then Iy s i k p else p
def Ja(s:aC)(x:aS)(i:Int):aS:=if bZ x.ln.length i then {x with ln:=(rI s x.ln i).2,dv:=Gd s x.dv i s.aD.length} else x
theorem aHr{s:aC}{st:List jY}(hH:s.dJ)(h:Ed s st)(i:Int):Ed s (rI s st i).2:=by
 unfold rI;split
 ·exact h
 ·refine⟨by simp[h.len],fun y hy=>?_⟩;rcases List.mem_or_eq_of_mem_set hy with hy | rfl
  ·exact h.left y hy
  ·cases hq:s.bA[i.toNat]? with
   | none=>simp
   | some r=>
    have:=hH.bA r (List.mem_of_getElem? hq)
    simpa using this
theorem aPR{d:cH}{f:dS}(hr:∀r∈d.aR,0≤r.reset∧r.reset≤6)(h:xT d f):xT d (Dt d f):=aGV 108 hr h
theorem aHc{s:aC}{x:aS}(hH:s.dJ)(hok:cT s x)(i:Int)(n:Nat):cT s {x with dv:=Gd s x.dv i n}:=Tr hH hok (by simp[Gd]) fun k d p hd hp=>by
 rw[Gd,List.getElem?_mapIdx] at hp;cases hq:x.dv[k]? with
 | none=>rw[hq] at hp;cases hp
 | some q =>
  rw[hq] at hp;obtain⟨h1,h2⟩:=hok.each k d q hd hq;simp only[Option.map_some,Option.some.injEq] at hp;subst hp;split
  ·unfold Iy;rw[hd];dsimp only;split
   ·exact⟨aPR (hH.t.aD k d hd).2.2.2.2.2.2.2.2.2.1 h1,h2⟩
   ·exact⟨h1,h2⟩
  ·exact⟨h1,h2⟩
theorem aQ5{s:aC}{x:aS}(hH:s.dJ)(hok:cT s x)(i:Int):cT s (Ja s x i):=by
 unfold Ja;split
 ·have h:=aHc hH hok i s.aD.length
  exact⟨hok.ck,hok.dm,aHr hH hok.ln i,h.dv,h.each,hok.wt⟩
 ·exact hok
section
variable(L:HL)(s:aC)(x:aS)(w:World)
theorem aN2(hH:s.dJ)(aQ:fZ L s)(hok:cT s x)(i:Int)(F:Nat→Prop)(hp:(dM L s x).sat F w)(hF:∀b,F b→b < w.heap.size):
  Cz 182 #[.pointer (some ⟨L.h,0,none⟩),iv i] w (Wr (iv (rI s x.ln i).1) (dM L s (Ja s x i)) w F):=by
 have rE:=hH.t.nv
 have hls:=aQ.ds
 refine cS func182 ntmps182 hp hF ?_;generalize cN:(⟨w,fun b=>b < w.heap.size∧¬F b⟩:Piece)=R0;refine aA ?_;refine aU (fun w1 t=>Ay L s x w1 (t.mG 0 rfl aQ hok)) ?_;refine aA ?_;refine kd (bH rfl (pJ 0 rfl rfl)) ?_;refine aA ?_;refine aV 0 3 ?_;refine bU 0 (oL L.R s (rI s x.ln i).2) (fun w1 F1 t h1 h2 h3=>aKz L.R s x.ln hok.ln i w1 F1 h1 h2) ?_;refine aJ 0 3 ?_;unfold Ja;cases hin:bZ x.ln.length i
 ·have e:rI s x.ln i=(4,x.ln):=by
   unfold rI;rw[if_pos hin]
  rw[e];refine aA ?_;subst cN;exact bO 0 hF
 ·have e1:(rI s x.ln i).1=0:=by
   unfold rI;rw[if_neg (by simp[hin])]
  rw[e1,if_pos rfl]
  have mR:cT s {x with ln:=(rI s x.ln i).2}:=⟨hok.ck,hok.dm,aHr hH hok.ln i,hok.dv,hok.each,hok.wt⟩
  generalize Dd:(rI s x.ln i).2=ln2 at mR⊢
  change XK _ _ _ _ _ [dM L s {x with ln:=ln2}]
  have lB:=hok.dv
  refine aA ?_;refine kd (bH rfl (pJ 0 rfl rfl)) ?_;refine aA ?_
  have hm0:Gd s x.dv i 0=x.dv:=Og _ _
  refine bL [(25,iv 0),(24,iv s.aD.length),(23,.slice L.A s.aD.length L.c),(1,iv i)] ?_;refine eV (fun m e R H=>∃k:Nat,k≤s.aD.length∧m=s.aD.length - k∧e=[(25,iv k),(24,iv s.aD.length),(23,.slice L.A s.aD.length L.c),(1,iv i)]∧R=[R0]∧H=[dM L s {x with ln:=ln2,dv:=Gd s x.dv i k}]) s.aD.length ⟨0,by omega,rfl,rfl,rfl,by rw[hm0]⟩ fun m e R H hI=>?_;obtain⟨k,hk,rfl,rfl,rfl,rfl⟩:=hI
  have mQ:=aHc hH mR i k
  dsimp only at mQ;refine aA ?_;refine aG rfl (fun hlt=>?_) (fun hge=>?_)
  ·have hlt:k < s.aD.length:=by omega
   obtain⟨d,cY⟩:=get_some hlt;obtain⟨l,iA⟩:=get_some (l:=L.ds) (i:=k) (by omega);obtain⟨p,gE⟩:=get_some (l:=x.dv) (i:=k) (by omega)
   have kQ:(Gd s x.dv i k)[k]? =some p:=Oi gE
   have hstep:(Gd s x.dv i k).set k (Iy s i k p)=Gd s x.dv i (k+1):=Oh (f:=Iy s i) gE
   have hfo:=(mQ.each k d p cY kQ).1
   refine Mj 0 rfl aQ mQ (by omega) fun b off hA=>?_;refine aA ?_;refine kd (dat k (off+k*6) (hx:=by rw[←hA];rfl)) ?_;refine kd (kB rfl (aO.dev 0 rfl aQ mQ hA cY iA rfl)) ?_;refine bX fun g2=>?_;refine aA ?_;refine aG rfl (fun he=>?_) (fun he=>?_)
   ·have nB:Iy s i k p=(Dt d p.1,p.2):=by
     unfold Iy;rw[cY];exact if_pos he
    refine aA ?_;refine Rf 1 k rfl cY iA kQ ?_;dsimp only[List.set];refine aV 0 0 ?_;refine bU 0 (gR l.1 d (Dt d p.1)) (fun w1 F1 t h1 h2 h3=>Yx l.1 d p.1 (by have:=(hH.t.aD k d cY).2.2.2.2.2.2.2.2.1;omega) hfo w1 F1 h1 h2) ?_;refine aJ 0 0 ?_;refine Rm 1 k rfl cY iA kQ (p':=(Dt d p.1,p.2)) ?_;dsimp only[List.set];rw[←nB,hstep];refine aA ?_;refine aT [1] rfl (by decide) (fun _ h=>h) ?_;exact eP (s.aD.length - (k+1)) ⟨k+1,hlt,rfl,rfl,rfl,rfl⟩
   ·have nB:Iy s i k p=p:=by
     unfold Iy;rw[cY];exact if_neg he
    rw[nB,wK kQ] at hstep;rw[hstep];refine aA ?_;refine aT [1] rfl (by decide) (fun _ h=>h) ?_;exact eP (s.aD.length - (k+1)) ⟨k+1,hlt,rfl,rfl,rfl,rfl⟩
  obtain rfl:k=s.aD.length:=by omega
  refine aA ?_;subst cN;exact bO 0 hF
end
theorem aOl(f:Nat)(hL:HL)(s:aC)(z:cI)(x:aS)(w:World)(hH:s.dJ)(aQ:fZ hL s)(hok:cT s x)(c:Int)(F:Nat→Prop)(hp:(gJ f hL s z x).sat F w)(hF:∀b,F b→b < w.heap.size):
  Cz 143 #[pt f,iv c] w (Wr (.bool true) (gJ f hL s z (Ja s x c)) w F):=by
 refine cS func143 ntmps143 hp hF ?_;generalize cN:(⟨w,fun b=>b < w.heap.size∧¬F b⟩:Piece)=R0;refine aV 0 0 ?_;refine iW 0 fun L=>?_;refine aV 1 1 ?_;refine aA ?_;refine kd (bH rfl (Rd.dZ 1 rfl rfl)) ?_;refine aA ?_;refine bU 0 (dM hL s (Ja s x c)) (fun w1 F1 t h1 h2 h3=>aN2 hL s x w1 hH aQ hok c F1 h1 h2) ?_;refine aA ?_;refine aJ 1 1 ?_;refine cR 0 (fun L:gA=>iE f hL.h L s z) L ?_;refine aJ 0 0 ?_;subst cN;exact bO 0 hF
end
section
def Jc(s:aC)(x:aS)(k id:Int):aS×Bool:=if k=117 then Oa s x id else if k=99 then Wm s x id.toNat else if k=114 then Nv x id else if k=100∨k=107 then Kn s x id (decide (k=107)) else if k=111 then({x with ck:=(lR s x.ck id false).2},true) else if k=97 then(Ja s x id,true) else(x,false)
structure My(s:aC)(k id:Int):Prop where
 kd:k=117∨k=99∨k=114∨k=100∨k=107∨k=111∨k=97
 c:k=99→0≤id∧id < (s.aF.length:Int)
theorem aKQ{s:aC}{st:List jY}(h:Ed s st)(i:Int):Ed s (wM st i).2:=by
 unfold wM;split
 ·exact h
 ·split
  ·rename_i x hx
   split
   ·exact h
   ·refine⟨by simp[h.len],fun y hy=>?_⟩;rcases List.mem_or_eq_of_mem_set hy with hy | rfl
    ·exact h.left y hy
    ·exact h.left x (List.mem_of_getElem? hx)
  ·exact h
theorem aOK{s:aC}{st:List fT}(h:tJ s st)(d:Int)(keep:Bool):tJ s (xF s st d keep).2:=by
 unfold xF;split
 ·exact h
 ·split
  ·rename_i c y hc hy
   split
   ·exact h
   ·split
    ·exact h
    ·split
     ·exact h
     ·refine⟨by simp[h.len],fun z hz=>?_,fun z hz=>?_⟩
      ·rcases List.mem_or_eq_of_mem_set hz with hz | rfl
       ·exact h.left z hz
       ·exact h.left y (List.mem_of_getElem? hy)
      ·rcases List.mem_or_eq_of_mem_set hz with hz | rfl
       ·exact h.phase z hz
       ·exact⟨by show(0:Int)≤99;omega,by show(99:Int) < 256;omega⟩
  ·exact h
theorem aLu{s:aC}{x:aS}(hH:s.dJ)(hok:cT s x)(d:Int)(keep:Bool):cT s (Kn s x d keep).1:=by
 have h1:=aCq hH hok d s.aD.length
 unfold Kn;split
 ·dsimp only;split
  ·exact⟨hok.ck,aOK hok.dm _ _,hok.ln,h1.dv,h1.each,hok.wt⟩
  ·exact h1
 ·split
  ·exact hok
  ·exact hok
theorem aDp{s:aC}{x:aS}(hH:s.dJ)(hok:cT s x)(k id:Int):cT s (Jc s x k id).1:=by
 unfold Jc;split
 ·unfold Oa;split
  ·exact⟨hok.ck,aJx hH hok.dm _,hok.ln,hok.dv,hok.each,hok.wt⟩
  ·split
   ·exact aFC hH hok _ _
   ·exact hok
 ·split
  ·exact⟨aBN hH hok.ck _ _,hok.dm,hok.ln,hok.dv,hok.each,hok.wt⟩
  ·split
   ·unfold Nv;split
    ·exact⟨hok.ck,hok.dm,aKQ hok.ln _,hok.dv,hok.each,hok.wt⟩
    ·exact hok
   ·split
    ·exact aLu hH hok _ _
    ·split
     ·exact⟨aBN hH hok.ck _ _,hok.dm,hok.ln,hok.dv,hok.each,hok.wt⟩
     ·split
      ·exact aQ5 hH hok _
      ·exact hok
section
variable(f:Nat)(hL:HL)(s:aC)(z:cI)(x:aS)(w:World)
theorem aH4(hH:s.dJ)(aQ:fZ hL s)(hok:cT s x)(hk:My s z.kind z.id):aDU f hL s z x (Jc s x z.kind z.id):=by
 have mR:=aDp hH hok z.kind z.id
 rcases hk.kd with h | h | h | h | h | h | h
 ·refine⟨_,by rw[h];rfl,(by kernel_rfl),mR,fun w F hp hF dD=>?_⟩;rw[h];exact aOf f hL s z x w hH aQ hok z.id F hp hF dD
 ·refine⟨_,by rw[h];rfl,(by kernel_rfl),mR,fun w F hp hF dD=>?_⟩;obtain⟨h0,h1⟩:=hk.c h;obtain⟨c,hc⟩:∃c:Nat,z.id=c:=⟨z.id.toNat,by omega⟩
  rw[h,hc];exact aOj f hL s z x w hH aQ hok c (by omega) F hp hF
 ·refine⟨_,by rw[h];rfl,(by kernel_rfl),mR,fun w F hp hF dD=>?_⟩;rw[h];exact aOe f hL s z x w hH aQ hok z.id F hp hF
 ·refine⟨_,by rw[h];rfl,(by kernel_rfl),mR,fun w F hp hF dD=>?_⟩
  have:=aGy f hL s z x w hH aQ hok z.id F hp hF dD
  rw[h] at this⊢;exact this
 ·refine⟨_,by rw[h];rfl,(by kernel_rfl),mR,fun w F hp hF dD=>?_⟩
  have:=aGy f hL s z x w hH aQ hok z.id F hp hF dD
  rw[h] at this⊢;exact this
 ·refine⟨_,by rw[h];rfl,(by kernel_rfl),mR,fun w F hp hF dD=>?_⟩;rw[h];exact aOk f hL s z x w hH aQ hok z.id F hp hF
 ·refine⟨_,by rw[h];rfl,(by kernel_rfl),mR,fun w F hp hF dD=>?_⟩;rw[h];exact aOl f hL s z x w hH aQ hok z.id F hp hF
theorem aOa(z0:cI)(hH:s.dJ)(aQ:fZ hL s)(hok:cT s x)(hz:Ee s z0)(dV:z0.at_ < 0)(pS:lN s x z0=(z,true))(hst:∀a,qJ z0=some a→(eT s x z0 a).2.1=0→(eT s x z0 a).1=0→tE (iQ z0 a))(a:Nat)(ha:z.at_=(a:Int))(Bc:a < 2)(r:aS×Bool)(hact:aDU f hL s z x r)(Cv:tE (iQ z a))(F:Nat→Prop)(hp:(gJ f hL s z0 x).sat F w)(hF:∀b,F b→b < w.heap.size)(dD:eS ⟨w,fun b=>b < w.heap.size∧¬F b⟩):
  Cz 36 #[pt f] w (Wr (.tuple #[]) (gJ f hL s (Bj s z r) r.1) w F):=by
 obtain⟨fn,cM,hcb,Ul,yO⟩:=hact;refine aAU (vs:=[pt f]) (p:=gJ f hL s z0 x) func36 rfl ntmps36 (by simp) hp hF ?_;generalize cN:(⟨w,fun b=>b < w.heap.size∧¬F b⟩:Piece)=R0 at dD⊢;refine aA ?_;refine Ye (f:=89) (fi:=[]) (ca:=[]) rfl ?_;refine aA ?_;refine kd (bH rfl (Gs 0 rfl fun _=>rfl)) ?_;refine aA ?_;refine bT (t:=8) rfl (fun _=>?_) (fun h=>absurd dV h);refine aA ?_
 refine bU 0 (gJ f hL s z x) (fun w1 F1 t h1 h2 h3=>by
  have:=aGw f hL s z0 x hH aQ hok hz hst w1 F1 h1 h2
  rw[pS] at this
  exact this) ?_
 refine aA ?_;refine iX [1,2,3,4,8,9,10,11] ?_;refine bJ 0 ?_ (hQ:=fun _ _ _ h=>lQ rfl h);refine bJ 6 ?_ (hQ:=fun _ _ _ h=>lQ rfl h);refine bJ 7 ?_ (hQ:=fun _ _ _ h=>lQ rfl h);refine aK 1 ?_ (hQ:=fun _ _ _ h=>lQ rfl h);refine aK 2 ?_ (hQ:=fun _ _ _ h=>lQ rfl h);refine aK 3 ?_ (hQ:=fun _ _ _ h=>lQ rfl h);refine aK 4 ?_ (hQ:=fun _ _ _ h=>lQ rfl h) (cM:=bH rfl (Gs 0 rfl fun _=>rfl));refine aK 8 ?_ (hQ:=fun _ _ _ h=>lQ rfl h);refine aK 9 ?_ (hQ:=fun _ _ _ h=>lQ rfl h);refine aK 10 ?_ (hQ:=fun _ _ _ h=>lQ rfl h);refine aK 11 ?_ (hQ:=fun _ _ _ h=>lQ rfl h) (cM:=bH rfl (Gs 0 rfl fun _=>rfl));refine aL 5 ?_;refine aU (fun w1 t=>aGJ z.kind w1) ?_;rw[cM];refine aZ ?_;refine aL 12 ?_;refine Zu 0 (fi:=[]) (ca:=[]) (gJ f hL s z r.1) (fun w1 F1 t h1 h2 h3=>by simpa using yO w1 F1 h1 h2 (eS.le dD (h3 _ (by simp)))) ?_ (hf:=hcb);dsimp only[List.set];refine cE ?_;refine dW ?_;refine aA ?_;obtain⟨x',b⟩:=r;dsimp only at Ul⊢;cases b
 ·refine aA ?_;subst cN;exact Bu (.inr rfl) (by kernel_rfl) Vq rfl fun w1 t=>⟨rfl,t.turns hF (by simp) (i:=0) rfl⟩
 ·refine aA ?_;refine kd (bH rfl (Gs 0 rfl fun _=>rfl)) ?_;refine aA ?_;refine aV 0 0 ?_;refine iW 0 fun L=>?_;refine aV 0 0 ?_;refine eN rfl rfl ?_ (hs:=eJ.mk 0 rfl cO.h rfl (by simp[jH]));dsimp only[List.set];rw[show(jH hL.h L s z).set (0+16) (iv (-1))=jH hL.h L s {z with at_:= -1} from rfl];refine aJ 0 0 ?_;refine cR 0 (fun L:gA=>iE f hL.h L s {z with at_:= -1}) L ?_;refine aJ 0 0 ?_;refine aA ?_;rw[ha];refine bU 0 (gJ f hL s (tQ s x' {z with at_:= -1} a 0) x') (fun w1 F1 t h1 h2 h3=>aCM f hL s {z with at_:= -1} x' hH aQ Ul a Bc 0 (fun _=>Cv) w1 F1 h1 h2) ?_;refine aA ?_
  have hend:Bj s z (x',true)=tQ s x' {z with at_:= -1} a 0:=by
   unfold Bj;rw[if_pos rfl,ha];rfl
  rw[hend];subst cN;exact Bu (.inr rfl) (by kernel_rfl) Vq rfl fun w1 t=>⟨rfl,t.turns hF (by simp) (i:=0) rfl⟩
def tN(s:aC)(x:aS)(z:cI):cI×aS:=
 let t:=lN s x z
 let z1:=if z.at_ < 0 then t.1 else z
 if z.at_ < 0∧t.2=false then(t.1,x) else(Bj s z1 (Jc s x z1.kind z1.id),(Jc s x z1.kind z1.id).1)
structure aIa(s:aC)(x:aS)(z:cI):Prop where
 hok:cT s x
 fm:Ee s z
 at_:z.at_ < 0∨(∃a:Nat,z.at_=(a:Int)∧a < 2∧My s z.kind z.id∧tE (iQ z a))
 ask:z.at_ < 0→∀a,qJ z=some a→(eT s x z a).2.1=0→(eT s x z a).1=0→tE (iQ z a)
 new:z.at_ < 0→∀a,qJ z=some a→(eT s x z a).2.1≠0→My s (eT s x z a).2.1 (eT s x z a).2.2∧tE (iQ z a)
theorem aBS{z:cI}{a:Nat}(h:z.last=0∨z.last=1)(hn:qJ z=some a):a < 2:=by
 unfold qJ at hn;split at hn
 ·cases hn;omega
 ·split at hn
  ·cases hn;omega
  ·cases hn
theorem aOb(hH:s.dJ)(aQ:fZ hL s)(h:aIa s x z)(F:Nat→Prop)(hp:(gJ f hL s z x).sat F w)(hF:∀b,F b→b < w.heap.size)(dD:eS ⟨w,fun b=>b < w.heap.size∧¬F b⟩):
  Cz 36 #[pt f] w (Wr (.tuple #[]) (gJ f hL s (tN s x z).1 (tN s x z).2) w F):=by
 unfold tN;dsimp only
 by_cases dV:z.at_ < 0
 ·cases pS:(lN s x z).2
  ·rw[if_pos ⟨dV,rfl⟩];exact aOd f hL s z x hH aQ h.hok h.fm (h.ask dV) dV pS w F hp hF
  ·rw[if_neg (by simp),if_pos dV]
   have mE:lN s x z=((lN s x z).1,true):=Prod.ext rfl pS
   have aNB:∃a,qJ z=some a∧(eT s x z a).2.1≠0∧(lN s x z).1=(qF s x z a).1:=by
    unfold lN at pS⊢;cases hn:qJ z with
    | none=>rw[hn] at pS;cases pS
    | some a=>
     rw[hn] at pS;refine⟨a,rfl,fun h0=>?_,rfl⟩;unfold qF at pS;dsimp only at pS;rw[if_pos h0] at pS;cases pS
   obtain⟨a,hn,hd,he⟩:=aNB
   have ha:=aBS h.fm.la hn
   obtain⟨hk,Cv⟩:=h.new dV a hn hd
   have e:(qF s x z a).1={z with last:=a,x:=lD z.x a (eT s x z a).2.1 (eT s x z a).2.2,y:=lC z.y a (eT s x z a).2.1 (eT s x z a).2.2,at_:=a,kind:=(eT s x z a).2.1,id:=(eT s x z a).2.2}:=by
    unfold qF;dsimp only;rw[if_neg hd]
   rw[e] at he
   have hb:iQ (lN s x z).1 a=iQ z a:=by rw[he];rfl
   have h1:(lN s x z).1.at_=(a:Int):=by rw[he]
   have h2:(lN s x z).1.kind=(eT s x z a).2.1:=by rw[he]
   have h3:(lN s x z).1.id=(eT s x z a).2.2:=by rw[he]
   exact aOa f hL s (lN s x z).1 x w z hH aQ h.hok h.fm dV mE (h.ask dV) a h1 ha _ (aH4 f hL s (lN s x z).1 x hH aQ h.hok (by rw[h2,h3];exact hk)) (by rw[hb];exact Cv) F hp hF dD
 ·rw[if_neg (fun hh=>dV hh.1),if_neg dV];rcases h.at_ with h1 | ⟨a,ha,Bc,hk,Cv⟩
  ·exact absurd h1 dV
  ·exact aOc f hL s z x w hH aQ h.hok h.fm a ha Bc _ (aH4 f hL s z x hH aQ h.hok hk) Cv F hp hF dD
end
end
section
theorem aEz(A:Option Addr)(n c:Nat)(l:List Int)(st:Int)(w:World)(hs:aI (all w) 1 A n (dY l))(hn:n=l.length)(h2:2≤n)(h1:l[1]? =some st):
  Cz 12 #[.slice A n c] w (Rt (.tuple #[.int .i32 (IntKind.i32.wrap st),iv 0]) w):=by
 subst hn;obtain⟨b,off,rfl,hr⟩:=aI.u32 hs (by omega)
 have k1:=hr 1 st h1
 refine aN func12 ntmps12 ?_;refine aA ?_;refine aG rfl (fun h=>absurd h (by omega)) (fun _=>?_);refine aA ?_;refine kd (dat 1 (off+1)) ?_;refine aA ?_;refine kd (Iv (ds:=.int .u32) (kd:=.i32) (c:=IntKind.i32.wrap st) (by kernel_rfl) (by kernel_rfl) rfl rfl) ?_;refine aA ?_;exact fQ rfl rfl rfl fun w1 t=>⟨rfl,t.below (by simp)⟩
end
section
def aDF(g h f:Nat)(s:aC)(z:bM)(y:cI):HP:=HP.many [jJ g h f s z,By f h s y]
def vY(p:fE)(k:Int):List Int:=[(gZ p.msg 0 p.pr k).1,p.id,p.v]
def Hh(a:List Int):Prop:=IntKind.i32.wrap (a.getD 1 0)=0∨IntKind.i32.wrap (a.getD 1 0)= -3
instance(a:List Int):Decidable (Hh a):=by unfold Hh;infer_instance
def rZ(z:bM)(a:List Int):bM:=if Hh a then {z with sent:=false,steps:=z.steps.tail} else {z with sent:=false}
theorem aEx{z:bM}{a:List Int}(h:Hh a):rZ z a={z with sent:=false,steps:=z.steps.tail}:=if_pos h
theorem aJ8{z:bM}{a:List Int}(h:¬Hh a):rZ z a={z with sent:=false}:=if_neg h
def rJ(z:bM)(y:cI)(j:Nat):bM×cI:=
 if z.sent=true then
  match lP y 0 with
  | none=>(z,kM y 0)
  | some a=>(if(rZ z a).steps.length=0 then pX (rZ z a) j 0 0 else rZ z a,kM y 0)
 else
  match z.steps with
  | []=>(z,y)
  | p::_=>if(iG y 0 (vY p z.many)).1=0 then({z with sent:=true,many:=(z.many+1) % 1024},(iG y 0 (vY p z.many)).2) else(z,(iG y 0 (vY p z.many)).2)
theorem aEN{h f:Nat}{L:dK}{s:aC}{z:bM}{p:fE}{tl:List fE}{A:Option Addr}{c:Nat}(hst:z.steps=p::tl):(lO h f L s z).set 50 (.slice A (z.steps.length - 1) c)=lO h f {L with st:=(A,c)} s {z with steps:=z.steps.tail}:=by
 obtain⟨cn,wn,t0,t1,t2,fA,steps,sent,bB,id,many⟩:=z;dsimp only at hst;subst hst;rfl
theorem aI.aOJ{p:Piece}{sz n k:Nat}{A A':Option Addr}{xs:List Value}(h:aI p sz A n xs)(hk:k≤n)(hA:k < n→∀b off,A=some ⟨b,off,none⟩→A'=some ⟨b,off+k*sz,none⟩):aI p sz A' (n - k) (xs.drop (k*sz)):=by
 refine⟨by rw[List.length_drop,h.1,Nat.sub_mul],fun h0=>?_⟩;obtain⟨b,off,Pu,hz,hc⟩:=h.2 (by omega);refine⟨b,off+k*sz,hA (by omega) b off Pu,hz,fun j u hu=>?_⟩;rw[List.getElem?_drop] at hu;rw[Nat.add_assoc];exact hc _ u hu
theorem aHK{N:cF}{w0:World}{e:Env}{R:List Piece}{H:List HP}{K:Act→World→Prop}(i:Nat){b:Nat}{t:TypeId}{cs cs':List Value}(hi:H[i]? =some (HP.aE b t cs))(he:cs=cs')(k:XK N w0 K e R (H.set i (HP.aE b t cs'))):XK N w0 K e R H:=by
 subst he;obtain⟨hlt,hx⟩:=List.getElem?_eq_some_iff.1 hi;rw[←hx,List.set_getElem_self hlt] at k;exact k
def Fw(L:dK):dK:={L with st:=(if L.st.2=1 then L.st.1 else L.st.1.map (·.add (1*4)),L.st.2 - 1)}
theorem nG.tail{L:dK}{p:fE}{l tl:List fE}{q:Piece}(hl:l=p::tl)(h:nG L l q):nG (Fw L) l.tail q:=by
 subst hl;obtain⟨h1,h2⟩:=h;simp only[List.length_cons] at h2;refine⟨h1.aOJ (k:=1) (by simp) fun hlt b off hA=>?_,by simp only[List.tail_cons,Fw];omega⟩;simp only[List.length_cons] at hlt;unfold Fw;dsimp only;rw[if_neg (by omega),hA];rfl
section
variable(g h f:Nat)(s:aC)(z:bM)(y:cI)(w:World)(F:Nat→Prop)
theorem aKG(j:Nat)(hh:z.fA=(j:Int))(hj:T3 j)(hne:z.steps≠[])(hmy:0≤z.many∧z.many < 1024)(hpk:∀p∈z.steps,(gZ p.msg 0 p.pr z.many).2=0)(hra:∀a,lP y 0=some a→2≤a.length)(hp:(aDF g h f s z y).sat F w)(hF:∀b,F b→b < w.heap.size):
  Cz 134 #[pt g] w (fun v w'=>v=.returned (.tuple #[])∧∃F',(aDF g h f s (rJ z y j).1 (rJ z y j).2).sat F' w'∧iC w w' F F'):=by
 obtain⟨p,tl,hst⟩:=List.exists_cons_of_ne_nil hne
 have uC:z.steps.length=tl.length+1:=by rw[hst];rfl
 refine cS func134 ntmps134 hp hF ?_;generalize cN:(⟨w,fun b=>b < w.heap.size∧¬F b⟩:Piece)=R0;refine aV 0 0 ?_;refine iW 0 fun L=>?_;refine aV 0 0 ?_;refine aV 1 5 ?_;refine aV 3 1 ?_;refine aA ?_;cases pT:z.sent
 ·have Vk:rJ z y j=if(iG y 0 (vY p z.many)).1=0 then({z with sent:=true,many:=(z.many+1) % 1024},(iG y 0 (vY p z.many)).2) else(z,(iG y 0 (vY p z.many)).2):=by
   unfold rJ;rw[if_neg (by rw[pT];simp),hst]
  rw[Vk]
  have aNc:=hpk p (by rw[hst];simp)
  have hfm:z.steps.flatMap fE.cells=p.cells++tl.flatMap fE.cells:=by rw[hst];rfl
  refine aA ?_;refine aDt (A:=L.st.1) (sz:=4) (n:=z.steps.length) (xs:=z.steps.flatMap fE.cells) 1 rfl (fun _ h=>h.1) (by omega) fun b off hA=>?_;refine iX [1,2,3,4,5,7,8,9,12,13] ?_;refine bJ 0 ?_;refine aK 1 ?_;refine aK 2 ?_;refine aK 3 ?_;refine aK 4 ?_ (hi:=rfl) (cM:=dat 0 off (hx:=by rw[←hA];rfl) (hj:=rfl));refine aK 5 ?_ (hi:=rfl) (cM:=kB rfl (aO.of (vs:=p.cells) fun i v hv=>Rd.bR 1 rfl (fun _ h=>h.1) hA (by omega) (by rw[hfm,List.getElem?_append_left (List.getElem?_eq_some_iff.1 hv).1];exact hv)));refine bJ 6 ?_;refine aK 7 ?_;refine aK 8 ?_;refine aK 9 ?_;refine aL 10 ?_;refine jN [] (aBg (vY p z.many)) (fun w1 t=>aJa p.pr p.msg p.id p.v z.many w1 aNc) ?_;rintro _ w1 q1 ⟨Am,cm,rfl,yN⟩ hf _ _
  have yN:=yN.le hf
  clear hf;refine aZ ?_;refine aL 11 ?_;refine bE ?_;refine aZ ?_;refine aK 12 ?_;refine aK 13 ?_;refine aL 14 ?_;refine bE ?_;refine aZ ?_;refine aL 15 ?_;refine bE ?_;refine aZ ?_;refine dW ?_;refine aA ?_;refine bU 0 (By f h s (iG y 0 (vY p z.many)).2) (fun w1 F1 t h1 h2 h3=>aGx f h s y 0 Am _ cm (vY p z.many) w1 F1 h1 h2 (yN.le (h3 _ (by simp))) rfl (by simp[vY])) ?_;refine aA ?_;refine aG rfl (fun h0=>?_) (fun h0=>?_)
  ·rw[if_pos h0];refine aA ?_;refine eN rfl rfl ?_ (hs:=eJ.mk 2 rfl cO.h rfl (of_decide_eq_true rfl));dsimp only[List.set];rw[show(lO h f L s z).set (0+51) (.bool true)=lO h f L s {z with sent:=true} from rfl];refine aA ?_;refine kd (Mb (i:=z.many) (j:=1) (c:=z.many+1) rfl rfl (iT (by omega))) ?_;refine kd (aGM (i:=z.many+1) (j:=1024) (c:=(z.many+1) % 1024) rfl rfl (by decide) (rem_in (by omega))) ?_;refine aA ?_;refine eN rfl rfl ?_ (hs:=eJ.mk 2 rfl cO.h rfl (of_decide_eq_true rfl));dsimp only[List.set];rw[show(lO h f L s {z with sent:=true}).set (0+54) (iv ((z.many+1) % 1024))=lO h f L s {z with sent:=true,many:=(z.many+1) % 1024} from rfl];refine aA ?_;refine aJ 3 1 ?_;refine aJ 1 5 ?_;refine aJ 0 0 ?_;refine cR 0 (fun L:dK=>fY g h f L s {z with sent:=true,many:=(z.many+1) % 1024}) L ?_;refine aJ 0 0 ?_;subst cN;exact fC 0 hF
  ·rw[if_neg h0];refine aA ?_;refine aJ 3 1 ?_;refine aJ 1 5 ?_;refine aJ 0 0 ?_;refine cR 0 (fun L:dK=>fY g h f L s z) L ?_;refine aJ 0 0 ?_;subst cN;exact fC 0 hF
 ·cases hr:lP y 0 with
  | none =>
   have Vk:rJ z y j=(z,kM y 0):=by
    unfold rJ;rw[if_pos pT,hr]
   rw[Vk];refine aA ?_
   refine vU (α:=AC) 0 (f:=39) (fi:=[]) (ca:=[]) (fun c=>Nx none c) (fun c=>Et f h s (kM y 0) [] c) (fun _=>True) (by kernel_rfl) rfl rfl rfl (by decide) (fun w1 F1 t h1 h2 h3=>by
    have:=aCN f h s y 0 w1 F1 h1 h2
    rw[hr] at this
    exact this) ?_
   rintro⟨Ar,cr⟩ _;dsimp only[List.set,Nx];refine aV 0 0 ?_;refine aT [0,2,3,4,5] rfl (by decide) (fun _ h=>h) ?_;refine aA ?_;refine aJ 3 1 ?_;refine aJ 1 5 ?_;refine aJ 0 0 ?_;refine cR 0 (fun L:dK=>fY g h f L s z) L ?_;refine aJ 0 0 ?_;subst cN;exact fC 0 hF
  | some a =>
   have Vk:rJ z y j=(if(rZ z a).steps.length=0 then pX (rZ z a) j 0 0 else rZ z a,kM y 0):=by
    unfold rJ;rw[if_pos pT,hr]
   rw[Vk]
   have Bc:=hra a hr
   have ha1:a[1]? =some (a.getD 1 0):=by rw[List.getD_eq_getElem?_getD,List.getElem?_eq_getElem (by omega)];rfl
   refine aA ?_
   refine vU (α:=AC) 0 (f:=39) (fi:=[]) (ca:=[]) (fun c=>Nx (some a) c) (fun c=>Et f h s (kM y 0) a c) (fun _=>True) (by kernel_rfl) rfl rfl rfl (by decide) (fun w1 F1 t h1 h2 h3=>by
    have:=aCN f h s y 0 w1 F1 h1 h2
    rw[hr] at this
    exact this) ?_
   rintro⟨Ar,cr⟩ _;dsimp only[List.set,Nx];refine aV 0 0 ?_;refine aV 1 1 ?_;refine aT [1,3,4,5,6,0] rfl (by decide) (fun _ h=>h) ?_;refine aA ?_;refine eN rfl rfl ?_ (hs:=eJ.mk 2 rfl cO.h rfl (of_decide_eq_true rfl));dsimp only[List.set];refine aA ?_;refine aU (fun w1 t=>aEz Ar _ cr a _ w1 (t.bR 5 rfl) rfl Bc ha1) ?_;generalize tX:IntKind.i32.wrap (a.getD 1 0)=sv;rw[show(lO h f L s z).set (0+51) (.bool false)=lO h f L s {z with sent:=false} from rfl];refine aA ?_;refine bT (t:=73) rfl (fun h0=>?_) (fun h0=>?_)
   ·rw[aEx (show Hh a from .inl (tX.trans h0))];refine aA ?_;refine kd (aGK (n:=z.steps.length) (l:=1) rfl rfl (by omega)) ?_;refine aA ?_;refine eN rfl rfl ?_ (hs:=eJ.mk 2 rfl cO.h rfl (of_decide_eq_true rfl));dsimp only[List.set];refine aHK 2 rfl (aEN (z:={z with sent:=false}) hst) ?_;dsimp only[List.set];refine oZ (q:=HP.bR (nG (Fw L) z.steps.tail) (nG.le (L:=Fw L) (l:=z.steps.tail))) 1 rfl (fun F w hs=>nG.tail hst hs) ?_;dsimp only[List.set];refine aA ?_;refine aJ 3 1 ?_;refine aJ 1 5 ?_;refine aJ 0 0 ?_;refine uK 0 (f:=fun L:dK=>fY g h f L s {z with sent:=false,steps:=z.steps.tail}) (Fw L) rfl ?_;dsimp only[List.set];refine aA ?_;refine aG rfl (fun hn=>?_) (fun hn=>?_)
    ·rw[if_pos (Int.ofNat.inj hn)];refine aA ?_;refine kd (iN rfl) ?_;refine aA ?_;refine bU 0 (jJ g h f s (pX {z with sent:=false,steps:=z.steps.tail} j 0 0)) (fun w1 F1 t h1 h2 h3=>Ki g h f s {z with sent:=false,steps:=z.steps.tail} w1 F1 j hh hj 0 0 h1 h2) ?_;refine aJ 0 0 ?_;subst cN;exact fC 0 hF
    ·rw[if_neg (fun h=>hn (congrArg Int.ofNat h))];refine aA ?_;refine aJ 0 0 ?_;subst cN;exact fC 0 hF
   ·refine aA ?_;refine aG rfl (fun h3=>?_) (fun h3=>?_)
    ·rw[aEx (show Hh a from .inr (tX.trans h3))];refine aA ?_;refine kd (aGK (n:=z.steps.length) (l:=1) rfl rfl (by omega)) ?_;refine aA ?_;refine eN rfl rfl ?_ (hs:=eJ.mk 2 rfl cO.h rfl (of_decide_eq_true rfl));dsimp only[List.set];refine aHK 2 rfl (aEN (z:={z with sent:=false}) hst) ?_;dsimp only[List.set];refine oZ (q:=HP.bR (nG (Fw L) z.steps.tail) (nG.le (L:=Fw L) (l:=z.steps.tail))) 1 rfl (fun F w hs=>nG.tail hst hs) ?_;dsimp only[List.set];refine aA ?_;refine aJ 3 1 ?_;refine aJ 1 5 ?_;refine aJ 0 0 ?_;refine uK 0 (f:=fun L:dK=>fY g h f L s {z with sent:=false,steps:=z.steps.tail}) (Fw L) rfl ?_;dsimp only[List.set];refine aA ?_;refine aG rfl (fun hn=>?_) (fun hn=>?_)
     ·rw[if_pos (Int.ofNat.inj hn)];refine aA ?_;refine kd (iN rfl) ?_;refine aA ?_;refine bU 0 (jJ g h f s (pX {z with sent:=false,steps:=z.steps.tail} j 0 0)) (fun w1 F1 t h1 h2 h3=>Ki g h f s {z with sent:=false,steps:=z.steps.tail} w1 F1 j hh hj 0 0 h1 h2) ?_;refine aJ 0 0 ?_;subst cN;exact fC 0 hF
     ·rw[if_neg (fun h=>hn (congrArg Int.ofNat h))];refine aA ?_;refine aJ 0 0 ?_;subst cN;exact fC 0 hF
    ·rw[aJ8 (show ¬Hh a from fun h=>h.elim (fun h=>h0 (tX▸h)) (fun h=>h3 (tX▸h)))];refine aA ?_;refine aJ 3 1 ?_;refine aJ 1 5 ?_;refine aJ 0 0 ?_;refine cR 0 (fun L:dK=>fY g h f L s {z with sent:=false}) L ?_;refine aA ?_;refine aG rfl (fun hn=>?_) (fun hn=>?_)
     ·rw[if_pos (Int.ofNat.inj hn)];refine aA ?_;refine kd (iN rfl) ?_;refine aA ?_;refine bU 0 (jJ g h f s (pX {z with sent:=false} j 0 0)) (fun w1 F1 t h1 h2 h3=>Ki g h f s {z with sent:=false} w1 F1 j hh hj 0 0 h1 h2) ?_;refine aJ 0 0 ?_;subst cN;exact fC 0 hF
     ·rw[if_neg (fun h=>hn (congrArg Int.ofNat h))];refine aA ?_;refine aJ 0 0 ?_;subst cN;exact fC 0 hF
end
end
section
theorem Nu(w:World):CallsD Tryz.prog 132 #[] .returning w fun e u' w'=>e=.returned (.tuple #[])∧u'=.returning∧w'=w:=by
 refine callsD_of_wpS func132 rfl fun c₀ cs hu=>?_;apply wpS_region;simp[wpOpsS,go_sem,recoverD,hu,ntmps132,Exit.thenS];cases c₀;simp_all [bodyPostS,results,Tryz.results132]
def aBb(g f:Nat)(hL:HL)(s:aC)(z:bM)(y:cI)(x:aS):HP:=HP.many [jJ g hL.h f s z,By f hL.h s y,dM hL s x]
structure aIg(s:aC)(z:bM)(y:cI):Prop where
 ok:Rq s z
 call:∀j,T3 j→(z.tk j).st=1→wQ (z.tk j).kind
 work:∀j:Nat,T3 j→(z.tk j).st=2→z.fA=(j:Int)∧(z.bB=false→z.steps≠[])
 many:0≤z.many∧z.many < 1024
 pack:∀p∈z.steps,(gZ p.msg 0 p.pr z.many).2=0
 ans:∀a,lP y 0=some a→2≤a.length
def Ci(s:aC)(z:bM)(y:cI)(x:aS)(t:Int):bM×cI×aS:=
 if bZ 3 t=false then(z,y,x)
 else if(z.tk t.toNat).st=1 then(if z.fA < 0 then((uJ s x z t.toNat).1,y,(uJ s x z t.toNat).2) else(z,y,x))
 else if(z.tk t.toNat).st=2 then(if z.bB=false then((rJ z y t.toNat).1,(rJ z y t.toNat).2,x) else(z,y,x))
 else(z,y,x)
theorem aK3(g f:Nat)(hL:HL)(s:aC)(z:bM)(y:cI)(x:aS)(w:World)(F:Nat→Prop)(t:Int)(hm:s.made)(aQ:fZ hL s)(hx:z.fA < 0→HwP s x)(hz:aIg s z y)(hp:(aBb g f hL s z y x).sat F w)(hF:∀b,F b→b < w.heap.size)(dD:eS ⟨w,fun b=>b < w.heap.size∧¬F b⟩):
  Cz 87 #[pt g,iv t] w (fun v w'=>v=.returned (.tuple #[])∧∃F',(aBb g f hL s (Ci s z y x t).1 (Ci s z y x t).2.1 (Ci s z y x t).2.2).sat F' w'∧iC w w' F F'):=by
 unfold Ci;refine aAU (vs:=[pt g,iv t]) (p:=aBb g f hL s z y x) func87 rfl ntmps87 (by simp) hp hF ?_;generalize cN:(⟨w,fun b=>b < w.heap.size∧¬F b⟩:Piece)=R0 at dD⊢;refine aA ?_;refine Ye (f:=132) (fi:=[]) (ca:=[]) rfl ?_;refine aA ?_;refine aU (fun w1 _=>aB8 t w1) ?_;cases hin:bZ 3 t
 ·refine aA ?_;subst cN;exact Bu (.inl rfl) (by kernel_rfl) Nu rfl fun w1 t=>⟨rfl,t.turns hF (by simp) (i:=0) rfl⟩
 ·obtain⟨j,rfl,hj⟩:=Hz hin
  have hj2:j≤2:=by rcases hj with rfl | rfl | rfl<;>decide
  rw[if_neg (by simp),Int.toNat_natCast];refine aV 0 0 ?_;refine iW 0 fun L=>?_;refine aA ?_;refine kd (fN j (10+13*j) (ho:=by omega)) ?_;refine aA ?_;refine kd (bH rfl (pI 0 rfl (Es (k:=0) hj rfl))) ?_;refine aA ?_;refine aG rfl (fun h1=>?_) (fun h1=>?_)
  ·rw[if_pos h1];refine aA ?_;refine kd (bH rfl (pI 0 rfl rfl)) ?_;refine aA ?_;refine cR 0 (fun L:dK=>fY g hL.h f L s z) L ?_;refine aJ 0 0 ?_;refine aG rfl (fun h2=>?_) (fun h2=>?_)
   ·rw[if_pos h2];refine aV 0 0 ?_;refine aV 1 2 ?_;refine aT [1,0,2] rfl (by decide) (fun _ h=>h) ?_;refine mU ?_;refine aA ?_;refine bU 0 (Jk g f hL s (uJ s x z j).1 (uJ s x z j).2) (fun w1 F1 t h1a h2a h3=>aKE g f hL s z x w1 F1 j hm aQ (hx h2) hz.ok hj (hz.call j hj h1) h1a h2a (eS.le dD (h3 _ (by simp)))) ?_;refine aV 0 0 ?_;refine aV 1 1 ?_;refine aJ 2 2 ?_;refine aJ 1 0 ?_;refine aA ?_;subst cN;exact Bu (.inr rfl) (by kernel_rfl) Nu rfl fun w1 t=>⟨rfl,t.turns hF (by simp) (i:=1) rfl⟩
   ·rw[if_neg h2];refine aA ?_;subst cN;exact Bu (.inr rfl) (by kernel_rfl) Nu rfl fun w1 t=>⟨rfl,t.turns hF (by simp) (i:=0) rfl⟩
  ·rw[if_neg h1];refine aA ?_;refine aG rfl (fun h2=>?_) (fun h2=>?_)
   ·rw[if_pos h2];obtain⟨hh,hne⟩:=hz.work j hj h2;refine aA ?_;refine kd (bH rfl (pI 0 rfl rfl)) ?_;cases mP:z.bB
    ·refine aA ?_;refine cR 0 (fun L:dK=>fY g hL.h f L s z) L ?_;refine aJ 0 0 ?_;refine aV 0 0 ?_;refine aV 1 1 ?_;refine aT [1,0,2] rfl (by decide) (fun _ h=>h) ?_;refine mU ?_;refine aA ?_;refine bU 0 (aDF g hL.h f s (rJ z y j).1 (rJ z y j).2) (fun w1 F1 t h1a h2a h3=>aKG g hL.h f s z y w1 F1 j hh hj (hne mP) hz.many hz.pack hz.ans h1a h2a) ?_;refine aV 0 0 ?_;refine aV 1 1 ?_;refine aJ 2 1 ?_;refine aJ 1 0 ?_;refine aA ?_;subst cN;exact Bu (.inr rfl) (by kernel_rfl) Nu rfl fun w1 t=>⟨rfl,t.turns hF (by simp) (i:=1) rfl⟩
    ·refine aA ?_;refine cR 0 (fun L:dK=>fY g hL.h f L s z) L ?_;refine aJ 0 0 ?_;subst cN;exact Bu (.inr rfl) (by kernel_rfl) Nu rfl fun w1 t=>⟨rfl,t.turns hF (by simp) (i:=0) rfl⟩
   ·rw[if_neg h2];refine aA ?_;refine cR 0 (fun L:dK=>fY g hL.h f L s z) L ?_;refine aJ 0 0 ?_;subst cN;exact Bu (.inr rfl) (by kernel_rfl) Nu rfl fun w1 t=>⟨rfl,t.turns hF (by simp) (i:=0) rfl⟩
end
section
def Dy(z:bM)(a:gK):bM:=if z.bB=false then z else if a.id≠z.id then z else if a.dead=true then pX z z.fA.toNat 6 0 else pX z z.fA.toNat 0 a.val
def sY(z:bM)(l:List gK):bM:=l.foldl Dy z
def Mt(z:bM):Prop:=z.bB=true→∃j:Nat,z.fA=(j:Int)∧T3 j
theorem aQE{z:bM}{a:gK}(h:Mt z):Mt (Dy z a):=by
 unfold Dy;split
 ·exact h
 split
 ·exact h
 split
 ·intro h1;cases h1
 ·intro h1;cases h1
theorem aQN{l:List gK}:∀{z:bM},Mt z→Mt (sY z l):=by
 induction l with
 | nil=>exact fun h=>h
 | cons a l ih=>exact fun h=>ih (aQE h)
theorem aQM{z:bM}{l:List gK}{i:Nat}{a:gK}(h:l[i]? =some a):sY z (l.take (i+1))=Dy (sY z (l.take i)) a:=by
 obtain⟨hi,rfl⟩:=List.getElem?_eq_some_iff.1 h;unfold sY;rw[List.take_succ_eq_append_getElem hi,List.foldl_append];rfl
theorem aHu{l:List gK}{i k:Nat}{a:gK}{v:Value}(h:l[i]? =some a)(hv:a.cells[k]? =some v):(l.flatMap gK.cells)[i*4+k]? =some v:=by
 induction l generalizing i with
 | nil=>simp at h
 | cons x l ih =>
  cases i with
  | zero=>
   simp at h;subst h;rw[Nat.zero_mul,Nat.zero_add,List.flatMap_cons,List.getElem?_append_left (List.getElem?_eq_some_iff.1 hv).1];exact hv
  | succ i=>
   rw[List.getElem?_cons_succ] at h;rw[List.flatMap_cons,show(i+1)*4+k=x.cells.length+(i*4+k) by simp[gK.cells];omega,List.getElem?_append_right (by omega),Nat.add_sub_cancel_left];exact ih h
theorem aKF(g h f:Nat)(s:aC)(z:bM)(w:World)(F:Nat→Prop)(A:Option Addr)(c:Nat)(l:List gK)(hl:l.length≤1000)(aNa:Mt z)(hp:(jJ g h f s z).sat F w)(hF:∀b,F b→b < w.heap.size)(hs:aI ⟨w,fun b=>b < w.heap.size∧¬F b⟩ 4 A l.length (l.flatMap gK.cells)):
  Cz 95 #[pt g,.slice A l.length c] w (fun v w'=>v=.returned (.tuple #[])∧∃F',(jJ g h f s (sY z l)).sat F' w'∧iC w w' F F'):=by
 refine cS func95 ntmps95 hp hF ?_;generalize cN:(⟨w,fun b=>b < w.heap.size∧¬F b⟩:Piece)=R0 at hs⊢;refine aA ?_;refine bL [(8,iv 0),(7,iv l.length),(6,.slice A l.length c),(0,pt g),(1,.slice A l.length c)] ?_;refine eV (fun m e R H=>∃i:Nat,i≤l.length∧m=l.length - i∧e=[(8,iv i),(7,iv l.length),(6,.slice A l.length c),(0,pt g),(1,.slice A l.length c)]∧R=[R0]∧H=[jJ g h f s (sY z (l.take i))]) l.length ⟨0,by omega,rfl,rfl,rfl,rfl⟩ fun m e R H hI=>?_;obtain⟨i,hi,rfl,rfl,rfl,rfl⟩:=hI;refine aA ?_;refine aG rfl (fun hlt=>?_) (fun hge=>?_)
 ·have hlt:i < l.length:=by omega
  obtain⟨a,ha⟩:=get_some hlt;obtain⟨b,off,rfl,fG,hc⟩:=hs.2 (by omega)
  have dB:=aQM (z:=z) ha
  have aFQ:Mt (sY z (l.take i)):=aQN aNa
  generalize sY z (l.take i)=zi at dB aFQ⊢;obtain⟨Gg,Qz,Dz,Bq⟩:=a;refine aA ?_;refine kd (dat i (off+i*4)) ?_;refine kd (kB rfl (aO.of (vs:=[iv Gg,iv Qz,.bool Dz,.int .u32 Bq]) fun k v hv=>Rd.ro (p:=R0) (by simp) fG (by rw[Nat.add_assoc];exact hc _ _ (aHu ha hv)))) ?_;refine bX fun g1=>?_;refine aA ?_;refine iW 1 fun L=>?_;refine lV ?_;refine jC ?_;refine yX (bH rfl (pI 1 rfl rfl)) ?_;cases mP:zi.bB
  ·have hst:Dy zi ⟨Gg,Qz,Dz,Bq⟩=zi:=if_pos mP
   refine iV ?_;refine cR 1 (fun L:dK=>fY g h f L s zi) L ?_;refine aA ?_;refine aT [1] rfl (by decide) (fun _ h=>h) ?_;refine bL [(8,iv (i+1:Nat)),(7,iv l.length),(6,.slice (some ⟨b,off,none⟩) l.length c),(0,pt g),(1,.slice (some ⟨b,off,none⟩) l.length c)] ?_;exact gQ (l.length - (i+1)) (by omega) ⟨i+1,by omega,rfl,rfl,rfl,by rw[dB,hst];rfl⟩
  ·obtain⟨j,hj,hj3⟩:=aFQ mP
   have Di:0≤zi.fA:=by omega
   have Ky:Dy zi ⟨Gg,Qz,Dz,Bq⟩=if Gg≠zi.id then zi else if Dz=true then pX zi zi.fA.toNat 6 0 else pX zi zi.fA.toNat 0 Bq:=if_neg (by rw[mP];simp)
   refine jC ?_;refine yX (bH rfl (pI 1 rfl rfl)) ?_;refine iV ?_;refine cR 1 (fun L:dK=>fY g h f L s zi) L ?_;refine aA ?_;refine aG rfl (fun hne=>?_) (fun hne=>?_)
   ·rw[if_pos hne] at Ky;refine aA ?_;refine aT [1] rfl (by decide) (fun _ h=>h) ?_;refine bL [(8,iv (i+1:Nat)),(7,iv l.length),(6,.slice (some ⟨b,off,none⟩) l.length c),(0,pt g),(1,.slice (some ⟨b,off,none⟩) l.length c)] ?_;exact gQ (l.length - (i+1)) (by omega) ⟨i+1,by omega,rfl,rfl,rfl,by rw[dB,Ky];rfl⟩
   ·rw[if_neg hne] at Ky;refine aA ?_;cases Dz
    ·refine aB ?_;refine bU 1 (jJ g h f s (pX zi zi.fA.toNat 0 Bq)) (fun w1 F1 t h1 h2 h3=>Ki g h f s zi w1 F1 zi.fA.toNat (by omega) (by rw[hj,Int.toNat_natCast];exact hj3) 0 Bq h1 h2) ?_;refine aA ?_;refine aT [1] rfl (by decide) (fun _ h=>h) ?_;refine bL [(8,iv (i+1:Nat)),(7,iv l.length),(6,.slice (some ⟨b,off,none⟩) l.length c),(0,pt g),(1,.slice (some ⟨b,off,none⟩) l.length c)] ?_;exact gQ (l.length - (i+1)) (by omega) ⟨i+1,by omega,rfl,rfl,rfl,by rw[dB,Ky];rfl⟩
    ·refine aB ?_;refine bU 1 (jJ g h f s (pX zi zi.fA.toNat 6 0)) (fun w1 F1 t h1 h2 h3=>Ki g h f s zi w1 F1 zi.fA.toNat (by omega) (by rw[hj,Int.toNat_natCast];exact hj3) 6 0 h1 h2) ?_;refine aA ?_;refine aT [1] rfl (by decide) (fun _ h=>h) ?_;refine bL [(8,iv (i+1:Nat)),(7,iv l.length),(6,.slice (some ⟨b,off,none⟩) l.length c),(0,pt g),(1,.slice (some ⟨b,off,none⟩) l.length c)] ?_;exact gQ (l.length - (i+1)) (by omega) ⟨i+1,by omega,rfl,rfl,rfl,by rw[dB,Ky];rfl⟩
 obtain rfl:i=l.length:=by omega
 rw[List.take_length];refine aA ?_;subst cN;exact fC 0 hF
end
section
section
variable(s:aC)(A1 A2 A3 A4:Option Addr)(n1 k1 n2 k2 n3 k3 n4 k4:Nat)(w:World)
def aI7(s:aC)(v:Value)(hs:List HP)(_:Piece):Prop:=∃gc gm A k,v=.tuple #[pt gc,iv 0]∧hs=[Jq gc gm A k (dL s) ⟨[],false⟩]
theorem aPB(hm:s.made)(hW:iD w s A1 n1 A2 n2 A3 n3 A4 n4):
  Cz 107 #[.agg #[.slice A1 n1 k1,.slice A2 n2 k2,.slice A3 n3 k3,.slice A4 n4 k4]] w (fun y w'=>(∃v hs q,y=.returned v∧q.w=w'∧aI7 s v hs q∧gI w hs q)∧Below w.heap.size w w'):=by
 obtain rfl:=hW.qZ;obtain rfl:=hW.qY;obtain rfl:=hW.tW;obtain rfl:=hW.sI;refine aN func107 ntmps107 ?_;refine aA ?_;refine bN fun g1=>?_;refine aA ?_;refine aU (fun w1 t=>Qt s A1 A2 A3 A4 _ k1 _ k2 _ k3 _ k4 w1 (hW.le (t.started (by simp))) (Zr hm)) ?_;refine aA ?_;refine jN [] (Gu (dL s)) (fun w1 t=>aFu s A1 A2 A3 A4 _ k1 _ k2 _ k3 _ k4 w1 (hW.le (t.started (by simp)))) ?_;rintro _ w1 q1 ⟨Ag,cg,rfl,pU⟩ hf _ hfr
 have pU:=pU.le hf
 refine Jd (Φ:=Bx Ag (dL s)) (hm:=Bx.le) (hfr (by simp)) (by simp[all]) pU ?_;refine Ya (by decide) fun gm=>?_;refine kd (iN rfl) ?_;refine bN fun g2=>?_;refine aA ?_;refine aT [0,1,2] rfl (by decide) (R':=[all w]) (by simp) ?_;refine mU ?_;refine mU ?_;refine dF [] [] [0] (by simp) rfl (by decide) (by decide) fun q _ _ hfr=>?_;exact fQ rfl rfl rfl fun w1 t=>⟨⟨_,_,⟨w1,q.Z⟩,rfl,rfl,⟨g2,gm,Ag,cg,rfl,rfl⟩,t.newR (by simp) (by simp) (hfr (by simp) (by simp))⟩,t.below (by simp)⟩
def Ta(s:aC):bM:={rp0 s with wn:=gM s []}
def aIe(h f:Nat)(s:aC)(v:Value)(hs:List HP)(_:Piece):Prop:=∃g,v=.tuple #[pt g,iv 0]∧hs=[jJ g h f s (Ta s)]
theorem aK0(h f:Nat)(hm:s.made)(hW:iD w s A1 n1 A2 n2 A3 n3 A4 n4):
  Cz 50 #[pt h,pt f,.agg #[.slice A1 n1 k1,.slice A2 n2 k2,.slice A3 n3 k3,.slice A4 n4 k4]] w (fun y w'=>(∃v hs q,y=.returned v∧q.w=w'∧aIe h f s v hs q∧gI w hs q)∧Below w.heap.size w w'):=by
 obtain rfl:=hW.qZ;obtain rfl:=hW.qY;obtain rfl:=hW.tW;obtain rfl:=hW.sI;refine aN func50 ntmps50 ?_;refine aA ?_;refine bN fun g1=>?_;refine aA ?_;refine eX (aI7 s) (fun w1 t=>aPB s A1 A2 A3 A4 _ k1 _ k2 _ k3 _ k4 w1 hm (hW.le (t.started (by simp)))) ?_;rintro _ _ q0 ⟨gc,gm,Ag,cg,rfl,rfl⟩ _;dsimp only[List.cons_append,List.nil_append];refine aT [0,1] rfl (by decide) (R':=[all w]) (by simp) ?_;refine aA ?_
 refine jN [] (fun v w w'=>aBf s v w w') (fun w1 t=>aDe s A1 A2 A3 A4 _ k1 _ k2 _ k3 _ k4 w1 (hW.le (t.started (by simp))) (fun d hd=>by
  obtain⟨j,hj⟩:=List.getElem?_of_mem hd
  have:=(hm.aD j d hj).2.2.2.2.2.2.2.2.1
  omega)) ?_
 rintro _ w1 q1 ⟨cs,rfl,hcs⟩ Fi _ sO
 have sO:=sO (by simp)
 obtain⟨B1,m1,j1,B2,m2,j2,B3,m3,j3,B4,m4,j4,rfl,hsp⟩:=uN.P hcs
 have hsp:=hsp.le Fi
 obtain⟨rfl,rfl,rfl,rfl⟩:=hsp.len;refine Jd (Φ:=lW ⟨(B1,j1),(B2,j2),(B3,j3),(B4,j4),gc,gm,(Ag,cg),(none,0),(none,0),(none,0),(none,0)⟩ s) (hm:=lW.le) sO (by simp[all]) hsp ?_;refine aA ?_;refine kd (iN rfl) ?_;refine bN fun g=>?_;refine aA ?_;refine kd (kB rfl (xR (vs:=[_,_,_,_]) 0 rfl rfl)) ?_;refine eX (Xj (gM s [])) (fun w1 t=>Yh (all w1) s B1 B2 B3 B4 _ j1 _ j2 _ j3 _ j4 none 0 [] w1 (t.bR 1 rfl) hm (Piece.Le.refl _) (aI.nil _ _)) ?_;rintro _ _ q2 ⟨ga,gb,gd,px,rfl,rfl⟩ _;dsimp only[List.cons_append,List.nil_append];refine aA ?_;refine Cs 2 rfl ?_;dsimp only[List.set];refine aA ?_;obtain⟨L',hL'⟩:∃L':dK,L'=⟨(B1,j1),(B2,j2),(B3,j3),(B4,j4),gc,gm,(Ag,cg),(some ⟨ga,0,none⟩,(gM s []).d.length),(some ⟨gb,0,none⟩,(gM s []).c.length),(some ⟨gd,0,none⟩,(gM s []).l.length),(none,0)⟩:=⟨_,rfl⟩
 refine oZ (q:=HP.bR (tB L' (gM s [])) (tB.le (L:=L') (x:=gM s []))) 0 rfl (fun F w hs=>?_) ?_
 ·obtain⟨G,k1,k2,_⟩:=hs;subst hL';exact⟨qR (c:=0) (k1 0 _ rfl) (fun b hb=>k2 0 b hb) (by simp[bG]),qR (c:=0) (k1 1 _ rfl) (fun b hb=>k2 1 b hb) (by simp[bG]),qR (c:=0) (k1 2 _ rfl) (fun b hb=>k2 2 b hb) (by simp[bG])⟩
 dsimp only[List.set];refine oF (p:=HP.bR (nG L' []) (nG.le (L:=L') (l:=[]))) (fun w=>by subst hL';exact⟨aI.nil _ _,Nat.le_refl _⟩) ?_;refine aV 5 0 ?_;refine aV 6 1 ?_;refine aT [5,6,3,1,0,2] rfl (by decide) (R':=[all w]) (by simp) ?_;refine mU ?_;refine qN ?_;refine qN ?_;refine qN ?_;refine qN ?_;refine uK 0 (f:=fun L:dK=>fY g h f L s (Ta s)) L' (by subst hL';rfl) ?_;dsimp only[List.set];refine dF [] [] [0] (by simp) rfl (by decide) (by decide) fun q _ _ hfr=>?_;exact fQ rfl rfl rfl fun w1 t=>⟨⟨_,_,⟨w1,q.Z⟩,rfl,rfl,⟨g,rfl,rfl⟩,t.newR (by simp) (by simp) (hfr (by simp) (by simp))⟩,t.below (by simp)⟩
end
end
section
theorem aKJ(w0:Int)(A:Option Addr)(n c:Nat)(zs:List Int)(w:World)(hs:aI (all w) 1 A n (dY zs))(hn:n=zs.length)(hn2:n≤1000000):Cz 52 #[.int .u32 w0,.slice A n c] w (fun y w'=>(∃v hs q,y=.returned v∧q.w=w'∧aIh (w0::zs) v hs q∧gI w hs q)∧Below w.heap.size w w'):=by
 refine aN func52 ntmps52 ?_;refine aB ?_;refine aBi 1 4 (el:=37) (c:=n+1) (k0:=1) (oP:=.i64) (by kernel_rfl) (by kernel_rfl) rfl (by rw[Int.natCast_add];rfl) (by omega) (by omega) (by decide) fun g1=>?_;refine aB ?_;refine eK fun g2=>?_;refine iF 1 1 4 1 (n':=1) (el:=37) (by kernel_rfl) (by kernel_rfl) (by decide) rfl rfl rfl (mM 0 rfl rfl) (by simp[Value.oneCell']) rfl (by omega) (by omega) (by decide) fun A1 c1=>?_;dsimp only[List.set];refine aB ?_;refine iF 1 1 4 n (n':=n+1) (el:=37) (by kernel_rfl) (by kernel_rfl) (by decide) rfl rfl rfl (sA (by simp) hs) (Gz _) (by omega) (by omega) (by omega) (by decide) fun A2 c2=>?_;dsimp only[List.set];refine aB ?_;subst hn;refine dF [] [] [1] (by simp) rfl (by decide) (by decide) fun q _ _ hfr=>?_;exact aP (h:=fun w1 st=>⟨_,_,⟨w1,q.Z⟩,rfl,rfl,⟨_,_,rfl,rfl⟩,st.newR (by simp) (by simp) (hfr (by simp) (by simp))⟩)
theorem aGZ(m t p k:Int)(A:Option Addr)(n c:Nat)(zs:List Int)(w:World)(hs:aI (all w) 1 A n (dY zs))(hn:n=zs.length)(hn2:n≤1000000)(hok:(gZ m t p k).2=0):Cz 24 #[.agg #[iv m,iv t,iv p,iv k],.slice A n c] w (fun y w'=>(∃v hs q,y=.returned v∧q.w=w'∧aDQ ((gZ m t p k).1::zs) v hs q∧gI w hs q)∧Below w.heap.size w w'):=by
 refine aN func24 ntmps24 ?_;refine aB ?_;refine bN fun g1=>?_;refine aB ?_;refine cZ (fun w1 st=>aFi m t p k w1) ?_;refine aB ?_;refine aG rfl (fun h=>?_) (fun h=>?_)
 ·
  refine aB ?_;exact absurd hok h
 ·
  refine aB ?_;refine eX (aIh ((gZ m t p k).1::zs)) (fun w1 st=>aKJ (gZ m t p k).1 A n c zs w1 (hs.le (st.le (by simp))) hn hn2) ?_;rintro _ _ q1 ⟨A1,c1,rfl,rfl⟩ _;simp only[List.cons_append,List.nil_append];refine aB ?_;refine dF [] [] [0] (by simp) rfl (by decide) (by decide) fun q _ _ hfr=>?_;refine fQ rfl rfl rfl fun w1 st=>⟨⟨_,_,⟨w1,q.Z⟩,rfl,rfl,⟨_,_,rfl,rfl⟩,st.newR (by simp) (by simp) (hfr (by simp) (by simp))⟩,st.below (by simp)⟩
end
section
theorem aEA(x:dR)(k id:Int):(oN x k id).d.length=x.d.length∧(oN x k id).c.length=x.c.length∧(oN x k id).l.length=x.l.length:=by
 unfold oN;split
 ·exact⟨Nr _ _ _,rfl,rfl⟩
 ·split
  ·exact⟨rfl,Nr _ _ _,rfl⟩
  ·split
   ·exact⟨rfl,rfl,Nr _ _ _⟩
   ·exact⟨rfl,rfl,rfl⟩
theorem aE8{x:dR}(h:x.sm)(k id:Int):(oN x k id).sm:=by
 obtain⟨h1,h2,h3⟩:=aEA x k id;exact⟨by rw[h1];exact h.d,by rw[h2];exact h.c,by rw[h3];exact h.l⟩
theorem aOQ{x:dR}(h:x.sm)(ag:Nat)(k id:Int):(lD x ag k id).sm:=by
 unfold lD;split
 ·exact aE8 h k id
 ·exact h
theorem aOP{x:dR}(h:x.sm)(ag:Nat)(k id:Int):(lC x ag k id).sm:=by
 unfold lC;split
 ·exact h
 ·exact aE8 h k id
end
section
section
variable{s:aC}{x:aS}{z:cI}{b:Nat}{m:List Int}{k id:Int}
theorem aEZ(hu:mW m)(h:(dH s m).1=0):tE m:=by
 cases m with
 | nil=>exact absurd h (by show ¬((-10:Int)=0);decide)
 | cons w r =>
  unfold dH at h;dsimp only at h;split at h
  ·exact absurd h (by decide)
  ·rename_i h1
   split at h
   ·exact absurd h (by decide)
   ·split at h
    ·exact absurd h (by decide)
    ·rename_i h3
     have hz:cK w 28 4=0:=by
      refine Classical.byContradiction fun hc=>h1 (.inl ?_);unfold Cg;rw[if_pos hc];decide
     refine⟨⟨w,r,rfl,hz,fun hh=>?_⟩⟩
     have hp:dX w=cK w 10 8:=by rw[dX,if_neg (by simp[hz])]
     have hmm:eI w=cK w 0 8:=by rw[eI,if_neg (by simp[hz])]
     have hn:(eG (dX w) (eI w)).n=1:=by
      rw[hp,hmm];rcases hh with⟨a,b⟩ | ⟨a,b⟩<;>rw[a,b]<;>rfl
     rw[hn] at h3
     have h4:r.length=1:=by omega
     obtain⟨i,rfl⟩:=List.length_eq_one_iff.1 h4;exact⟨i,rfl,hu i (by simp)⟩
end
end
end Go.Proofs.YtkgekojkboingaaGreatDoor
