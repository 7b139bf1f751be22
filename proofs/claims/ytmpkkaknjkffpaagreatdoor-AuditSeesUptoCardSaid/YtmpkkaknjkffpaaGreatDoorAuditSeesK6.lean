/- package firm: what is done for an act: powerOn, clockOn, release. -/
import Derived.KernelRfl
import Derived.Test.YtmpkkaknjkffpaaGreatDoorProg
import Derived.Test.YtmpkkaknjkffpaaGreatDoorAuditSeesK5
namespace Go.Proofs.YtmpkkaknjkffpaaGreatDoor
set_option linter.all false
set_option maxHeartbeats 4000000
set_option maxRecDepth 20000
open Go.RowKit Go.Proofs.Tryz
variable{N:cQ}{w0 w:World}{e:Env}{R:List Piece}{H:List HP}{Q:Exit->Act->World->Prop}{ops:Array Oper}{rest:List Oper}{K:Act->World->Prop}{ty:TypeId}{pos:String}{aN:Array Edge}{s:aI}{x:aS}{b r:Nat}{p m on off kn kf n:Int}
section
def gJ(p:Piece):Prop:=∀(i:Nat) (v:Int),[(114:Int),97,115,100][i]? =some v->p.Z 0/\p.w.cell? ⟨0,i,none⟩=some (.int .u8 v)
def gJ.at_{p:Piece}{w:World}(h:gJ p)(hl:p.Le (all w)):Xb w:=fun i v f=>by
 obtain⟨c,j⟩:=h i v f;obtain⟨e,d⟩:=hl 0 c;refine⟨e,?_⟩;rw[<-j];exact World.cell?_of_block d
def gJ.le{p q:Piece}(h:gJ p)(hl:p.Le q):gJ q:=fun i v f=>by
 obtain⟨c,j⟩:=h i v f;obtain⟨e,d⟩:=hl 0 c;exact⟨e,(World.cell?_of_block d).trans j⟩
def Ki(s:aI)(d:Int)(k:Nat)(p:dO×eK):dO×eK:=match s.aG[k]? with
 | some dv=>if dv.domain=d then(p.1,(qD p.2).2) else p
 | none=>p
def xC(s:aI)(x:aS)(d:Int)(n:Nat):List (dO×eK):=x.dv.mapIdx fun k p=>if k < n then Ki s d k p else p
def tA(s:aI)(x:aS)(d:Int):aS×Bool:=
 if tY x.dm d=48\/tY x.dm d=116 then({x with dm:=(wM s x.dm d).2},false)
 else if tY x.dm d=49 then({x with dv:=xC s x d s.aG.length},true) else(x,false)
def xH(s:aI)(x:aS)(c:Nat):aS×Bool:=
 ({x with ck:=(lI s x.ck c true).2},sG s (lI s x.ck c true).2 c||(decide ((fV s c).length < 2)|| !sG s (lI s x.ck c true).2 ((fV s c).getD 1 0:Nat)))
def Bk(x:aS)(i:Int):aS×Bool:=if Fo x.ln i then({x with ln:=(yB x.ln i).2},false) else(x,true)
def aIL{x:eK}(h:En x):En (qD x).2:=by
 unfold qD;split
 .exact h
 .exact⟨by show(0:Int)<=0;omega,by show(0:Int)<=3;omega⟩
def aEz{s:aI}{x:aS}(l:s.dM)(f:dF s x)(d:Int)(n:Nat):dF s {x with dv:=xC s x d n}:=Yp l f (by simp[xC]) fun i e p hd c=>by
 rw[xC,wU] at c;cases k:x.dv[i]? with
 | none=>rw[k] at c;cases c
 | some q =>
  rw[k] at c;obtain⟨j,h⟩:=f.each i e q hd k;simp only[lO,tW] at c;subst c;split
  .unfold Ki;rw[hd];dsimp only;split
   .exact⟨j,aIL h⟩
   .exact⟨j,h⟩
  .exact⟨j,h⟩
section
variable{d:Nat}{f h:Nat}{L:iT}{z:bX}
def aG4(n:Nat)(Φ:List Value->Prop){x:Operand}{t:TypeId}{b o:Nat}[hT:nV t n](hx:e.ev x=some (.pointer (some ⟨b,o,none⟩)))(h:∀w,St w0 R H w->∃vs,eL w b o vs/\vs.length=n/\Φ vs)(k:∀vs,Φ vs->XK N w0 (wpList Tryz.prog ops Q rest) ((d,.agg vs.toArray)::e) R H)(hd:d < N.n:=by decide):
  XK N w0 (wpList Tryz.prog ops Q (⟨some d,.load t x,ty,pos,aN,none⟩::rest)) e R H:=vF rfl fun a w c st=>by
 obtain⟨vs,j,i,f⟩:=h w st;exact⟨.agg vs.toArray,w,aFo (N:=N) (w0:=w) (R:=[all w]) (H:=[]) (d:=d) (ty:=ty) (pos:=pos) (aN:=aN) n hT.h hx (aCO aB j) i a w c (St.start w),k vs f _ _ (c.put hd _) st⟩
def aLs(j:Nat)(hj:H[j]? =some (jO f h L s z))(c:0 < s.aG.length)(k:∀b off,L.a4.1=some ⟨b,off,none⟩->XK N w0 K e R H):XK N w0 K e R H:=fun a w d st=>by
 obtain⟨b,off,r,i,_⟩:=kQ.row (st.Ii j hj).so.dev (cX c);exact k b off i a w d st
def aGq(d:bR)(vs:List Value):Prop:=∃A n k c e f,vs=[iv d.clock,iv d.domain,iv d.reset,.int .u32 d.zX,.slice A n k,.slice c e f]
def aJE{i b off:Nat}{d:bR}(kf:Oj w f h L s z)(o:L.a4.1=some ⟨b,off,none⟩)(hd:s.aG[i]? =some d):∃vs,eL w b (off+i*6) vs/\vs.length=6/\aGq d vs:=by
 obtain⟨y,j,r,c,m,⟨A,n,k,l,t,x,p,_⟩,e⟩:=kQ.row kf.so.dev hd;rw[o] at c;cases c;exact⟨r,e,m,A,n,k,l,t,x,p⟩
end
variable(f:Nat)(hL:HL)(s:aI)(z:bX)(x:aS)(w:World)
def aSX(U:s.dM)(B:iS hL s)(y:dF s x)(d:Int)(F:Nat->Prop)(hp:(iW f hL s z x).sat F w)(hF:∀b,F b->b < w.heap.size)(N:gJ ⟨w,fun b=>b < w.heap.size/\¬F b⟩):
  Cz 129 #[pt f,iv d] w (Wr (.bool (tA s x d).2) (iW f hL s z (tA s x d).1) w F):=by
 have Hw:=U.t.nv
 have rR:=y.dv
 refine fS func129 ntmps129 hp hF ?_;generalize I:(⟨w,fun b=>b < w.heap.size/\¬F b⟩:Piece)=R0 at N|-;refine bB 0 0 ?_;refine kF 0 fun L=>?_;refine bB 1 1 ?_;refine aD ?_;refine cG (bT rfl (Rd.dH 1 rfl rfl)) ?_;refine cM (fun D t=>aEH hL s x D y.dm d (t.pN 0 rfl B y)) ?_;unfold tA;generalize hph:tY x.dm d=ph
 by_cases Z:ph=48
 .subst Z;rw[aH (.inl rfl)];refine aD ?_;refine cG (bT rfl (Rd.dH 1 rfl rfl)) ?_;refine gH 0 (eH hL s {x with dm:=(wM s x.dm d).2}) (fun D Y t T O h3=>aJj hL s x D U B y d Y T O) ?_;refine aP 1 1 ?_;refine dN 0 (fun L:iT=>jO f hL.h L s z) L ?_;refine aP 0 0 ?_;subst I;exact cJ 0 hF
 by_cases J:ph=116
 .subst J;rw[aH (.inr rfl)];refine aD ?_;refine cG (bT rfl (Rd.dH 1 rfl rfl)) ?_;refine gH 0 (eH hL s {x with dm:=(wM s x.dm d).2}) (fun D Y t T O h3=>aJj hL s x D U B y d Y T O) ?_;refine aP 1 1 ?_;refine dN 0 (fun L:iT=>jO f hL.h L s z) L ?_;refine aP 0 0 ?_;subst I;exact cJ 0 hF
 rw[aC aA]
 by_cases M:ph=49
 .subst M;rw[aH rfl];refine aD ?_;refine cG (bT rfl (Rd.dH 1 rfl rfl)) ?_
  have hm0:xC s x d 0=x.dv:=Ug _ _
  refine cF [(31,iv (0)),(30,iv s.aG.length),(29,.slice L.a4.1 s.aG.length L.a4.2),(0,pt f),(1,iv d)] ?_;refine gA (fun m e R H=>∃i:Nat,i<=s.aG.length/\m=s.aG.length - i/\e=[(31,iv (i:Int)),(30,iv s.aG.length),(29,.slice L.a4.1 s.aG.length L.a4.2),(0,pt f),(1,iv d)]/\R=[R0]/\H=[eH hL s {x with dv:=xC s x d i},jO f hL.h L s z,HP.many [cS,cS]]) s.aG.length ⟨0,aA,rfl,rfl,rfl,by rw[hm0]⟩ fun m e R H hI=>?_;obtain⟨i,hi,rfl,rfl,rfl,rfl⟩:=hI
  have o:=aEz U y d i
  refine aD ?_;refine bP (fun j=>?_) (fun hge=>?_)
  .have j:i < s.aG.length:=aA
   obtain⟨dv,E⟩:=get_some j;obtain⟨p,X⟩:=get_some (l:=x.dv) (i:=i) aA
   have C:(xC s x d i)[i]? =some p:=Ui X
   have hstep:(xC s x d i).set i (Ki s d i p)=xC s x d (i+1):=Uh (f:=Ki s d) X
   obtain⟨q1,q2⟩:=(o.each i dv p E C).2;refine aLs 1 rfl aA fun b off hA=>?_;refine aD ?_;refine kd (dat i (off+i*6) (hx:=by rw[<-hA];rfl)) ?_;refine aG4 6 (aGq dv) rfl (fun D t=>aJE (t.Ii 1 rfl) hA E) ?_;rintro _ ⟨A,n,k,A',n',k',rfl⟩;refine kK fun g1=>?_;refine bP (fun V=>?_) (fun V=>?_)
   .have G:Ki s d i p=p:=by
     unfold Ki;rw[E];exact aC V
    rw[G,Bi C] at hstep;rw[hstep];refine aD ?_;refine aZ [1,2,3] ?_;exact fX (s.aG.length - (i+1)) ⟨i+1,j,rfl,rfl,rfl,rfl⟩
   .have V:dv.domain=d:=by simpa using V
    have G:Ki s d i p=(p.1,(qD p.2).2):=by
     unfold Ki;rw[E];exact aH V
    have hst:tT {x with dv:=xC s x d i} i=sO p.2.at_:=by
     unfold tT;dsimp only;rw[C];rfl
    refine aD ?_;refine cG (bT rfl (Rd.dH 2 rfl rfl)) ?_;refine cM (fun D t=>aJk hL s _ D B o i j (N.at_ (t.le aB)) (t.pN 1 rfl B o)) ?_;rw[hst]
    by_cases K:p.2.at_=2\/p.2.at_=3
    .have c:sO p.2.at_=115\/sO p.2.at_=100:=by
      rcases K with K | K<;>rw[K]
      .exact .inl rfl
      .exact .inr rfl
     rcases c with c | c<;>rw[c]
     all_goals
      refine aD ?_;refine cG (bT rfl (Rd.dH 2 rfl rfl)) ?_;refine Bb (α:=Int) 1 (f:=184) (fi:=[]) (ca:=[]) (fun r=>iv r) (fun _=>eH hL s (Dp {x with dv:=xC s x d i} i)) (fun _=>True) aJ rfl rfl rfl aE (fun D Y t T O h3=>aEI hL s _ D U B o i j Y T O) ?_;rintro _ _;dsimp only[List.set]
      have hX:Dp {x with dv:=xC s x d i} i={x with dv:=xC s x d (i+1)}:=by
       unfold Dp;dsimp only;rw[C,<-hstep,G]
      rw[hX];refine aD ?_;refine aZ [1,2,3] ?_;exact fX (s.aG.length - (i+1)) ⟨i+1,j,rfl,rfl,rfl,rfl⟩
    .have hq:(qD p.2).2=p.2:=by
      unfold qD;rw[aH aA]
     have c:sO p.2.at_=114\/sO p.2.at_=97:=by
      have:p.2.at_=0\/p.2.at_=1:=by omega
      rcases this with K | K<;>rw[K]
      .exact .inl rfl
      .exact .inr rfl
     rw[G,hq,Bi C] at hstep;rcases c with c | c<;>rw[c,hstep]
     all_goals
      refine aD ?_;refine aZ [1,2,3] ?_;exact fX (s.aG.length - (i+1)) ⟨i+1,j,rfl,rfl,rfl,rfl⟩
  obtain rfl:i=s.aG.length:=by omega
  refine aD ?_;refine aP 1 1 ?_;refine dN 0 (fun L:iT=>jO f hL.h L s z) L ?_;refine aP 0 0 ?_;subst I;exact cJ 0 hF
 .rw[aC M];refine aD ?_;refine bP (fun h=>absurd h Z) (fun _=>?_);refine aD ?_;refine bP (fun h=>absurd h J) (fun _=>?_);refine aD ?_;refine bP (fun h=>absurd h M) (fun _=>?_);refine aD ?_;refine aP 1 1 ?_;refine dN 0 (fun L:iT=>jO f hL.h L s z) L ?_;refine aP 0 0 ?_;subst I;exact cJ 0 hF
def aSW(n:s.dM)(d:iS hL s)(c:dF s x)(i:Int)(F:Nat->Prop)(hp:(iW f hL s z x).sat F w)(hF:∀b,F b->b < w.heap.size):
  Cz 133 #[pt f,iv i] w (Wr (.bool (Bk x i).2) (iW f hL s z (Bk x i).1) w F):=by
 refine fS func133 ntmps133 hp hF ?_;generalize e:(⟨w,fun b=>b < w.heap.size/\¬F b⟩:Piece)=R0;refine bB 0 0 ?_;refine kF 0 fun L=>?_;refine bB 1 1 ?_;refine aD ?_;refine cG (bT rfl (Rd.dH 1 rfl rfl)) ?_;refine cM (fun j t=>aSn hL s x j i (t.pN 0 rfl d c)) ?_;unfold Bk;cases o:Fo x.ln i
 .refine aD ?_;refine aP 1 1 ?_;refine dN 0 (fun L:iT=>jO f hL.h L s z) L ?_;refine aP 0 0 ?_;subst e;exact cJ 0 hF
 .refine aD ?_;refine cG (bT rfl (Rd.dH 1 rfl rfl)) ?_;refine gH 0 (eH hL s {x with ln:=(yB x.ln i).2}) (fun j k t m l p=>aSl hL s x j n d c i k m l) ?_;refine aP 1 1 ?_;refine dN 0 (fun L:iT=>jO f hL.h L s z) L ?_;refine aP 0 0 ?_;subst e;exact cJ 0 hF
def aTb(m:s.dM)(l:iS hL s)(d:dF s x)(c:Nat)(K:c < s.aL.length)(F:Nat->Prop)(hp:(iW f hL s z x).sat F w)(hF:∀b,F b->b < w.heap.size):
  Cz 131 #[pt f,iv (c:Int)] w (Wr (.bool (xH s x c).2) (iW f hL s z (xH s x c).1) w F):=by
 refine fS func131 ntmps131 hp hF ?_;generalize k:(⟨w,fun b=>b < w.heap.size/\¬F b⟩:Piece)=R0;refine bB 0 0 ?_;refine kF 0 fun L=>?_;refine bB 1 1 ?_;refine aD ?_;refine cG (bT rfl (Rd.dH 1 rfl rfl)) ?_;refine gM 0 (eH hL s {x with ck:=(lI s x.ck c true).2}) (fun i G t J E O=>aJo hL s x i m l d c true G J E) ?_
 have e:dF s {x with ck:=(lI s x.ck c true).2}:=⟨Yo m d.ck _ _,d.dm,d.ln,d.dv,d.each,d.wt⟩
 unfold xH;generalize r:({x with ck:=(lI s x.ck c true).2}:aS)=x2 at e|-
 have o:(lI s x.ck c true).2=x2.ck:=by rw[<-r]
 rw[o];refine aD ?_;refine cG (bT rfl (Rd.dH 1 rfl rfl)) ?_;refine cM (fun i t=>aJl hL s x2 i m c (t.pN 0 rfl l e)) ?_;cases M:sG s x2.ck c
 .refine aD ?_;refine cG (nQ rfl (cI.dH 1 rfl (vs:=[.slice L.a1.1 s.aL.length L.a1.2,.slice L.a2.1 s.domains.length L.a2.2,.slice L.a3.1 s.bG.length L.a3.2,.slice L.a4.1 s.aG.length L.a4.2]) rfl)) ?_;refine jL [] (Lv (fV s c)) (fun i t=>aCl (all i) s _ _ _ _ _ L.a1.2 _ L.a2.2 _ L.a3.2 _ L.a4.2 c i (t.Ii 1 rfl).so m.t (Piece.Le.refl _) K) ?_;rintro _ i C ⟨R,N,rfl,j⟩ B _ _
  have j:=j.le B
  clear B;refine aD ?_;rcases Nf:fV s c with _ | ⟨D,_ | ⟨A,cr⟩⟩
  .refine oU ?_;refine kM ?_;refine aD ?_;refine aP 1 1 ?_;refine dN 0 (fun L:iT=>jO f hL.h L s z) L ?_;refine aP 0 0 ?_;subst k;exact cJ 0 hF
  .refine oU ?_;refine kM ?_;refine aD ?_;refine aP 1 1 ?_;refine dN 0 (fun L:iT=>jO f hL.h L s z) L ?_;refine aP 0 0 ?_;subst k;exact cJ 0 hF
  .rw[Nf] at j;obtain⟨b,off,H,I,y⟩:=j.2 aB
   have r1:Rd w [C,R0] [eH hL s x2,jO f hL.h L s z,HP.many [cS,cS]] b (off+1) (iv (A:Int)):=Rd.ro (p:=C) aB I (y 1 _ rfl)
   have n:decide ((D::A::cr).length < 2)=false:=by simp
   rw[n];refine oU ?_;refine kU ?_;refine Rj 27 rfl (fun h=>absurd h (by simp;omega)) (fun _=>?_);refine kU ?_;refine Ed (bT rfl (Rd.dH 1 rfl rfl)) ?_;refine kU ?_;refine Ed (dat 1 (off+1) (hx:=by rw[<-H];rfl) (hlt:=aB)) ?_;refine kU ?_;refine xK (fun i t=>aJl hL s x2 i m A (t.pN 0 rfl l e)) ?_;refine kM ?_;refine aD ?_;refine aP 1 1 ?_;refine dN 0 (fun L:iT=>jO f hL.h L s z) L ?_;refine aP 0 0 ?_;subst k;exact cJ 0 hF
 .refine aD ?_;refine aP 1 1 ?_;refine dN 0 (fun L:iT=>jO f hL.h L s z) L ?_;refine aP 0 0 ?_;subst k;exact cJ 0 hF
end
structure gQ where
 id:Int
 dev:Int
 dead:Bool
 val:Int
def gQ.cells(a:gQ):List Value:=[iv a.id,iv a.dev,.bool a.dead,.int .u32 a.val]
def Gh(s:aI)(x:aS):Prop:=∀(i:Nat) (d:bR) (t:jN),s.aG[i]? =some d->(x.wt[i]?).join=some t->0<=t.bF/\t.bF < d.aX.length/\0<=t.val/\t.val < 4294967296
def Mv(x:aS)(i:Nat)(c:Bool)(bF v:Int):aS:={x with wt:=x.wt.set i (some ⟨x.aV,c,bF,v⟩),aV:=x.aV+1}
def Es(p:dO×eK)(t:jN):dO×eK:=if t.wr then(⟨p.1.now.set t.bF.toNat t.val,p.1.saved,p.1.kept⟩,p.2) else p
def fZ(s:aI)(x:aS)(i:Nat):aS×Option gQ:=match(x.wt[i]?).join,s.aG[i]?,x.dv[i]? with
 | some t,some d,some p=>if uW s x i then({x with wt:=x.wt.set i none,dv:=x.dv.set i (Es p t)},some ⟨t.id,i,false,p.1.now.getD t.bF.toNat 0⟩) else({x with wt:=x.wt.set i none},some ⟨t.id,i,true,d.zX⟩)
 | _,_,_=>(x,none)
def aDf(c:dF s x)(i:Nat)(q:Option jN)(po:Int):dF s {x with wt:=x.wt.set i q,aV:=po}:=⟨c.ck,c.dm,c.ln,c.dv,c.each,by show(x.wt.set i q).length=_;rw[pJ];exact c.wt⟩
def aGD{d:bR}{p:dO×eK}{t:jN}(hp:Co d p.1)(c:0<=t.val/\t.val < 4294967296):Co d (Es p t).1:=by
 unfold Es;split
 .refine⟨by simp[hp.now],hp.saved,fun v h=>?_,hp.u.2⟩;rcases Bq h with h | rfl
  .exact hp.u.1 v h
  .exact c
 .exact hp
def aTK(c:dF s x){i:Nat}{d:bR}{p:dO×eK}(hd:s.aG[i]? =some d)(h:Co d p.1/\En p.2)(wt:List (Option jN))(hw:wt.length=s.aG.length)(po:Int):dF s {x with dv:=x.dv.set i p,wt:=wt,aV:=po}:=
 ⟨c.ck,c.dm,c.ln,by simp[c.dv],fun j n m f e=>by
  by_cases k:i=j
  .subst k
   have l:i < x.dv.length:=by simpa using(cE.1 e).1
   rw[kR l] at e;cases e;cases hd.symm.trans f;exact h
  .rw[pZ k] at e
   exact c.each j n m f e,hw⟩
def aWl(c:dF s x)(e:Gh s x)(i:Nat):dF s (fZ s x i).1:=by
 unfold fZ;split
 .rename_i t d p j hd h
  obtain⟨f,k⟩:=c.each i d p hd h;split
  .exact aTK c hd ⟨aGD f (e i d t hd j).2.2,by unfold Es;split<;>exact k⟩ _ (by simp[c.wt]) _
  .exact aDf c i none _
 .exact c
def aD2{ws:List (Option jN)}{i j:Nat}{t:jN}(h:((ws.set i none)[j]?).join=some t):(ws[j]?).join=some t:=by
 by_cases c:i=j
 .subst c;rw[gX] at h;simp at h;split at h<;>cases h
 .rwa [pZ c] at h
def aWj(c:Gh s x)(i:Nat):Gh s (fZ s x i).1:=by
 unfold fZ;split
 .split
  .exact fun j d t hd e=>c j d t hd (aD2 e)
  .exact fun j d t hd e=>c j d t hd (aD2 e)
 .exact c
section
variable(L:HL)(s:aI)(x:aS)(w:World)
def aJm(T:s.dM)(e:iS L s)(c:dF s x)(i:Nat)(d:bR)(f:s.aG[i]? =some d)(R:(x.wt[i]?).join=none)(I:s.aG.length<=4)(bF:Int)(z:0<=bF/\bF < 4/\bF < d.aX.length)(b:Bool)(v:Int)(G:0<=x.aV/\x.aV<=1000000000)(F:Nat->Prop)(hp:(eH L s x).sat F w)(hF:∀b,F b->b < w.heap.size)(r:gJ ⟨w,fun b=>b < w.heap.size/\¬F b⟩):
  Cz 278 #[.pointer (some ⟨L.h,0,none⟩),.int .u32 (Wh i bF),.bool b,.int .u32 v] w (Wr (if tT x i=114 then .tuple #[iv x.aV,iv 0] else .tuple #[iv 0,iv 6]) (eH L s (if tT x i=114 then Mv x i b bF v else x)) w F):=by
 have J:=e.ds
 have O:=c.dv
 have C:=c.wt
 have M:=(cE.1 f).1
 obtain⟨l,m⟩:=get_some (l:=L.ds) (i:=i) aA;obtain⟨p,n⟩:=get_some (l:=x.dv) (i:=i) aA
 have D:bJ s.aG.length (i:Int)=true:=eM aA
 have o:=aLb (dev:=i) (bF:=bF) ⟨aA,aA⟩ ⟨z.1,z.2.1⟩
 have E:tT x i=sO p.2.at_:=by
  unfold tT;rw[n];rfl
 rw[E];refine fS func278 ntmps278 hp hF ?_;generalize y:(⟨w,fun b=>b < w.heap.size/\¬F b⟩:Piece)=R0 at r|-;refine aD ?_;refine cR (fun k t=>aKK _ i bF o.z0 o.z1 o.z2 o.z3 k) ?_;refine cM (fun k t=>Uz L s x k i (t.pN 0 rfl e c)) ?_;rw[D];refine Rk 0 rfl e c aA fun V off A=>?_;refine aD ?_;refine cH (t:=25) rfl (fun h=>absurd h aA) (fun _=>?_);refine aD ?_;refine cG (bT rfl (tO 0 rfl rfl)) ?_;refine cG (dat i (off+i*6) (hx:=by rw[<-A];rfl)) ?_;refine cG (bT rfl (aCN (vs:=Nn d l) 4 (cI.dev 0 rfl e c A f m rfl) rfl)) ?_;refine cR (fun k t=>Xz l.1 d p.1 k ((t.pN 0 rfl e c).each i d l p f m n).1) ?_;refine dD rfl (fun h=>absurd h aA) (fun _=>?_);refine aD ?_;refine cG (bT rfl (tO 0 rfl rfl)) ?_;refine cG (dat i (off+i*6) (hx:=by rw[<-A];rfl)) ?_;refine cG (bT rfl (aCN (vs:=Nn d l) 5 (cI.dev 0 rfl e c A f m rfl) rfl)) ?_;refine cR (fun k t=>aHU l.2 p.2 (c.each i d p f n).2 k (r.at_ (t.le aB)) ((t.pN 0 rfl e c).each i d l p f m n).2) ?_
 by_cases j:sO p.2.at_=114
 .rw[j,aH rfl,aH rfl];refine aD ?_;refine cG (bT rfl (tO 0 rfl rfl)) ?_;refine bB 0 4 ?_;refine gM 0 (Cr L.B (lR s) (x.wt.set i (some ⟨x.aV,b,bF,v⟩)) (x.aV+1)) (fun k K t N H U=>aVF L.B (lR s) x.wt x.aV i (by rw[Kg];exact M) (by rw[Kg];omega) (by rw[Kg];exact C) R _ bF o.z0 o.z1 o.z2 o.z3 d.aX.length (by simp[lR,f]) ⟨z.1,z.2.2⟩ b v G k K N H) ?_;refine aP 0 4 ?_;refine aD ?_;subst y;exact kN fun k t=>⟨rfl,t.turns hF aB (i:=0) rfl⟩
 .rw[aC j,aC j];refine dD rfl (fun _=>?_) (fun h=>absurd h (by simpa using j));refine aD ?_;subst y;exact kN fun k t=>⟨rfl,t.turns hF aB (i:=0) rfl⟩
def aSr(hH:s.dM)(f:iS L s)(k:dF s x)(N:Gh s x)(i:Nat)(d:bR)(e:s.aG[i]? =some d)(t:jN)(U:(x.wt[i]?).join=some t)(a:gQ)(hx:(fZ s x i).2=some a)(F:Nat->Prop)(hp:(eH L s x).sat F w)(hF:∀b,F b->b < w.heap.size):
  Cz 142 #[.pointer (some ⟨L.h,0,none⟩),iv (i:Int)] w (Wr (.tuple #[.agg a.cells.toArray,.bool true]) (eH L s (fZ s x i).1) w F):=by
 have hls:=f.ds
 have hxl:=k.dv
 have K:=k.wt
 have V:=(cE.1 e).1
 obtain⟨l,m⟩:=get_some (l:=L.ds) (i:=i) aA;obtain⟨p,r⟩:=get_some (l:=x.dv) (i:=i) aA;obtain⟨o,hqo⟩:=k.each i d p e r;obtain⟨r1,r2,r3,Z⟩:=N i d t e U
 have c:dF s {x with wt:=x.wt.set i none}:=aDf k i none _
 have hwr:=aGD (t:=t) o ⟨r3,Z⟩
 obtain⟨A,G⟩:∃n:Nat,t.bF=(n:Int):=⟨t.bF.toNat,aA⟩
 have vT:=o.now
 obtain⟨I,E⟩:=get_some (l:=p.1.now) (i:=A) aA
 have H:uW s {x with wt:=x.wt.set i none} i=uW s x i:=rfl
 have hX:fZ s x i=if uW s x i then({x with wt:=x.wt.set i none,dv:=x.dv.set i (Es p t)},some ⟨t.id,i,false,I⟩) else({x with wt:=x.wt.set i none},some ⟨t.id,i,true,d.zX⟩):=by
  unfold fZ;rw[U,e,r];dsimp only;rw[G,dL,mZ,E];rfl
 rw[hX] at hx|-;refine fS func142 ntmps142 hp hF ?_;generalize C:(⟨w,fun b=>b < w.heap.size/\¬F b⟩:Piece)=R0;refine aD ?_;refine kK fun g1=>?_;refine cG (bT rfl (tO 1 rfl rfl)) ?_;refine bB 1 4 ?_;refine gM 0 (Cr L.B (lR s) (x.wt.set i none) x.aV) (fun j R st M J h3=>aVD L.B (lR s) x.wt x.aV i (by rw[Kg];exact V) (by rw[Kg];exact K) t U j R M J) ?_;refine aP 1 4 ?_
 change XK _ _ _ _ _ [_,eH L s {x with wt:=x.wt.set i none}]
 generalize y:({x with wt:=x.wt.set i none}:aS)=x2 at c H|-
 have z:x2.dv[i]? =some p:=by rw[<-y];exact r
 refine aD ?_;refine eE fun g2=>?_;refine Rk 2 rfl f c aA fun b off X=>?_;refine aD ?_;refine cG (bT rfl (tO 2 rfl rfl)) ?_;refine kd (dat i (off+i*6) (hx:=by rw[<-X];rfl)) ?_;refine kd (nQ rfl (cI.dev 2 rfl f c X e m rfl)) ?_;refine kK fun g3=>?_;refine cM (fun j st=>aJq L s x2 j hH f c i V (st.pN 3 rfl f c)) ?_;rw[H];cases Y:uW s x i
 .rw[Y] at hx;simp at hx;subst hx;refine aD ?_;refine cG (fI rfl) ?_;subst C;exact Ef (vs:=[iv t.id,iv i,.bool true,.int .u32 d.zX]) rfl aJ rfl rfl (cI.whole 2 rfl) rfl fun j st=>⟨rfl,st.turns hF aB (i:=3) rfl⟩
 .rw[Y] at hx;simp at hx;subst hx;refine aD ?_;rw[G];refine cR (fun j st=>aP3 l.1 d p.1 A I o.now E j ((st.pN 3 rfl f c).each i d l p e m z).1) ?_
  have T:t.bF.toNat=A:=by omega
  cases hw:t.wr
  .have D:Es p t=p:=by
    unfold Es;rw[hw];rfl
   have O:({x with wt:=x.wt.set i none,dv:=x.dv.set i p}:aS)=x2:=by
    rw[Bi r];exact y
   rw[D,O];refine aD ?_;refine cG (fI rfl) ?_;subst C;exact Ef (vs:=[iv t.id,iv i,.bool false,.int .u32 I]) rfl aJ rfl rfl (cI.whole 2 rfl) rfl fun j st=>⟨rfl,st.turns hF aB (i:=3) rfl⟩
  .have D:Es p t=(⟨p.1.now.set A t.val,p.1.saved,p.1.kept⟩,p.2):=by
    unfold Es;rw[hw,T];rfl
   rw[D];refine aD ?_;refine Wj 3 i rfl e m z ?_;dsimp only[List.set];refine bB 0 0 ?_;refine gM 0 (jB l.1 d ⟨p.1.now.set A t.val,p.1.saved,p.1.kept⟩) (fun j R st M J h3=>aP0 l.1 d p.1 A t.val o.now aA j R M J) ?_;refine aP 0 0 ?_;refine Wp 3 i rfl e m z (p':=(⟨p.1.now.set A t.val,p.1.saved,p.1.kept⟩,p.2)) ?_;dsimp only[List.set];refine aD ?_;refine cG (fI rfl) ?_;subst C;subst y;exact Ef (vs:=[iv t.id,iv i,.bool false,.int .u32 I]) rfl aJ rfl rfl (cI.whole 2 rfl) rfl fun j st=>⟨rfl,st.turns hF aB (i:=3) rfl⟩
end
structure uG where
 st:Int
 kind:Int
 dev:Int
 bF:Int
 val:Int
 err:Int
 res:Int
 hs:List Int
def Xs:uG:=⟨0,0,0,0,0,0,0,[0,0,0,0,0,0]⟩
def hG(t:uG)(i:Nat):Int:=t.hs.getD i 0
structure bA where
 cn:Cn
 wn:bM
 t0:uG
 t1:uG
 t2:uG
 cP:Int
 steps:List eJ
 sent:Bool
 aV:Bool
 id:Int
 many:Int
def rp0(s:aI):bA:=⟨⟨[],false⟩,dV s,Xs,Xs,Xs,-1,[],false,false,0,0⟩
def bA.tk(z:bA):Nat->uG
 | 0=>z.t0
 | 1=>z.t1
 | _=>z.t2
def bA.iX(z:bA)(j:Nat)(t:uG):bA:={z with t0:=if j=0 then t else z.t0,t1:=if j=1 then t else z.t1,t2:=if j=2 then t else z.t2}
structure eA where
 a1:AC
 a2:AC
 a3:AC
 a4:AC
 gc:Nat
 gm:Nat
 nd:AC
 w1:AC
 w2:AC
 w3:AC
 st:AC
def tkC(t:uG):List Value:=[iv t.st,.int .u8 t.kind,iv t.dev,iv t.bF,.int .u32 t.val,iv t.err,.int .u32 t.res,iv (hG t 0),iv (hG t 1),iv (hG t 2),iv (hG t 3),iv (hG t 4),iv (hG t 5)]
def oK(h f:Nat)(L:eA)(s:aI)(z:bA):List Value:=
  [pt h,pt f,.slice L.a1.1 s.aL.length L.a1.2,.slice L.a2.1 s.domains.length L.a2.2,.slice L.a3.1 s.bG.length L.a3.2,.slice L.a4.1 s.aG.length L.a4.2,.pointer (some ⟨L.gc,0,none⟩),.slice L.w1.1 z.wn.d.length L.w1.2,.slice L.w2.1 z.wn.c.length L.w2.2,.slice L.w3.1 z.wn.l.length L.w3.2,
   iv z.t0.st,.int .u8 z.t0.kind,iv z.t0.dev,iv z.t0.bF,.int .u32 z.t0.val,iv z.t0.err,.int .u32 z.t0.res,iv (hG z.t0 0),iv (hG z.t0 1),iv (hG z.t0 2),iv (hG z.t0 3),iv (hG z.t0 4),iv (hG z.t0 5),
   iv z.t1.st,.int .u8 z.t1.kind,iv z.t1.dev,iv z.t1.bF,.int .u32 z.t1.val,iv z.t1.err,.int .u32 z.t1.res,iv (hG z.t1 0),iv (hG z.t1 1),iv (hG z.t1 2),iv (hG z.t1 3),iv (hG z.t1 4),iv (hG z.t1 5),
   iv z.t2.st,.int .u8 z.t2.kind,iv z.t2.dev,iv z.t2.bF,.int .u32 z.t2.val,iv z.t2.err,.int .u32 z.t2.res,iv (hG z.t2 0),iv (hG z.t2 1),iv (hG z.t2 2),iv (hG z.t2 3),iv (hG z.t2 4),iv (hG z.t2 5),
   iv z.cP,.slice L.st.1 z.steps.length L.st.2,.bool z.sent,.bool z.aV,iv z.id,iv z.many]
def oY(L:eA)(s:aI)(p:Piece):Prop:=vB p s L.a1.1 s.aL.length L.a2.1 s.domains.length L.a3.1 s.bG.length L.a4.1 s.aG.length
def oY.le{L:eA}{s:aI}(p q:Piece)(hl:p.Le q)(h:oY L s p):oY L s q:=vB.le h hl
def xP(L:eA)(x:bM)(p:Piece):Prop:=aO p 1 L.w1.1 x.d.length (bO x.d)/\aO p 1 L.w2.1 x.c.length (bO x.c)/\aO p 1 L.w3.1 x.l.length (bO x.l)
def xP.le{L:eA}{x:bM}(p q:Piece)(hl:p.Le q)(h:xP L x p):xP L x q:=⟨h.1.le hl,h.2.1.le hl,h.2.2.le hl⟩
def Sb(L:eA)(s:aI)(p:Piece):Prop:=qK p L.nd.1 (dS s).length (dS s)
def Sb.le{L:eA}{s:aI}(p q:Piece)(hl:p.Le q)(h:Sb L s p):Sb L s q:=qK.le h hl
def qY(L:eA)(l:List eJ)(p:Piece):Prop:=aO p 4 L.st.1 l.length (l.flatMap eJ.cells)/\l.length<=L.st.2
def qY.le{L:eA}{l:List eJ}(p q:Piece)(hl:p.Le q)(h:qY L l p):qY L l q:=⟨h.1.le hl,h.2⟩
def iR(g h f:Nat)(L:eA)(s:aI)(z:bA):HP:=HP.many [HP.aK g 142 (oK h f L s z),HP.cO (oY L s) (oY.le (L:=L) (s:=s)),HP.cO (xP L z.wn) (xP.le (L:=L) (x:=z.wn)),pR L.gc L.gm (.slice L.nd.1 (dS s).length L.nd.2) z.cn,HP.cO (Sb L s) (Sb.le (L:=L) (s:=s)),HP.cO (qY L z.steps) (qY.le (L:=L) (l:=z.steps))]
def lF(g h f:Nat)(s:aI)(z:bA):HP:=HP.ex fun L:eA=>iR g h f L s z
structure aA6(w:World)(g h f:Nat)(L:eA)(s:aI)(z:bA):Prop where
 r0:eL w g 0 (oK h f L s z)
 so:oY L s (all w)
 wn:xP L z.wn (all w)
 cn:eL w L.gc 0 [.slice L.nd.1 (dS s).length L.nd.2,.map (some L.gm),.bool z.cn.lU]
 nd:Sb L s (all w)
 sp:qY L z.steps (all w)
def aLZ{g h f:Nat}{L:eA}{s:aI}{z:bA}{F:Nat->Prop}{w:World}(k:(iR g h f L s z).sat F w)(hF:∀b,F b->b < w.heap.size):aA6 w g h f L s z:=by
 obtain⟨G,c,l,_⟩:=k
 have d:∀i,(⟨w,G i⟩:Piece).Le (all w):=fun i b j=>⟨hF b (l i b j),rfl⟩
 obtain⟨m,e,_,_⟩:=c 3 _ rfl;exact⟨yR (c 0 _ rfl).2,oY.le _ _ (d 1) (c 1 _ rfl),xP.le _ _ (d 2) (c 2 _ rfl),yR (e 0 _ rfl).2,Sb.le _ _ (d 4) (c 4 _ rfl),qY.le _ _ (d 5) (c 5 _ rfl)⟩
def St.aDC{w0 w:World}{R:List Piece}{H:List HP}{g h f:Nat}{L:eA}{s:aI}{z:bA}(t:St w0 R H w)(i:Nat)(hi:H[i]? =some (iR g h f L s z)):aA6 w g h f L s z:=by
 obtain⟨F,c,d,_⟩:=t.chunk hi;exact aLZ c d
def aDE(t:Int)(w:World):Cz 51 #[iv t] w (Rt (.bool (bJ 3 t)) w):=by
 refine bQ func51 ntmps51 ?_;refine cH (t:=5) rfl (fun h=>?_) (fun h=>?_)
 .refine aD ?_;refine lD aB ?_;unfold bJ
  congr 1
  simp;omega
 .refine aD ?_;refine lD aB ?_
  have:bJ 3 t=false:=gW aA
  rw[this]
def zP{t:Int}(h:bJ 3 t=true):∃j:Nat,t=(j:Int)/\(j=0\/j=1\/j=2):=by
 have:=eV h
 exact⟨t.toNat,aA,aA⟩
section
variable(g h f:Nat)(L:eA)(s:aI)(z:bA)(w:World)
def aPj(d:Int)(c:aA6 w g h f L s z):Cz 275 #[pt g,iv d] w (Rt (.bool (bJ s.aG.length d)) w):=by
 have e:=c.r0.at_ (j:=5) rfl
 refine bQ func275 ntmps275 ?_;refine cH (t:=7) rfl (fun h=>?_) (fun h=>?_)
 .refine aD ?_;refine lD aB ?_;unfold bJ
  congr 1
  simp;omega
 .refine aD ?_;refine lD aB ?_
  have:bJ s.aG.length d=false:=gW aA
  rw[this]
def aPg(c:aA6 w g h f L s z):Cz 74 #[pt g] w (Rt (iv z.cP) w):=by
 have d:=c.r0.at_ (j:=49) rfl
 refine fP func74 ntmps74 ?_;refine aD ?_;exact dP
end
def Hu(i:Nat){x y:Operand}{s t:TypeId}{g o:Nat}{cs vs:List Value}(hi:H[i]? =some (HP.aK g t cs))(k:XK N w0 (wpList Tryz.prog ops Q rest) e R (H.set i (HP.aK g t (jR cs o vs))))(hx:e.ev x=some (.pointer (some ⟨g,o,none⟩)):=by rfl)(hy:e.ev y=some (.agg vs.toArray):=by rfl)(hs:(Tryz.prog.info? s).any (·.size==vs.length)=true:=by kernel_rfl)(c:vs.all Value.oneCell'=true:=by rfl)(hl:decide (o+vs.length<=cs.length)=true:=by rfl):
  XK N w0 (wpList Tryz.prog ops Q (⟨none,.store s x y,ty,pos,aN,none⟩::rest)) e R H:=
 uJ i hi hx hy hs (fun u d=>mJ.1 c u (by simpa[Value.cells] using d)) (by simpa[Value.cells] using eV hl) (by simpa[Value.cells] using k)
section
variable{P:Program}{p:HP}
def St.Fv(st:St w0 R (p::H) w):St w0 R (cS::H) w:=st.yZ (i:=0) (p:=p) rfl (gE _) rfl rfl rfl fun F _ c=>⟨F,trivial,fun b d=>⟨.inl d,c b d⟩,fun _ _ _=>rfl⟩
def Lj(Z:List Nat){id:Nat}{l:List Oper}(h:XB P N w0 l.toArray Q R (cS::H) Z l.length (Array.replicate l.length false) e R (p::H))(hm:P.follows .mixedOrders=true:=by kernel_rfl)(c:Region.noSelect l.toArray=true:=by kernel_rfl):XK N w0 ((Code.region id l.toArray true).wp P Q) e R (p::H):=fun a w d st=>by
 have:=h ⟨Down.start _ _,c⟩ a w.drew d st.drew
 refine wp_region_any hm (aDi (S:=St w0 R (cS::H)) (Z:=Z) _ _ _ _ ?_)
 simpa using this
end
def Vo(k:Int):Value:=if k=103 then .iface 274 (.agg #[]) else if k=112 then .iface 275 (.agg #[]) else if k=114 then .iface 277 (.agg #[.bool false]) else if k=119 then .iface 277 (.agg #[.bool true]) else if k=115 then .iface 278 (.agg #[]) else if k=109 then .iface 279 (.agg #[]) else .nilIface
def uC(k:Int):Prop:=k=103\/k=112\/k=114\/k=119\/k=115\/k=109
instance(k:Int):Decidable (uC k):=by unfold uC;infer_instance
def aDF(k:Int)(w:World):Cz 121 #[.int .u8 k] w (Rt (Vo k) w):=by
 unfold Vo;refine bQ func121 ntmps121 ?_;refine bP (fun e=>?_) (fun e=>?_)
 .rw[aH e];refine aF ?_;refine cG (Vs rfl) ?_;exact dP
 rw[aC e];refine aD ?_;refine bP (fun c=>?_) (fun c=>?_)
 .rw[aH c];refine aF ?_;refine cG (Vs rfl) ?_;exact dP
 rw[aC c];refine aD ?_;refine bP (fun i=>?_) (fun i=>?_)
 .rw[aH i];refine aF ?_;refine cG (Vs rfl) ?_;exact dP
 rw[aC i];refine aD ?_;refine bP (fun d=>?_) (fun d=>?_)
 .rw[aH d];refine aF ?_;refine cG (Vs rfl) ?_;exact dP
 rw[aC d];refine aD ?_;refine bP (fun h=>?_) (fun h=>?_)
 .rw[aH h];refine aF ?_;refine cG (Vs rfl) ?_;exact dP
 rw[aC h];refine aD ?_;refine bP (fun f=>?_) (fun f=>?_)
 .rw[aH f];refine aF ?_;refine cG (Vs rfl) ?_;exact dP
 rw[aC f];refine aD ?_;exact dP
def aT6{k:Int}(h:¬uC k):Vo k=.nilIface:=by
 unfold uC at h;unfold Vo;rw[aC aA,aC aA,aC aA,aC aA,aC aA,aC aA]
def aT4{k:Int}(h:uC k):∃u y,Vo k=.iface u y:=by
 rcases h with rfl | rfl | rfl | rfl | rfl | rfl<;>exact⟨_,_,rfl⟩
def lY(z:bA)(t kind dev bF val:Int):Int×bA:=if bJ 3 t=false then(4,z) else if(z.tk t.toNat).st≠0 then(7,z) else if ¬uC kind then(1,z) else(0,z.iX t.toNat {z.tk t.toNat with st:=1,kind:=kind,dev:=dev,bF:=bF,val:=val})
section
variable(g h f:Nat)(s:aI)(z:bA)(w:World)(F:Nat->Prop)
def aPc(t kind dev bF val:Int)(hp:(lF g h f s z).sat F w)(hF:∀b,F b->b < w.heap.size):
  Cz 73 #[pt g,iv t,.agg #[.int .u8 kind,iv dev,iv bF,.int .u32 val]] w (Wr (iv (lY z t kind dev bF val).1) (lF g h f s (lY z t kind dev bF val).2) w F):=by
 unfold lY;refine fS func73 ntmps73 hp hF ?_;refine aD ?_;refine eI fun p=>?_;refine aD ?_;refine cM (fun d _=>aDE t d) ?_;cases l:bJ 3 t
 .refine aD ?_;exact cJ 1 hF
 .rw [aC aB];obtain⟨j,rfl,m⟩:=zP l;rw[dL];refine kF 1 fun L=>?_;refine bB 1 0 ?_
  by_cases c:(z.tk j).st=0
  .rw[aC (by simpa using c)]
   by_cases i:uC kind
   .rw[aC (by simpa using i)];obtain⟨u,y,o⟩:=aT4 i;obtain⟨k,n⟩:∃k,k=z.iX j {z.tk j with st:=1,kind:=kind,dev:=dev,bF:=bF,val:=val}:=⟨_,rfl⟩
    rw[<-n];rcases m with rfl | rfl | rfl
    all_goals
     refine aD ?_;refine kd (iA _ _ (ho:=rfl)) ?_;refine aD ?_;refine bP (fun e=>absurd c e) (fun _=>?_);refine aD ?_;refine cM (fun d _=>aDF kind d) ?_;rw[o];refine aD ?_;refine kd (aKg rfl (.inr ⟨⟨_,_,rfl⟩,rfl⟩)) ?_;refine aD ?_;refine kd (iA _ _ (ho:=rfl)) ?_;refine aD ?_;refine Lj [2] ?_;refine bU 0 ?_;refine bU 1 ?_;refine aQ 2 ?_;refine aR 3 ?_;refine bN ?_;refine bH ?_;refine aR 4 ?_;refine bN ?_;refine bH ?_;refine aR 5 ?_;refine jD rfl rfl ?_ (hs:=dR.mk 0 rfl dK.h rfl (eV rfl));dsimp only[List.set];refine bH ?_;refine aR 6 ?_;refine bN ?_;refine bH ?_;refine aR 7 ?_;refine bN ?_;refine bH ?_;refine aR 8 ?_;refine Hu 0 rfl ?_;dsimp only[List.set];refine bH ?_;refine lW ?_;refine aD ?_;refine aP 1 0 ?_;refine wB 1 (f:=fun L:eA=>iR g h f L s k) L (by subst n;rfl) ?_;dsimp only[List.set];exact cJ 1 hF
   .rw[aH (by simpa using i)];rcases m with rfl | rfl | rfl
    all_goals
     refine aD ?_;refine kd (iA _ _ (ho:=rfl)) ?_;refine aD ?_;refine bP (fun e=>absurd c e) (fun _=>?_);refine aD ?_;refine cM (fun d _=>aDF kind d) ?_;rw[aT6 i];refine aD ?_;refine kd (aKg rfl (.inl ⟨rfl,rfl⟩)) ?_;refine aD ?_;refine aP 1 0 ?_;refine dN 1 (fun L:eA=>iR g h f L s z) L ?_;exact cJ 1 hF
  .rw[aH c];rcases m with rfl | rfl | rfl
   all_goals
    refine aD ?_;refine kd (iA _ _ (ho:=rfl)) ?_;refine aD ?_;refine bP (fun _=>?_) (fun e=>absurd (Tp.1 e) c);refine aD ?_;refine aP 1 0 ?_;refine dN 1 (fun L:eA=>iR g h f L s z) L ?_;exact cJ 1 hF
end
def Cl(i:Nat){b o:Nat}{t:TypeId}{cs vs:List Value}(hi:H[i]? =some (HP.aK b t cs))(d:(cs.drop o).take vs.length=vs):cI w0 R H b o vs:=cI.aK i hi fun j v c=>by
 rw[<-d,Ka] at c;split at c
 .rw[Bp] at c;exact c
 .cases c
def aWF(j i:Nat){ps:List HP}{p q:HP}(hj:H[j]? =some (HP.many ps))(hi:ps[i]? =some p)(f:∀F w,p.sat F w->q.sat F w)(k:XK N w0 K e R (H.set j (HP.many (ps.set i q)))):XK N w0 K e R H:=by
 have d:=(cE.1 hj).1
 have c:=(cE.1 hi).1
 refine uX j i hj hi ?_;refine tH 0 rfl f ?_;refine uZ j i (by rw[kR d]) (by rw[kR c]) ?_;rw[sX,sX];exact k
def qE(z:bA)(j:Nat)(d c:Int):bA:={z.iX j {z.tk j with st:=3,err:=d,res:=c} with cP:= -1,steps:=[],sent:=false,aV:=false}
def fG(z:bA)(t:Int):(Int×Int×Bool)×bA:=if bJ 3 t=false then((0,0,false),z) else if(z.tk t.toNat).st≠3 then((0,0,false),z) else(((z.tk t.toNat).err,(z.tk t.toNat).res,true),z.iX t.toNat {z.tk t.toNat with st:=0,kind:=0,dev:=0,bF:=0,val:=0,err:=0,res:=0})
section
variable(g h f:Nat)(s:aI)(z:bA)(w:World)(F:Nat->Prop)
def Pd(j:Nat)(cP:z.cP=(j:Int))(hj:j=0\/j=1\/j=2)(d c:Int)(hp:(lF g h f s z).sat F w)(hF:∀b,F b->b < w.heap.size):
  Cz 149 #[pt g,.agg #[iv d,.int .u32 c]] w (Wr (.tuple #[]) (lF g h f s (qE z j d c)) w F):=by
 refine fS func149 ntmps149 hp hF ?_;obtain⟨e,i⟩:∃e,e=qE z j d c:=⟨_,rfl⟩
 rw[<-i];refine kF 0 fun L=>?_;refine bB 0 0 ?_;rcases hj with rfl | rfl | rfl
 all_goals
  refine aD ?_;refine eI fun k=>?_;refine aZ [1,0,2] ?_;refine aD ?_;refine oU ?_;refine kU ?_;refine Ed (iA _ _ (hj:=cP) (ho:=rfl)) ?_;refine kM ?_;refine aD ?_;refine Lj [2] ?_;refine bU 0 ?_;refine bU 1 ?_;refine aQ 2 ?_;refine aR 3 ?_;refine bN ?_;refine bH ?_;refine aR 4 ?_;refine bN ?_;refine bH ?_;refine aR 5 ?_;refine jD rfl rfl ?_ (hs:=dR.mk 0 rfl dK.h rfl (eV rfl));dsimp only[List.set];refine bH ?_;refine aR 6 ?_;refine bN ?_;refine bH ?_;refine aR 7 ?_;refine bN ?_;refine bH ?_;refine aR 8 ?_;refine Hu 0 rfl ?_;dsimp only[List.set];refine bH ?_;refine kA ?_;refine jD rfl rfl ?_ (hs:=dR.mk 0 rfl dK.h rfl (eV rfl));dsimp only[List.set];refine aD ?_;refine jD rfl rfl ?_ (hs:=dR.mk 0 rfl dK.h rfl (eV rfl));dsimp only[List.set];refine aD ?_;refine jD rfl rfl ?_ (hs:=dR.mk 0 rfl dK.h rfl (eV rfl));dsimp only[List.set];refine aD ?_;refine jD rfl rfl ?_ (hs:=dR.mk 0 rfl dK.h rfl (eV rfl));dsimp only[List.set];refine aD ?_;refine aP 1 0 ?_;refine aWF (q:=HP.cO (qY {L with st:=(none,0)} []) (qY.le (L:={L with st:=(none,0)}) (l:=[]))) 1 5 rfl rfl (fun F w _=>⟨aO.nil _ _,gE _⟩) ?_;dsimp only[List.set];refine wB 1 (f:=fun L:eA=>iR g h f L s e) {L with st:=(none,0)} (by subst i;rfl) ?_;dsimp only[List.set];exact gF 1 hF
def aPi(t:Int)(hp:(lF g h f s z).sat F w)(hF:∀b,F b->b < w.heap.size):
  Cz 125 #[pt g,iv t] w (Wr (.tuple #[.agg #[iv (fG z t).1.1,.int .u32 (fG z t).1.2.1],.bool (fG z t).1.2.2]) (lF g h f s (fG z t).2) w F):=by
 unfold fG;refine fS func125 ntmps125 hp hF ?_;refine aD ?_;refine eE fun p=>?_;refine aD ?_;refine cM (fun d _=>aDE t d) ?_;cases k:bJ 3 t
 .refine aD ?_;refine kd (fI rfl) ?_;refine aD ?_;exact Ef (vs:=[iv 0,.int .u32 0]) rfl aJ rfl rfl (cI.whole 0 rfl) rfl fun d t=>⟨rfl,t.turns hF aB (i:=1) rfl⟩
 .rw[aC aB];obtain⟨j,rfl,m⟩:=zP k;rw[dL];refine kF 1 fun L=>?_;refine bB 1 0 ?_
  by_cases c:(z.tk j).st=3
  .rw[aC (by simpa using c)];obtain⟨e,n⟩:∃e,e=z.iX j {z.tk j with st:=0,kind:=0,dev:=0,bF:=0,val:=0,err:=0,res:=0}:=⟨_,rfl⟩
   rw[<-n];rcases m with rfl | rfl | rfl
   all_goals
    refine aD ?_;refine kd (iA _ _ (ho:=rfl)) ?_;refine aD ?_;refine bP (fun l=>absurd c l) (fun _=>?_);refine aD ?_;refine kd (iA _ _ (ho:=rfl)) ?_;refine aD ?_;refine kd (nQ rfl (Cl (vs:=[_,_]) 0 rfl rfl)) ?_;refine eE fun o=>?_;refine aD ?_;refine kd (fI rfl) ?_;refine kd (fI rfl) ?_;refine aD ?_;refine jD rfl rfl ?_ (hs:=dR.mk 1 rfl dK.h rfl (eV rfl));dsimp only[List.set];refine aD ?_;refine Hu 1 rfl ?_;dsimp only[List.set];refine aD ?_;refine Hu 1 rfl ?_;dsimp only[List.set];refine aD ?_;refine aZ [1,0,2,3] ?_;refine aP 2 0 ?_;refine wB 2 (f:=fun L:eA=>iR g h f L s e) L (by subst n;rfl) ?_;dsimp only[List.set];exact Ef (vs:=[_,_]) rfl aJ rfl rfl (cI.whole 1 rfl) rfl fun d t=>⟨rfl,t.turns hF aB (i:=2) rfl⟩
  .rw[aH c];rcases m with rfl | rfl | rfl
   all_goals
    refine aD ?_;refine kd (iA _ _ (ho:=rfl)) ?_;refine aD ?_;refine bP (fun _=>?_) (fun l=>absurd (Tp.1 l) c);refine aD ?_;refine kd (fI rfl) ?_;refine aD ?_;refine aP 1 0 ?_;refine dN 1 (fun L:eA=>iR g h f L s z) L ?_;exact Ef (vs:=[iv 0,.int .u32 0]) rfl aJ rfl rfl (cI.whole 0 rfl) rfl fun d t=>⟨rfl,t.turns hF aB (i:=1) rfl⟩
end
def Nw(c:List Int)(v:Int):List Int:=if c.contains v then c else c++[v]
def Ox(g:List (List Int))(c:List Int)(i:Nat):List Int:=if c.contains (i:Int) then(g.getD i []).foldl Nw c else c
def Qc(g:List (List Int))(v:Int)(n:Nat):Nat->List Int
 | 0=>[v]
 | k+1=>Ox g (Qc g v n k) (n - 1 - k)
def wW(c:List Int)(v:Int)(n:Nat):List Nat:=(List.range n).filter fun u:Nat=>decide (¬(u:Int)=v)&&c.contains (u:Int)
def Ec(g:List (List Int))(v:Int)(n:Nat):List Nat:=wW (Qc g v n n) v n
def aIl(c:List Int)(v:Int)(n:Nat):(wW c v n).length<=n:=oL (Pj _ _) aB
def aQk(c:List Int)(v:Int)(n:Nat):wW c v (n+1)=if(decide (¬(n:Int)=v)&&c.contains (n:Int))=true then wW c v n++[n] else wW c v n:=by
 unfold wW;rw[zH,Pr];simp only[To,List.filter_nil];split<;>simp
def aQm(A:Option Addr)(n c:Nat)(g:List (List Int))(v:Int)(w:World)(hg:qK (all w) A n g)(r:n=g.length)(z:n<=100)(e:∀l∈g,(l.length:Int)<=9223372036854775806)(B:0<=v/\v < n)(ho:gY g=(0,List.range n)):
  Cz 262 #[.slice A n c,iv v] w (fun y w'=>(∃x,y=.returned x/\Wy g x w w')/\Below w.heap.size w w'):=by
 refine fP func262 ntmps262 ?_;refine aD ?_;refine jL [] (Wy g) (fun j st=>(aBt A n c g j (hg.le (st.le aB)) r aA e).mono fun y w' h=>h.aDV) ?_;rintro _ j q ⟨k,m,o,rfl,f,d⟩ p _ i
 have d:=d.le p
 rw[ho] at d f;rw[ho];dsimp only at d f|-;refine aD ?_;refine cH (t:=18) rfl (fun h=>absurd h aA) (fun _=>?_);refine aD ?_;refine dD rfl (fun h=>absurd h aA) (fun _=>?_);refine aD ?_;exact Gc rfl rfl rfl fun j t=>⟨⟨_,rfl,k,m,o,by rw[ho];rfl,by rw[ho];exact f,by rw[ho];exact d.le (t.oA aB (i aB))⟩,t.below aB⟩
def aQj(q:Piece)(r:Nat)(f:List Int)(A:Option Addr)(n c:Nat)(v:Int)(w:World)(V:n<=100)(hm:Az w r (nM f))(I:q.Le (all w))(hs:aO q 1 A n (aU (eD (List.range n)))):
  Cz 263 #[.slice A n c,.map (some r),iv v] w (Wv (Lv (wW f v n)) w):=by
 refine fP func263 ntmps263 ?_;refine Eg q aB I ?_;refine aD ?_;refine oF 3 1 ?_;refine cF [(12,iv 0),(11,iv n),(10,.slice A n c),(7,sn),(1,.map (some r)),(2,iv v)] ?_;refine gA (fun m e R H=>∃(i:Nat) (B:Option Addr) (k:Nat),i<=n/\m=n - i/\e=[(12,iv i),(11,iv n),(10,.slice A n c),(7,.slice B (wW f v i).length k),(1,.map (some r)),(2,iv v)]/\R=[q,all w]/\H=[HP.own 3 1 (.slice B (wW f v i).length k) (wW f v i).length (aU (eD (wW f v i)))]) n ⟨0,none,0,aA,rfl,rfl,rfl,rfl⟩ fun m e R H O=>?_;obtain⟨i,B,k,Y,rfl,rfl,rfl,rfl⟩:=O
 have C:=aIl f v i
 have d:=aQk f v i
 generalize M:wW f v i=l at C d|-;refine aD ?_;refine bP (fun j=>?_) (fun K=>?_)
 .have j:i < n:=aA
  obtain⟨b,off,T,L,N⟩:=hs.2 aA
  have z:=N i (iv (i:Int)) (by simp[aU,eD,j])
  refine aD ?_;refine cG (dat i (off+i) (hx:=by rw[<-T];rfl)) ?_;refine cG (bT rfl (Rd.ro (p:=q) aB L z)) ?_;refine cH (t:=19) rfl (fun x=>?_) (fun x=>?_)
  .refine aD ?_;refine cM (fun E t=>aB5 r i f E (hm.below (t.below aB))) ?_;rw[eM x,Bool.true_and] at d;cases D:f.contains (i:Int)
   .rw[D,aC aB] at d;refine aD ?_;refine cF [(12,iv (i+1:Nat)),(11,iv n),(10,.slice A n c),(7,.slice B l.length k),(1,.map (some r)),(2,iv v)] ?_;exact iZ (n - (i+1)) aA ⟨i+1,B,k,j,rfl,by rw[d],rfl,by rw[d]⟩
   .rw[D,aH rfl] at d;refine aD ?_;refine eX fun X=>?_;refine Qh 1 fun G F=>?_;refine aD ?_;refine aZ [1] ?_;refine cF [(12,iv (i+1:Nat)),(11,iv n),(10,.slice A n c),(7,.slice G (l.length+1) F),(1,.map (some r)),(2,iv v)] ?_;exact iZ (n - (i+1)) aA ⟨i+1,G,F,j,rfl,by rw[d];simp,rfl,by rw[d];simp[aU,eD]⟩
  .rw[gW x,Bool.false_and,aC aB] at d;refine aD ?_;refine cF [(12,iv (i+1:Nat)),(11,iv n),(10,.slice A n c),(7,.slice B l.length k),(1,.map (some r)),(2,iv v)] ?_;exact iZ (n - (i+1)) aA ⟨i+1,B,k,j,rfl,by rw[d],rfl,by rw[d]⟩
 .obtain rfl:i=n:=by omega
  subst M;refine aD ?_;refine dX [] [0] [] fun U y _ o=>?_
  have J:aO U 1 B (wW f v i).length (aU (eD (wW f v i))):=aO.own (y 0 _ aB rfl)
  exact bK (h:=fun E t=>⟨_,rfl,B,k,rfl,J.le (t.oA aB (o aB aB))⟩)
def aSI(z:Piece)(A:Option Addr)(n c:Nat)(g:List (List Int))(v:Nat)(w:World)(Z:z.Le (all w))(hg:qK z A n g)(hn:n=g.length)(M:n<=100)(C:∀l∈g,(l.length:Int)<=1000)(hv:v < n)(ho:gY g=(0,List.range n)):
  Cz 260 #[.slice A n c,iv (v:Int)] w (Wv (fun x w w'=>∃A' o,x=.tuple #[.slice A' (Ec g v n).length o,iv 0]/\aO (fresh w w') 1 A' (Ec g v n).length (aU (eD (Ec g v n)))) w):=by
 refine fP func260 ntmps260 ?_;refine Eg z aB Z ?_;refine aD ?_;refine jL [] (Wy g) (fun f st=>aQm A n c g v f (hg.le (st.le aB)) hn M (fun l hl=>by have:=C l hl;omega) aA ho) ?_;rintro _ f q ⟨A',m,o,rfl,hm,E⟩ hf _ _
 have E:=E.le hf
 rw[ho] at E hm;rw[ho];dsimp only at E hm|-;obtain rfl:m=n:=by simpa using hm
 refine aD ?_;refine Xj aE fun r=>?_;refine aD ?_;refine gH 0 (HP.map r (nM [(v:Int)])) (fun f X t h1 D h3=>aB6 r v [] f X h1 D) ?_;refine aZ [0] ?_ (R':=[q,z,all w]);refine cF [(9,iv ((m:Int) - 1)),(6,.slice A' m o),(8,.map (some r)),(0,.slice A m c),(1,iv (v:Int))] ?_;refine gA (fun k e R H=>k<=m/\e=[(9,iv ((k:Int) - 1)),(6,.slice A' m o),(8,.map (some r)),(0,.slice A m c),(1,iv (v:Int))]/\R=[q,z,all w]/\H=[HP.map r (nM (Qc g v m (m - k)))]) m ⟨gE _,rfl,rfl,by rw[yC];rfl⟩ fun k e R H hI=>?_;obtain⟨hk,rfl,rfl,rfl⟩:=hI;refine aD ?_;refine bP (fun hge=>?_) (fun hlt=>?_)
 .obtain⟨k,rfl⟩:∃j,k=j+1:=⟨k - 1,aA⟩
  have Y:k < m:=by omega
  obtain⟨row,hrow⟩:=get_some (l:=g) (i:=k) aA
  have d:Qc g v m (m - k)=Ox g (Qc g v m (m - (k+1))) k:=by
   rw[show m - k=(m - (k+1))+1 by omega]
   show Ox g _ (m - 1 - (m - (k+1)))=_
   rw[show m - 1 - (m - (k+1))=k by omega]
  generalize hks:Qc g v m (m - (k+1))=ks at d|-;obtain⟨b,off,F,hz,hc⟩:=E.2 aA
  have G:=hc k (iv (k:Int)) (by simp[aU,eD,Y])
  obtain⟨gb,I,gr,hA,hgz,Uw,⟨N,rn,rk,rfl,hrn,O⟩,U⟩:=kQ.aHH hg hrow
  have hrl:=C row (dJ hrow)
  have hrd:=U 0 _ rfl
  subst hrn;refine aD ?_;refine kd (dat k (off+k) (hx:=by rw[<-F];rfl)) ?_;refine kd (bT rfl (Rd.ro (p:=q) aB hz G)) ?_;refine cM (fun f t=>aB5 r k ks f (t.map (i:=0) rfl)) ?_;cases K:ks.contains (k:Int)
  .have D:Ox g ks k=ks:=by unfold Ox;rw[K];rfl
   rw[D] at d;refine aD ?_;refine cF [(9,iv (((k+1:Nat):Int) - 1 - 1)),(6,.slice A' m o),(8,.map (some r)),(0,.slice A m c),(1,iv (v:Int))] ?_;exact iZ k aA ⟨aA,by rw[show(((k+1:Nat):Int) - 1 - 1)=(k:Int) - 1 by omega],rfl,by rw[d]⟩
  .have D:Ox g ks k=row.foldl Nw ks:=by
    unfold Ox;rw[K,aH rfl,mZ,hrow];rfl
   rw[D] at d;refine aD ?_;refine kd (dat k (off+k) (hx:=by rw[<-F];rfl)) ?_;refine kd (bT rfl (Rd.ro (p:=q) aB hz G)) ?_;refine kd (dat k (I+k*1) (hx:=by rw[<-hA];rfl)) ?_;refine cG (bT rfl (Rd.ro (p:=z) aB hgz hrd)) ?_;refine cF [(47,iv 0),(46,iv row.length),(45,.slice N row.length rk),(9,iv (((k+1:Nat):Int) - 1)),(6,.slice A' m o),(8,.map (some r)),(0,.slice A m c),(1,iv (v:Int))] ?_;refine gA (fun u e R H=>∃i:Nat,i<=row.length/\u=row.length - i/\e=[(47,iv i),(46,iv row.length),(45,.slice N row.length rk),(9,iv (((k+1:Nat):Int) - 1)),(6,.slice A' m o),(8,.map (some r)),(0,.slice A m c),(1,iv (v:Int))]/\R=[q,z,all w]/\H=[HP.map r (nM ((row.take i).foldl Nw ks))]) row.length ⟨0,aA,rfl,rfl,rfl,rfl⟩ fun u e R H hI=>?_;obtain⟨i,hi,rfl,rfl,rfl,rfl⟩:=hI;refine aD ?_;refine bP (fun h=>?_) (fun aJi=>?_)
   .have h:i < row.length:=aA
    obtain⟨y,hy⟩:=get_some h;obtain⟨rb,J,hRA,V,hrc⟩:=(show aO z 1 N row.length (aU row) from O).2 aA
    have T:=hrc i (iv y) (by simp[aU,hy])
    have L:(row.take (i+1)).foldl Nw ks=Nw ((row.take i).foldl Nw ks) y:=by
     rw[vK,hy,pK];rfl
    generalize hk2:(row.take i).foldl Nw ks=ks2 at L|-;refine aD ?_;refine cG (dat i (J+i) (hx:=by rw[<-hRA];rfl)) ?_;refine cG (bT rfl (Rd.ro (p:=z) aB V T)) ?_;refine gH 0 (HP.map r (nM (Nw ks2 y))) (fun f X t h1 D h3=>aB6 r y ks2 f X h1 D) ?_;refine cF [(47,iv (i+1:Nat)),(46,iv row.length),(45,.slice N row.length rk),(9,iv (((k+1:Nat):Int) - 1)),(6,.slice A' m o),(8,.map (some r)),(0,.slice A m c),(1,iv (v:Int))] ?_;exact iZ (row.length - (i+1)) aA ⟨i+1,h,rfl,rfl,rfl,by rw[L]⟩
   .obtain rfl:i=row.length:=by omega
    rw[Bn,<-d];refine aD ?_;refine cF [(9,iv (((k+1:Nat):Int) - 1 - 1)),(6,.slice A' m o),(8,.map (some r)),(0,.slice A m c),(1,iv (v:Int))] ?_;exact iZ k aA ⟨aA,by rw[show(((k+1:Nat):Int) - 1 - 1)=(k:Int) - 1 by omega],rfl,rfl⟩
 .obtain rfl:k=0:=by omega
  rw[Nat.sub_zero];refine aD ?_;refine jL [] (Lv (Ec g v m)) (fun f t=>aQj q r _ A' m o v f M (t.map (i:=0) rfl) (t.le aB) E) ?_;rintro _ f q2 ⟨B,kb,rfl,hb⟩ Ko _ hfr;refine aD ?_;exact kN fun f t=>⟨⟨_,rfl,B,kb,rfl,(hb.le Ko).le (t.oA aB (hfr aB))⟩,t.below aB⟩
def yS(g:List (List Int))(c:Cn)(n:Nat):Nat->List Bool
 | 0=>List.replicate n false
 | i+1=>if gO c.l (i:Int)<=0 then yS g c n i else(Ec g (i:Int) n).foldl (fun l u=>l.set u true) ((yS g c n i).set i true)
def Rh(g:List (List Int))(n:Nat)(c:Cn):List Bool:=if c.lU then List.replicate n false else yS g c n n
def aD6:∀(c:List Nat) (l:List Bool),(c.foldl (fun l u=>l.set u true) l).length=l.length
 | [],l=>rfl
 | u::c,l=>by
  rw[pW,aD6 c];simp
def aAm(g:List (List Int))(c:Cn)(n:Nat):∀i,(yS g c n i).length=n
 | 0=>by simp[yS]
 | i + 1 => by
  unfold yS;split
  .exact aAm g c n i
  .rw[aD6,pJ];exact aAm g c n i
def aW8(g:List (List Int))(n:Nat)(c:Cn):(Rh g n c).length=n:=by
 unfold Rh;split
 .simp
 .exact aAm g c n n
def Gm(A:Option Addr)(g:List (List Int))(p:Piece):Prop:=qK p A g.length g
def Gm.le{A:Option Addr}{g:List (List Int)}(p q:Piece)(hl:p.Le q)(h:Gm A g p):Gm A g q:=qK.le h hl
def Om(gc gm:Nat)(A:Option Addr)(k:Nat)(g:List (List Int))(c:Cn):HP:=HP.many [pR gc gm (.slice A g.length k) c,HP.cO (Gm A g) (Gm.le (A:=A) (g:=g))]
def aF9{l:List Bool}{i:Nat}{b:Bool}:(bO l).set i (.bool b)=bO (l.set i b):=by simp[bO,Fi]
def aQl{c:List Int}{v:Int}{n u:Nat}(h:u∈wW c v n):u < n:=by
 unfold wW at h;exact mI.1 (sY.1 h).1
def aK3(gc gm:Nat)(A:Option Addr)(k:Nat)(g:List (List Int))(c:Cn)(n:Nat)(hn:n=g.length)(V:n<=100)(E:∀l∈g,(l.length:Int)<=1000)(ho:gY g=(0,List.range n))(w:World)(F:Nat->Prop)(hp:(Om gc gm A k g c).sat F w)(hF:∀b,F b->b < w.heap.size):
  Cz 258 #[pt gc] w (fun y w'=>∃b:Nat,y=.returned (.slice (some ⟨b,0,none⟩) n n)/\True/\∃Z,(HP.many [Om gc gm A k g c,HP.aK b 4 (bO (Rh g n c))]).sat Z w'/\jG w w' F Z):=by
 refine fS func258 ntmps258 hp hF ?_;generalize K:(⟨w,fun b=>b < w.heap.size/\¬F b⟩:Piece)=R0;obtain⟨cl,N⟩:=c;refine bB 0 1 ?_;refine bB 1 0 ?_;refine bB 0 0 ?_;refine bB 1 1 ?_;subst hn;refine aF ?_;refine oZ (n:=g.length) 1 (el:=4) (z:=.bool false) aJ aJ rfl rfl rfl aA aA aE fun r=>?_;rw[show List.replicate g.length (Value.bool false)=bO (List.replicate g.length false) from by simp[bO]];unfold Rh;cases N
 .dsimp only;refine aF ?_;refine cF [(22,iv 0),(21,iv g.length),(3,.slice (some ⟨r,0,none⟩) g.length g.length),(0,pt gc)] ?_;refine gA (fun m e R H=>∃i:Nat,i<=g.length/\m=g.length - i/\e=[(22,iv i),(21,iv g.length),(3,.slice (some ⟨r,0,none⟩) g.length g.length),(0,pt gc)]/\R=[R0]/\H=[HP.aK r 4 (bO (yS g ⟨cl,false⟩ g.length i)),HP.map gm (zW cl),HP.aK gc 159 [.slice A g.length k,.map (some gm),.bool false],HP.many [cS,cS],HP.cO (Gm A g) (Gm.le (A:=A) (g:=g)),HP.many [cS,cS]]) g.length ⟨0,aA,rfl,rfl,rfl,rfl⟩ fun m e R H T=>?_;obtain⟨i,hi,rfl,rfl,rfl,rfl⟩:=T
  have L:=aAm g ⟨cl,false⟩ g.length i
  have d:yS g ⟨cl,false⟩ g.length (i+1)=if gO cl (i:Int)<=0 then yS g ⟨cl,false⟩ g.length i else(Ec g (i:Int) g.length).foldl (fun l u=>l.set u true) ((yS g ⟨cl,false⟩ g.length i).set i true):=rfl
  generalize hl:yS g ⟨cl,false⟩ g.length i=l at L d|-;refine aF ?_;refine bP (fun o=>?_) (fun hge=>?_)
  .have o:i < g.length:=aA
   refine aF ?_;refine Yz 1 rfl ?_;refine aF ?_;refine bP (fun X=>?_) (fun X=>?_)
   .rw[aH X] at d;refine aF ?_;exact fX (g.length - (i+1)) ⟨i+1,o,rfl,rfl,rfl,by rw[d]⟩
   .rw[aC X] at d;refine aF ?_;refine jD rfl rfl ?_ (hs:=dR.mk 0 rfl dK.h rfl (by simp[bO];omega));dsimp only[List.set];rw[aF9];refine aF ?_;refine jL [] (fun x w w'=>∃Y c',x=.tuple #[.slice Y (Ec g (i:Int) g.length).length c',iv 0]/\aO (fresh w w') 1 Y (Ec g (i:Int) g.length).length (aU (eD (Ec g (i:Int) g.length)))) (fun C t=>aSI (all C) A g.length k g i C (Piece.Le.refl _) (t.cO 4 rfl) rfl V E o ho) ?_;rintro _ C q ⟨B,kb,rfl,M⟩ hf _ _
    have M:=M.le hf
    have G:=aIl (Qc g (i:Int) g.length g.length) (i:Int) g.length
    have J:∀u∈Ec g (i:Int) g.length,u < g.length:=fun u D=>aQl D
    change (Ec g (i:Int) g.length).length<=_ at G
    generalize hus:Ec g (i:Int) g.length=us at d M G J|-;refine aF ?_;refine cF [(46,iv 0),(45,iv us.length),(44,.slice B us.length kb),(22,iv i),(21,iv g.length),(3,.slice (some ⟨r,0,none⟩) g.length g.length),(0,pt gc)] ?_;refine gA (fun m e R H=>∃j:Nat,j<=us.length/\m=us.length - j/\e=[(46,iv j),(45,iv us.length),(44,.slice B us.length kb),(22,iv i),(21,iv g.length),(3,.slice (some ⟨r,0,none⟩) g.length g.length),(0,pt gc)]/\R=[q,R0]/\H=[HP.aK r 4 (bO ((us.take j).foldl (fun l u=>l.set u true) (l.set i true))),HP.map gm (zW cl),HP.aK gc 159 [.slice A g.length k,.map (some gm),.bool false],HP.many [cS,cS],HP.cO (Gm A g) (Gm.le (A:=A) (g:=g)),HP.many [cS,cS]]) us.length ⟨0,aA,rfl,rfl,rfl,rfl⟩ fun m e R H T=>?_;obtain⟨j,hj,rfl,rfl,rfl,rfl⟩:=T;refine aF ?_;refine bP (fun f=>?_) (fun aJi=>?_)
    .have f:j < us.length:=aA
     obtain⟨u,D⟩:=get_some f
     have hun:=J u (dJ D)
     obtain⟨b,off,hB,hz,hc⟩:=M.2 aA
     have U:=hc j (iv (u:Int)) (by simp[aU,eD,D])
     have I:(us.take (j+1)).foldl (fun l u=>l.set u true) (l.set i true)=((us.take j).foldl (fun l u=>l.set u true) (l.set i true)).set u true:=by
      rw[vK,D,pK];rfl
     have O:((us.take j).foldl (fun l u=>l.set u true) (l.set i true)).length=g.length:=by rw[aD6,pJ];exact L
     generalize hl3:(us.take j).foldl (fun l u=>l.set u true) (l.set i true)=l3 at I O|-;refine aF ?_;refine kd (dat j (off+j) (hx:=by rw[<-hB];rfl)) ?_;refine aD ?_;refine kd (bT rfl (Rd.ro (p:=q) aB hz U)) ?_;refine aD ?_;refine kd (dat u u) ?_;refine jD rfl rfl ?_ (hs:=dR.mk 0 rfl dK.h rfl (by simp[bO];omega));dsimp only[List.set];rw[aF9,<-I];refine aF ?_;exact fX (us.length - (j+1)) ⟨j+1,f,rfl,rfl,rfl,rfl⟩
    .obtain rfl:j=us.length:=by omega
     rw[Bn,<-d];refine aF ?_;refine aZ [0,1,2,3,4,5] ?_ (R':=[R0]);exact fX (g.length - (i+1)) ⟨i+1,o,rfl,rfl,rfl,rfl⟩
  .obtain rfl:i=g.length:=by omega
   subst hl;refine aF ?_;refine aZ [1,2,3,4,5,0] ?_;refine aP 1 1 ?_;refine aP 0 0 ?_;refine aP 1 0 ?_;refine aP 0 1 ?_;refine oP ?_;subst K;exact Ai fun C t=>⟨r,rfl,trivial,t.turns hF aB (i:=0) rfl⟩
 .dsimp only;refine aF ?_;refine aZ [1,2,3,4,5,0] ?_;refine aP 1 1 ?_;refine aP 0 0 ?_;refine aP 1 0 ?_;refine aP 0 1 ?_;refine oP ?_;subst K;exact Ai fun C t=>⟨r,rfl,trivial,t.turns hF aB (i:=0) rfl⟩
section
set_option maxHeartbeats 8000000
def aA3(x:bM)(v:Value)(hs:List HP)(_:Piece):Prop:=∃(f e h:Nat) (p:HP),v=.agg #[.slice (some ⟨f,0,none⟩) x.d.length x.d.length,.slice (some ⟨e,0,none⟩) x.c.length x.c.length,.slice (some ⟨h,0,none⟩) x.l.length x.l.length]/\hs=[HP.many [HP.aK f 4 (bO x.d),HP.aK e 4 (bO x.c),HP.aK h 4 (bO x.l)],p]
def aAL(q:Piece)(s:aI)(A1 A2 A3 A4:Option Addr)(n1 k1 n2 k2 n3 k3 n4 k4:Nat)(B:Option Addr)(ca:Nat)(act:List Bool)(w:World)(D:vB q s A1 n1 A2 n2 A3 n3 A4 n4)(hm:s.made)(hq:q.Le (all w))(hact:aO (all w) 1 B act.length (bO act)):
  Cz 71 #[.agg #[.slice A1 n1 k1,.slice A2 n2 k2,.slice A3 n3 k3,.slice A4 n4 k4],.slice B act.length ca] w (fun y w'=>(∃v hs q,y=.returned v/\q.w=w'/\aA3 (fL s act) v hs q/\iV w hs q)/\Below w.heap.size w w'):=by
 obtain⟨rfl,rfl,rfl,rfl⟩:=D.len;refine fP func71 ntmps71 ?_;refine Eg q aB hq ?_
 have hn9:=hm.nc
 have Qn:=hm.nd
 have Zd:=hm.nr
 have Hw:=hm.nv
 refine aF ?_;refine eI fun A=>?_;refine kK fun o=>?_;refine gZ (fun Y st=>aAd s A1 A2 A3 A4 _ k1 _ k2 _ k3 _ k4 Y (D.W (st.le aB) (Yw hm))) ?_;rw[Yx hm];refine aDa rfl rfl aE ?_;refine iJ ?_;refine bP (fun h=>absurd rfl h) (fun h=>?_)
 .
  refine sQ ?_;refine eR ?_;refine Wn (fun e R H=>∃K N M gw,e=[(5,pt gw),(4,pt o),(2,pt A),(1,.slice B act.length ca)]/\R=[q,all w]/\H=[HP.aK gw 138 [.slice (some ⟨K,0,none⟩) s.domains.length s.domains.length,.slice (some ⟨N,0,none⟩) s.aL.length s.aL.length,.slice (some ⟨M,0,none⟩) s.bG.length s.bG.length],HP.aK K 4 (bO (dV s).d),HP.aK N 4 (bO (dV s).c),HP.aK M 4 (bO (dV s).l),HP.aK o 138 [sn,sn,sn],HP.aK A 30 [.slice A1 s.aL.length k1,.slice A2 s.domains.length k2,.slice A3 s.bG.length k3,.slice A4 s.aG.length k4]]) ?_ ?_
  .
   refine vA 14 aJ aJ ?_;refine iQ 0 rfl rfl rfl (Il (off:=1) aJ rfl) ?_;refine iQ 1 rfl rfl rfl (Nr rfl) ?_;refine iQ 2 rfl rfl rfl (Qz (el:=75) aJ rfl) ?_;refine iQ 4 rfl rfl rfl (Il (off:=0) aJ rfl) ?_;refine iQ 5 rfl rfl rfl (Nr rfl) ?_;refine iQ 6 rfl rfl rfl (Qz (el:=73) aJ rfl) ?_;refine iQ 8 rfl rfl rfl (Il (off:=2) aJ rfl) ?_;refine iQ 9 rfl rfl rfl (Nr rfl) ?_;refine iQ 10 rfl rfl rfl (Qz (el:=77) aJ rfl) ?_;refine aLI (fuel:=2) [3,7,11,13] [[3,7,11],[3,7,11,13]] (fun i=>match i with | 3=>⟨19,4,List.replicate s.domains.length (.bool false),fun g=>.slice (some ⟨g,0,none⟩) s.domains.length s.domains.length⟩ | 7=>⟨23,4,List.replicate s.aL.length (.bool false),fun g=>.slice (some ⟨g,0,none⟩) s.aL.length s.aL.length⟩ | 11=>⟨27,4,List.replicate s.bG.length (.bool false),fun g=>.slice (some ⟨g,0,none⟩) s.bG.length s.bG.length⟩ | _=>⟨5,138,[sn,sn,sn],fun g=>pt g⟩) (fun i hi=>?_) (by show[19,23,27,5].Nodup;decide) aJ (fun _ h=>h) (fun sub hsub hex g=>?_)
   .simp only[fT,pY,or_false] at hi;rcases hi with rfl | rfl | rfl | rfl
    .exact Jf.of rfl rfl rfl (Uk 1 (el:=4) (z:=.bool false) aJ aJ rfl rfl rfl aA aA) (Mp rfl) rfl
    .exact Jf.of rfl rfl rfl (Uk 1 (el:=4) (z:=.bool false) aJ aJ rfl rfl rfl aA aA) (Mp rfl) rfl
    .exact Jf.of rfl rfl rfl (Uk 1 (el:=4) (z:=.bool false) aJ aJ rfl rfl rfl aA aA) (Mp rfl) rfl
    .exact Jf.of rfl rfl rfl (aRs (sD aJ)) (Mp rfl) rfl
   have yM:sub=[3,7,11]\/sub=[3,7,11,13]:=by simpa using hex
   have er:∀n:Nat,List.replicate n (Value.bool false)=bO (List.replicate n false):=fun n=>by simp[bO]
   rcases yM with rfl | rfl
   .dsimp only[vV,zR,nP,List.map,List.foldr,dW,dG,List.length_cons,List.length_nil,Nat.reduceAdd,Nat.reduceSub];refine nG 12 rfl rfl rfl aE (Im (zs:=[sn,sn,sn]) (L:=[(0,1),(1,1),(2,1)]) (sD aJ) aJ rfl (by simp[mR,qQ,Value.cells];rfl)) aJ (fun _ _ _ h=>h) (fun _ h=>h.tail.tail.tail) ?_;refine dB 13 ?_;refine eE fun g6=>?_;refine jA ?_;refine iU ?_;refine mF (fun _ h=>h.tail.tail.tail.tail) ?_;refine dB 14 ?_;refine Kj ?_;refine fY ?_;refine kV ?_;refine eR ?_;exact xL [0,1,2,3,4,5] rfl aE aB (cF [(5,pt g6),(4,pt o),(2,pt A),(1,.slice B act.length ca)] (aAy ⟨g 3,g 7,g 11,g6,rfl,rfl,by simp only[er,dV]⟩))
   .dsimp only[vV,zR,nP,List.map,List.foldr,dW,dG,List.length_cons,List.length_nil,Nat.reduceAdd,Nat.reduceSub];refine nG 12 rfl rfl rfl aE (Im (zs:=[sn,sn,sn]) (L:=[(0,1),(1,1),(2,1)]) (sD aJ) aJ rfl (by simp[mR,qQ,Value.cells];rfl)) aJ (fun _ _ _ h=>h) (fun _ h=>h.tail.tail.tail.tail) ?_;refine dB 14 ?_;refine Kj ?_;refine fY ?_;refine kV ?_;refine eR ?_;exact xL [3,0,1,2,4,5] rfl aE aB (cF [(5,.pointer (some ⟨g 13,0,none⟩)),(4,pt o),(2,pt A),(1,.slice B act.length ca)] (aAy ⟨g 3,g 7,g 11,g 13,rfl,rfl,by simp only[er,dV]⟩))
  rintro _ _ _ ⟨K,N,M,gw,rfl,rfl,rfl⟩;refine aF ?_;refine wC [(32,iv 0),(31,iv s.aG.length),(30,.slice A4 s.aG.length k4),(5,pt gw),(4,pt o),(2,pt A),(1,.slice B act.length ca)] ?_;refine gA (fun m e R H=>∃(j:Nat),j<=s.aG.length/\m=s.aG.length - j/\e=[(32,iv j),(31,iv s.aG.length),(30,.slice A4 s.aG.length k4),(5,pt gw),(4,pt o),(2,pt A),(1,.slice B act.length ca)]/\R=[q,all w]/\H=[HP.aK gw 138 [.slice (some ⟨K,0,none⟩) s.domains.length s.domains.length,.slice (some ⟨N,0,none⟩) s.aL.length s.aL.length,.slice (some ⟨M,0,none⟩) s.bG.length s.bG.length],HP.aK K 4 (bO (jI s act j).d),HP.aK N 4 (bO (jI s act j).c),HP.aK M 4 (bO (jI s act j).l),HP.aK o 138 [sn,sn,sn],HP.aK A 30 [.slice A1 s.aL.length k1,.slice A2 s.domains.length k2,.slice A3 s.bG.length k3,.slice A4 s.aG.length k4]]) s.aG.length ⟨0,aA,rfl,rfl,rfl,rfl⟩ fun m e R H hI=>?_;obtain⟨j,hj,rfl,rfl,rfl,rfl⟩:=hI;refine aF ?_;refine bP (fun h=>?_) (fun h=>?_)
  .
   refine sQ ?_;refine eR ?_;refine fO ?_;refine Gf ?_;refine fO ?_
   have hjl:j < s.aG.length:=by have h':(j:Int) < (s.aG.length:Int):=h;omega
   obtain⟨x,hx⟩:∃x,s.aG[j]? =some x:=⟨_,cX hjl⟩
   obtain⟨hx1,hx2,hx3,hx4,hx5,hx6,_⟩:=hm.aG j x hx;obtain⟨F,E,rV,rfl,hzV,_,hR,hcV⟩:=D.dev.Dd hx;obtain⟨Ar,nr,kr,An,nn,kn,rfl,_⟩:=hR
   have C:=Hg s act j
   obtain⟨J,hxc⟩:∃J:Nat,x.clock=(J:Int):=⟨x.clock.toNat,aA⟩
   obtain⟨I,hxd⟩:∃I:Nat,x.domain=(I:Int):=⟨x.domain.toNat,aA⟩
   obtain⟨X,hxr⟩:∃X:Nat,x.reset=(X:Int):=⟨x.reset.toNat,aA⟩
   have Ql:hasB act j=true->jI s act (j+1)=⟨uO (Hh s I) (jI s act j).d,uO ((fV s J).filter (pH s)) (jI s act j).c,iY (jI s act j).l (X:Int) true⟩:=fun ha=>by
    rw[Xq hx ha,Sj,hxd,hxc,hxr];rfl
   rw[hxc,hxd,hxr] at hcV;generalize hwj:jI s act j=wj at *;refine jS ?_;refine jP rfl aE ?_;refine kd (dat (j) (E+j*6)) ?_;refine Gy 6 aJ rfl (cI.of (vs:=[iv (J:Int),iv (I:Int),iv (X:Int),.int .u32 x.zX,.slice Ar nr kr,.slice An nn kn]) fun f v hf=>Rd.ro (p:=q) aB hzV (hcV f v hf)) rfl aE ?_;refine eE fun U=>?_;refine kC rfl aE ?_;refine Kj ?_;refine aF ?_;refine cR (fun Y st=>aEL B act.length ca j act Y (hact.le (st.le aB)) rfl aA) ?_;refine tI rfl (fun h=>?_) (fun h=>?_)
   .
    refine aF ?_
    have hno:hasB act j=false:=by simpa using h
    exact xL [1,2,3,4,5,6] rfl aE aB (cF [(32,iv ((j:Int)+1)),(31,iv s.aG.length),(30,.slice (some ⟨F,E,none⟩) s.aG.length k4),(5,pt gw),(4,pt o),(2,pt A),(1,.slice B act.length ca)] (iZ (s.aG.length - (j+1)) aA ⟨j+1,aA,rfl,rfl,rfl,by rw[Sk hno,hwj]⟩))
   .
    have hyes:hasB act j=true:=by simpa using h
    have Ql:=Ql hyes
    refine aF ?_;refine wC [(8,iv (I:Int)),(7,pt U),(32,iv j),(31,iv s.aG.length),(30,.slice (some ⟨F,E,none⟩) s.aG.length k4),(5,pt gw),(4,pt o),(2,pt A),(1,.slice B act.length ca)] ?_;refine gA (fun m e R H=>∃(V:Int) (rest:List Nat) (d:List Bool),m=rest.length/\El s V rest/\d.length=s.domains.length/\uO rest d=uO (Hh s I) wj.d/\e=[(8,iv V),(7,pt U),(32,iv j),(31,iv s.aG.length),(30,.slice (some ⟨F,E,none⟩) s.aG.length k4),(5,pt gw),(4,pt o),(2,pt A),(1,.slice B act.length ca)]/\R=[q,all w]/\H=[HP.aK U 80 [iv (J:Int),iv (I:Int),iv (X:Int),.int .u32 x.zX,.slice Ar nr kr,.slice An nn kn],HP.aK gw 138 [.slice (some ⟨K,0,none⟩) s.domains.length s.domains.length,.slice (some ⟨N,0,none⟩) s.aL.length s.aL.length,.slice (some ⟨M,0,none⟩) s.bG.length s.bG.length],HP.aK K 4 (bO d),HP.aK N 4 (bO wj.c),HP.aK M 4 (bO wj.l),HP.aK o 138 [sn,sn,sn],HP.aK A 30 [.slice A1 s.aL.length k1,.slice A2 s.domains.length k2,.slice A3 s.bG.length k3,.slice (some ⟨F,E,none⟩) s.aG.length k4]]) (Hh s I).length ⟨_,Hh s I,wj.d,rfl,aAN hm aA,C.d,rfl,rfl,rfl,rfl⟩ fun m e R H hI=>?_;obtain⟨V,rest,d,rfl,G,rR,T,rfl,rfl,rfl⟩:=hI;refine aF ?_;refine eG (fun h=>?_) (fun h=>?_)
    .
     obtain⟨i,r,rfl⟩:∃i r,rest=i::r:=by
      cases rest with
      | nil=>exact absurd G h
      | cons i r=>exact⟨i,r,rfl⟩
     obtain⟨rfl,dm,Zj,G⟩:=G
     have hil:=(cE.1 Zj).1
     refine aF ?_;refine tR 2 rfl aJ rfl rfl rfl (by rw[aFB];omega) ?_;dsimp only[List.set];rw[aFA,show d.set i true=iY d (i:Int) true by simp[iY]];refine aF ?_;obtain⟨bD,oD,rD,rfl,Za,_,rfl,Qp⟩:=D.dom.Dd Zj;refine aF ?_;refine iF (Rd.ro (p:=q) aB Za (Qp 0 _ rfl)) ?_;refine aF ?_;exact cF [(8,iv dm.above),(7,pt U),(32,iv j),(31,iv s.aG.length),(30,.slice (some ⟨F,E,none⟩) s.aG.length k4),(5,pt gw),(4,pt o),(2,pt A),(1,.slice B act.length ca)] (iZ r.length aB ⟨dm.above,r,iY d (i:Int) true,rfl,G,by rw[Pu];exact rR,by rw[<-T];rfl,rfl,rfl,rfl⟩)
    .
     obtain rfl:rest=[]:=by
      cases rest with
      | nil=>rfl
      | cons i r=>exact absurd (show V= -1 from Jy.1 h) (by have:=G.1;omega)
     have T:d=uO (Hh s I) wj.d:=T
     refine aF ?_;refine jL [] (Lv (fV s J)) (fun Y st=>aCl q s A1 A2 A3 (some ⟨F,E,none⟩) _ k1 _ k2 _ k3 _ k4 J Y D hm.Bv (st.le aB) aA) ?_;rintro _ Y qc ⟨Ac,cc,rfl,hsc⟩ hf _ _
     have hsc:=hsc.le hf
     have hcin:=fun i (hi:i∈fV s J)=>aF5 s _ _ i hi
     have vU:(fV s J).length<=s.aL.length:=aCm s _ _
     clear hf;generalize Nf:fV s J=ch at *;refine aF ?_;refine wC [(60,iv 0),(59,iv ch.length),(58,.slice Ac ch.length cc),(7,pt U),(32,iv j),(31,iv s.aG.length),(30,.slice (some ⟨F,E,none⟩) s.aG.length k4),(5,pt gw),(4,pt o),(2,pt A),(1,.slice B act.length ca)] ?_;refine gA (fun m e R H=>∃(k:Nat),k<=ch.length/\m=ch.length - k/\e=[(60,iv k),(59,iv ch.length),(58,.slice Ac ch.length cc),(7,pt U),(32,iv j),(31,iv s.aG.length),(30,.slice (some ⟨F,E,none⟩) s.aG.length k4),(5,pt gw),(4,pt o),(2,pt A),(1,.slice B act.length ca)]/\R=[qc,q,all w]/\H=[HP.aK U 80 [iv (J:Int),iv (I:Int),iv (X:Int),.int .u32 x.zX,.slice Ar nr kr,.slice An nn kn],HP.aK gw 138 [.slice (some ⟨K,0,none⟩) s.domains.length s.domains.length,.slice (some ⟨N,0,none⟩) s.aL.length s.aL.length,.slice (some ⟨M,0,none⟩) s.bG.length s.bG.length],HP.aK K 4 (bO d),HP.aK N 4 (bO (uO ((ch.take k).filter (pH s)) wj.c)),HP.aK M 4 (bO wj.l),HP.aK o 138 [sn,sn,sn],HP.aK A 30 [.slice A1 s.aL.length k1,.slice A2 s.domains.length k2,.slice A3 s.bG.length k3,.slice (some ⟨F,E,none⟩) s.aG.length k4]]) ch.length ⟨0,aA,rfl,rfl,rfl,rfl⟩ fun m e R H hI=>?_;obtain⟨k,hk,rfl,rfl,rfl,rfl⟩:=hI;refine aF ?_;refine eG (fun h=>?_) (fun h=>?_)
     .
      have hkl:k < ch.length:=by have h':(k:Int) < (ch.length:Int):=h;omega
      obtain⟨O,hci⟩:∃O,ch[k]? =some O:=⟨_,cX hkl⟩
      have aSu:=hcin O (dJ hci)
      obtain⟨ck,hck⟩:∃ck,s.aL[O]? =some ck:=⟨_,cX aSu⟩
      obtain⟨bI,oI,rfl,hzI,hcI⟩:=hsc.2 aA;obtain⟨bC,oC,rC,rfl,hzC,_,hR2,hcC⟩:=D.iO.Dd hck;obtain⟨As,ns,ks,rfl,_⟩:=hR2
      have Qk:(ch.take (k+1)).filter (pH s)=(ch.take k).filter (pH s)++(if pH s O then[O] else[]):=by
       rw[vK,hci,Pr];cases hsw:pH s O<;>simp[hsw]
      have aIW:pH s O=decide (ck.kind=112\/ck.kind=103):=by unfold pH;rw[hck]
      have aXS:(uO ((ch.take k).filter (pH s)) wj.c).length=s.aL.length:=by rw[aDP];exact C.c
      refine aF ?_;refine iF (Rd.ro (p:=qc) aB hzI (hcI k _ (aQL hci))) ?_;refine aF ?_;refine iF (Rd.ro (p:=q) aB hzC (hcC 0 _ rfl)) ?_;refine kC rfl aE ?_;refine iJ ?_;refine Rn 75 (ck.kind=112\/ck.kind=103) ?_ ?_
      .skip
       refine aF ?_;refine cH (t:=72) rfl (fun hg=>?_) (fun hg=>?_)
       .
        refine qL rfl rfl rfl aE ?_;refine qL rfl rfl rfl aE ?_
        (first | refine Lx rfl rfl aE ?_ | refine Ly rfl rfl aE ?_)
        refine iJ ?_;exact Gd
       .
        refine nK rfl rfl ?_;refine jP rfl aE ?_;refine nK rfl rfl ?_;refine aG6 rfl rfl aE ?_
        (first | refine Lx rfl rfl aE ?_ | refine Ly rfl rfl aE ?_)
        refine iJ ?_;exact Gd
      refine eG (fun Ze=>?_) (fun Ze=>?_)
      .
       refine tR 3 rfl aJ rfl rfl rfl (by rw[aFB];omega) ?_;dsimp only[List.set];rw[aFA,show(uO ((ch.take k).filter (pH s)) wj.c).set O true=uO ((ch.take (k+1)).filter (pH s)) wj.c by rw[Qk,aIW,eM Ze];simp[uO,iY,pK]];refine aF ?_;exact cF [(60,iv ((k:Int)+1)),(59,iv ch.length),(58,.slice (some ⟨bI,oI,none⟩) ch.length cc),(7,pt U),(32,iv j),(31,iv s.aG.length),(30,.slice (some ⟨F,E,none⟩) s.aG.length k4),(5,pt gw),(4,pt o),(2,pt A),(1,.slice B act.length ca)] (iZ (ch.length - (k+1)) aA ⟨k+1,aA,rfl,rfl,rfl,rfl⟩)
      .
       exact cF [(60,iv ((k:Int)+1)),(59,iv ch.length),(58,.slice (some ⟨bI,oI,none⟩) ch.length cc),(7,pt U),(32,iv j),(31,iv s.aG.length),(30,.slice (some ⟨F,E,none⟩) s.aG.length k4),(5,pt gw),(4,pt o),(2,pt A),(1,.slice B act.length ca)] (iZ (ch.length - (k+1)) aA ⟨k+1,aA,rfl,rfl,rfl,by rw[Qk,aIW,gW Ze];simp⟩)
     .
      have hke:k=ch.length:=by have h':¬(k:Int) < (ch.length:Int):=h;omega
      rw[hke,Bn]
      have Qo:=C.l
      refine aF ?_;refine tR 4 rfl aJ rfl rfl rfl (by rw[aFB];omega) ?_;dsimp only[List.set];rw[aFA,show wj.l.set X true=iY wj.l (X:Int) true by simp[iY]];refine aF ?_;exact xL [1,2,3,4,5,6] rfl aE (R':=[q,all w]) aB (cF [(32,iv ((j:Int)+1)),(31,iv s.aG.length),(30,.slice (some ⟨F,E,none⟩) s.aG.length k4),(5,pt gw),(4,pt o),(2,pt A),(1,.slice B act.length ca)] (iZ (s.aG.length - (j+1)) aA ⟨j+1,aA,rfl,rfl,rfl,by rw[Ql,T]⟩))
  .
   refine aF ?_;refine Kj ?_;refine aF ?_
   have hje:j=s.aG.length:=by have h':¬(j:Int) < (s.aG.length:Int):=h;omega
   have C:=Hg s act j
   have hww:fL s act=jI s act j:=by rw[hje];rfl
   generalize jI s act j=wj at *;refine aZ [1,2,3,4] ?_ (R':=[q,all w]);refine Ah ?_;refine dX [] [] [0,1] fun qf _ _ hfr=>?_
   exact aAt rfl aJ rfl rfl (cI.whole 1 rfl) fun Y st=>⟨⟨_,_,⟨Y,qf.Z⟩,rfl,rfl,by
    rw[hww]
    exact⟨K,N,M,_,by rw[C.d,C.c,C.l],rfl⟩,st.newR aB aB (hfr aB aB)⟩,st.below aB⟩
end
def yF(old l:List Bool)(n:Nat):List Bool:=l.mapIdx fun k b=>if k < n then(b||hasB old k) else b
section
variable{Φ:Piece->Prop}{hm:∀p q:Piece,p.Le q->Φ p->Φ q}{sz n off:Nat}{A:Option Addr}{xs:List Value}
def aFN(i:Nat)(hi:H[i]? =some (HP.cO Φ hm))(h:∀p,Φ p->aO p sz A n xs)(c:0 < n)(k:∀b off,A=some ⟨b,off,none⟩->XK N w0 K e R H):XK N w0 K e R H:=fun a w d st=>by
 obtain⟨b,off,f,_⟩:=(h _ (st.cO i hi)).2 c;exact k b off f a w d st
def aWI(i:Nat)(hi:H[i]? =some (HP.cO Φ hm))(f:∀p,Φ p->aO p sz A n xs)(k:∀b off,(0 < n->A=some ⟨b,off,none⟩)->XK N w0 K e R H):XK N w0 K e R H:=by
 rcases zI n with h | h
 .exact k 0 0 fun d=>absurd d aA
 .exact aFN i hi f h fun b off c=>k b off fun _=>c
def Rd.cO(i:Nat)(hi:H[i]? =some (HP.cO Φ hm))(l:∀p,Φ p->aO p sz A n xs)(h:A=some ⟨b,off,none⟩)(f:0 < n){j:Nat}{v:Value}(k:xs[j]? =some v):Rd w0 R H b (off+j) v:=fun w st=>by
 obtain⟨m,d,c,_,e⟩:=(l _ (st.cO i hi)).2 f;cases h.symm.trans c;exact e j v k
end
def eU(s:aI)(c:Cn):List Bool:=Rh (dS s) (dS s).length c
def pT(s:aI)(z:bA):bM:=⟨(fL s (eU s z.cn)).d,(fL s (eU s z.cn)).c,yF z.wn.l (fL s (eU s z.cn)).l s.bG.length⟩
def vG(s:aI)(z:bA):bA:={z with steps:=allM s z.wn (pT s z),sent:=false,wn:=pT s z}
def aDo(s:aI)(act:List Bool):(fL s act).of s:=Hg s act _
def aNj(s:aI)(z:bA):(pT s z).of s:=by
 have h:=aDo s (eU s z.cn)
 exact⟨h.d,h.c,by show(List.mapIdx _ _).length=_;rw[List.length_mapIdx];exact h.l⟩
def Uc(s:aI):(dS s).length=s.aG.length:=by simp[dS]
section
variable(g h f:Nat)(s:aI)(z:bA)(w:World)(F:Nat->Prop)
def aBe(hm:s.made)(hz:z.wn.of s)(hp:(lF g h f s z).sat F w)(hF:∀b,F b->b < w.heap.size):
  Cz 257 #[pt g] w (Wr (.tuple #[]) (lF g h f s (vG s z)) w F):=by
 have Hw:=hm.nv
 have hnd:=hm.nd
 have hnc:=hm.nc
 have Qm:=hm.nr
 have vT:=Uc s
 have U:∀l∈dS s,(l.length:Int)<=1000:=fun l hl=>by
  obtain⟨i,I⟩:=lA hl;simp only[dS,eO] at I;cases hd:s.aG[i]? with
  | none=>rw[hd] at I;cases I
  | some d=>
   rw[hd] at I;cases I
   have:=(hm.aG i d hd).2.2.2.2.2.2.2.2.2.2.1
   show((d.kJ.length:Nat):Int)<=1000
   omega
 have ho:gY (dS s)=(0,List.range (dS s).length):=by rw[vT];exact(aEs hm).2.2
 have N:(eU s z.cn).length=(dS s).length:=aW8 _ _ _
 refine fS func257 ntmps257 hp hF ?_;generalize Vb:(⟨w,fun b=>b < w.heap.size/\¬F b⟩:Piece)=R0;refine kF 0 fun L=>?_;refine bB 0 0 ?_;refine bB 1 4 ?_;refine bB 2 3 ?_;refine oP ?_;refine bB 2 1 ?_;refine bB 3 2 ?_;refine aZ [2,0,1,3,4] ?_
 change XK _ _ _ _ _ [Om L.gc L.gm L.nd.1 L.nd.2 (dS s) z.cn,HP.cO (xP L z.wn) _,HP.cO (oY L s) _,_,_]
 generalize hM:HP.many [cS,cS,cS,cS,cS,HP.cO (qY L z.steps) (qY.le (L:=L) (l:=z.steps))]=M;refine fO ?_;refine aCH (fun e R H=>∃r C B o:Nat,e=[(2,pt r),(0,pt g)]/\R=[R0]/\H=[HP.aK r 138 [.slice (some ⟨C,0,none⟩) (fL s (eU s z.cn)).d.length (fL s (eU s z.cn)).d.length,.slice (some ⟨B,0,none⟩) (fL s (eU s z.cn)).c.length (fL s (eU s z.cn)).c.length,.slice (some ⟨o,0,none⟩) (fL s (eU s z.cn)).l.length (fL s (eU s z.cn)).l.length],HP.many [HP.aK C 4 (bO (fL s (eU s z.cn)).d),HP.aK B 4 (bO (fL s (eU s z.cn)).c),HP.aK o 4 (bO (fL s (eU s z.cn)).l)],Om L.gc L.gm L.nd.1 L.nd.2 (dS s) z.cn,HP.cO (xP L z.wn) (xP.le (L:=L) (x:=z.wn)),HP.cO (oY L s) (oY.le (L:=L) (s:=s)),HP.aK g 142 (oK h f L s z),M]) ?_ ?_
 .refine Lj [1,2,3,5,6,7] ?_;refine bU 0 ?_;refine aQ 1 ?_;refine aQ 2 ?_;refine aQ 3 ?_ (hi:=rfl) (bL:=nQ rfl (Cl (vs:=[_,_,_,_]) 3 rfl rfl));refine bU 4 ?_;refine aQ 5 ?_;refine aQ 6 ?_;refine aQ 7 ?_;refine Ap 8 10 rfl rfl aJ ?_ ?_
  .refine Bb (α:=Nat) 0 (f:=258) (fi:=[]) (ca:=[]) (fun b=>.slice (some ⟨b,0,none⟩) (dS s).length (dS s).length) (fun b=>HP.many [Om L.gc L.gm L.nd.1 L.nd.2 (dS s) z.cn,HP.aK b 4 (bO (eU s z.cn))]) (fun _=>True) aJ rfl rfl rfl aE (fun j F1 t J h2 h3=>aK3 L.gc L.gm L.nd.1 L.nd.2 (dS s) z.cn _ rfl aA U ho j F1 J h2) ?_;rintro b _;dsimp only[List.set];refine bH ?_;refine Ap 9 10 rfl rfl aJ ?_ ?_
   .refine bB 0 1 ?_
    refine gN (aA3 (fL s (eU s z.cn))) (fun j t=>by
     have J:=t.wP (i:=0) (sz:=1) (n:=(eU s z.cn).length) rfl (by simp[bO])
     have:=aAL (all j) s L.a1.1 L.a2.1 L.a3.1 L.a4.1 _ L.a1.2 _ L.a2.2 _ L.a3.2 _ L.a4.2 (some ⟨b,0,none⟩) (dS s).length (eU s z.cn) j (t.cO 3 rfl) hm (Piece.Le.refl _) J
     rw[N] at this
     exact this) ?_
    rintro _ _ q ⟨C,B,o,px,rfl,rfl⟩ _;dsimp only[dW,dG];refine bH ?_ (hS:=fun _ h=>h.cN.tail.tail.tail.Fv);refine aR 10 ?_;refine eE fun r=>?_;refine bH ?_ (hS:=fun _ h=>h.cN.tail.tail.tail.tail.Fv);refine aR 11 ?_;refine mO 0 rfl ?_;dsimp only[List.set];refine bH ?_ (hS:=fun _ h=>h.cN.tail.tail.tail.tail.Fv);refine lW ?_;refine eR ?_;refine bB 4 0 ?_;refine aZ [1,2,0,6,7,8,9] ?_ (R':=[R0]);exact rK ⟨r,C,B,o,rfl,rfl,rfl⟩
   .refine eE fun r=>?_;refine bH ?_ (hS:=fun _ h=>h.tail.Fv);refine aR 9 ?_;refine bB 1 1 ?_
    refine gN (aA3 (fL s (eU s z.cn))) (fun j t=>by
     have J:=t.wP (i:=0) (sz:=1) (n:=(eU s z.cn).length) rfl (by simp[bO])
     have:=aAL (all j) s L.a1.1 L.a2.1 L.a3.1 L.a4.1 _ L.a1.2 _ L.a2.2 _ L.a3.2 _ L.a4.2 (some ⟨b,0,none⟩) (dS s).length (eU s z.cn) j (t.cO 4 rfl) hm (Piece.Le.refl _) J
     rw[N] at this
     exact this) ?_
    rintro _ _ q ⟨C,B,o,px,rfl,rfl⟩ _;dsimp only[dW,dG];refine bH ?_ (hS:=fun _ h=>h.cN.tail.tail.tail.tail.Fv);refine aR 11 ?_;refine mO 3 rfl ?_;dsimp only[List.set];refine bH ?_ (hS:=fun _ h=>h.cN.tail.tail.tail.tail.Fv);refine lW ?_;refine eR ?_;refine bB 4 0 ?_;refine aZ [4,1,0,6,7,8,9] ?_ (R':=[R0]);exact rK ⟨r,C,B,o,rfl,rfl,rfl⟩
  .refine eE fun r=>?_;refine bH ?_ (hS:=fun _ h=>h.tail.Fv);refine aR 8 ?_;refine Bb (α:=Nat) 1 (f:=258) (fi:=[]) (ca:=[]) (fun b=>.slice (some ⟨b,0,none⟩) (dS s).length (dS s).length) (fun b=>HP.many [Om L.gc L.gm L.nd.1 L.nd.2 (dS s) z.cn,HP.aK b 4 (bO (eU s z.cn))]) (fun _=>True) aJ rfl rfl rfl aE (fun j F1 t J h2 h3=>aK3 L.gc L.gm L.nd.1 L.nd.2 (dS s) z.cn _ rfl aA U ho j F1 J h2) ?_;rintro b _;dsimp only[List.set];refine bH ?_ (hS:=fun _ h=>h.tail.Fv);refine aR 9 ?_;refine bB 1 1 ?_
   refine gN (aA3 (fL s (eU s z.cn))) (fun j t=>by
    have J:=t.wP (i:=0) (sz:=1) (n:=(eU s z.cn).length) rfl (by simp[bO])
    have:=aAL (all j) s L.a1.1 L.a2.1 L.a3.1 L.a4.1 _ L.a1.2 _ L.a2.2 _ L.a3.2 _ L.a4.2 (some ⟨b,0,none⟩) (dS s).length (eU s z.cn) j (t.cO 4 rfl) hm (Piece.Le.refl _) J
    rw[N] at this
    exact this) ?_
   rintro _ _ q ⟨C,B,o,px,rfl,rfl⟩ _;dsimp only[dW,dG];refine bH ?_ (hS:=fun _ h=>h.cN.tail.tail.tail.tail.Fv);refine aR 11 ?_;refine mO 3 rfl ?_;dsimp only[List.set];refine bH ?_ (hS:=fun _ h=>h.cN.tail.tail.tail.tail.Fv);refine lW ?_;refine eR ?_;refine bB 4 0 ?_;refine aZ [4,1,0,6,7,8,9] ?_ (R':=[R0]);exact rK ⟨r,C,B,o,rfl,rfl,rfl⟩
 rintro _ _ _ ⟨r,C,B,o,rfl,rfl,rfl⟩
 have Z:(fL s (eU s z.cn)).l.length=(pT s z).l.length:=by
  show _=(List.mapIdx _ _).length
  rw[List.length_mapIdx]
 have O:(fL s (eU s z.cn)).l.length=s.bG.length:=(aDo s _).l
 have hzl:=hz.l
 rw[Z]
 have aXD:(pT s z).l.length=s.bG.length:=by rw[<-Z];exact O
 refine bB 1 2 ?_;refine bB 2 1 ?_;refine bB 3 0 ?_;refine aZ [0,1,2,3,4,5,6,7,8,9] ?_;refine aD ?_
 have h00:yF z.wn.l (fL s (eU s z.cn)).l 0=(fL s (eU s z.cn)).l:=Ug _ _
 refine cF [(21,iv 0),(20,iv z.wn.l.length),(19,.slice L.w3.1 z.wn.l.length L.w3.2),(2,pt r),(0,pt g)] ?_;refine gA (fun m e R H=>∃i:Nat,i<=z.wn.l.length/\m=z.wn.l.length - i/\e=[(21,iv i),(20,iv z.wn.l.length),(19,.slice L.w3.1 z.wn.l.length L.w3.2),(2,pt r),(0,pt g)]/\R=[R0]/\H=[HP.aK C 4 (bO (fL s (eU s z.cn)).d),HP.aK B 4 (bO (fL s (eU s z.cn)).c),HP.aK o 4 (bO (yF z.wn.l (fL s (eU s z.cn)).l i)),HP.aK r 138 [.slice (some ⟨C,0,none⟩) (fL s (eU s z.cn)).d.length (fL s (eU s z.cn)).d.length,.slice (some ⟨B,0,none⟩) (fL s (eU s z.cn)).c.length (fL s (eU s z.cn)).c.length,.slice (some ⟨o,0,none⟩) (pT s z).l.length (pT s z).l.length],HP.many [cS,cS,cS],Om L.gc L.gm L.nd.1 L.nd.2 (dS s) z.cn,HP.cO (xP L z.wn) (xP.le (L:=L) (x:=z.wn)),HP.cO (oY L s) (oY.le (L:=L) (s:=s)),HP.aK g 142 (oK h f L s z),M]) z.wn.l.length ⟨0,aA,rfl,rfl,rfl,by rw[h00]⟩ fun m e R H hI=>?_;obtain⟨i,I,rfl,rfl,rfl,rfl⟩:=hI;refine aD ?_;refine dD rfl (fun E=>?_) (fun hge=>?_)
 .have E:i < z.wn.l.length:=aA
  obtain⟨b,D⟩:=get_some E;obtain⟨c,hc⟩:=get_some (l:=(fL s (eU s z.cn)).l) (i:=i) aA
  have Ng:(yF z.wn.l (fL s (eU s z.cn)).l i)[i]? =some c:=Ui hc
  have hstep:(yF z.wn.l (fL s (eU s z.cn)).l i).set i (c||hasB z.wn.l i)=yF z.wn.l (fL s (eU s z.cn)).l (i+1):=Uh (f:=fun k b=>b||hasB z.wn.l k) hc
  have hbB:hasB z.wn.l i=b:=by show z.wn.l[i]?.getD false=b;rw[D];rfl
  rw[hbB] at hstep
  have cP:(yF z.wn.l (fL s (eU s z.cn)).l i).length=s.bG.length:=by rw[yF,List.length_mapIdx];exact O
  refine aFN (A:=L.w3.1) (sz:=1) (n:=z.wn.l.length) (xs:=bO z.wn.l) 6 rfl (fun _ h=>h.2.2) aA fun wb T Y=>?_
  have hbc:(bO z.wn.l)[i]? =some (.bool b):=by simp[bO,D]
  refine aD ?_;refine kd (dat i (T+i) (hx:=by rw[<-Y];rfl)) ?_;refine cG (bT rfl (Rd.cO 6 rfl (fun _ h=>h.2.2) Y aA hbc)) ?_;cases b
  .rw[Bool.or_false,Bi Ng] at hstep;rw[hstep];refine aD ?_;exact fX (z.wn.l.length - (i+1)) ⟨i+1,E,rfl,rfl,rfl,rfl⟩
  .rw[Bool.or_true] at hstep;refine aD ?_;refine kd (dat i i) ?_;refine jD rfl rfl ?_ (hs:=dR.mk 2 rfl dK.h rfl (by simp[bO];omega));dsimp only[List.set];rw[aF9,hstep];refine aD ?_;exact fX (z.wn.l.length - (i+1)) ⟨i+1,E,rfl,rfl,rfl,rfl⟩
 obtain rfl:i=z.wn.l.length:=by omega
 rw[hzl];refine aD ?_;refine kO [3,4,5,7,8,9,10] ?_;refine bU 0 ?_;refine bU 1 ?_;refine bU 2 ?_;refine aQ 3 ?_;refine aQ 4 ?_;refine aQ 5 ?_ (hi:=rfl) (bL:=nQ rfl (Cl (vs:=[_,_,_,_]) 8 rfl rfl));refine bU 6 ?_;refine aQ 7 ?_;refine aQ 8 ?_;refine aQ 9 ?_ (hi:=rfl) (bL:=nQ rfl (Cl (vs:=[_,_,_]) 8 rfl rfl));refine aQ 10 ?_;refine aR 11 ?_;refine jL [] (aLQ (allM s z.wn (pT s z))) (fun j t=>aNR (q:=all j) (qx:=all j) (qy:=all j) (t.cO 7 rfl) hm (Piece.Le.refl _) (x:=z.wn) (y:=pT s z) ⟨L.w1.1,L.w1.2,L.w2.1,L.w2.2,L.w3.1,L.w3.2,rfl,t.cO 6 rfl⟩ (Piece.Le.refl _) ⟨_,_,_,_,_,_,rfl,t.wP (i:=0) rfl (by simp[bO,pT]),t.wP (i:=1) rfl (by simp[bO,pT]),t.wP (i:=2) rfl (by simp[bO,pT])⟩ (Piece.Le.refl _)) ?_;rintro _ j q ⟨As,cs,rfl,K,hsc⟩ hf _ hfr
 have K:=K.le hf
 refine cT ?_;refine aR 12 ?_;refine bN ?_;refine cT ?_;refine aR 13 ?_;refine bN ?_;refine cT ?_;refine aR 14 ?_;refine jD rfl rfl ?_ (hs:=dR.mk 8 rfl dK.h rfl (eV rfl));dsimp only[List.set];refine cT ?_;refine aR 15 ?_;refine bN ?_;refine cT ?_;refine aR 16 ?_;refine bN ?_;refine cT ?_;refine aR 17 ?_;refine jD rfl rfl ?_ (hs:=dR.mk 8 rfl dK.h rfl (eV rfl));dsimp only[List.set];refine cT ?_;refine lW ?_
 refine Nx (Φ:=qY {L with st:=(As,cs)} (allM s z.wn (pT s z))) (hm:=qY.le) (hfr aB) (fun p hp b D=>by
  simp at hp;subst hp;rw[<-Vb] at D
  exact D.1) ⟨K,hsc⟩ ?_
 refine aD ?_;refine Hu 9 rfl ?_;dsimp only[List.set];refine aD ?_;obtain⟨V,X⟩:∃V:eA,V={L with w1:=(some ⟨C,0,none⟩,(fL s (eU s z.cn)).d.length),w2:=(some ⟨B,0,none⟩,(fL s (eU s z.cn)).c.length),w3:=(some ⟨o,0,none⟩,(pT s z).l.length),st:=(As,cs)}:=⟨_,rfl⟩
 refine aZ [1,2,3,0,6,8,9] ?_;refine Ah ?_;refine tH (q:=HP.cO (xP V (pT s z)) (xP.le (L:=V) (x:=pT s z))) 0 rfl (fun F w K=>?_) ?_
 .obtain⟨G,k1,k2,_⟩:=K;subst X;exact⟨uH (c:=0) (k1 0 _ rfl) (fun b D=>k2 0 b D) (by simp[bO,pT]),uH (c:=0) (k1 1 _ rfl) (fun b D=>k2 1 b D) (by simp[bO,pT]),uH (c:=0) (k1 2 _ rfl) (fun b D=>k2 2 b D) (by simp[bO,pT])⟩
 dsimp only[List.set];refine bB 2 0 ?_;refine bB 3 1 ?_;refine aZ [6,5,2,1,0,3] ?_;refine oP ?_;refine uY ?_;refine uY ?_;refine uY ?_;refine uY ?_;refine wB 0 (f:=fun L:eA=>iR g h f L s (vG s z)) V (by subst X;rfl) ?_;dsimp only[List.set];subst Vb;exact gF 0 hF
end
def tN{w0:World}{R:List Piece}{H:List HP}{g h f:Nat}{L:eA}{s:aI}{z:bA}(i:Nat){o:Nat}{v:Value}(hi:H[i]? =some (iR g h f L s z))(c:(oK h f L s z)[o]? =some v):Rd w0 R H g o v:=fun w st=>by
 have:=(st.aDC i hi).r0.at_ c
 rw[mA] at this;exact this.2
def T3(j:Nat):Prop:=j=0\/j=1\/j=2
def Jr{h f:Nat}{L:eA}{s:aI}{z:bA}{j k:Nat}{v:Value}(hj:T3 j)(d:(tkC (z.tk j))[k]? =some v):(oK h f L s z)[10+13*j+k]? =some v:=by
 have e:k < 13:=by
  have:=(cE.1 d).1
  simpa[tkC] using this
 have c:k=0\/k=1\/k=2\/k=3\/k=4\/k=5\/k=6\/k=7\/k=8\/k=9\/k=10\/k=11\/k=12:=by omega
 rcases hj with rfl | rfl | rfl<;>rcases c with rfl | rfl | rfl | rfl | rfl | rfl | rfl | rfl | rfl | rfl | rfl | rfl | rfl<;>exact d
def aAS{t:uG}{i:Nat}(hi:i < 6):(tkC t)[7+i]? =some (iv (hG t i)):=by
 have c:i=0\/i=1\/i=2\/i=3\/i=4\/i=5:=by omega
 rcases c with rfl | rfl | rfl | rfl | rfl | rfl<;>rfl
def aEP{t:uG}{i k:Nat}{v:Int}(hl:t.hs.length=6)(hi:i < 6):hG {t with hs:=t.hs.set i v} k=if i=k then v else hG t k:=by
 show(t.hs.set i v).getD k 0=_
 rw[mZ,gX];split
 .rename_i e
  subst e;rw[aH aA];rfl
 .show _=t.hs.getD k 0
  rw[mZ]
def aHC{h f:Nat}{L:eA}{s:aI}{z:bA}{j i:Nat}{v:Int}(hj:T3 j)(hi:i < 6)(hl:(z.tk j).hs.length=6):(oK h f L s z).set (10+13*j+7+i) (iv v)=oK h f L s (z.iX j {z.tk j with hs:=(z.tk j).hs.set i v}):=by
 have hs:=fun k=>aEP (t:=z.tk j) (k:=k) (v:=v) hl hi
 have c:i=0\/i=1\/i=2\/i=3\/i=4\/i=5:=by omega
 rcases hj with rfl | rfl | rfl<;>rcases c with rfl | rfl | rfl | rfl | rfl | rfl<;>simp[oK,bA.iX,bA.tk] at hs|- <;>simp[hs]
theorem aDG{h f:Nat}{L:eA}{s:aI}{z:bA}:(oK h f L s z).length=55:=rfl
structure aGl(t:uG):Prop where
 len:t.hs.length=6
 bd:∀i,0<=hG t i/\hG t i<=1000000
def rO(t:uG)(i:Nat)(k:Int):uG:={t with hs:=t.hs.set i (hG t i+k)}
def Ds(s:aI)(z:bA)(j:Nat):Int×bA:=if(lC (dS s).length z.cn (z.tk j).dev).1≠0 then((lC (dS s).length z.cn (z.tk j).dev).1,z) else(0,vG s {z.iX j (rO (z.tk j) (z.tk j).dev.toNat 1) with cn:=(lC (dS s).length z.cn (z.tk j).dev).2})
def zK(s:aI)(z:bA)(j:Nat):Int×bA:=if bJ s.aG.length (z.tk j).dev=false then(4,z) else if hG (z.tk j) (z.tk j).dev.toNat=0 then(6,z) else if(mS (dS s).length z.cn (z.tk j).dev).1≠0 then((mS (dS s).length z.cn (z.tk j).dev).1,z) else(0,vG s {z.iX j (rO (z.tk j) (z.tk j).dev.toNat (-1)) with cn:=(mS (dS s).length z.cn (z.tk j).dev).2})
def zA(s:aI)(z:bA):Int×bA:=if(qF z.cn).1≠0 then((qF z.cn).1,z) else(0,vG s {z with cn:=(qF z.cn).2})
def zD(s:aI)(z:bA):Int×bA:=if(qG z.cn).1≠0 then((qG z.cn).1,z) else(0,vG s {z with cn:=(qG z.cn).2})
def aKE{n:Nat}{c:Cn}{d:Int}(h:(lC n c d).1≠0):(lC n c d).2=c:=by
 unfold lC at h|-
 repeat' split
 all_goals first | rfl | (simp_all;done)
def aAf{n:Nat}{c:Cn}{d:Int}(h:(lC n c d).1=0):0<=d/\d < n:=by
 unfold lC at h;split at h
 .simp at h
 .split at h
  .simp at h
  .rename_i e
   exact Tp.1 e
def aKu{n:Nat}{c:Cn}{d:Int}(h:(mS n c d).1≠0):(mS n c d).2=c:=by
 unfold mS at h|-
 repeat' split
 all_goals first | rfl | (simp_all;done)
def aUV{c:Cn}(h:(qF c).1≠0):(qF c).2=c:=by
 unfold qF at h|-;split
 .rfl
 .simp_all
def aUW{c:Cn}(h:(qG c).1≠0):(qG c).2=c:=by
 unfold qG at h|-;split
 .simp_all
 .rfl
section
variable(g h f:Nat)(s:aI)(z:bA)(w:World)(F:Nat->Prop)
def aPa(hm:s.made)(l:z.wn.of s)(a:Value)(hp:(lF g h f s z).sat F w)(hF:∀b,F b->b < w.heap.size):
  Cz 282 #[.agg #[],pt g,a] w (Wr (iv (zA s z).1) (lF g h f s (zA s z).2) w F):=by
 unfold zA;refine oQ func282 ntmps282 hp hF ?_;refine iG fun m=>?_;refine kF 1 fun L=>?_;refine kd (bT rfl (tN 1 rfl rfl)) ?_;refine bB 1 3 ?_;refine gH 0 (pR L.gc L.gm (.slice L.nd.1 (dS s).length L.nd.2) (qF z.cn).2) (fun i d t j e k=>aKx L.gc L.gm (dS s).length L.nd.2 L.nd.1 z.cn i d j e) ?_;refine bP (fun c=>?_) (fun c=>?_)
 .rw[aH c,aUV c];refine aD ?_;refine aP 1 3 ?_;refine dN 1 (fun L:eA=>iR g h f L s z) L ?_;exact cJ 1 hF
 .rw[aC c];refine aP 1 3 ?_;refine dN 1 (fun L:eA=>iR g h f L s {z with cn:=(qF z.cn).2}) L ?_;refine aD ?_;refine gH 1 (lF g h f s (vG s {z with cn:=(qF z.cn).2})) (fun i d t j e k=>aBe g h f s _ i d hm l j e) ?_;exact cJ 1 hF
def aPd(hm:s.made)(l:z.wn.of s)(a:Value)(hp:(lF g h f s z).sat F w)(hF:∀b,F b->b < w.heap.size):
  Cz 283 #[.agg #[],pt g,a] w (Wr (iv (zD s z).1) (lF g h f s (zD s z).2) w F):=by
 unfold zD;refine oQ func283 ntmps283 hp hF ?_;refine iG fun m=>?_;refine kF 1 fun L=>?_;refine kd (bT rfl (tN 1 rfl rfl)) ?_;refine bB 1 3 ?_;refine gH 0 (pR L.gc L.gm (.slice L.nd.1 (dS s).length L.nd.2) (qG z.cn).2) (fun i d t j e k=>aKy L.gc L.gm (dS s).length L.nd.2 L.nd.1 z.cn i d j e) ?_;refine bP (fun c=>?_) (fun c=>?_)
 .rw[aH c,aUW c];refine aD ?_;refine aP 1 3 ?_;refine dN 1 (fun L:eA=>iR g h f L s z) L ?_;exact cJ 1 hF
 .rw[aC c];refine aP 1 3 ?_;refine dN 1 (fun L:eA=>iR g h f L s {z with cn:=(qG z.cn).2}) L ?_;refine aD ?_;refine gH 1 (lF g h f s (vG s {z with cn:=(qG z.cn).2})) (fun i d t j e k=>aBe g h f s _ i d hm l j e) ?_;exact cJ 1 hF
def aPh(hm:s.made)(D:z.wn.of s)(j:Nat)(hj:T3 j)(hk:aGl (z.tk j))(hp:(lF g h f s z).sat F w)(hF:∀b,F b->b < w.heap.size):
  Cz 256 #[.agg #[],pt g,.pointer (some ⟨g,10+13*j,none⟩)] w (Wr (iv (Ds s z j).1) (lF g h f s (Ds s z j).2) w F):=by
 have x:=hm.nv
 have H:=Uc s
 have C:j<=2:=by rcases hj with rfl | rfl | rfl<;>decide
 unfold Ds;refine oQ func256 ntmps256 hp hF ?_;refine iG fun I=>?_;refine kF 1 fun L=>?_;refine cG (bT rfl (tN 1 rfl (Jr (k:=2) hj rfl))) ?_;refine kd (bT rfl (tN 1 rfl rfl)) ?_;refine bB 1 3 ?_;refine aD ?_;refine gH 0 (pR L.gc L.gm (.slice L.nd.1 (dS s).length L.nd.2) (lC (dS s).length z.cn (z.tk j).dev).2) (fun p l t r o y=>aK1 L.gc L.gm (dS s).length L.nd.2 L.nd.1 z.cn p l (z.tk j).dev r o) ?_;refine bP (fun e=>?_) (fun e=>?_)
 .rw[aH e,aKE e];refine aD ?_;refine aP 1 3 ?_;refine dN 1 (fun L:eA=>iR g h f L s z) L ?_;exact cJ 1 hF
 .rw[aC e];obtain⟨E,G⟩:=aAf (Tp.1 e);obtain⟨dv,d⟩:∃n:Nat,(z.tk j).dev=(n:Int):=⟨(z.tk j).dev.toNat,aA⟩
  have c:dv < 6:=by omega
  have B:=hk.bd dv
  refine aP 1 3 ?_;refine bB 1 0 ?_;generalize A:(lC (dS s).length z.cn (z.tk j).dev).2=c2
  have hcell:(oK h f L s z)[10+13*j+7+dv]? =some (iv (hG (z.tk j) dv)):=by
   rw[wT];exact Jr hj (aAS c)
  have m:rO (z.tk j) (z.tk j).dev.toNat (1)={z.tk j with hs:=(z.tk j).hs.set dv (hG (z.tk j) dv+1)}:=by
   unfold rO;rw[show(z.tk j).dev.toNat=dv by omega]
   all_goals rfl
  have jE:=aHC (h:=h) (f:=f) (L:=L) (s:=s) (z:=z) (i:=dv) (v:=hG (z.tk j) dv+1) hj c hk.len
  rw[m];refine aD ?_;refine kO [2,3,4,5,6,7,8] ?_;refine bU 0 ?_;refine bU 1 ?_;refine aQ 2 ?_;refine aQ 3 ?_;refine aQ 4 ?_ (hi:=rfl) (bL:=iA dv (10+13*j+7+dv) (hj:=d) (hlt:=c) (ho:=aA));refine aQ 5 ?_ (hi:=rfl) (bL:=bT rfl (Rd.aK 0 rfl hcell));refine aQ 6 ?_;refine aQ 7 ?_;refine aQ 8 ?_;refine aR 9 ?_;refine kd (iA dv (10+13*j+7+dv) (hj:=d) (hlt:=c) (ho:=aA)) ?_;refine cT ?_;refine aR 10 ?_;refine jD rfl rfl ?_ (hs:=dR.mk 0 rfl dK.h rfl (by rw[aDG];omega));dsimp only[List.set];rw[jE];refine cT ?_;refine lW ?_;refine aP 1 0 ?_;refine dN 1 (fun L:eA=>iR g h f L s {z.iX j {z.tk j with hs:=(z.tk j).hs.set dv (hG (z.tk j) dv+1)} with cn:=c2}) L ?_;refine aD ?_;refine gH 1 (lF g h f s (vG s {z.iX j {z.tk j with hs:=(z.tk j).hs.set dv (hG (z.tk j) dv+1)} with cn:=c2})) (fun p l t r o y=>aBe g h f s _ p l hm D r o) ?_;exact cJ 1 hF
def aPe(hm:s.made)(J:z.wn.of s)(j:Nat)(hj:T3 j)(hk:aGl (z.tk j))(hp:(lF g h f s z).sat F w)(hF:∀b,F b->b < w.heap.size):
  Cz 274 #[.agg #[],pt g,.pointer (some ⟨g,10+13*j,none⟩)] w (Wr (iv (zK s z j).1) (lF g h f s (zK s z j).2) w F):=by
 have C:=hm.nv
 have K:=Uc s
 have H:j<=2:=by rcases hj with rfl | rfl | rfl<;>decide
 unfold zK;refine oQ func274 ntmps274 hp hF ?_;refine iG fun M=>?_;refine kF 1 fun L=>?_;refine cG (bT rfl (tN 1 rfl (Jr (k:=2) hj rfl))) ?_;refine cM (fun m t=>aPj g h f L s z m (z.tk j).dev (t.aDC 1 rfl)) ?_;cases y:bJ s.aG.length (z.tk j).dev
 .refine aD ?_;refine dN 1 (fun L:eA=>iR g h f L s z) L ?_;exact cJ 1 hF
 have I:=eV y
 obtain⟨dv,e⟩:∃n:Nat,(z.tk j).dev=(n:Int):=⟨(z.tk j).dev.toNat,aA⟩
 have c:dv < 6:=by omega
 have G:=hk.bd dv
 have d:(oK h f L s z)[10+13*j+7+dv]? =some (iv (hG (z.tk j) dv)):=by
  rw[wT];exact Jr hj (aAS c)
 rw[aC aB];refine aD ?_;refine kd (iA dv (10+13*j+7+dv) (hj:=e) (hlt:=c) (ho:=aA)) ?_;refine cG (bT rfl (tN 1 rfl d)) ?_
 have l:(z.tk j).dev.toNat=dv:=by omega
 refine bP (fun B=>?_) (fun B=>?_)
 .rw[aH (by rw[l];exact B)];refine aD ?_;refine dN 1 (fun L:eA=>iR g h f L s z) L ?_;exact cJ 1 hF
 rw[aC (by rw[l];exact B)];refine aD ?_;refine kd (bT rfl (tN 1 rfl rfl)) ?_;refine bB 1 3 ?_;refine aD ?_;refine gH 0 (pR L.gc L.gm (.slice L.nd.1 (dS s).length L.nd.2) (mS (dS s).length z.cn (z.tk j).dev).2) (fun m p t A x D=>aKz L.gc L.gm (dS s).length L.nd.2 L.nd.1 z.cn m p (z.tk j).dev A x) ?_;refine bP (fun o=>?_) (fun o=>?_)
 .rw[aH o,aKu o];refine aD ?_;refine aP 1 3 ?_;refine dN 1 (fun L:eA=>iR g h f L s z) L ?_;exact cJ 1 hF
 .rw[aC o];refine aP 1 3 ?_;refine bB 1 0 ?_;generalize E:(mS (dS s).length z.cn (z.tk j).dev).2=c2
  have hcell:(oK h f L s z)[10+13*j+7+dv]? =some (iv (hG (z.tk j) dv)):=by
   rw[wT];exact Jr hj (aAS c)
  have r:rO (z.tk j) (z.tk j).dev.toNat (-1)={z.tk j with hs:=(z.tk j).hs.set dv (hG (z.tk j) dv - 1)}:=by
   unfold rO;rw[show(z.tk j).dev.toNat=dv by omega]
   all_goals rfl
  have jE:=aHC (h:=h) (f:=f) (L:=L) (s:=s) (z:=z) (i:=dv) (v:=hG (z.tk j) dv - 1) hj c hk.len
  rw[r];refine aD ?_;refine kO [2,3,4,5,6,7,8] ?_;refine bU 0 ?_;refine bU 1 ?_;refine aQ 2 ?_;refine aQ 3 ?_;refine aQ 4 ?_ (hi:=rfl) (bL:=iA dv (10+13*j+7+dv) (hj:=e) (hlt:=c) (ho:=aA));refine aQ 5 ?_ (hi:=rfl) (bL:=bT rfl (Rd.aK 0 rfl hcell));refine aQ 6 ?_;refine aQ 7 ?_;refine aQ 8 ?_;refine aR 9 ?_;refine kd (iA dv (10+13*j+7+dv) (hj:=e) (hlt:=c) (ho:=aA)) ?_;refine cT ?_;refine aR 10 ?_;refine jD rfl rfl ?_ (hs:=dR.mk 0 rfl dK.h rfl (by rw[aDG];omega));dsimp only[List.set];rw[jE];refine cT ?_;refine lW ?_;refine aP 1 0 ?_;refine dN 1 (fun L:eA=>iR g h f L s {z.iX j {z.tk j with hs:=(z.tk j).hs.set dv (hG (z.tk j) dv - 1)} with cn:=c2}) L ?_;refine aD ?_;refine gH 1 (lF g h f s (vG s {z.iX j {z.tk j with hs:=(z.tk j).hs.set dv (hG (z.tk j) dv - 1)} with cn:=c2})) (fun m p t A x D=>aBe g h f s _ m p hm J A x) ?_;exact cJ 1 hF
end
def aX9(d:bR)(vs:List Value):Prop:=∃A k e f c,vs=[iv d.clock,iv d.domain,iv d.reset,.int .u32 d.zX,.slice A d.aX.length k,.slice e f c]
structure aM4(s:aI)(rows:List (List Value)):Prop where
 row:∀(i:Nat) (d:bR),s.aG[i]? =some d->∃r,rows[i]? =some r/\aX9 d r
 len:∀r∈rows,r.length=6
def Lt(L:eA)(s:aI)(rows:List (List Value))(p:Piece):Prop:=oY L s p/\aO p 6 L.a4.1 s.aG.length rows.flatten
def Lt.le{L:eA}{s:aI}{rows:List (List Value)}(p q:Piece)(hl:p.Le q)(h:Lt L s rows p):Lt L s rows q:=⟨oY.le p q hl h.1,h.2.le hl⟩
def aHG{α:Type}{R:α->List Value->Prop}{sz:Nat}:∀{es:List α} {c:List (List Value)},Rows R sz es c->∀(i:Nat) (e:α),es[i]? =some e->∃r,c[i]? =some r/\r.length=sz/\R e r
 | [],[],_,i,e,h=>by simp at h
 | a::es,r::c,h,0,e,he=>by
  simp at he;subst he;exact⟨r,rfl,h.1,h.2.1⟩
 | a::es,r::c,h,i+1,e,he=>aHG h.2.2 i e (by simpa using he)
section
variable{L:eA}
def aWO(i:Nat)(hi:H[i]? =some (HP.cO (oY L s) (oY.le (L:=L) (s:=s))))(k:∀rows,aM4 s rows->XK N w0 K e R (H.set i (HP.cO (Lt L s rows) (Lt.le (L:=L) (s:=s) (rows:=rows))))):XK N w0 K e R H:=fun a w h st=>by
 obtain⟨F,m,f,_,t⟩:=st.chunk hi;obtain⟨rows,c,p,j⟩:=(m:oY L s ⟨w,F⟩).dev;refine k rows ⟨fun i d hd=>?_,fun r h=>Rows.aCz c r h⟩ a w h (t w F _ (show Lt L s rows ⟨w,F⟩ from⟨m,j⟩) ⟨rfl,rfl,rfl,gE _,fun b l=>⟨.inl l,f b l⟩,fun _ _ _=>rfl⟩);obtain⟨r,z,_,A,n,q,o,C,B,x,y,_⟩:=aHG c i d hd;subst y;exact⟨r,z,A,q,o,C,B,x⟩
def Rd.dev(i:Nat){rows:List (List Value)}{j k b off:Nat}{r:List Value}{v:Value}{hm:∀p q:Piece,p.Le q->Lt L s rows p->Lt L s rows q}(hi:H[i]? =some (HP.cO (Lt L s rows) hm))(c:aM4 s rows)(m:L.a4.1=some ⟨b,off,none⟩)(e:rows[j]? =some r)(hj:j < s.aG.length)(d:r[k]? =some v):Rd w0 R H b (off+j*6+k) v:=by
 have f:k < 6:=by
  have n:=c.len r (dJ e)
  have:=(cE.1 d).1
  omega
 have l:=Nh (fun x=>x) 6 rows c.len j k r e f
 have:=Rd.cO (w0:=w0) (R:=R) (xs:=rows.flatten) (j:=j*6+k) (v:=v) i hi (fun p h=>h.2) m aA (by simpa[d] using l)
 rwa [<-wT] at this
end
def aPk(g h f:Nat)(L:eA)(s:aI)(z:bA)(w:World)(d:Int)(c:eL w g 0 (oK h f L s z)):Cz 275 #[pt g,iv d] w (Rt (.bool (bJ s.aG.length d)) w):=by
 have e:=c.at_ (j:=5) rfl
 refine bQ func275 ntmps275 ?_;refine cH (t:=7) rfl (fun h=>?_) (fun h=>?_)
 .refine aD ?_;refine lD aB ?_;unfold bJ
  congr 1
  simp;omega
 .refine aD ?_;refine lD aB ?_
  have:bJ s.aG.length d=false:=gW aA
  rw[this]
def De(s:aI)(d:Int):Int:=((s.aG[d.toNat]?).map fun d=>(d.aX.length:Int)).getD 0
def Cf(s:aI)(t:uG):Prop:=bJ s.aG.length t.dev=false\/t.bF < 0\/De s t.dev<=t.bF
instance(s:aI)(t:uG):Decidable (Cf s t):=by unfold Cf;infer_instance
def mE(s:aI)(x:aS)(z:bA)(j:Nat)(c:Bool):Int×bA×aS:=
 if Cf s (z.tk j) then(4,z,x) else if hG (z.tk j) (z.tk j).dev.toNat=0\/z.cn.lU=true then(6,z,x)
 else if tT x (z.tk j).dev.toNat=114 then(0,{z with aV:=true,id:=x.aV},Mv x (z.tk j).dev.toNat c (z.tk j).bF (z.tk j).val) else(6,z,x)
def Of(g f:Nat)(hL:HL)(s:aI)(z:bA)(x:aS):HP:=HP.many [lF g hL.h f s z,eH hL s x]
section
variable(g f:Nat)(hL:HL)(s:aI)(z:bA)(x:aS)(w:World)(F:Nat->Prop)
def aHD(hm:s.made)(M:iS hL s)(J:dF s x)(hw0:∀i:Nat,(x.wt[i]?).join=none)(U:0<=x.aV/\x.aV<=1000000000)(j:Nat)(hj:T3 j)(B:Bool)(hp:(Of g f hL s z x).sat F w)(hF:∀b,F b->b < w.heap.size)(C:gJ ⟨w,fun b=>b < w.heap.size/\¬F b⟩):
  Cz 276 #[.agg #[.bool B],pt g,.pointer (some ⟨g,10+13*j,none⟩)] w (Wr (iv (mE s x z j B).1) (Of g f hL s (mE s x z j B).2.1 (mE s x z j B).2.2) w F):=by
 have I:=hm.nv
 have hH:=hm.dM
 have hj2:j<=2:=by rcases hj with rfl | rfl | rfl<;>decide
 unfold mE;refine fS func276 ntmps276 hp hF ?_;generalize e:(⟨w,fun b=>b < w.heap.size/\¬F b⟩:Piece)=R0 at C|-;refine bB 0 1 ?_;refine bB 1 0 ?_;refine kF 0 fun L=>?_;refine aD ?_;refine iG fun g1=>?_;refine kd (nQ (vs:=[.int .u8 (z.tk j).kind,iv (z.tk j).dev,iv (z.tk j).bF,.int .u32 (z.tk j).val]) rfl (cI.of fun k v hv=>tN 1 rfl ?_)) ?_
 .have hk:k < 4:=by simpa using(cE.1 hv).1
  have O:k=0\/k=1\/k=2\/k=3:=by omega
  have:=Jr (h:=hL.h) (f:=f) (L:=L) (s:=s) (z:=z) (j:=j) (k:=1+k) (v:=v) hj (by rcases O with rfl | rfl | rfl | rfl<;>exact hv)
  rwa [<-wT] at this
 refine kK fun g7=>?_;refine bB 2 1 ?_;refine bB 3 0 ?_
 have hj7:10+13*j+7 < 55:=by omega
 refine aWO 1 rfl fun rows hq=>?_;dsimp only[List.set];refine aWI (A:=L.a4.1) (sz:=6) (n:=s.aG.length) (xs:=rows.flatten) 1 rfl (fun _ h=>h.2) fun b off V=>?_;refine aD ?_;refine oU ?_;refine kU ?_;refine xK (fun o t=>aPk g hL.h f L s z o (z.tk j).dev (yR (t.aK (i:=0) rfl))) ?_;cases D:bJ s.aG.length (z.tk j).dev
 .refine kM ?_;rw[aH (show Cf s (z.tk j) from .inl D)];refine aD ?_;refine tH (q:=HP.cO (oY L s) (oY.le (L:=L) (s:=s))) 1 rfl (fun F w p=>p.1) ?_;dsimp only[List.set];refine aP 3 0 ?_;refine aP 2 1 ?_;refine dN 2 (fun L:eA=>iR g hL.h f L s z) L ?_;refine aZ [2,3,4] ?_;refine aP 1 0 ?_;refine aP 0 1 ?_;subst e;exact cJ 0 hF
 .have Zi:=eV D
  have V:=V aA
  obtain⟨dv,y⟩:∃n:Nat,(z.tk j).dev=(n:Int):=⟨(z.tk j).dev.toNat,aA⟩
  have H:(z.tk j).dev.toNat=dv:=by omega
  obtain⟨d,m⟩:=get_some (l:=s.aG) (i:=dv) aA
  have R:De s (z.tk j).dev=d.aX.length:=by
   unfold De;rw[H,m];rfl
  obtain⟨r,hr,A,k,A',n',k',rfl⟩:=hq.row dv d m;refine kU ?_;refine Rj 26 rfl (fun N=>?_) (fun hnn=>?_)
  .refine kM ?_;rw[aH (show Cf s (z.tk j) from .inr (.inl N))];refine aD ?_;refine tH (q:=HP.cO (oY L s) (oY.le (L:=L) (s:=s))) 1 rfl (fun F w p=>p.1) ?_;dsimp only[List.set];refine aP 3 0 ?_;refine aP 2 1 ?_;refine dN 2 (fun L:eA=>iR g hL.h f L s z) L ?_;refine aZ [2,3,4] ?_;refine aP 1 0 ?_;refine aP 0 1 ?_;subst e;exact cJ 0 hF
  .refine kU ?_;refine Ed (dat dv (off+dv*6) (hx:=by rw[<-V];rfl) (hj:=y)) ?_;refine kU ?_;refine Ed (bT rfl (Rd.dev 1 rfl hq V hr aA rfl)) ?_;refine kM ?_;refine aD ?_;refine dD rfl (fun Y=>?_) (fun K=>?_)
   .rw[aH (show Cf s (z.tk j) from .inr (.inr (by rw[R];exact Y)))];refine aD ?_;refine tH (q:=HP.cO (oY L s) (oY.le (L:=L) (s:=s))) 1 rfl (fun F w p=>p.1) ?_;dsimp only[List.set];refine aP 3 0 ?_;refine aP 2 1 ?_;refine dN 2 (fun L:eA=>iR g hL.h f L s z) L ?_;refine aZ [2,3,4] ?_;refine aP 1 0 ?_;refine aP 0 1 ?_;subst e;exact cJ 0 hF
   .have G:¬Cf s (z.tk j):=by
     unfold Cf;rw[D,R];rintro(h | h | h)
     .cases h
     .exact hnn h
     .exact K h
    have hcell:(oK hL.h f L s z)[10+13*j+7+dv]? =some (iv (hG (z.tk j) dv)):=by
     rw[wT];exact Jr hj (aAS aA)
    rw[aC G];refine tH (q:=HP.cO (oY L s) (oY.le (L:=L) (s:=s))) 1 rfl (fun F w p=>p.1) ?_;dsimp only[List.set];refine aP 3 0 ?_;refine aP 2 1 ?_;refine aD ?_;refine oU ?_;refine kU ?_;refine Ed (iA dv (10+13*j+7+dv) (hj:=y) (hlt:=aA) (ho:=aA)) ?_;refine Ed (bT rfl (tN 2 rfl hcell)) ?_;refine kU ?_;refine Rj 51 rfl (fun h0=>?_) (fun h0=>?_)
    .refine kM ?_;rw[aH (show hG (z.tk j) (z.tk j).dev.toNat=0\/z.cn.lU=true from .inl (by rw[H];exact h0))];refine aD ?_;refine dN 2 (fun L:eA=>iR g hL.h f L s z) L ?_;refine aZ [2,3,4] ?_;refine aP 1 0 ?_;refine aP 0 1 ?_;subst e;exact cJ 0 hF
    .refine kU ?_;refine Ed (bT rfl (tN 2 rfl rfl)) ?_;refine kU ?_;refine xK (fun o t=>aK2 L.gc z.cn.lU o ((t.aDC 2 rfl).cn.at_ (j:=2) rfl)) ?_;cases aXX:z.cn.lU
     .refine kM ?_;refine aD ?_
      have aXQ:=(cE.1 m).1
      have hrl:=(hm.aG dv d m).2.2.2.2.2.2.2.2.1
      have E:0<=(z.tk j).bF:=by omega
      have T:(z.tk j).bF < d.aX.length:=by omega
      have Z:¬(hG (z.tk j) dv=0\/false=true):=by
       rintro(h | h)
       .exact h0 h
       .cases h
      rw[H,aC Z];refine aD ?_;refine cR (fun o t=>aVH (z.tk j).dev (z.tk j).bF ⟨aA,aA⟩ ⟨E,aA⟩ o) ?_
      by_cases c:tT x dv=114
      .rw[aH c];refine aZ [3,0,1,2,4] ?_;refine Lj [1,2,3,5,6,7,8,11,12] ?_;refine bU 0 ?_;refine aQ 1 ?_;refine aQ 2 ?_;refine aQ 3 ?_ (hi:=rfl) (bL:=bT rfl (tN 3 rfl rfl));refine bU 4 ?_;refine aQ 5 ?_;refine aQ 6 ?_;refine aQ 7 ?_;refine aQ 8 ?_;refine aR 9 ?_
       refine aBF (v:=.tuple #[iv x.aV,iv 0]) 0 (eH hL s (Mv x dv B (z.tk j).bF (z.tk j).val)) (fun o F1 t X O h3=>by
        have:=aJm hL s x o hH M J dv d m (hw0 dv) I.2 (z.tk j).bF ⟨E,aA,T⟩ B (z.tk j).val U F1 X O (gJ.le C (h3 _ aB))
        rw[aH c,aH c,<-y] at this
        exact this) ?_
       dsimp only[List.set];refine bH ?_;refine aR 10 ?_;refine bN ?_;refine bH ?_;refine aQ 11 ?_;refine aQ 12 ?_;refine aR 13 ?_;refine bN ?_;refine bH ?_;refine aR 14 ?_;refine bN ?_;refine bH ?_;refine lW ?_;refine aZ [1,2,3,0,4] ?_;refine bB 2 0 ?_;refine aD ?_;refine jD rfl rfl ?_ (hs:=dR.mk 0 rfl dK.h rfl (eV rfl));dsimp only[List.set];refine aD ?_;refine jD rfl rfl ?_ (hs:=dR.mk 0 rfl dK.h rfl (eV rfl));dsimp only[List.set];refine aD ?_;refine aP 2 0 ?_;refine dN 2 (fun L:eA=>iR g hL.h f L s {z with aV:=true,id:=x.aV}) L ?_;refine aZ [2,3,4] ?_;refine aP 1 0 ?_;refine aP 0 1 ?_;subst e;exact cJ 0 hF
      .rw[aC c];refine aZ [3,0,1,2,4] ?_;refine Lj [1,2,3,5,6,7,8,11,12] ?_;refine bU 0 ?_;refine aQ 1 ?_;refine aQ 2 ?_;refine aQ 3 ?_ (hi:=rfl) (bL:=bT rfl (tN 3 rfl rfl));refine bU 4 ?_;refine aQ 5 ?_;refine aQ 6 ?_;refine aQ 7 ?_;refine aQ 8 ?_;refine aR 9 ?_
       refine aBF (v:=.tuple #[iv 0,iv 6]) 0 (eH hL s x) (fun o F1 t X O h3=>by
        have:=aJm hL s x o hH M J dv d m (hw0 dv) I.2 (z.tk j).bF ⟨E,aA,T⟩ B (z.tk j).val U F1 X O (gJ.le C (h3 _ aB))
        rw[aC c,aC c,<-y] at this
        exact this) ?_
       dsimp only[List.set];refine bH ?_;refine aR 10 ?_;refine bN ?_;refine bH ?_;refine aQ 11 ?_;refine aQ 12 ?_;refine aR 13 ?_;refine bN ?_;refine bH ?_;refine aR 14 ?_;refine bN ?_;refine bH ?_;refine lW ?_;refine aZ [1,2,3,0,4] ?_;refine aD ?_;refine dN 2 (fun L:eA=>iR g hL.h f L s z) L ?_;refine aZ [2,3,4] ?_;refine aP 1 0 ?_;refine aP 0 1 ?_;subst e;exact cJ 0 hF
     .refine kM ?_;rw[aH (.inr rfl)];refine aD ?_;refine dN 2 (fun L:eA=>iR g hL.h f L s z) L ?_;refine aZ [2,3,4] ?_;refine aP 1 0 ?_;refine aP 0 1 ?_;subst e;exact cJ 0 hF
end
def aBU{P:Program}{fn:FuncId}{args:Array Value}{w:World}{p p' q:HP}{v:Value}{F:Nat->Prop}(h:∀F,p.sat F w->(∀b,F b->b < w.heap.size)->Calls P fn args w fun y w'=>y=.returned v/\∃e,p'.sat e w'/\jG w w' F e)
  (hp:(HP.many [p,q]).sat F w) (hF:∀b,F b->b < w.heap.size):Calls P fn args w fun y w'=>y=.returned v/\∃e,(HP.many [p',q]).sat e w'/\jG w w' F e:=by
 obtain⟨G,D,m,C⟩:=hp
 have A:=D 0 p rfl
 have z:=D 1 q rfl
 refine(h (G 0) A fun b c=>hF b (m 0 b c)).mono fun y w' ⟨E,e,H,d⟩=>⟨E,fun b=>e b\/G 1 b,⟨fun i=>match i with | 0=>e | 1=>G 1 | _=>fun _=>False,fun i r f=>?_,fun i b c=>?_,fun i j b o l k=>?_⟩,⟨d.os,d.tape,d.output,d.size,fun b c=>?_,fun b c I=>?_⟩⟩
 .match i,f with
  | 0,f=>cases f;exact H
  | 1,f=>cases f;exact q.loc _ _ _ z fun b c=>d.old b (hF b (m 1 b c)) fun x=>C 0 1 b aE x c
  | i+2,f=>simp at f
 .match i,c with
  | 0,c=>exact .inl c
  | 1,c=>exact .inr c
  | i+2,c=>exact c.elim
 .have t:∀b,e b->G 1 b->False:=fun b x B=>by
   rcases(d.new b x).1 with n | n
   .exact C 0 1 b aE n B
   .have:=hF b (m 1 b B)
    omega
  match i,j,l,k with
  | 0,0,_,_=>exact absurd rfl o
  | 0,1,l,k=>exact t b l k
  | 1,0,l,k=>exact t b k l
  | 1,1,_,_=>exact absurd rfl o
  | i+2,_,l,_=>exact l.elim
  | _,j+2,_,k=>exact k.elim
 .rcases c with c | c
  .refine⟨?_,(d.new b c).2⟩;rcases(d.new b c).1 with n | n
   .exact .inl (m 0 b n)
   .exact .inr n
  .exact⟨.inl (m 1 b c),jC (hF b (m 1 b c)) d.size⟩
 .exact d.old b c fun x=>I (m 0 b x)
structure Ww(s:aI)(z:bA):Prop where
 wn:z.wn.of s
 hs:∀j,T3 j->aGl (z.tk j)
structure HwP(s:aI)(x:aS):Prop where
 ok:dF s x
 w0:∀i:Nat,(x.wt[i]?).join=none
 po:0<=x.aV/\x.aV<=1000000000
def kL(s:aI)(x:aS)(z:bA)(j:Nat)(k:Int):Int×bA×aS:=
 if k=103 then((Ds s z j).1,(Ds s z j).2,x) else if k=112 then((zK s z j).1,(zK s z j).2,x) else if k=114 then mE s x z j false else if k=119 then mE s x z j true else if k=115 then((zA s z).1,(zA s z).2,x) else((zD s z).1,(zD s z).2,x)
def aTB{k:Int}(hk:uC k):∃(t:TypeId) (u y:Value) (fn:FuncId),Vo k=.iface t u/\(∀w,(method (Tryz.prog.types.size+Made.depth) t u "catnap/rpm.begin").run Tryz.prog w=.ok (fn,y) w)/\fW Tryz.prog fn=true/\
  ∀(g f:Nat) (hL:HL) (s:aI) (z:bA) (x:aS) (w:World) (F:Nat->Prop) (j:Nat),s.made->iS hL s->HwP s x->Ww s z->T3 j->(Of g f hL s z x).sat F w->(∀b,F b->b < w.heap.size)->gJ ⟨w,fun b=>b < w.heap.size/\¬F b⟩->
   Cz fn #[y,pt g,.pointer (some ⟨g,10+13*j,none⟩)] w (Wr (iv (kL s x z j k).1) (Of g f hL s (kL s x z j k).2.1 (kL s x z j k).2.2) w F):=by
 rcases hk with rfl | rfl | rfl | rfl | rfl | rfl
 .exact⟨_,_,.agg #[],256,rfl,fun w=>by kernel_rfl,aJ,fun g f hL s z x w F j i c d e m l n _=>aBU (fun F r p=>aPh g hL.h f s z w F i e.wn j m (e.hs j m) r p) l n⟩
 .exact⟨_,_,.agg #[],274,rfl,fun w=>by kernel_rfl,aJ,fun g f hL s z x w F j i c d e m l n _=>aBU (fun F r p=>aPe g hL.h f s z w F i e.wn j m (e.hs j m) r p) l n⟩
 .exact⟨_,_,.agg #[.bool false],276,rfl,fun w=>by kernel_rfl,aJ,fun g f hL s z x w F j i c d e m l n o=>aHD g f hL s z x w F i c d.ok d.w0 d.po j m false l n o⟩
 .exact⟨_,_,.agg #[.bool true],276,rfl,fun w=>by kernel_rfl,aJ,fun g f hL s z x w F j i c d e m l n o=>aHD g f hL s z x w F i c d.ok d.w0 d.po j m true l n o⟩
 .exact⟨_,_,.agg #[],282,rfl,fun w=>by kernel_rfl,aJ,fun g f hL s z x w F j i c d e m l n _=>aBU (fun F r p=>aPa g hL.h f s z w F i e.wn _ r p) l n⟩
 .exact⟨_,_,.agg #[],283,rfl,fun w=>by kernel_rfl,aJ,fun g f hL s z x w F j i c d e m l n _=>aBU (fun F r p=>aPd g hL.h f s z w F i e.wn _ r p) l n⟩
def aJR(s:aI)(x:aS)(z:bA)(j:Nat)(k:Int):(kL s x z j k).2.1.cP=z.cP:=by
 unfold kL Ds zK zA zD mE
 repeat' split
 all_goals rfl
def aPl{h f:Nat}{L:eA}{s:aI}{z:bA}{j:Nat}{v:Int}(hj:T3 j):(oK h f L s z).set (10+13*j+0) (iv v)=oK h f L s (z.iX j {z.tk j with st:=v}):=by
 rcases hj with rfl | rfl | rfl<;>rfl
def nB(z:bA)(j:Nat):bA:={z.iX j {z.tk j with st:=2} with cP:=(j:Int)}
def aBv{z:bA}{j:Nat}(hj:T3 j):(nB z j).tk j={z.tk j with st:=2}:=by
 rcases hj with rfl | rfl | rfl<;>rfl
def aQ2{s:aI}{z:bA}{j:Nat}(hj:T3 j)(h:Ww s z):Ww s (nB z j):=⟨h.wn,fun i c=>by
 have d:=h.hs i c
 have e:((nB z j).tk i).hs=(z.tk i).hs:=by
  rcases hj with rfl | rfl | rfl<;>rcases c with rfl | rfl | rfl<;>rfl
 exact⟨by rw[e];exact d.len,fun k=>by
  have:=d.bd k
  unfold hG at this|-;rw[e]
  exact this⟩⟩
def gP(s:aI)(x:aS)(z:bA)(j:Nat):bA×aS:=
 let r:=kL s x (nB z j) j (z.tk j).kind
 if r.1≠0 then(qE r.2.1 j r.1 0,r.2.2) else if r.2.1.aV=false/\r.2.1.steps.length=0 then(qE r.2.1 j 0 0,r.2.2) else r.2
def aPm(g f:Nat)(hL:HL)(s:aI)(z:bA)(x:aS)(w:World)(F:Nat->Prop)(j:Nat)(hm:s.made)(y:iS hL s)(hx:HwP s x)(M:Ww s z)(hj:T3 j)(hk:uC (z.tk j).kind)(hp:(Of g f hL s z x).sat F w)(hF:∀b,F b->b < w.heap.size)(l:gJ ⟨w,fun b=>b < w.heap.size/\¬F b⟩):
  Cz 123 #[pt g,iv (j:Int)] w (Wr (.tuple #[]) (Of g f hL s (gP s x z j).1 (gP s x z j).2) w F):=by
 have K:j<=2:=by rcases hj with rfl | rfl | rfl<;>decide
 obtain⟨R,u,T,fn,J,B,G,e⟩:=aTB hk
 have D:=aQ2 hj M
 have p:=aJR s x (nB z j) j (z.tk j).kind
 unfold gP;dsimp only;refine fS func123 ntmps123 hp hF ?_;generalize c:(⟨w,fun b=>b < w.heap.size/\¬F b⟩:Piece)=R0 at l|-;refine bB 0 0 ?_;refine kF 0 fun L=>?_;refine bB 0 0 ?_;refine aD ?_;refine jD rfl rfl ?_ (hs:=dR.mk 0 rfl dK.h rfl (eV rfl));dsimp only[List.set];rw[show(oK hL.h f L s z).set (0+49) (iv (j:Int))=oK hL.h f L s {z with cP:=(j:Int)} from rfl];refine aD ?_;refine cG (iA j (10+13*j) (ho:=aA)) ?_;refine jD rfl rfl ?_ (hs:=dR.mk 0 rfl dK.h rfl (by rw[aDG];omega));dsimp only[List.set];rw[aPl hj];refine aP 0 0 ?_
 change XK _ _ _ _ _ [iR g hL.h f L s (nB z j),HP.many [cS,eH hL s x]]
 refine aD ?_;refine kd (bT rfl (tN 0 rfl (Jr (k:=1) hj rfl))) ?_;rw[aBv hj];refine cM (fun d _=>aDF (z.tk j).kind d) ?_;rw[J];refine dN 0 (fun L:eA=>iR g hL.h f L s (nB z j)) L ?_;refine aP 0 0 ?_;refine aD ?_;generalize N:kL s x (nB z j) j (z.tk j).kind=r at p|-
 refine aMP 0 (Of g f hL s r.2.1 r.2.2) G rfl B rfl rfl ⟨aE,rfl⟩ (fun d o t n m C=>by
  have:=e g f hL s (nB z j) x d o j hm y hx D hj n m (gJ.le l (C _ aB))
  rw[N] at this
  exact this) ?_
 dsimp only[List.set];obtain⟨I,i,U⟩:=r;dsimp only at p|-;refine aD ?_;refine dD rfl (fun A=>?_) (fun A=>?_)
 .rw[aH A];refine aD ?_;refine cG (fI rfl) ?_;refine bB 0 0 ?_;refine gM 0 (lF g hL.h f s (qE i j I 0)) (fun d o t n m C=>Pd g hL.h f s i d o j p hj I 0 n m) ?_;refine aP 0 0 ?_;refine aD ?_;subst c;exact gF 0 hF
 .rw[aC A];refine bB 0 0 ?_;refine kF 0 fun H=>?_;refine aD ?_;refine kd (bT rfl (tN 0 rfl rfl)) ?_;cases O:i.aV
  .refine aD ?_;refine cG (bT rfl (tN 0 rfl rfl)) ?_;refine dN 0 (fun L:eA=>iR g hL.h f L s i) H ?_;refine dD rfl (fun E=>?_) (fun E=>?_)
   .rw[aH ⟨rfl,Pn E⟩];refine aD ?_;refine cG (fI rfl) ?_;refine gM 0 (lF g hL.h f s (qE i j 0 0)) (fun d o t n m C=>Pd g hL.h f s i d o j p hj 0 0 n m) ?_;refine aP 0 0 ?_;subst c;exact gF 0 hF
   .rw[aC (fun h=>E (congrArg Int.ofNat h.2))];refine aD ?_;refine aP 0 0 ?_;subst c;exact gF 0 hF
  .refine aD ?_;rw[aC aB];refine dN 0 (fun L:eA=>iR g hL.h f L s i) H ?_;refine aP 0 0 ?_;subst c;exact gF 0 hF
def La(k:Int):Value:=
 if k=117 then .func (.func 129) #[] #[] else if k=100\/k=107 then .func (.func 130) #[] #[]
 else if k=99 then .func (.func 131) #[] #[] else if k=111 then .func (.func 132) #[] #[]
 else if k=114 then .func (.func 133) #[] #[] else .func (.func 134) #[] #[]
def aJZ(k:Int)(w:World):Cz 79 #[.int .u8 k] w (Rt (La k) w):=by
 refine bQ func79 ntmps79 ?_;refine eG (fun d=>?_) (fun d=>?_)
 .exact dP (by rw[La,aH d])
 refine eG (fun j=>?_) (fun j=>?_)
 .refine bP (fun _=>?_) (fun h=>absurd j h);refine aD ?_;exact dP (by rw[La,aC d,aH (.inl j)])
 refine bP (fun l=>?_) (fun l=>?_)
 .refine aD ?_;exact dP (by rw[La,aC d,aH (.inr l)])
 have c:¬(k=100\/k=107):=by omega
 refine aD ?_;refine eG (fun e=>?_) (fun e=>?_)
 .exact dP (by rw[La,aC d,aC c,aH e])
 refine eG (fun f=>?_) (fun f=>?_)
 .exact dP (by rw[La,aC d,aC c,aC e,aH f])
 refine eG (fun i=>?_) (fun i=>?_)
 .exact dP (by rw[La,aC d,aC c,aC e,aC f,aH i])
 exact dP (by rw[La,aC d,aC c,aC e,aC f,aC i])
def aEy{P:Program}{fn:Func}{R:Ending->World->Prop}(i:fn.results=#[]){n r:Array Value}:∀(ds:List Deferred) (u:FrameMode) (w:World),Leaves P fn n R ds u w->Leaves P fn r R ds u w
 | [],.returning,w,h=>by
  obtain⟨v,j,m⟩:=h;rw[results_none i] at j;cases j;exact⟨_,results_none i _ _ _,m⟩
 | [],.panicking _,_,h=>h
 | [],.run,_,h=>h
 | d::ds,u,w,h=>by
  obtain⟨j,t,k,f,e,m,o,p⟩:=h;refine⟨j,t,k,f,e,m,o,p.mono fun y z x l=>?_⟩;cases y with
  | returned v=>exact aEy i ds _ _ l
  | panicked c=>exact aEy i ds _ _ l
  | outgrown=>exact l
def oN{P:Program}{fn:Func}{R:Ending->World->Prop}{c:List PanicEntry}{a:Act}{d:Option Nat}{v:Value}{w:World}(f:fn.results=#[])(h:bodyPostD P fn R (.panic c) (a.put d v) w):bodyPostD P fn R (.panic c) a w:=by
 have hd:(a.put d v).defers=a.defers:=by cases d<;>rfl
 have e:Leaves P fn (a.put d v).tmps R (a.put d v).defers (.panicking c) w:=h
 rw[hd] at e;exact aEy f _ _ _ e
def aGv(f:Nat)(hL:HL)(s:aI)(z:bX)(x:aS)(r:aS×Bool):Prop:=
 ∃fn:FuncId,La z.kind=.func (.func fn) #[] #[]/\fW Tryz.prog fn=true/\dF s r.1/\∀(w:World) (F:Nat->Prop),(iW f hL s z x).sat F w->(∀b,F b->b < w.heap.size)->gJ ⟨w,fun b=>b < w.heap.size/\¬F b⟩->
  Cz fn #[pt f,iv z.id] w (Wr (.bool r.2) (iW f hL s z r.1) w F)
def yO(s:aI)(z:bX)(r:aS×Bool):bX:=if r.2 then rB s r.1 {z with at_:= -1} z.at_.toNat 0 else z
section
variable(f:Nat)(hL:HL)(s:aI)(z:bX)(x:aS)(w:World)
def aSU(K:s.dM)(A:iS hL s)(J:dF s x)(M:Jd s z)(a:Nat)(H:z.at_=(a:Int))(D:a < 2)(r:aS×Bool)(l:aGv f hL s z x r)(n:wH (jM z a))(F:Nat->Prop)(hp:(iW f hL s z x).sat F w)(hF:∀b,F b->b < w.heap.size)(m:gJ ⟨w,fun b=>b < w.heap.size/\¬F b⟩):
  Cz 45 #[pt f] w (Wr (.tuple #[]) (iW f hL s (yO s z r) r.1) w F):=by
 obtain⟨fn,d,G,c,j⟩:=l;refine aCG (vs:=[pt f]) (p:=iW f hL s z x) func45 rfl ntmps45 aB hp hF ?_;generalize y:(⟨w,fun b=>b < w.heap.size/\¬F b⟩:Piece)=R0 at m|-;refine aD ?_;refine aAG (f:=77) (fi:=[]) (ca:=[]) rfl ?_;refine aD ?_;refine cG (bT rfl (Lu 0 rfl fun _=>rfl)) ?_;refine cH (t:=8) rfl (fun h=>absurd h aA) (fun _=>?_);refine aD ?_;refine kO [1,2,3,4,8,9,10,11] ?_;refine bU 0 ?_ (hQ:=fun _ _ _ h=>oN rfl h);refine bU 6 ?_ (hQ:=fun _ _ _ h=>oN rfl h);refine bU 7 ?_ (hQ:=fun _ _ _ h=>oN rfl h);refine aQ 1 ?_ (hQ:=fun _ _ _ h=>oN rfl h);refine aQ 2 ?_ (hQ:=fun _ _ _ h=>oN rfl h);refine aQ 3 ?_ (hQ:=fun _ _ _ h=>oN rfl h);refine aQ 4 ?_ (hQ:=fun _ _ _ h=>oN rfl h) (bL:=bT rfl (Lu 0 rfl fun _=>rfl));refine aQ 8 ?_ (hQ:=fun _ _ _ h=>oN rfl h);refine aQ 9 ?_ (hQ:=fun _ _ _ h=>oN rfl h);refine aQ 10 ?_ (hQ:=fun _ _ _ h=>oN rfl h);refine aQ 11 ?_ (hQ:=fun _ _ _ h=>oN rfl h) (bL:=bT rfl (Lu 0 rfl fun _=>rfl));refine aR 5 ?_;refine cM (fun e t=>aJZ z.kind e) ?_;rw[d];refine bH ?_;refine aR 12 ?_;refine aBE 0 (fi:=[]) (ca:=[]) (iW f hL s z r.1) (fun e B t E C I=>by simpa using j e B E C (gJ.le m (I _ aB))) ?_ (hf:=G);dsimp only[List.set];refine cT ?_;refine kA ?_;obtain⟨o,b⟩:=r;dsimp only at c|-;cases b
 .refine aD ?_;subst y;exact Ge (.inr rfl) aJ Zx rfl fun e t=>⟨rfl,t.turns hF aB (i:=0) rfl⟩
 .refine aD ?_;refine cG (bT rfl (Lu 0 rfl fun _=>rfl)) ?_;refine bB 0 0 ?_;refine kF 0 fun L=>?_;refine bB 0 0 ?_;refine jD rfl rfl ?_ (hs:=dR.mk 0 rfl dK.h rfl (by simp[lB]));dsimp only[List.set];rw[show(lB hL.h L s z).set (0+16) (iv (-1))=lB hL.h L s {z with at_:= -1} from rfl];refine aP 0 0 ?_;refine dN 0 (fun L:iT=>jO f hL.h L s {z with at_:= -1}) L ?_;refine aP 0 0 ?_;refine aD ?_;rw[H];refine gH 0 (iW f hL s (rB s o {z with at_:= -1} a 0) o) (fun e B t E C I=>aEV f hL s {z with at_:= -1} o K A c a D 0 (fun _=>n) e B E C) ?_
  have k:yO s z (o,true)=rB s o {z with at_:= -1} a 0:=by
   unfold yO;rw[aH rfl,H];rfl
  rw[k];subst y;exact Ge (.inr rfl) aJ Zx rfl fun e t=>⟨rfl,t.turns hF aB (i:=0) rfl⟩
end
section
def Kl(s:aI)(d:Int)(k:Nat)(p:dO×eK):dO×eK:=match s.aG[k]? with
 | some dv=>if dv.domain=d then(p.1,if p.2.at_=3 then(qD p.2).2 else if p.2.at_=0 then(vY p.2).2 else p.2) else p
 | none=>p
def mP(s:aI)(x:aS)(d:Int)(n:Nat):List (dO×eK):=x.dv.mapIdx fun k p=>if k < n then Kl s d k p else p
def Tw(s:aI)(x:aS)(d:Int)(k:Nat):Bool:=match s.aG[k]?,x.dv[k]? with
 | some dv,some p=> !decide (dv.domain=d)||decide (p.2.at_=2)
 | _,_=>true
def Hv(s:aI)(x:aS)(d:Int)(n:Nat):Bool:=(List.range n).all (Tw s x d)
def aRN(s:aI)(x:aS)(d:Int)(n:Nat):Hv s x d (n+1)=(Hv s x d n&&Tw s x d n):=by simp[Hv,zH]
def aVY{x:eK}(h:En x):En (vY x).2:=by
 unfold vY;split
 .exact h
 .exact⟨by show(0:Int)<=1;omega,by show(1:Int)<=3;omega⟩
def aBJ{s:aI}{x:aS}(l:s.dM)(f:dF s x)(d:Int)(n:Nat):dF s {x with dv:=mP s x d n}:=Yp l f (by simp[mP]) fun i e p hd c=>by
 rw[mP,wU] at c;cases k:x.dv[i]? with
 | none=>rw[k] at c;cases c
 | some q =>
  rw[k] at c;obtain⟨j,h⟩:=f.each i e q hd k;simp only[lO,tW] at c;subst c;split
  .unfold Kl;rw[hd];dsimp only;split
   .refine⟨j,?_⟩;dsimp only;split
    .exact aIL h
    .split
     .exact aVY h
     .exact h
   .exact⟨j,h⟩
  .exact⟨j,h⟩
variable(f:Nat)(hL:HL)(s:aI)(z:bX)(x:aS)(w:World)
def aTa(T:s.dM)(D:iS hL s)(U:dF s x)(d:Int)(F:Nat->Prop)(hp:(iW f hL s z x).sat F w)(hF:∀b,F b->b < w.heap.size)(V:gJ ⟨w,fun b=>b < w.heap.size/\¬F b⟩):
  Cz 185 #[pt f,iv d] w (Wr (.bool (Hv s x d s.aG.length)) (iW f hL s z {x with dv:=mP s x d s.aG.length}) w F):=by
 have Hw:=T.t.nv
 have rR:=U.dv
 refine fS func185 ntmps185 hp hF ?_;generalize Vb:(⟨w,fun b=>b < w.heap.size/\¬F b⟩:Piece)=R0 at V|-;refine bB 0 0 ?_;refine kF 0 fun L=>?_;refine bB 1 1 ?_;refine aD ?_;refine cG (bT rfl (Rd.dH 1 rfl rfl)) ?_
 have hm0:mP s x d 0=x.dv:=Ug _ _
 refine cF [(15,iv (0)),(14,iv s.aG.length),(13,.slice L.a4.1 s.aG.length L.a4.2),(5,.bool true),(0,pt f),(1,iv d)] ?_;refine gA (fun m e R H=>∃(i:Nat) (b:Bool),i<=s.aG.length/\m=s.aG.length - i/\b=Hv s x d i/\e=[(15,iv (i:Int)),(14,iv s.aG.length),(13,.slice L.a4.1 s.aG.length L.a4.2),(5,.bool b),(0,pt f),(1,iv d)]/\R=[R0]/\H=[eH hL s {x with dv:=mP s x d i},jO f hL.h L s z,HP.many [cS,cS]]) s.aG.length ⟨0,true,aA,rfl,rfl,rfl,rfl,by rw[hm0]⟩ fun m e R H hI=>?_;obtain⟨i,b0,hi,rfl,X,rfl,rfl,rfl⟩:=hI
 have C:=aBJ T U d i
 refine aD ?_;refine bP (fun o=>?_) (fun hge=>?_)
 .have o:i < s.aG.length:=aA
  obtain⟨dv,E⟩:=get_some o;obtain⟨p,M⟩:=get_some (l:=x.dv) (i:=i) aA
  have B:(mP s x d i)[i]? =some p:=Ui M
  have hstep:(mP s x d i).set i (Kl s d i p)=mP s x d (i+1):=Uh (f:=Kl s d) M
  have j:=aRN s x d i
  have hqb:Tw s x d i=(!decide (dv.domain=d)||decide (p.2.at_=2)):=by
   unfold Tw;rw[E,M]
  rw[hqb,<-X] at j;obtain⟨q1,q2⟩:=(C.each i dv p E B).2;refine aLs 1 rfl aA fun b off hA=>?_;refine aD ?_;refine kd (dat i (off+i*6) (hx:=by rw[<-hA];rfl)) ?_;refine aG4 6 (aGq dv) rfl (fun G t=>aJE (t.Ii 1 rfl) hA E) ?_;rintro _ ⟨A,n,k,A',n',k',rfl⟩;refine kK fun g1=>?_;refine bP (fun K=>?_) (fun K=>?_)
  .have y:Kl s d i p=p:=by
    unfold Kl;rw[E];exact aC K
   rw[y,Bi B] at hstep;rw[hstep];refine aD ?_;refine aZ [1,2,3] ?_;refine cF [(15,iv ((i+1:Nat):Int)),(14,iv s.aG.length),(13,.slice L.a4.1 s.aG.length L.a4.2),(5,.bool b0),(0,pt f),(1,iv d)] ?_;exact iZ (s.aG.length - (i+1)) aA ⟨i+1,b0,o,rfl,by rw[j,gW K];simp,rfl,rfl,rfl⟩
  .have K:dv.domain=d:=by simpa using K
   rw[eM K] at j
   have hst:tT {x with dv:=mP s x d i} i=sO p.2.at_:=by
    unfold tT;dsimp only;rw[B];rfl
   have y:Kl s d i p=(p.1,if p.2.at_=3 then(qD p.2).2 else if p.2.at_=0 then(vY p.2).2 else p.2):=by
    unfold Kl;rw[E];exact aH K
   refine aD ?_;refine cG (bT rfl (Rd.dH 2 rfl rfl)) ?_;refine cM (fun G t=>aJk hL s _ G D C i o (V.at_ (t.le aB)) (t.pN 1 rfl D C)) ?_;rw[hst]
   have Z:p.2.at_=0\/p.2.at_=1\/p.2.at_=2\/p.2.at_=3:=by omega
   rcases Z with Y | Y | Y | Y<;>rw[Y] at y j|- <;>cases b0
   .rw[show sO 0=114 from rfl];refine aD ?_;refine cG (bT rfl (Rd.dH 2 rfl rfl)) ?_;refine Bb (α:=Int) 1 (f:=218) (fi:=[]) (ca:=[]) (fun r=>iv r) (fun _=>eH hL s (Lh {x with dv:=mP s x d i} i)) (fun _=>True) aJ rfl rfl rfl aE (fun G N t J I h3=>aJp hL s _ G T D C i o N J I) ?_;rintro _ _;dsimp only[List.set]
    have O:Lh {x with dv:=mP s x d i} i={x with dv:=mP s x d (i+1)}:=by
     unfold Lh;dsimp only;rw[B,<-hstep,y];rfl
    rw[O];refine aD ?_;refine aZ [1,2,3] ?_;refine cF [(15,iv ((i+1:Nat):Int)),(14,iv s.aG.length),(13,.slice L.a4.1 s.aG.length L.a4.2),(5,.bool false),(0,pt f),(1,iv d)] ?_;exact iZ (s.aG.length - (i+1)) aA ⟨i+1,false,o,rfl,by rw[j];rfl,rfl,rfl,rfl⟩
   .rw[show sO 0=114 from rfl];refine aD ?_;refine cG (bT rfl (Rd.dH 2 rfl rfl)) ?_;refine Bb (α:=Int) 1 (f:=218) (fi:=[]) (ca:=[]) (fun r=>iv r) (fun _=>eH hL s (Lh {x with dv:=mP s x d i} i)) (fun _=>True) aJ rfl rfl rfl aE (fun G N t J I h3=>aJp hL s _ G T D C i o N J I) ?_;rintro _ _;dsimp only[List.set]
    have O:Lh {x with dv:=mP s x d i} i={x with dv:=mP s x d (i+1)}:=by
     unfold Lh;dsimp only;rw[B,<-hstep,y];rfl
    rw[O];refine aD ?_;refine aZ [1,2,3] ?_;refine cF [(15,iv ((i+1:Nat):Int)),(14,iv s.aG.length),(13,.slice L.a4.1 s.aG.length L.a4.2),(5,.bool false),(0,pt f),(1,iv d)] ?_;exact iZ (s.aG.length - (i+1)) aA ⟨i+1,false,o,rfl,by rw[j];rfl,rfl,rfl,rfl⟩
   .rw[show sO 1=97 from rfl];rw[y,show(if(1:Int)=3 then(qD p.2).2 else if(1:Int)=0 then(vY p.2).2 else p.2)=p.2 from rfl,Bi B] at hstep;rw[hstep];refine aD ?_;refine aZ [1,2,3] ?_;refine cF [(15,iv ((i+1:Nat):Int)),(14,iv s.aG.length),(13,.slice L.a4.1 s.aG.length L.a4.2),(5,.bool false),(0,pt f),(1,iv d)] ?_;exact iZ (s.aG.length - (i+1)) aA ⟨i+1,false,o,rfl,by rw[j];rfl,rfl,rfl,rfl⟩
   .rw[show sO 1=97 from rfl];rw[y,show(if(1:Int)=3 then(qD p.2).2 else if(1:Int)=0 then(vY p.2).2 else p.2)=p.2 from rfl,Bi B] at hstep;rw[hstep];refine aD ?_;refine aZ [1,2,3] ?_;refine cF [(15,iv ((i+1:Nat):Int)),(14,iv s.aG.length),(13,.slice L.a4.1 s.aG.length L.a4.2),(5,.bool false),(0,pt f),(1,iv d)] ?_;exact iZ (s.aG.length - (i+1)) aA ⟨i+1,false,o,rfl,by rw[j];rfl,rfl,rfl,rfl⟩
   .rw[show sO 2=115 from rfl];rw[y,show(if(2:Int)=3 then(qD p.2).2 else if(2:Int)=0 then(vY p.2).2 else p.2)=p.2 from rfl,Bi B] at hstep;rw[hstep];refine aD ?_;refine aZ [1,2,3] ?_;refine cF [(15,iv ((i+1:Nat):Int)),(14,iv s.aG.length),(13,.slice L.a4.1 s.aG.length L.a4.2),(5,.bool false),(0,pt f),(1,iv d)] ?_;exact iZ (s.aG.length - (i+1)) aA ⟨i+1,false,o,rfl,by rw[j];rfl,rfl,rfl,rfl⟩
   .rw[show sO 2=115 from rfl];rw[y,show(if(2:Int)=3 then(qD p.2).2 else if(2:Int)=0 then(vY p.2).2 else p.2)=p.2 from rfl,Bi B] at hstep;rw[hstep];refine aD ?_;refine aZ [1,2,3] ?_;refine cF [(15,iv ((i+1:Nat):Int)),(14,iv s.aG.length),(13,.slice L.a4.1 s.aG.length L.a4.2),(5,.bool true),(0,pt f),(1,iv d)] ?_;exact iZ (s.aG.length - (i+1)) aA ⟨i+1,true,o,rfl,by rw[j];rfl,rfl,rfl,rfl⟩
   .rw[show sO 3=100 from rfl];refine aD ?_;refine cG (bT rfl (Rd.dH 2 rfl rfl)) ?_;refine Bb (α:=Int) 1 (f:=184) (fi:=[]) (ca:=[]) (fun r=>iv r) (fun _=>eH hL s (Dp {x with dv:=mP s x d i} i)) (fun _=>True) aJ rfl rfl rfl aE (fun G N t J I h3=>aEI hL s _ G T D C i o N J I) ?_;rintro _ _;dsimp only[List.set]
    have O:Dp {x with dv:=mP s x d i} i={x with dv:=mP s x d (i+1)}:=by
     unfold Dp;dsimp only;rw[B,<-hstep,y];rfl
    rw[O];refine aD ?_;refine aZ [1,2,3] ?_;refine cF [(15,iv ((i+1:Nat):Int)),(14,iv s.aG.length),(13,.slice L.a4.1 s.aG.length L.a4.2),(5,.bool false),(0,pt f),(1,iv d)] ?_;exact iZ (s.aG.length - (i+1)) aA ⟨i+1,false,o,rfl,by rw[j];rfl,rfl,rfl,rfl⟩
   .rw[show sO 3=100 from rfl];refine aD ?_;refine cG (bT rfl (Rd.dH 2 rfl rfl)) ?_;refine Bb (α:=Int) 1 (f:=184) (fi:=[]) (ca:=[]) (fun r=>iv r) (fun _=>eH hL s (Dp {x with dv:=mP s x d i} i)) (fun _=>True) aJ rfl rfl rfl aE (fun G N t J I h3=>aEI hL s _ G T D C i o N J I) ?_;rintro _ _;dsimp only[List.set]
    have O:Dp {x with dv:=mP s x d i} i={x with dv:=mP s x d (i+1)}:=by
     unfold Dp;dsimp only;rw[B,<-hstep,y];rfl
    rw[O];refine aD ?_;refine aZ [1,2,3] ?_;refine cF [(15,iv ((i+1:Nat):Int)),(14,iv s.aG.length),(13,.slice L.a4.1 s.aG.length L.a4.2),(5,.bool false),(0,pt f),(1,iv d)] ?_;exact iZ (s.aG.length - (i+1)) aA ⟨i+1,false,o,rfl,by rw[j];rfl,rfl,rfl,rfl⟩
 obtain rfl:i=s.aG.length:=by omega
 rw[<-X];refine aD ?_;refine aP 1 1 ?_;refine dN 0 (fun L:iT=>jO f hL.h L s z) L ?_;refine aP 0 0 ?_;subst Vb;exact cJ 0 hF
def aTc(l:s.dM)(e:iS hL s)(d:dF s x)(c:Int)(F:Nat->Prop)(hp:(iW f hL s z x).sat F w)(hF:∀b,F b->b < w.heap.size):
  Cz 132 #[pt f,iv c] w (Wr (.bool true) (iW f hL s z {x with ck:=(lI s x.ck c false).2}) w F):=by
 refine fS func132 ntmps132 hp hF ?_;generalize i:(⟨w,fun b=>b < w.heap.size/\¬F b⟩:Piece)=R0;refine bB 0 0 ?_;refine kF 0 fun L=>?_;refine bB 1 1 ?_;refine aD ?_;refine cG (bT rfl (Rd.dH 1 rfl rfl)) ?_;refine gH 0 (eH hL s {x with ck:=(lI s x.ck c false).2}) (fun j m t k n o=>aJo hL s x j l e d c false m k n) ?_;refine aP 1 1 ?_;refine dN 0 (fun L:iT=>jO f hL.h L s z) L ?_;refine aP 0 0 ?_;subst i;exact cJ 0 hF
def tB(s:aI)(x:aS)(d:Int)(keep:Bool):aS×Bool:=
 if tY x.dm d=49 then(if Hv s x d s.aG.length then {x with dv:=mP s x d s.aG.length,dm:=(yQ s x.dm d keep).2} else {x with dv:=mP s x d s.aG.length},false)
 else if tY x.dm d=48\/tY x.dm d=116 then(x,true) else(x,false)
def aJ7(A:s.dM)(j:iS hL s)(e:dF s x)(d:Int)(F:Nat->Prop)(hp:(iW f hL s z x).sat F w)(hF:∀b,F b->b < w.heap.size)(l:gJ ⟨w,fun b=>b < w.heap.size/\¬F b⟩):
  Cz 130 #[pt f,iv d] w (Wr (.bool (tB s x d (decide (z.kind=107))).2) (iW f hL s z (tB s x d (decide (z.kind=107))).1) w F):=by
 refine fS func130 ntmps130 hp hF ?_;generalize c:(⟨w,fun b=>b < w.heap.size/\¬F b⟩:Piece)=R0 at l|-;refine bB 0 0 ?_;refine kF 0 fun L=>?_;refine bB 1 1 ?_;refine aD ?_;refine cG (bT rfl (Rd.dH 1 rfl rfl)) ?_;refine cM (fun n t=>aEH hL s x n e.dm d (t.pN 0 rfl j e)) ?_;unfold tB;generalize C:tY x.dm d=ph
 by_cases k:ph=49
 .subst k;rw[aH rfl];refine aP 1 1 ?_;refine dN 0 (fun L:iT=>jO f hL.h L s z) L ?_;refine aP 0 0 ?_;refine aD ?_;refine gM 0 (iW f hL s z {x with dv:=mP s x d s.aG.length}) (fun n p t y r B=>aTa f hL s z x n A j e d p y r (gJ.le l (B _ aB))) ?_
  have o:=aBJ A e d s.aG.length
  cases E:Hv s x d s.aG.length
  .refine aD ?_;subst c;exact cJ 0 hF
  .refine aD ?_;refine bB 0 0 ?_;refine kF 0 fun D=>?_;refine bB 1 1 ?_;refine kO [1,2,3,6,7,8,9,10] ?_;refine bU 0 ?_;refine bU 4 ?_;refine bU 5 ?_;refine aQ 1 ?_;refine aQ 2 ?_;refine aQ 3 ?_ (bL:=bT rfl (Rd.dH 1 rfl rfl));refine aQ 6 ?_;refine aQ 7 ?_;refine aQ 8 ?_;refine aQ 9 ?_ (bL:=bT rfl (Rd.dH 1 rfl rfl));refine aQ 10 ?_;refine aR 11 ?_;refine gM 0 (eH hL s {x with dv:=mP s x d s.aG.length,dm:=(yQ s x.dm d (decide (z.kind=107))).2}) (fun n p t y r B=>aSo hL s _ n A j o d _ p y r) ?_;refine cT ?_;refine kA ?_;refine aP 1 1 ?_;refine dN 0 (fun L:iT=>jO f hL.h L s z) D ?_;refine aP 0 0 ?_;subst c;exact cJ 0 hF
 .rw[aC k]
  by_cases m:ph=48
  .subst m;rw[aH (.inl rfl)];refine aD ?_;refine aP 1 1 ?_;refine dN 0 (fun L:iT=>jO f hL.h L s z) L ?_;refine aP 0 0 ?_;subst c;exact cJ 0 hF
  by_cases i:ph=116
  .subst i;rw[aH (.inr rfl)];refine aD ?_;refine aP 1 1 ?_;refine dN 0 (fun L:iT=>jO f hL.h L s z) L ?_;refine aP 0 0 ?_;subst c;exact cJ 0 hF
  rw[aC aA];refine aD ?_;refine bP (fun h=>absurd h k) (fun _=>?_);refine aD ?_;refine bP (fun h=>absurd h m) (fun _=>?_);refine aD ?_;refine bP (fun h=>absurd h i) (fun _=>?_);refine aD ?_;refine aP 1 1 ?_;refine dN 0 (fun L:iT=>jO f hL.h L s z) L ?_;refine aP 0 0 ?_;subst c;exact cJ 0 hF
end
def Lf(s:aI)(i:Int)(k:Nat)(p:dO×eK):dO×eK:=match s.aG[k]? with
 | some d=>if d.reset=i then(Ir d p.1,p.2) else p
 | none=>p
def Iq(s:aI)(dv:List (dO×eK))(i:Int)(n:Nat):List (dO×eK):=dv.mapIdx fun k p=>if k < n then Lf s i k p else p
def Ea(s:aI)(x:aS)(i:Int):aS:=if bJ x.ln.length i then {x with ln:=(uV s x.ln i).2,dv:=Iq s x.dv i s.aG.length} else x
def aKP{s:aI}{st:List lK}(e:s.dM)(h:Jb s st)(i:Int):Jb s (uV s st i).2:=by
 unfold uV;split
 .exact h
 .refine⟨by simp[h.len],fun y c=>?_⟩;rcases Bq c with c | rfl
  .exact h.left y c
  .cases d:s.bG[i.toNat]? with
   | none=>simp
   | some r=>
    have:=e.bG r (dJ d)
    simpa using this
def aVn{d:bR}{f:dO}(c:∀r∈d.aX,0<=r.reset/\r.reset<=6)(h:Co d f):Co d (Ir d f):=aKq 108 c h
def aK4{s:aI}{x:aS}(l:s.dM)(e:dF s x)(i:Int)(n:Nat):dF s {x with dv:=Iq s x.dv i n}:=Yp l e (by simp[Iq]) fun k d p hd c=>by
 rw[Iq,wU] at c;cases h:x.dv[k]? with
 | none=>rw[h] at c;cases c
 | some q =>
  rw[h] at c;obtain⟨f,j⟩:=e.each k d q hd h;simp only[lO,tW] at c;subst c;split
  .unfold Lf;rw[hd];dsimp only;split
   .exact⟨aVn (l.t.aG k d hd).2.2.2.2.2.2.2.2.2.1 f,j⟩
   .exact⟨f,j⟩
  .exact⟨f,j⟩
def aVW{s:aI}{x:aS}(d:s.dM)(c:dF s x)(i:Int):dF s (Ea s x i):=by
 unfold Ea;split
 .have h:=aK4 d c i s.aG.length
  exact⟨c.ck,c.dm,aKP d c.ln i,h.dv,h.each,c.wt⟩
 .exact c
section
variable(L:HL)(s:aI)(x:aS)(w:World)
def aSq(K:s.dM)(y:iS L s)(j:dF s x)(i:Int)(F:Nat->Prop)(hp:(eH L s x).sat F w)(hF:∀b,F b->b < w.heap.size):
  Cz 191 #[.pointer (some ⟨L.h,0,none⟩),iv i] w (Wr (iv (uV s x.ln i).1) (eH L s (Ea s x i)) w F):=by
 have Y:=K.t.nv
 have hls:=y.ds
 refine fS func191 ntmps191 hp hF ?_;generalize J:(⟨w,fun b=>b < w.heap.size/\¬F b⟩:Piece)=R0;refine aD ?_;refine cR (fun G t=>Fp L s x G (t.pN 0 rfl y j)) ?_;refine cG (bT rfl (tO 0 rfl rfl)) ?_;refine bB 0 3 ?_;refine gM 0 (sU L.R s (uV s x.ln i).2) (fun G O t U N h3=>aOX L.R s x.ln j.ln i G O U N) ?_;refine aP 0 3 ?_;unfold Ea;cases E:bJ x.ln.length i
 .have e:uV s x.ln i=(4,x.ln):=by
   unfold uV;rw[aH E]
  rw[e];refine aD ?_;subst J;exact cJ 0 hF
 .have e1:(uV s x.ln i).1=0:=by
   unfold uV;rw[aC (by simp[E])]
  rw[e1,aH rfl]
  have B:dF s {x with ln:=(uV s x.ln i).2}:=⟨j.ck,j.dm,aKP K j.ln i,j.dv,j.each,j.wt⟩
  generalize Z:(uV s x.ln i).2=ln2 at B|-
  change XK _ _ _ _ _ [eH L s {x with ln:=ln2}]
  have rR:=j.dv
  refine aD ?_;refine cG (bT rfl (tO 0 rfl rfl)) ?_
  have M:Iq s x.dv i 0=x.dv:=Ug _ _
  refine cF [(25,iv 0),(24,iv s.aG.length),(23,.slice L.A s.aG.length L.c),(1,iv i)] ?_;refine gA (fun m e R H=>∃k:Nat,k<=s.aG.length/\m=s.aG.length - k/\e=[(25,iv k),(24,iv s.aG.length),(23,.slice L.A s.aG.length L.c),(1,iv i)]/\R=[R0]/\H=[eH L s {x with ln:=ln2,dv:=Iq s x.dv i k}]) s.aG.length ⟨0,aA,rfl,rfl,rfl,by rw[M]⟩ fun m e R H hI=>?_;obtain⟨k,hk,rfl,rfl,rfl,rfl⟩:=hI
  have o:=aK4 K B i k
  dsimp only at o;refine aD ?_;refine dD rfl (fun r=>?_) (fun hge=>?_)
  .have r:k < s.aG.length:=aA
   obtain⟨d,n⟩:=get_some r;obtain⟨l,C⟩:=get_some (l:=L.ds) (i:=k) aA;obtain⟨p,I⟩:=get_some (l:=x.dv) (i:=k) aA
   have z:(Iq s x.dv i k)[k]? =some p:=Ui I
   have hstep:(Iq s x.dv i k).set k (Lf s i k p)=Iq s x.dv i (k+1):=Uh (f:=Lf s i) I
   have T:=(o.each k d p n z).1
   refine Rk 0 rfl y o aA fun b off X=>?_;refine aD ?_;refine kd (dat k (off+k*6) (hx:=by rw[<-X];rfl)) ?_;refine kd (nQ rfl (cI.dev 0 rfl y o X n C rfl)) ?_;refine kK fun g2=>?_;refine dD rfl (fun V=>?_) (fun V=>?_)
   .have D:Lf s i k p=(Ir d p.1,p.2):=by
     unfold Lf;rw[n];exact aH V
    refine aD ?_;refine Wj 1 k rfl n C z ?_;dsimp only[List.set];refine bB 0 0 ?_;refine gM 0 (jB l.1 d (Ir d p.1)) (fun G O t U N h3=>aBj l.1 d p.1 (by have:=(K.t.aG k d n).2.2.2.2.2.2.2.2.1;omega) T G O U N) ?_;refine aP 0 0 ?_;refine Wp 1 k rfl n C z (p':=(Ir d p.1,p.2)) ?_;dsimp only[List.set];rw[<-D,hstep];refine aD ?_;refine aZ [1] ?_;exact fX (s.aG.length - (k+1)) ⟨k+1,r,rfl,rfl,rfl,rfl⟩
   .have D:Lf s i k p=p:=by
     unfold Lf;rw[n];exact aC V
    rw[D,Bi z] at hstep;rw[hstep];refine aD ?_;refine aZ [1] ?_;exact fX (s.aG.length - (k+1)) ⟨k+1,r,rfl,rfl,rfl,rfl⟩
  obtain rfl:k=s.aG.length:=by omega
  refine aD ?_;subst J;exact cJ 0 hF
end
def aTd(f:Nat)(hL:HL)(s:aI)(z:bX)(x:aS)(w:World)(n:s.dM)(e:iS hL s)(d:dF s x)(c:Int)(F:Nat->Prop)(hp:(iW f hL s z x).sat F w)(hF:∀b,F b->b < w.heap.size):
  Cz 134 #[pt f,iv c] w (Wr (.bool true) (iW f hL s z (Ea s x c)) w F):=by
 refine fS func134 ntmps134 hp hF ?_;generalize i:(⟨w,fun b=>b < w.heap.size/\¬F b⟩:Piece)=R0;refine bB 0 0 ?_;refine kF 0 fun L=>?_;refine bB 1 1 ?_;refine aD ?_;refine cG (bT rfl (Rd.dH 1 rfl rfl)) ?_;refine gH 0 (eH hL s (Ea s x c)) (fun l j t m k o=>aSq hL s x l n e d c j m k) ?_;refine aP 1 1 ?_;refine dN 0 (fun L:iT=>jO f hL.h L s z) L ?_;refine aP 0 0 ?_;subst i;exact cJ 0 hF
def pQ(s:aI)(x:aS)(k id:Int):aS×Bool:=if k=117 then tA s x id else if k=99 then xH s x id.toNat else if k=114 then Bk x id else if k=100\/k=107 then tB s x id (decide (k=107)) else if k=111 then({x with ck:=(lI s x.ck id false).2},true) else if k=97 then(Ea s x id,true) else(x,false)
structure Sd(s:aI)(k id:Int):Prop where
 kd:k=117\/k=99\/k=114\/k=100\/k=107\/k=111\/k=97
 c:k=99->0<=id/\id < (s.aL.length:Int)
def aHO{s:aI}{st:List lK}(h:Jb s st)(i:Int):Jb s (yB st i).2:=by
 unfold yB;split
 .exact h
 .split
  .rename_i x d
   split
   .exact h
   .refine⟨by simp[h.len],fun y c=>?_⟩;rcases Bq c with c | rfl
    .exact h.left y c
    .exact h.left x (dJ d)
  .exact h
def aTR{s:aI}{st:List gK}(h:xY s st)(d:Int)(keep:Bool):xY s (yQ s st d keep).2:=by
 unfold yQ;split
 .exact h
 .split
  .rename_i c y i f
   split
   .exact h
   .split
    .exact h
    .split
     .exact h
     .refine⟨by simp[h.len],fun z e=>?_,fun z e=>?_⟩
      .rcases Bq e with e | rfl
       .exact h.left z e
       .exact h.left y (dJ f)
      .rcases Bq e with e | rfl
       .exact h.phase z e
       .exact⟨by show(0:Int)<=99;omega,by show(99:Int) < 256;omega⟩
  .exact h
def aPU{s:aI}{x:aS}(f:s.dM)(c:dF s x)(d:Int)(keep:Bool):dF s (tB s x d keep).1:=by
 have e:=aBJ f c d s.aG.length
 unfold tB;split
 .dsimp only;split
  .exact⟨c.ck,aTR c.dm _ _,c.ln,e.dv,e.each,c.wt⟩
  .exact e
 .split
  .exact c
  .exact c
def aC3{s:aI}{x:aS}(d:s.dM)(c:dF s x)(k id:Int):dF s (pQ s x k id).1:=by
 unfold pQ;split
 .unfold tA;split
  .exact⟨c.ck,aGP d c.dm _,c.ln,c.dv,c.each,c.wt⟩
  .split
   .exact aEz d c _ _
   .exact c
 .split
  .exact⟨Yo d c.ck _ _,c.dm,c.ln,c.dv,c.each,c.wt⟩
  .split
   .unfold Bk;split
    .exact⟨c.ck,c.dm,aHO c.ln _,c.dv,c.each,c.wt⟩
    .exact c
   .split
    .exact aPU d c _ _
    .split
     .exact⟨Yo d c.ck _ _,c.dm,c.ln,c.dv,c.each,c.wt⟩
     .split
      .exact aVW d c _
      .exact c
section
variable(f:Nat)(hL:HL)(s:aI)(z:bX)(x:aS)(w:World)
def aLd(m:s.dM)(j:iS hL s)(i:dF s x)(hk:Sd s z.kind z.id):aGv f hL s z x (pQ s x z.kind z.id):=by
 have d:=aC3 m i z.kind z.id
 rcases hk.kd with h | h | h | h | h | h | h
 .refine⟨_,by rw[h];rfl,aJ,d,fun w F k l e=>?_⟩;rw[h];exact aSX f hL s z x w m j i z.id F k l e
 .refine⟨_,by rw[h];rfl,aJ,d,fun w F k l e=>?_⟩;obtain⟨p,o⟩:=hk.c h;obtain⟨c,n⟩:∃c:Nat,z.id=c:=⟨z.id.toNat,aA⟩
  rw[h,n];exact aTb f hL s z x w m j i c aA F k l
 .refine⟨_,by rw[h];rfl,aJ,d,fun w F k l e=>?_⟩;rw[h];exact aSW f hL s z x w m j i z.id F k l
 .refine⟨_,by rw[h];rfl,aJ,d,fun w F k l e=>?_⟩
  have:=aJ7 f hL s z x w m j i z.id F k l e
  rw[h] at this|-;exact this
 .refine⟨_,by rw[h];rfl,aJ,d,fun w F k l e=>?_⟩
  have:=aJ7 f hL s z x w m j i z.id F k l e
  rw[h] at this|-;exact this
 .refine⟨_,by rw[h];rfl,aJ,d,fun w F k l e=>?_⟩;rw[h];exact aTc f hL s z x w m j i z.id F k l
 .refine⟨_,by rw[h];rfl,aJ,d,fun w F k l e=>?_⟩;rw[h];exact aTd f hL s z x w m j i z.id F k l
def aSS(c:bX)(O:s.dM)(l:iS hL s)(G:dF s x)(T:Jd s c)(I:c.at_ < 0)(J:kX s x c=(z,true))(K:∀a,rG c=some a->(cY s x c a).2.1=0->(cY s x c a).1=0->wH (jM c a))(a:Nat)(R:z.at_=(a:Int))(H:a < 2)(r:aS×Bool)(A:aGv f hL s z x r)(C:wH (jM z a))(F:Nat->Prop)(hp:(iW f hL s c x).sat F w)(hF:∀b,F b->b < w.heap.size)(m:gJ ⟨w,fun b=>b < w.heap.size/\¬F b⟩):
  Cz 45 #[pt f] w (Wr (.tuple #[]) (iW f hL s (yO s z r) r.1) w F):=by
 obtain⟨fn,k,N,e,j⟩:=A;refine aCG (vs:=[pt f]) (p:=iW f hL s c x) func45 rfl ntmps45 aB hp hF ?_;generalize E:(⟨w,fun b=>b < w.heap.size/\¬F b⟩:Piece)=R0 at m|-;refine aD ?_;refine aAG (f:=77) (fi:=[]) (ca:=[]) rfl ?_;refine aD ?_;refine cG (bT rfl (Lu 0 rfl fun _=>rfl)) ?_;refine cH (t:=8) rfl (fun _=>?_) (fun h=>absurd I h);refine aD ?_
 refine gM 0 (iW f hL s z x) (fun d B t o n M=>by
  have:=aJ5 f hL s c x O l G T K d B o n
  rw[J] at this
  exact this) ?_
 refine aD ?_;refine kO [1,2,3,4,8,9,10,11] ?_;refine bU 0 ?_ (hQ:=fun _ _ _ h=>oN rfl h);refine bU 6 ?_ (hQ:=fun _ _ _ h=>oN rfl h);refine bU 7 ?_ (hQ:=fun _ _ _ h=>oN rfl h);refine aQ 1 ?_ (hQ:=fun _ _ _ h=>oN rfl h);refine aQ 2 ?_ (hQ:=fun _ _ _ h=>oN rfl h);refine aQ 3 ?_ (hQ:=fun _ _ _ h=>oN rfl h);refine aQ 4 ?_ (hQ:=fun _ _ _ h=>oN rfl h) (bL:=bT rfl (Lu 0 rfl fun _=>rfl));refine aQ 8 ?_ (hQ:=fun _ _ _ h=>oN rfl h);refine aQ 9 ?_ (hQ:=fun _ _ _ h=>oN rfl h);refine aQ 10 ?_ (hQ:=fun _ _ _ h=>oN rfl h);refine aQ 11 ?_ (hQ:=fun _ _ _ h=>oN rfl h) (bL:=bT rfl (Lu 0 rfl fun _=>rfl));refine aR 5 ?_;refine cM (fun d t=>aJZ z.kind d) ?_;rw[k];refine bH ?_;refine aR 12 ?_;refine aBE 0 (fi:=[]) (ca:=[]) (iW f hL s z r.1) (fun d B t o n M=>by simpa using j d B o n (gJ.le m (M _ aB))) ?_ (hf:=N);dsimp only[List.set];refine cT ?_;refine kA ?_;obtain⟨D,b⟩:=r;dsimp only at e|-;cases b
 .refine aD ?_;subst E;exact Ge (.inr rfl) aJ Zx rfl fun d t=>⟨rfl,t.turns hF aB (i:=0) rfl⟩
 .refine aD ?_;refine cG (bT rfl (Lu 0 rfl fun _=>rfl)) ?_;refine bB 0 0 ?_;refine kF 0 fun L=>?_;refine bB 0 0 ?_;refine jD rfl rfl ?_ (hs:=dR.mk 0 rfl dK.h rfl (by simp[lB]));dsimp only[List.set];rw[show(lB hL.h L s z).set (0+16) (iv (-1))=lB hL.h L s {z with at_:= -1} from rfl];refine aP 0 0 ?_;refine dN 0 (fun L:iT=>jO f hL.h L s {z with at_:= -1}) L ?_;refine aP 0 0 ?_;refine aD ?_;rw[R];refine gH 0 (iW f hL s (rB s D {z with at_:= -1} a 0) D) (fun d B t o n M=>aEV f hL s {z with at_:= -1} D O l e a H 0 (fun _=>C) d B o n) ?_
  have y:yO s z (D,true)=rB s D {z with at_:= -1} a 0:=by
   unfold yO;rw[aH rfl,R];rfl
  rw[y];subst E;exact Ge (.inr rfl) aJ Zx rfl fun d t=>⟨rfl,t.turns hF aB (i:=0) rfl⟩
def jX(s:aI)(x:aS)(z:bX):bX×aS:=
 let t:=kX s x z
 let c:=if z.at_ < 0 then t.1 else z
 if z.at_ < 0/\t.2=false then(t.1,x) else(yO s c (pQ s x c.kind c.id),(pQ s x c.kind c.id).1)
structure aLS(s:aI)(x:aS)(z:bX):Prop where
 hok:dF s x
 fm:Jd s z
 at_:z.at_ < 0\/(∃a:Nat,z.at_=(a:Int)/\a < 2/\Sd s z.kind z.id/\wH (jM z a))
 ask:z.at_ < 0->∀a,rG z=some a->(cY s x z a).2.1=0->(cY s x z a).1=0->wH (jM z a)
 new:z.at_ < 0->∀a,rG z=some a->(cY s x z a).2.1≠0->Sd s (cY s x z a).2.1 (cY s x z a).2.2/\wH (jM z a)
def Yq{z:bX}{a:Nat}(h:z.last=0\/z.last=1)(c:rG z=some a):a < 2:=by
 unfold rG at c;split at c
 .cases c;omega
 .split at c
  .cases c;omega
  .cases c
def aST(m:s.dM)(i:iS hL s)(h:aLS s x z)(F:Nat->Prop)(hp:(iW f hL s z x).sat F w)(hF:∀b,F b->b < w.heap.size)(l:gJ ⟨w,fun b=>b < w.heap.size/\¬F b⟩):
  Cz 45 #[pt f] w (Wr (.tuple #[]) (iW f hL s (jX s x z).1 (jX s x z).2) w F):=by
 unfold jX;dsimp only
 by_cases d:z.at_ < 0
 .cases c:(kX s x z).2
  .rw[aH ⟨d,rfl⟩];exact aSV f hL s z x m i h.hok h.fm (h.ask d) d c w F hp hF
  .rw[aC aB,aH d]
   have t:kX s x z=((kX s x z).1,true):=Prod.ext rfl c
   have k:∃a,rG z=some a/\(cY s x z a).2.1≠0/\(kX s x z).1=(nX s x z a).1:=by
    unfold kX at c|-;cases n:rG z with
    | none=>rw[n] at c;cases c
    | some a=>
     rw[n] at c;refine⟨a,rfl,fun G=>?_,rfl⟩;unfold nX at c;dsimp only at c;rw[aH G] at c;cases c
   obtain⟨a,n,hd,o⟩:=k
   have p:=Yq h.fm.la n
   obtain⟨r,j⟩:=h.new d a n hd
   have e:(nX s x z a).1={z with last:=a,x:=fH z.x a (cY s x z a).2.1 (cY s x z a).2.2,y:=iI z.y a (cY s x z a).2.1 (cY s x z a).2.2,at_:=a,kind:=(cY s x z a).2.1,id:=(cY s x z a).2.2}:=by
    unfold nX;dsimp only;rw[aC hd]
   rw[e] at o
   have D:jM (kX s x z).1 a=jM z a:=by rw[o];rfl
   have A:(kX s x z).1.at_=(a:Int):=by rw[o]
   have E:(kX s x z).1.kind=(cY s x z a).2.1:=by rw[o]
   have C:(kX s x z).1.id=(cY s x z a).2.2:=by rw[o]
   exact aSS f hL s (kX s x z).1 x w z m i h.hok h.fm d t (h.ask d) a A p _ (aLd f hL s (kX s x z).1 x m i h.hok (by rw[E,C];exact r)) (by rw[D];exact j) F hp hF l
 .rw[aC (fun B=>d B.1),aC d];rcases h.at_ with A | ⟨a,p,ha2,r,j⟩
  .exact absurd A d
  .exact aSU f hL s z x w m i h.hok h.fm a p ha2 _ (aLd f hL s z x m i h.hok r) j F hp hF l
end
def aNU(A:Option Addr)(n c:Nat)(l:List Int)(st:Int)(w:World)(hs:aO (all w) 1 A n (eB l))(f:n=l.length)(j:2<=n)(d:l[1]? =some st):
  Cz 172 #[.slice A n c] w (Rt (.tuple #[.int .i32 (IntKind.i32.wrap st),iv 0]) w):=by
 subst f;obtain⟨b,off,rfl,e⟩:=aO.u32 hs aA
 have i:=e 1 st d
 refine fP func172 ntmps172 ?_;refine aD ?_;refine dD rfl (fun h=>absurd h aA) (fun _=>?_);refine aD ?_;refine kd (dat 1 (off+1)) ?_;refine aD ?_;refine kd (Nt (ds:=.int .u32) (kd:=.i32) (c:=IntKind.i32.wrap st) aJ aJ rfl rfl) ?_;refine aD ?_;exact kN fun k t=>⟨rfl,t.below aB⟩
def aGf(g h f:Nat)(s:aI)(z:bA)(y:bX):HP:=HP.many [lF g h f s z,Gq f h s y]
def nW(p:eJ)(k:Int):List Int:=[(dQ p.msg 0 p.pr k).1,p.id,p.v]
def Ey(a:List Int):Prop:=IntKind.i32.wrap (a.getD 1 0)=0\/IntKind.i32.wrap (a.getD 1 0)= -3
instance(a:List Int):Decidable (Ey a):=by unfold Ey;infer_instance
def qP(z:bA)(a:List Int):bA:=if Ey a then {z with sent:=false,steps:=z.steps.tail} else {z with sent:=false}
def aDz{z:bA}{a:List Int}(h:Ey a):qP z a={z with sent:=false,steps:=z.steps.tail}:=aH h
def aNG{z:bA}{a:List Int}(h:¬Ey a):qP z a={z with sent:=false}:=aC h
def iP(z:bA)(y:bX)(j:Nat):bA×bX:=
 if z.sent=true then
  match kZ y 0 with
  | none=>(z,gL y 0)
  | some a=>(if(qP z a).steps.length=0 then qE (qP z a) j 0 0 else qP z a,gL y 0)
 else
  match z.steps with
  | []=>(z,y)
  | p::_=>if(fM y 0 (nW p z.many)).1=0 then({z with sent:=true,many:=(z.many+1) % 1024},(fM y 0 (nW p z.many)).2) else(z,(fM y 0 (nW p z.many)).2)
def aHB{h f:Nat}{L:eA}{s:aI}{z:bA}{p:eJ}{tl:List eJ}{A:Option Addr}{c:Nat}(e:z.steps=p::tl):(oK h f L s z).set 50 (.slice A (z.steps.length - 1) c)=oK h f {L with st:=(A,c)} s {z with steps:=z.steps.tail}:=by
 obtain⟨o,m,l,k,n,cP,d,j,i,id,many⟩:=z;dsimp only at e;subst e;rfl
def aO.aAa{p:Piece}{sz n k:Nat}{A A':Option Addr}{xs:List Value}(h:aO p sz A n xs)(hk:k<=n)(f:k < n->∀b off,A=some ⟨b,off,none⟩->A'=some ⟨b,off+k*sz,none⟩):aO p sz A' (n - k) (xs.drop (k*sz)):=by
 refine⟨by rw[List.length_drop,h.1,Nat.sub_mul],fun l=>?_⟩;obtain⟨b,off,c,i,e⟩:=h.2 aA;refine⟨b,off+k*sz,f aA b off c,i,fun j u d=>?_⟩;rw[Bp] at d;rw[wT];exact e _ u d
def aLw{N:cQ}{w0:World}{e:Env}{R:List Piece}{H:List HP}{K:Act->World->Prop}(i:Nat){b:Nat}{t:TypeId}{cs c:List Value}(hi:H[i]? =some (HP.aK b t cs))(h:cs=c)(k:XK N w0 K e R (H.set i (HP.aK b t c))):XK N w0 K e R H:=by
 subst h;obtain⟨d,f⟩:=cE.1 hi;rw[<-f,List.set_getElem_self d] at k;exact k
def Kz(L:eA):eA:={L with st:=(if L.st.2=1 then L.st.1 else L.st.1.map (·.add (1*4)),L.st.2 - 1)}
def qY.tail{L:eA}{p:eJ}{l tl:List eJ}{q:Piece}(hl:l=p::tl)(h:qY L l q):qY (Kz L) l.tail q:=by
 subst hl;obtain⟨e,d⟩:=h;simp only[mK] at d;refine⟨e.aAa (k:=1) aB fun c b off f=>?_,by simp only[List.tail_cons,Kz];omega⟩;simp only[mK] at c;unfold Kz;dsimp only;rw[aC aA,f];rfl
section
variable(g h f:Nat)(s:aI)(z:bA)(y:bX)(w:World)(F:Nat->Prop)
def aPo(j:Nat)(M:z.cP=(j:Int))(hj:T3 j)(T:z.steps≠[])(hmy:0<=z.many/\z.many < 1024)(N:∀p∈z.steps,(dQ p.msg 0 p.pr z.many).2=0)(V:∀a,kZ y 0=some a->2<=a.length)(hp:(aGf g h f s z y).sat F w)(hF:∀b,F b->b < w.heap.size):
  Cz 124 #[pt g] w (fun v w'=>v=.returned (.tuple #[])/\∃X,(aGf g h f s (iP z y j).1 (iP z y j).2).sat X w'/\jG w w' F X):=by
 obtain⟨p,tl,e⟩:=List.exists_cons_of_ne_nil T
 have hln:z.steps.length=tl.length+1:=by rw[e];rfl
 refine fS func124 ntmps124 hp hF ?_;generalize d:(⟨w,fun b=>b < w.heap.size/\¬F b⟩:Piece)=R0;refine bB 0 0 ?_;refine kF 0 fun L=>?_;refine bB 0 0 ?_;refine bB 1 5 ?_;refine bB 3 1 ?_;refine aD ?_;cases H:z.sent
 .have k:iP z y j=if(fM y 0 (nW p z.many)).1=0 then({z with sent:=true,many:=(z.many+1) % 1024},(fM y 0 (nW p z.many)).2) else(z,(fM y 0 (nW p z.many)).2):=by
   unfold iP;rw[aC (by rw[H];simp),e]
  rw[k]
  have G:=N p (by rw[e];simp)
  have O:z.steps.flatMap eJ.cells=p.cells++tl.flatMap eJ.cells:=by rw[e];rfl
  refine aD ?_;refine aFN (A:=L.st.1) (sz:=4) (n:=z.steps.length) (xs:=z.steps.flatMap eJ.cells) 1 rfl (fun _ h=>h.1) aA fun b off hA=>?_;refine kO [1,2,3,4,5,7,8,9,12,13] ?_;refine bU 0 ?_;refine aQ 1 ?_;refine aQ 2 ?_;refine aQ 3 ?_;refine aQ 4 ?_ (hi:=rfl) (bL:=dat 0 off (hx:=by rw[<-hA];rfl) (hj:=rfl));refine aQ 5 ?_ (hi:=rfl) (bL:=nQ rfl (cI.of (vs:=p.cells) fun i v Z=>Rd.cO 1 rfl (fun _ h=>h.1) hA aA (by rw[O,pL (cE.1 Z).1];exact Z)));refine bU 6 ?_;refine aQ 7 ?_;refine aQ 8 ?_;refine aQ 9 ?_;refine aR 10 ?_;refine jL [] (aCU (nW p z.many)) (fun m t=>aMY p.pr p.msg p.id p.v z.many m G) ?_;rintro _ m q1 ⟨Am,cm,rfl,I⟩ hf _ _
  have I:=I.le hf
  clear hf;refine bH ?_;refine aR 11 ?_;refine bN ?_;refine bH ?_;refine aQ 12 ?_;refine aQ 13 ?_;refine aR 14 ?_;refine bN ?_;refine bH ?_;refine aR 15 ?_;refine bN ?_;refine bH ?_;refine kA ?_;refine gH 0 (Gq f h s (fM y 0 (nW p z.many)).2) (fun m x t r o C=>aJ6 f h s y 0 Am _ cm (nW p z.many) m x r o (I.le (C _ aB)) rfl (by simp[nW])) ?_;refine bP (fun J=>?_) (fun J=>?_)
  .rw[aH J];refine aD ?_;refine jD rfl rfl ?_ (hs:=dR.mk 2 rfl dK.h rfl (eV rfl));dsimp only[List.set];rw[show(oK h f L s z).set (0+51) (.bool true)=oK h f L s {z with sent:=true} from rfl];refine aD ?_;refine kd (aCg (i:=z.many) (j:=1) (c:=z.many+1) rfl rfl (qM aA)) ?_;refine cG (aKc (i:=z.many+1) (j:=1024) (c:=(z.many+1) % 1024) rfl rfl aE (rem_in aA)) ?_;refine jD rfl rfl ?_ (hs:=dR.mk 2 rfl dK.h rfl (eV rfl));dsimp only[List.set];rw[show(oK h f L s {z with sent:=true}).set (0+54) (iv ((z.many+1) % 1024))=oK h f L s {z with sent:=true,many:=(z.many+1) % 1024} from rfl];refine aD ?_;refine aP 3 1 ?_;refine aP 1 5 ?_;refine aP 0 0 ?_;refine dN 0 (fun L:eA=>iR g h f L s {z with sent:=true,many:=(z.many+1) % 1024}) L ?_;refine aP 0 0 ?_;subst d;exact gF 0 hF
  .rw[aC J];refine aD ?_;refine aP 3 1 ?_;refine aP 1 5 ?_;refine aP 0 0 ?_;refine dN 0 (fun L:eA=>iR g h f L s z) L ?_;refine aP 0 0 ?_;subst d;exact gF 0 hF
 .cases K:kZ y 0 with
  | none =>
   have k:iP z y j=(z,gL y 0):=by
    unfold iP;rw[aH H,K]
   rw[k];refine aD ?_
   refine Bb (α:=AC) 0 (f:=48) (fi:=[]) (ca:=[]) (fun c=>Th none c) (fun c=>Jt f h s (gL y 0) [] c) (fun _=>True) aJ rfl rfl rfl aE (fun m x t r o C=>by
    have:=aEW f h s y 0 m x r o
    rw[K] at this
    exact this) ?_
   rintro⟨Ar,Y⟩ _;dsimp only[List.set,Th];refine bB 0 0 ?_;refine aZ [0,2,3,4,5] ?_;refine aD ?_;refine aP 3 1 ?_;refine aP 1 5 ?_;refine aP 0 0 ?_;refine dN 0 (fun L:eA=>iR g h f L s z) L ?_;refine aP 0 0 ?_;subst d;exact gF 0 hF
  | some a =>
   have k:iP z y j=(if(qP z a).steps.length=0 then qE (qP z a) j 0 0 else qP z a,gL y 0):=by
    unfold iP;rw[aH H,K]
   rw[k]
   have R:=V a K
   have U:a[1]? =some (a.getD 1 0):=by rw[mZ,cX aA];rfl
   refine aD ?_
   refine Bb (α:=AC) 0 (f:=48) (fi:=[]) (ca:=[]) (fun c=>Th (some a) c) (fun c=>Jt f h s (gL y 0) a c) (fun _=>True) aJ rfl rfl rfl aE (fun m x t r o C=>by
    have:=aEW f h s y 0 m x r o
    rw[K] at this
    exact this) ?_
   rintro⟨Ar,Y⟩ _;dsimp only[List.set,Th];refine bB 0 0 ?_;refine bB 1 1 ?_;refine aZ [1,3,4,5,6,0] ?_;refine aD ?_;refine jD rfl rfl ?_ (hs:=dR.mk 2 rfl dK.h rfl (eV rfl));dsimp only[List.set];refine aD ?_;refine cM (fun m t=>aNU Ar _ Y a _ m (t.cO 5 rfl) rfl R U) ?_;generalize D:IntKind.i32.wrap (a.getD 1 0)=sv;rw[show(oK h f L s z).set (0+51) (.bool false)=oK h f L s {z with sent:=false} from rfl];refine aD ?_;refine cH (t:=73) rfl (fun J=>?_) (fun J=>?_)
   .rw[aDz (show Ey a from .inl (D.trans J))];refine aD ?_;refine cG (aKa (n:=z.steps.length) (l:=1) rfl rfl aA) ?_;refine jD rfl rfl ?_ (hs:=dR.mk 2 rfl dK.h rfl (eV rfl));dsimp only[List.set];refine aLw 2 rfl (aHB (z:={z with sent:=false}) e) ?_;dsimp only[List.set];refine tH (q:=HP.cO (qY (Kz L) z.steps.tail) (qY.le (L:=Kz L) (l:=z.steps.tail))) 1 rfl (fun F w E=>qY.tail e E) ?_;dsimp only[List.set];refine aD ?_;refine aP 3 1 ?_;refine aP 1 5 ?_;refine aP 0 0 ?_;refine wB 0 (f:=fun L:eA=>iR g h f L s {z with sent:=false,steps:=z.steps.tail}) (Kz L) rfl ?_;dsimp only[List.set];refine aD ?_;refine bP (fun B=>?_) (fun B=>?_)
    .rw[aH (Pn B)];refine aD ?_;refine cG (fI rfl) ?_;refine gM 0 (lF g h f s (qE {z with sent:=false,steps:=z.steps.tail} j 0 0)) (fun m x t r o C=>Pd g h f s {z with sent:=false,steps:=z.steps.tail} m x j M hj 0 0 r o) ?_;refine aP 0 0 ?_;subst d;exact gF 0 hF
    .rw[aC (fun h=>B (congrArg Int.ofNat h))];refine aD ?_;refine aP 0 0 ?_;subst d;exact gF 0 hF
   .refine aD ?_;refine bP (fun C=>?_) (fun C=>?_)
    .rw[aDz (show Ey a from .inr (D.trans C))];refine aD ?_;refine cG (aKa (n:=z.steps.length) (l:=1) rfl rfl aA) ?_;refine jD rfl rfl ?_ (hs:=dR.mk 2 rfl dK.h rfl (eV rfl));dsimp only[List.set];refine aLw 2 rfl (aHB (z:={z with sent:=false}) e) ?_;dsimp only[List.set];refine tH (q:=HP.cO (qY (Kz L) z.steps.tail) (qY.le (L:=Kz L) (l:=z.steps.tail))) 1 rfl (fun F w E=>qY.tail e E) ?_;dsimp only[List.set];refine aD ?_;refine aP 3 1 ?_;refine aP 1 5 ?_;refine aP 0 0 ?_;refine wB 0 (f:=fun L:eA=>iR g h f L s {z with sent:=false,steps:=z.steps.tail}) (Kz L) rfl ?_;dsimp only[List.set];refine aD ?_;refine bP (fun B=>?_) (fun B=>?_)
     .rw[aH (Pn B)];refine aD ?_;refine cG (fI rfl) ?_;refine gM 0 (lF g h f s (qE {z with sent:=false,steps:=z.steps.tail} j 0 0)) (fun m x t r o C=>Pd g h f s {z with sent:=false,steps:=z.steps.tail} m x j M hj 0 0 r o) ?_;refine aP 0 0 ?_;subst d;exact gF 0 hF
     .rw[aC (fun h=>B (congrArg Int.ofNat h))];refine aD ?_;refine aP 0 0 ?_;subst d;exact gF 0 hF
    .rw[aNG (show ¬Ey a from fun h=>h.elim (fun h=>J (D▸h)) (fun h=>C (D▸h)))];refine aD ?_;refine aP 3 1 ?_;refine aP 1 5 ?_;refine aP 0 0 ?_;refine dN 0 (fun L:eA=>iR g h f L s {z with sent:=false}) L ?_;refine aD ?_;refine bP (fun B=>?_) (fun B=>?_)
     .rw[aH (Pn B)];refine aD ?_;refine cG (fI rfl) ?_;refine gM 0 (lF g h f s (qE {z with sent:=false} j 0 0)) (fun m x t r o C=>Pd g h f s {z with sent:=false} m x j M hj 0 0 r o) ?_;refine aP 0 0 ?_;subst d;exact gF 0 hF
     .rw[aC (fun h=>B (congrArg Int.ofNat h))];refine aD ?_;refine aP 0 0 ?_;subst d;exact gF 0 hF
end
def Tf(w:World):CallsD Tryz.prog 122 #[] .returning w fun e f w'=>e=.returned (.tuple #[])/\f=.returning/\w'=w:=by
 refine callsD_of_wpS func122 rfl fun c h d=>?_;apply wpS_region;simp[wpOpsS,go_sem,recoverD,d,ntmps122,Exit.thenS];cases c;simp_all [bodyPostS,results,Tryz.results122]
def aCM(g f:Nat)(hL:HL)(s:aI)(z:bA)(y:bX)(x:aS):HP:=HP.many [lF g hL.h f s z,Gq f hL.h s y,eH hL s x]
structure aMb(s:aI)(z:bA)(y:bX):Prop where
 ok:Ww s z
 call:∀j,T3 j->(z.tk j).st=1->uC (z.tk j).kind
 work:∀j:Nat,T3 j->(z.tk j).st=2->z.cP=(j:Int)/\(z.aV=false->z.steps≠[])
 many:0<=z.many/\z.many < 1024
 pack:∀p∈z.steps,(dQ p.msg 0 p.pr z.many).2=0
 ans:∀a,kZ y 0=some a->2<=a.length
def pI(s:aI)(z:bA)(y:bX)(x:aS)(t:Int):bA×bX×aS:=
 if bJ 3 t=false then(z,y,x)
 else if(z.tk t.toNat).st=1 then(if z.cP < 0 then((gP s x z t.toNat).1,y,(gP s x z t.toNat).2) else(z,y,x))
 else if(z.tk t.toNat).st=2 then(if z.aV=false then((iP z y t.toNat).1,(iP z y t.toNat).2,x) else(z,y,x))
 else(z,y,x)
def aPb(g f:Nat)(hL:HL)(s:aI)(z:bA)(y:bX)(x:aS)(w:World)(F:Nat->Prop)(t:Int)(hm:s.made)(B:iS hL s)(hx:z.cP < 0->HwP s x)(n:aMb s z y)(hp:(aCM g f hL s z y x).sat F w)(hF:∀b,F b->b < w.heap.size)(r:gJ ⟨w,fun b=>b < w.heap.size/\¬F b⟩):
  Cz 75 #[pt g,iv t] w (fun v w'=>v=.returned (.tuple #[])/\∃H,(aCM g f hL s (pI s z y x t).1 (pI s z y x t).2.1 (pI s z y x t).2.2).sat H w'/\jG w w' F H):=by
 unfold pI;refine aCG (vs:=[pt g,iv t]) (p:=aCM g f hL s z y x) func75 rfl ntmps75 aB hp hF ?_;generalize c:(⟨w,fun b=>b < w.heap.size/\¬F b⟩:Piece)=R0 at r|-;refine aD ?_;refine aAG (f:=122) (fi:=[]) (ca:=[]) rfl ?_;refine aD ?_;refine cM (fun d _=>aDE t d) ?_;cases C:bJ 3 t
 .refine aD ?_;subst c;exact Ge (.inl rfl) aJ Tf rfl fun d t=>⟨rfl,t.turns hF aB (i:=0) rfl⟩
 .obtain⟨j,rfl,o⟩:=zP C
  have K:j<=2:=by rcases o with rfl | rfl | rfl<;>decide
  rw[aC aB,dL];refine bB 0 0 ?_;refine kF 0 fun L=>?_;refine aD ?_;refine cG (iA j (10+13*j) (ho:=aA)) ?_;refine cG (bT rfl (tN 0 rfl (Jr (k:=0) o rfl))) ?_;refine dD rfl (fun A=>?_) (fun A=>?_)
  .rw[aH A];refine aD ?_;refine cG (bT rfl (tN 0 rfl rfl)) ?_;refine dN 0 (fun L:eA=>iR g hL.h f L s z) L ?_;refine aP 0 0 ?_;refine dD rfl (fun e=>?_) (fun e=>?_)
   .rw[aH e];refine bB 0 0 ?_;refine bB 1 2 ?_;refine aZ [1,0,2] ?_;refine oP ?_;refine aD ?_;refine gM 0 (Of g f hL s (gP s x z j).1 (gP s x z j).2) (fun d D t m l I=>aPm g f hL s z x d D j hm B (hx e) n.ok o (n.call j o A) m l (gJ.le r (I _ aB))) ?_;refine bB 0 0 ?_;refine bB 1 1 ?_;refine aP 2 2 ?_;refine aP 1 0 ?_;refine aD ?_;subst c;exact Ge (.inr rfl) aJ Tf rfl fun d t=>⟨rfl,t.turns hF aB (i:=1) rfl⟩
   .rw[aC e];refine aD ?_;subst c;exact Ge (.inr rfl) aJ Tf rfl fun d t=>⟨rfl,t.turns hF aB (i:=0) rfl⟩
  .rw[aC A];refine aD ?_;refine dD rfl (fun e=>?_) (fun e=>?_)
   .rw[aH e];obtain⟨J,G⟩:=n.work j o e;refine aD ?_;refine kd (bT rfl (tN 0 rfl rfl)) ?_;cases E:z.aV
    .refine aD ?_;refine dN 0 (fun L:eA=>iR g hL.h f L s z) L ?_;refine aP 0 0 ?_;refine bB 0 0 ?_;refine bB 1 1 ?_;refine aZ [1,0,2] ?_;refine oP ?_;refine aD ?_;refine gM 0 (aGf g hL.h f s (iP z y j).1 (iP z y j).2) (fun d D t m l I=>aPo g hL.h f s z y d D j J o (G E) n.many n.pack n.ans m l) ?_;refine bB 0 0 ?_;refine bB 1 1 ?_;refine aP 2 1 ?_;refine aP 1 0 ?_;refine aD ?_;subst c;exact Ge (.inr rfl) aJ Tf rfl fun d t=>⟨rfl,t.turns hF aB (i:=1) rfl⟩
    .refine aD ?_;refine dN 0 (fun L:eA=>iR g hL.h f L s z) L ?_;refine aP 0 0 ?_;subst c;exact Ge (.inr rfl) aJ Tf rfl fun d t=>⟨rfl,t.turns hF aB (i:=0) rfl⟩
   .rw[aC e];refine aD ?_;refine dN 0 (fun L:eA=>iR g hL.h f L s z) L ?_;refine aP 0 0 ?_;subst c;exact Ge (.inr rfl) aJ Tf rfl fun d t=>⟨rfl,t.turns hF aB (i:=0) rfl⟩
def rX(z:bA)(a:gQ):bA:=if z.aV=false then z else if a.id≠z.id then z else if a.dead=true then qE z z.cP.toNat 6 0 else qE z z.cP.toNat 0 a.val
def pP(z:bA)(l:List gQ):bA:=l.foldl rX z
def Ry(z:bA):Prop:=z.aV=true->∃j:Nat,z.cP=(j:Int)/\T3 j
def aWh{z:bA}{a:gQ}(h:Ry z):Ry (rX z a):=by
 unfold rX;split
 .exact h
 split
 .exact h
 split
 .intro c;cases c
 .intro c;cases c
def aWp{l:List gQ}:∀{z:bA},Ry z->Ry (pP z l):=by
 induction l with
 | nil=>exact fun h=>h
 | cons a l ih=>exact fun h=>ih (aWh h)
def aWo{z:bA}{l:List gQ}{i:Nat}{a:gQ}(h:l[i]? =some a):pP z (l.take (i+1))=rX (pP z (l.take i)) a:=by
 obtain⟨c,rfl⟩:=cE.1 h;unfold pP;rw[List.take_succ_eq_append_getElem c,pK];rfl
def aKU{l:List gQ}{i k:Nat}{a:gQ}{v:Value}(h:l[i]? =some a)(c:a.cells[k]? =some v):(l.flatMap gQ.cells)[i*4+k]? =some v:=by
 induction l generalizing i with
 | nil=>simp at h
 | cons x l ih =>
  cases i with
  | zero=>
   simp at h;subst h;rw[Nat.zero_mul,mA,Df,pL (cE.1 c).1];exact c
  | succ i=>
   rw[tX] at h;rw[Df,show(i+1)*4+k=x.cells.length+(i*4+k) by simp[gQ.cells];omega,nA aA,Pm];exact ih h
def aPn(g h f:Nat)(s:aI)(z:bA)(w:World)(F:Nat->Prop)(A:Option Addr)(c:Nat)(l:List gQ)(hl:l.length<=1000)(I:Ry z)(hp:(lF g h f s z).sat F w)(hF:∀b,F b->b < w.heap.size)(hs:aO ⟨w,fun b=>b < w.heap.size/\¬F b⟩ 4 A l.length (l.flatMap gQ.cells)):
  Cz 83 #[pt g,.slice A l.length c] w (fun v w'=>v=.returned (.tuple #[])/\∃V,(lF g h f s (pP z l)).sat V w'/\jG w w' F V):=by
 refine fS func83 ntmps83 hp hF ?_;generalize U:(⟨w,fun b=>b < w.heap.size/\¬F b⟩:Piece)=R0 at hs|-;refine aD ?_;refine cF [(8,iv 0),(7,iv l.length),(6,.slice A l.length c),(0,pt g),(1,.slice A l.length c)] ?_;refine gA (fun m e R H=>∃i:Nat,i<=l.length/\m=l.length - i/\e=[(8,iv i),(7,iv l.length),(6,.slice A l.length c),(0,pt g),(1,.slice A l.length c)]/\R=[R0]/\H=[lF g h f s (pP z (l.take i))]) l.length ⟨0,aA,rfl,rfl,rfl,rfl⟩ fun m e R H hI=>?_;obtain⟨i,hi,rfl,rfl,rfl,rfl⟩:=hI;refine aD ?_;refine dD rfl (fun E=>?_) (fun hge=>?_)
 .have E:i < l.length:=aA
  obtain⟨a,X⟩:=get_some E;obtain⟨b,off,rfl,N,hc⟩:=hs.2 aA
  have n:=aWo (z:=z) X
  have B:Ry (pP z (l.take i)):=aWp I
  generalize pP z (l.take i)=zi at n B|-;obtain⟨y,x,d,o⟩:=a;refine aD ?_;refine kd (dat i (off+i*4)) ?_;refine kd (nQ rfl (cI.of (vs:=[iv y,iv x,.bool d,.int .u32 o]) fun k v hv=>Rd.ro (p:=R0) aB N (by rw[wT];exact hc _ _ (aKU X hv)))) ?_;refine kK fun g1=>?_;refine kF 1 fun L=>?_;refine oU ?_;refine kU ?_;refine Ed (bT rfl (tN 1 rfl rfl)) ?_;cases D:zi.aV
  .have T:rX zi ⟨y,x,d,o⟩=zi:=aH D
   refine kM ?_;refine dN 1 (fun L:eA=>iR g h f L s zi) L ?_;refine aD ?_;refine aZ [1] ?_;refine cF [(8,iv (i+1:Nat)),(7,iv l.length),(6,.slice (some ⟨b,off,none⟩) l.length c),(0,pt g),(1,.slice (some ⟨b,off,none⟩) l.length c)] ?_;exact iZ (l.length - (i+1)) aA ⟨i+1,aA,rfl,rfl,rfl,by rw[n,T];rfl⟩
  .obtain⟨j,Y,G⟩:=B D
   have Z:0<=zi.cP:=by omega
   have r:rX zi ⟨y,x,d,o⟩=if y≠zi.id then zi else if d=true then qE zi zi.cP.toNat 6 0 else qE zi zi.cP.toNat 0 o:=aC (by rw[D];simp)
   refine kU ?_;refine Ed (bT rfl (tN 1 rfl rfl)) ?_;refine kM ?_;refine dN 1 (fun L:eA=>iR g h f L s zi) L ?_;refine aD ?_;refine dD rfl (fun C=>?_) (fun C=>?_)
   .rw[aH C] at r;refine aD ?_;refine aZ [1] ?_;refine cF [(8,iv (i+1:Nat)),(7,iv l.length),(6,.slice (some ⟨b,off,none⟩) l.length c),(0,pt g),(1,.slice (some ⟨b,off,none⟩) l.length c)] ?_;exact iZ (l.length - (i+1)) aA ⟨i+1,aA,rfl,rfl,rfl,by rw[n,r];rfl⟩
   .rw[aC C] at r;refine aD ?_;cases d
    .refine aF ?_;refine gH 1 (lF g h f s (qE zi zi.cP.toNat 0 o)) (fun K O t M J h3=>Pd g h f s zi K O zi.cP.toNat aA (by rw[Y,dL];exact G) 0 o M J) ?_;refine aZ [1] ?_;refine cF [(8,iv (i+1:Nat)),(7,iv l.length),(6,.slice (some ⟨b,off,none⟩) l.length c),(0,pt g),(1,.slice (some ⟨b,off,none⟩) l.length c)] ?_;exact iZ (l.length - (i+1)) aA ⟨i+1,aA,rfl,rfl,rfl,by rw[n,r];rfl⟩
    .refine aF ?_;refine gH 1 (lF g h f s (qE zi zi.cP.toNat 6 0)) (fun K O t M J h3=>Pd g h f s zi K O zi.cP.toNat aA (by rw[Y,dL];exact G) 6 0 M J) ?_;refine aZ [1] ?_;refine cF [(8,iv (i+1:Nat)),(7,iv l.length),(6,.slice (some ⟨b,off,none⟩) l.length c),(0,pt g),(1,.slice (some ⟨b,off,none⟩) l.length c)] ?_;exact iZ (l.length - (i+1)) aA ⟨i+1,aA,rfl,rfl,rfl,by rw[n,r];rfl⟩
 obtain rfl:i=l.length:=by omega
 rw[Bn];refine aD ?_;subst U;exact gF 0 hF
section
variable(s:aI)(A1 A2 A3 A4:Option Addr)(n1 k1 n2 k2 n3 k3 n4 k4:Nat)(w:World)
def aM6(s:aI)(v:Value)(hs:List HP)(_:Piece):Prop:=∃c d A k,v=.tuple #[pt c,iv 0]/\hs=[Om c d A k (dS s) ⟨[],false⟩]
def aUZ(hm:s.made)(hW:jH w s A1 n1 A2 n2 A3 n3 A4 n4):
  Cz 35 #[.agg #[.slice A1 n1 k1,.slice A2 n2 k2,.slice A3 n3 k3,.slice A4 n4 k4]] w (fun y w'=>(∃v hs q,y=.returned v/\q.w=w'/\aM6 s v hs q/\iV w hs q)/\Below w.heap.size w w'):=by
 obtain rfl:=hW.vQ;obtain rfl:=hW.vP;obtain rfl:=hW.yJ;obtain rfl:=hW.vO;refine bQ func35 ntmps35 ?_;refine iG fun m=>?_;refine cR (fun e t=>Wb s A1 A2 A3 A4 _ k1 _ k2 _ k3 _ k4 e (hW.le (t.started aB)) (Yx hm)) ?_;refine jL [] (Jc (dS s)) (fun e t=>aEg s A1 A2 A3 A4 _ k1 _ k2 _ k3 _ k4 e (hW.le (t.started aB))) ?_;rintro _ e l ⟨f,i,rfl,d⟩ k _ c
 have d:=d.le k
 refine Nx (Φ:=Gm f (dS s)) (hm:=Gm.le) (c aB) (by simp[all]) d ?_;refine Xj aE fun h=>?_;refine kd (fI rfl) ?_;refine iG fun j=>?_;refine aZ [0,1,2] ?_ (R':=[all w]);refine oP ?_;refine oP ?_;refine dX [] [] [0] fun q _ _ c=>?_;exact kN fun e t=>⟨⟨_,_,⟨e,q.Z⟩,rfl,rfl,⟨j,h,f,i,rfl,rfl⟩,t.newR aB aB (c aB aB)⟩,t.below aB⟩
def Xx(s:aI):bA:={rp0 s with wn:=fL s []}
def aLY(h f:Nat)(s:aI)(v:Value)(hs:List HP)(_:Piece):Prop:=∃g,v=.tuple #[pt g,iv 0]/\hs=[lF g h f s (Xx s)]
def aOY(h f:Nat)(hm:s.made)(hW:jH w s A1 n1 A2 n2 A3 n3 A4 n4):
  Cz 40 #[pt h,pt f,.agg #[.slice A1 n1 k1,.slice A2 n2 k2,.slice A3 n3 k3,.slice A4 n4 k4]] w (fun y w'=>(∃v hs q,y=.returned v/\q.w=w'/\aLY h f s v hs q/\iV w hs q)/\Below w.heap.size w w'):=by
 obtain rfl:=hW.vQ;obtain rfl:=hW.vP;obtain rfl:=hW.yJ;obtain rfl:=hW.vO;refine bQ func40 ntmps40 ?_;refine iG fun g1=>?_;refine gN (aM6 s) (fun i t=>aUZ s A1 A2 A3 A4 _ k1 _ k2 _ k3 _ k4 i hm (hW.le (t.started aB))) ?_;rintro _ _ q0 ⟨O,M,R,N,rfl,rfl⟩ _;dsimp only[dW,dG];refine aZ [0,1] ?_ (R':=[all w]);refine aD ?_
 refine jL [] (fun v w w'=>aCT s v w w') (fun i t=>aF1 s A1 A2 A3 A4 _ k1 _ k2 _ k3 _ k4 i (hW.le (t.started aB)) (fun d hd=>by
  obtain⟨j,X⟩:=lA hd
  have:=(hm.aG j d X).2.2.2.2.2.2.2.2.1
  omega)) ?_
 rintro _ i q1 ⟨cs,rfl,E⟩ D _ k
 have k:=k aB
 obtain⟨H,m1,z,B,m2,J,A,m3,C,I,Y,K,rfl,e⟩:=yT.P E
 have e:=e.le D
 obtain⟨rfl,rfl,rfl,rfl⟩:=e.len;refine Nx (Φ:=oY ⟨(H,z),(B,J),(A,C),(I,K),O,M,(R,N),(none,0),(none,0),(none,0),(none,0)⟩ s) (hm:=oY.le) k (by simp[all]) e ?_;refine aD ?_;refine kd (fI rfl) ?_;refine iG fun g=>?_;refine kd (nQ rfl (Cl (vs:=[_,_,_,_]) 0 rfl rfl)) ?_;refine gN (aA3 (fL s [])) (fun i t=>aAL (all i) s H B A I _ z _ J _ C _ K none 0 [] i (t.cO 1 rfl) hm (Piece.Le.refl _) (aO.nil _ _)) ?_;rintro _ _ q2 ⟨T,V,U,px,rfl,rfl⟩ _;dsimp only[dW,dG];refine aD ?_;refine Hu 2 rfl ?_;dsimp only[List.set];refine aD ?_;obtain⟨m,n⟩:∃m:eA,m=⟨(H,z),(B,J),(A,C),(I,K),O,M,(R,N),(some ⟨T,0,none⟩,(fL s []).d.length),(some ⟨V,0,none⟩,(fL s []).c.length),(some ⟨U,0,none⟩,(fL s []).l.length),(none,0)⟩:=⟨_,rfl⟩
 refine tH (q:=HP.cO (xP m (fL s [])) (xP.le (L:=m) (x:=fL s []))) 0 rfl (fun F w hs=>?_) ?_
 .obtain⟨G,k1,k2,_⟩:=hs;subst n;exact⟨uH (c:=0) (k1 0 _ rfl) (fun b o=>k2 0 b o) (by simp[bO]),uH (c:=0) (k1 1 _ rfl) (fun b o=>k2 1 b o) (by simp[bO]),uH (c:=0) (k1 2 _ rfl) (fun b o=>k2 2 b o) (by simp[bO])⟩
 dsimp only[List.set];refine rZ (p:=HP.cO (qY m []) (qY.le (L:=m) (l:=[]))) (fun w=>by subst n;exact⟨aO.nil _ _,gE _⟩) ?_;refine bB 5 0 ?_;refine bB 6 1 ?_;refine aZ [5,6,3,1,0,2] ?_ (R':=[all w]);refine oP ?_;refine uY ?_;refine uY ?_;refine uY ?_;refine uY ?_;refine wB 0 (f:=fun L:eA=>iR g h f L s (Xx s)) m (by subst n;rfl) ?_;dsimp only[List.set];refine dX [] [] [0] fun q _ _ r=>?_;exact kN fun i t=>⟨⟨_,_,⟨i,q.Z⟩,rfl,rfl,⟨g,rfl,rfl⟩,t.newR aB aB (r aB aB)⟩,t.below aB⟩
end
def aPr(w0:Int)(A:Option Addr)(n c:Nat)(zs:List Int)(w:World)(hs:aO (all w) 1 A n (eB zs))(f:n=zs.length)(i:n<=1000000):Cz 42 #[.int .u32 w0,.slice A n c] w (fun y w'=>(∃v hs q,y=.returned v/\q.w=w'/\aMc (w0::zs) v hs q/\iV w hs q)/\Below w.heap.size w w'):=by
 refine bQ func42 ntmps42 ?_;refine aDb 1 4 (el:=36) (c:=n+1) (k0:=1) (tD:=.i64) aJ aJ rfl (by rw[Int.natCast_add];rfl) aA aA aE fun l=>?_;refine aF ?_;refine eX fun j=>?_;refine Qh 1 fun k m=>?_;refine aF ?_;refine jU 1 1 4 n (n':=n+1) (el:=36) aJ aJ aE rfl rfl rfl (sF aB hs) (Hi _) aA aA aA aE fun o c2=>?_;dsimp only[List.set];refine aF ?_;subst f;refine dX [] [] [1] fun q _ _ d=>?_;exact bK (h:=fun e st=>⟨_,_,⟨e,q.Z⟩,rfl,rfl,⟨_,_,rfl,rfl⟩,st.newR aB aB (d aB aB)⟩)
def aUY(m t p k:Int)(A:Option Addr)(n c:Nat)(zs:List Int)(w:World)(hs:aO (all w) 1 A n (eB zs))(j:n=zs.length)(i:n<=1000000)(e:(dQ m t p k).2=0):Cz 24 #[.agg #[iv m,iv t,iv p,iv k],.slice A n c] w (fun y w'=>(∃v hs q,y=.returned v/\q.w=w'/\aM7 ((dQ m t p k).1::zs) v hs q/\iV w hs q)/\Below w.heap.size w w'):=by
 refine bQ func24 ntmps24 ?_;refine iG fun r=>?_;refine cR (fun d st=>aIe m t p k d) ?_;refine eG (fun h=>?_) (fun h=>?_)
 .
  exact absurd e h
 .
  refine gN (aMc ((dQ m t p k).1::zs)) (fun d st=>aPr (dQ m t p k).1 A n c zs d (hs.le (st.le aB)) j i) ?_;rintro _ _ l ⟨o,x,rfl,rfl⟩ _;simp only[sZ,sI];refine aF ?_;refine dX [] [] [0] fun q _ _ f=>?_;refine kN fun d st=>⟨⟨_,_,⟨d,q.Z⟩,rfl,rfl,⟨_,_,rfl,rfl⟩,st.newR aB aB (f aB aB)⟩,st.below aB⟩
def aHp(x:bM)(k id:Int):(iL x k id).d.length=x.d.length/\(iL x k id).c.length=x.c.length/\(iL x k id).l.length=x.l.length:=by
 unfold iL;split
 .exact⟨Tb _ _ _,rfl,rfl⟩
 .split
  .exact⟨rfl,Tb _ _ _,rfl⟩
  .split
   .exact⟨rfl,rfl,Tb _ _ _⟩
   .exact⟨rfl,rfl,rfl⟩
def aHo{x:bM}(h:x.sm)(k id:Int):(iL x k id).sm:=by
 obtain⟨f,i,e⟩:=aHp x k id;exact⟨by rw[f];exact h.d,by rw[i];exact h.c,by rw[e];exact h.l⟩
def aTY{x:bM}(h:x.sm)(ag:Nat)(k id:Int):(fH x ag k id).sm:=by
 unfold fH;split
 .exact aHo h k id
 .exact h
def aTX{x:bM}(h:x.sm)(ag:Nat)(k id:Int):(iI x ag k id).sm:=by
 unfold iI;split
 .exact h
 .exact aHo h k id
def aJr(n:Nat)(i:Nat):hasB (List.replicate n false) i=false:=by
 unfold hasB;rw[zJ];split<;>rfl
def aGF(s:aI)(k id:Int):jW (dV s) k id=false:=by
 unfold jW yK dV
 have h:∀n i,hasB (List.replicate n false) i=false:=aJr
 split
 .rw[h];simp
 .split
  .rw[h];simp
  .split
   .rw[h];simp
   .simp[hasB]
def aFw{x y:bM}{wt:List Int}{ag:Nat}{l:List Int}{k id:Int}(f:bZ s l=(0,k,id))(hk:gR k)(c:k≠0)(hw:jW (if ag=0 then x else y) k id=false):
  eY s x y wt ag l=if k=117/\(s.domains[id.toNat]?).any (fun d=>decide (d.above≠ -1)&& !qN x y 117 d.above)=true then(-3,0,0) else(0,k,id):=by
 unfold eY;rw[f];dsimp only;rw[hw,aC (by simp[c,hk]),aH hk]
def aFx{x y:bM}{wt:List Int}{ag:Nat}{l:List Int}{k id:Int}(d:bZ s l=(0,k,id))(hk:¬gR k)(c:k≠0)(hw:jW (if ag=0 then x else y) k id=true):
  eY s x y wt ag l=if Cb s x y ag k id=true then(-3,0,0) else if Is s wt k id=true then(-6,0,0) else(0,k,id):=by
 unfold eY;rw[d];dsimp only;rw[hw,aC (by simp[c,hk]),aC hk]
def aF7(s:aI)(k id:Int):Is s [] k id=false:=aF8 fun i c=>by simp[Fz]
section
variable{a:Nat}
end
def aAM{s:aI}{act:List Bool}(i:Nat)(hi:i < s.domains.length):∀n,(jI s act n).d[i]?.getD false=true↔∃j,j < n/\hasB act j=true/\∃x,s.aG[j]? =some x/\i∈Hh s x.domain.toNat
 | 0=>by simp[jI,dV,hi]
 | n + 1 => by
  have ih:=aAM (act:=act) i hi n
  have p:=(Hg s act n).d
  cases m:hasB act n with
  | false =>
   rw[Sk m,ih];constructor
   .rintro⟨j,k,c⟩;exact⟨j,aA,c⟩
   .rintro⟨j,k,c,f⟩;rcases dI j n with h | h
    .exact⟨j,h,c,f⟩
    .have:j=n:=aA
     subst this;rw[m] at c;cases c
  | true =>
   cases l:s.aG[n]? with
   | none =>
    have e:jI s act (n+1)=jI s act n:=by
     show(if hasB act n then _ else _)=_
     rw[aH m,l]
    rw[e,ih];constructor
    .rintro⟨j,k,c⟩;exact⟨j,aA,c⟩
    .rintro⟨j,k,c,x,f,o⟩;rcases dI j n with h | h
     .exact⟨j,h,c,x,f,o⟩
     .have:j=n:=aA
      subst this;rw[l] at f;cases f
   | some x =>
    rw[Xq l m]
    show(uO (Hh s x.domain.toNat) (jI s act n).d)[i]?.getD false=true↔_
    rw[aHX _ _ _ aA,yD,decide_eq_true_eq,ih];constructor
    .rintro(h | ⟨j,k,c⟩)
     .exact⟨n,aA,m,x,l,h⟩
     .exact⟨j,aA,c⟩
    .rintro⟨j,k,c,y,f,o⟩;rcases dI j n with h | h
     .exact .inr ⟨j,h,c,y,f,o⟩
     .have:j=n:=aA
      subst this;rw[l] at f;cases f;exact .inl o
def Sm{s:aI}{act:List Bool}(i:Nat)(hi:i < s.aL.length):∀n,(jI s act n).c[i]?.getD false=true↔∃j,j < n/\hasB act j=true/\∃x,s.aG[j]? =some x/\i∈(fV s x.clock.toNat).filter (pH s)
 | 0=>by simp[jI,dV,hi]
 | n + 1 => by
  have ih:=Sm (act:=act) i hi n
  have p:=(Hg s act n).c
  cases m:hasB act n with
  | false =>
   rw[Sk m,ih];constructor
   .rintro⟨j,k,d⟩;exact⟨j,aA,d⟩
   .rintro⟨j,k,d,f⟩;rcases dI j n with h | h
    .exact⟨j,h,d,f⟩
    .have:j=n:=aA
     subst this;rw[m] at d;cases d
  | true =>
   cases l:s.aG[n]? with
   | none =>
    have e:jI s act (n+1)=jI s act n:=by
     show(if hasB act n then _ else _)=_
     rw[aH m,l]
    rw[e,ih];constructor
    .rintro⟨j,k,d⟩;exact⟨j,aA,d⟩
    .rintro⟨j,k,d,x,f,o⟩;rcases dI j n with h | h
     .exact⟨j,h,d,x,f,o⟩
     .have:j=n:=aA
      subst this;rw[l] at f;cases f
   | some x =>
    rw[Xq l m]
    show(uO ((fV s x.clock.toNat).filter (pH s)) (jI s act n).c)[i]?.getD false=true↔_
    rw[aHX _ _ _ aA,yD,decide_eq_true_eq,ih];constructor
    .rintro(h | ⟨j,k,d⟩)
     .exact⟨n,aA,m,x,l,h⟩
     .exact⟨j,aA,d⟩
    .rintro⟨j,k,d,y,f,o⟩;rcases dI j n with h | h
     .exact .inr ⟨j,h,d,y,f,o⟩
     .have:j=n:=aA
      subst this;rw[l] at f;cases f;exact .inl o
def aGK{s:aI}{act:List Bool}(i:Nat){j:Nat}{x:bR}(hi:i < s.bG.length)(hx:s.aG[j]? =some x)(k:hasB act j=true)(h:x.reset=(i:Int)):∀n,j < n->(jI s act n).l[i]?.getD false=true
 | n + 1, hj => by
  have hl:=(Hg s act n).l
  by_cases d:j=n
  .subst d;rw[Xq hx k]
   show(iY (jI s act j).l x.reset true)[i]?.getD false=true
   rw[h,aHW,aH rfl,cX aA];rfl
  .have ih:=aGK i hi hx k h n aA
   cases c:hasB act n with
   | false=>rw[Sk c];exact ih
   | true =>
    cases f:s.aG[n]? with
    | none =>
     have e:jI s act (n+1)=jI s act n:=by
      show(if hasB act n then _ else _)=_
      rw[aH c,f]
     rw[e];exact ih
    | some y =>
     rw[Xq f c]
     show(iY (jI s act n).l y.reset true)[i]?.getD false=true
     unfold iY;rw[gX];split
     .split<;>simp
      omega
     .exact ih
def aNh{s:aI}(hm:s.made){a:List Bool}{j:Nat}{x:bR}(hx:s.aG[j]? =some x)(h:hasB a j=true):
  (fL s a).d[x.domain.toNat]?.getD false=true/\(fL s a).l[x.reset.toNat]?.getD false=true/\∀c,s.aL[x.clock.toNat]? =some c->(c.kind=112\/c.kind=103)->(fL s a).c[x.clock.toNat]?.getD false=true:=by
 have f:=(cE.1 hx).1
 obtain⟨o,r,p,t,r0,r1,_⟩:=hm.aG j x hx
 have k:El s (x.domain.toNat:Int) (Hh s x.domain.toNat):=aAN hm aA
 refine⟨(aAM _ aA _).2 ⟨j,f,h,x,hx,k.head⟩,aGK _ aA hx h aA _ f,fun c e i=>(Sm _ (cE.1 e).1 _).2 ⟨j,f,h,x,hx,sY.2 ⟨?_,?_⟩⟩⟩
 .unfold fV;obtain⟨n,m⟩:∃n,s.aL.length=n+1:=⟨s.aL.length - 1,by have:=hm.nc;omega⟩
  rw[m,aKD e];simp
 .unfold pH;rw[e];exact eM i
def aNg(s:aI):fL s []=dV s:=by
 have:∀n,jI s [] n=dV s:=fun n=>by
  induction n with
  | zero=>rfl
  | succ n ih=>rw[Sk (by simp[hasB]),ih]
 exact this _
def aF4(hm:s.made):∀(k c:Nat),∀i∈mT s k c,i<=c
 | 0,c,i,h=>by simp[mT] at h
 | k + 1, c, i, h => by
  unfold mT at h;cases d:s.aL[c]? with
  | none=>rw[d] at h;simp at h
  | some x =>
   rw[d] at h;dsimp only at h;cases hs:x.src with
   | nil=>rw[hs] at h;simp at h;omega
   | cons f fs =>
    rw[hs] at h;rcases fT.1 h with rfl | h
    .exact gE _
    .have:=aF4 hm k _ i h
     have e:=((hm.aL c x d).1) f (by rw[hs];simp)
     omega
def aKB(hm:s.made):∀(k d c:Nat),c < k->c < d->mT s k c=mT s d c
 | 0,_,c,h,_=>by omega
 | _,0,c,_,h=>by omega
 | k + 1, d + 1, c, h, h' => by
  unfold mT;cases e:s.aL[c]? with
  | none=>rfl
  | some x =>
   dsimp only;cases hs:x.src with
   | nil=>rfl
   | cons f fs=>
    dsimp only
    have hf:=((hm.aL c x e).1) f (by rw[hs];simp)
    rw[aKB hm k d f.toNat aA aA]
def aKA(hm:s.made):∀(k c:Nat),c < k->∀i∈mT s k c,∀j∈mT s k i,j∈mT s k c
 | 0,c,h,_,_,_,_=>by omega
 | k + 1, c, hk, i, hi, j, hj => by
  have m:=hi
  unfold mT at hi;cases d:s.aL[c]? with
  | none=>rw[d] at hi;simp at hi
  | some x =>
   rw[d] at hi;dsimp only at hi;cases e:x.src with
   | nil=>rw[e] at hi;simp at hi;subst hi;exact hj
   | cons f fs =>
    rw[e] at hi;rcases fT.1 hi with rfl | hi
    .exact hj
    .have o:=((hm.aL c x d).1) f (by rw[e];simp)
     have n:=aF4 hm k _ i hi
     have l:j∈mT s k i:=by rw[aKB hm k (k+1) i aA aA];exact hj
     have:=aKA hm k f.toNat aA i hi j l
     unfold mT;rw[d];dsimp only;rw[e];exact vL _ this
def aV4(hm:s.made){c i j:Nat}(d:c < s.aL.length)(hi:i∈fV s c)(hj:j∈fV s i):j∈fV s c:=aKA hm _ c d i hi j hj
def aCo(hm:s.made){c i:Nat}(hi:i∈fV s c):i<=c:=aF4 hm _ c i hi
theorem Fq(l:List Bool)(i:Nat):hasB l i=l[i]?.getD false:=rfl
structure bM.cl(x:bM)(s:aI):Prop where
 of:x.of s
 up:∀(i:Nat) d,hasB x.d i=true->s.domains[i]? =some d->0<=d.above->hasB x.d d.above.toNat=true
 ch:∀i j:Nat,hasB x.c i=true->j∈fV s i->pH s j=true->hasB x.c j=true
 sw:∀i:Nat,hasB x.c i=true->pH s i=true
def Kr{l:List Bool}{i:Nat}(h:hasB l i=true):i < l.length:=by
 rw[Fq] at h;rcases dI i l.length with c | c
 .exact c
 .rw[eW c] at h;cases h
def aGJ{s:aI}(hm:s.made)(act:List Bool)(n:Nat):(jI s act n).cl s:=by
 have f:=Hg s act n
 refine⟨f,fun i d h hd E=>?_,fun i j h D A=>?_,fun i h=>?_⟩
 .have e:=Kr h
  rw[f.d] at e;obtain⟨k,w,t,x,l,m⟩:=(aAM i e n).1 h
  have z:=hm.aG k x l
  have r:x.domain.toNat < s.domains.length:=by obtain⟨_,B,_⟩:=z;omega
  have o:=(aAN hm r).up i m d hd E
  exact(aAM _ ((aAN hm r).in_ _ o) n).2 ⟨k,w,t,x,l,o⟩
 .have e:=Kr h
  rw[f.c] at e;obtain⟨k,w,t,x,l,m⟩:=(Sm i e n).1 h
  have z:=hm.aG k x l
  have y:x.clock.toNat < s.aL.length:=by obtain⟨C,_⟩:=z;omega
  rw[sY] at m
  have p:=aV4 hm y m.1 D
  exact(Sm j (aF5 s _ _ j p) n).2 ⟨k,w,t,x,l,sY.2 ⟨p,A⟩⟩
 .have e:=Kr h
  rw[f.c] at e;obtain⟨k,w,t,x,l,m⟩:=(Sm i e n).1 h;exact(sY.1 m).2
def aAT{l:List Nat}(hp:l.Pairwise (· < ·)){t i:Nat}(hi:l[t]? =some i)(j:Nat):j∈l.take t↔j∈l/\j < i:=by
 induction l generalizing t with
 | nil=>simp at hi
 | cons a r ih =>
  rw[List.pairwise_cons] at hp;cases t with
  | zero=>
   simp at hi;subst hi;simp only[Po,pY,false_iff,not_and,fT];rintro(rfl | h) d
   .omega
   .have:=hp.1 j h;omega
  | succ t =>
   simp at hi
   have c:=hp.1 i (dJ hi)
   rw[Fe,fT,fT,ih hp.2 hi];constructor
   .rintro(rfl | h)
    .exact⟨.inl rfl,c⟩
    .exact⟨.inr h.1,h.2⟩
   .rintro⟨rfl | h,d⟩
    .exact .inl rfl
    .exact .inr ⟨h,d⟩
def aGY{l:List Nat}(hp:l.Pairwise (· > ·)){t i:Nat}(hi:l[t]? =some i)(j:Nat):j∈l.take t↔j∈l/\i < j:=by
 induction l generalizing t with
 | nil=>simp at hi
 | cons a r ih =>
  rw[List.pairwise_cons] at hp;cases t with
  | zero=>
   simp at hi;subst hi;simp only[Po,pY,false_iff,not_and,fT];rintro(rfl | h) d
   .omega
   .have:=hp.1 j h;omega
  | succ t =>
   simp at hi
   have c:=hp.1 i (dJ hi)
   rw[Fe,fT,fT,ih hp.2 hi];constructor
   .rintro(rfl | h)
    .exact⟨.inl rfl,c⟩
    .exact⟨.inr h.1,h.2⟩
   .rintro⟨rfl | h,d⟩
    .exact .inl rfl
    .exact .inr ⟨h,d⟩
def aHT(n:Nat):(List.range n).Pairwise (· < ·):=List.pairwise_lt_range
def aB2(n:Nat)(a b:List Bool):(fF (List.range n) a b).Pairwise (· < ·):=(aHT n).filter _
def aI6(n:Nat)(a b:List Bool):(fF (List.range n).reverse a b).Pairwise (· > ·):=by
 unfold fF;refine List.Pairwise.filter _ ?_;rw[List.pairwise_reverse];exact aHT n
def has_fold(b:Bool)(c:List Nat)(l:List Bool)(j:Nat)(hj:j < l.length):hasB (c.foldl (fun d (i:Nat)=>iY d (i:Int) b) l) j=if j∈c then b else hasB l j:=by
 unfold hasB;rw[Yl];split
 .rw[cX hj];rfl
 .rfl
def aAk{α:Type}{A B:List α}{k:Nat}{p:α}(h:(A++B)[k]? =some p):(A[k]? =some p/\(A++B).take k=A.take k)\/∃t,B[t]? =some p/\(A++B).take k=A++B.take t:=by
 rcases dI k A.length with c | c
 .left;rw[pL c] at h;exact⟨h,List.take_append_of_le_length aA⟩
 .right;rw[nA c] at h;exact⟨k - A.length,h,by rw[List.take_append,yE c]⟩
def Sy{pr msg:Int}{val:Nat->Int}{c:List Nat}{t:Nat}{p:eJ}(h:(kY pr msg val c)[t]? =some p):∃i,c[t]? =some i/\p=⟨pr,msg,i,val i⟩/\(kY pr msg val c).take t=kY pr msg val (c.take t):=by
 unfold kY at h|-;rw[eO] at h;obtain⟨i,d,rfl⟩:=kS.1 h;exact⟨i,d,rfl,by rw[List.map_take]⟩
def qV(p:eJ):Int:=if p.pr=17 then(if p.v=1 then 117 else if p.v=0 then 100 else 107) else if p.pr=20 then(if p.v=1 then 99 else 111) else(if p.v=0 then 114 else 97)
structure Xc(s:aI)(x:bM)(p:eJ)(k:Nat):Prop where
 pack:(dQ p.msg 0 p.pr k).2=0
 dec:eY s x (dV s) [] 0 [(dQ p.msg 0 p.pr k).1,p.id,p.v]=(0,qV p,p.id)
 kind:qV p≠0
 done:fH x 0 (qV p) p.id=iB x p
 id:0<=p.id/\p.id < 4294967296
 v:0<=p.v/\p.v < 4294967296
def Zh{m p:Int}{k:Nat}(hm:m=4\/m=7)(hp:p=17\/p=20\/p=22)(hk:k < 64):(dQ m 0 p k).2=0/\wN (dQ m 0 p k).1=0/\Ib (dQ m 0 p k).1=0/\eN (dQ m 0 p k).1=p/\fB (dQ m 0 p k).1=m:=by
 obtain⟨d,e,c⟩:=aSe hm hp hk;rw[aGR] at c;simp only[Kq,List.cons.injEq,Value.int.injEq,true_and,and_true] at c;exact⟨d,e,c.2.1,c.2.2.1,c.1⟩
def Ta{l:List Bool}{i:Nat}(hi:i < l.length)(b:Bool):nY l (i:Int) b=iY l (i:Int) b:=by
 rw[nY,aH ⟨aA,aA⟩];rfl
def Ji(x:bM)(k:Int)(i:Nat):jW x k (i:Int)=hasB (yK k x) i:=by
 unfold jW;simp
def aDm(s:aI)(x:bM)(k i:Int):qN x (dV s) k i=jW x k i:=by
 rw[qN,aGF,Bool.or_false]
section
variable{x:bM}{k i:Nat}
def aSA(hm:s.made)(f:x.of s)(hk:k < 64)(hi:i < s.domains.length)(h:hasB x.d i=false)(e:∀d,s.domains[i]? =some d->0<=d.above->hasB x.d d.above.toNat=true):Xc s x ⟨17,4,i,1⟩ k:=by
 obtain⟨n,o,l,w,y⟩:=Zh (m:=4) (p:=17) (.inl rfl) (.inl rfl) hk
 have r:bZ s [(dQ 4 0 17 k).1,(i:Int),1]=(0,117,(i:Int)):=by
  unfold bZ;dsimp only;rw[o,l,w,y,aC aB,show sP 17 4=some ⟨2,3,100,117,107⟩ from rfl,show eP 17 4=⟨2,3,100,117,107⟩ from rfl];simp[xI,xB,mV.act,Dj,hi]
 have hd:s.domains[i]? =some s.domains[i]:=cX hi
 have j:=(hm.domains i _ hd).1
 refine⟨n,?_,(by show(117:Int)≠0;decide),?_,⟨aB,by have:=hm.nd;simp;omega⟩,⟨aB,aB⟩⟩
 .show eY s x (dV s) [] 0 [(dQ 4 0 17 k).1,(i:Int),1]=(0,117,(i:Int))
  rw[aFw r (.inl rfl) aE (by rw[aH rfl,Ji];exact h),aC];rintro⟨_,c⟩;rw[dL,hd] at c;simp only[Option.any_some,jY,decide_eq_true_eq,Ml] at c
  have z:0<=(s.domains[i]).above:=by omega
  have t:=e _ hd z
  rw[aDm,show(s.domains[i]).above=(((s.domains[i]).above.toNat:Nat):Int) by omega,Ji] at c;rw[show yK 117 x=x.d from rfl,t] at c;cases c.2
 .show(if(0:Nat)=0 then iL x 117 i else x)=_
  rw[aH rfl];unfold iL iB;dsimp only;rw[aH (.inl rfl),aH ⟨rfl,rfl,aE⟩,Ta (by rw[f.d];exact hi)];rfl
def aS8(hm:s.made)(f:x.of s)(hk:k < 64)(hi:i < s.aL.length)(d:pH s i=true)(h:hasB x.c i=false):Xc s x ⟨20,7,i,1⟩ k:=by
 obtain⟨o,n,w,j,t⟩:=Zh (m:=7) (p:=20) (.inr rfl) (.inr (.inl rfl)) hk
 have e:rA s i:=by
  have l:s.aL[i]? =some s.aL[i]:=cX hi
  unfold pH at d;unfold rA kindOf;rw[l] at d|-;exact eV d
 have r:bZ s [(dQ 7 0 20 k).1,(i:Int),1]=(0,99,(i:Int)):=by
  unfold bZ;dsimp only;rw[n,w,j,t,aC aB,show sP 20 7=some ⟨2,2,111,99,0⟩ from rfl,show eP 20 7=⟨2,2,111,99,0⟩ from rfl];simp[xI,xB,mV.act,Dj,hi,e]
 refine⟨o,?_,(by show(99:Int)≠0;decide),?_,⟨aB,by have:=hm.nc;simp;omega⟩,⟨aB,aB⟩⟩
 .show eY s x (dV s) [] 0 [(dQ 7 0 20 k).1,(i:Int),1]=(0,99,(i:Int))
  rw[aFw r (.inr (.inl rfl)) aE (by rw[aH rfl,Ji];exact h),aC];rintro⟨y,_⟩;cases y
 .show(if(0:Nat)=0 then iL x 99 i else x)=_
  rw[aH rfl];unfold iL iB;dsimp only;rw[aC aE,aH (.inl rfl),aC aE,aH ⟨rfl,rfl,aE⟩,Ta (by rw[f.c];exact hi)];rfl
def aS7(hm:s.made)(c:x.of s)(hk:k < 64)(hi:i < s.bG.length)(d:hasB x.l i=false):Xc s x ⟨22,4,i,0⟩ k:=by
 obtain⟨h,f,o,e,n⟩:=Zh (m:=4) (p:=22) (.inl rfl) (.inr (.inr rfl)) hk
 have j:bZ s [(dQ 4 0 22 k).1,(i:Int),0]=(0,114,(i:Int)):=by
  unfold bZ;dsimp only;rw[f,o,e,n,aC aB,show sP 22 4=some ⟨2,2,114,97,0⟩ from rfl,show eP 22 4=⟨2,2,114,97,0⟩ from rfl];simp[xI,xB,mV.act,Dj,hi]
 refine⟨h,?_,(by show(114:Int)≠0;decide),?_,⟨aB,by have:=hm.nr;simp;omega⟩,⟨aB,aB⟩⟩
 .show eY s x (dV s) [] 0 [(dQ 4 0 22 k).1,(i:Int),0]=(0,114,(i:Int))
  rw[aFw j (.inr (.inr rfl)) aE (by rw[aH rfl,Ji];exact d),aC];rintro⟨r,_⟩;cases r
 .show(if(0:Nat)=0 then iL x 114 i else x)=_
  rw[aH rfl];unfold iL iB;dsimp only;rw[aC aE,aC aE,aH (.inl rfl),aC aE,aC aE,aH ⟨rfl,rfl,aE⟩,Ta (by rw[c.l];exact hi)];rfl
def aFt(a:bM)(kd id:Int)(h:Ia s a (dV s) kd id=false):Cb s a (dV s) 0 kd id=false:=by
 rw[Cb,aH rfl,aGF,h];rfl
def aS9(hm:s.made)(r:x.of s)(hk:k < 64)(hi:i < s.aL.length)(f:pH s i=true)(l:hasB x.c i=true)(t:∀j:Nat,j≠i->hasB x.c j=true->i∉fV s j):Xc s x ⟨20,7,i,0⟩ k:=by
 obtain⟨C,w,z,A,D⟩:=Zh (m:=7) (p:=20) (.inr rfl) (.inr (.inl rfl)) hk
 have n:rA s i:=by
  have o:s.aL[i]? =some s.aL[i]:=cX hi
  unfold pH at f;unfold rA kindOf;rw[o] at f|-;exact eV f
 have y:bZ s [(dQ 7 0 20 k).1,(i:Int),0]=(0,111,(i:Int)):=by
  unfold bZ;dsimp only;rw[w,z,A,D,aC aB,show sP 20 7=some ⟨2,2,111,99,0⟩ from rfl,show eP 20 7=⟨2,2,111,99,0⟩ from rfl];simp[xI,xB,mV.act,Dj,hi,n]
 refine⟨C,?_,(by show(111:Int)≠0;decide),?_,⟨aB,by have:=hm.nc;simp;omega⟩,⟨aB,aB⟩⟩
 .show eY s x (dV s) [] 0 [(dQ 7 0 20 k).1,(i:Int),0]=(0,111,(i:Int))
  rw[aFx y aE aE (by rw[aH rfl,Ji];exact l),aFt,aF7]
  .rfl
  .refine Zm fun j G=>?_;cases h:yN s x (dV s) 111 i j with
   | false=>rfl
   | true=>
    exfalso;unfold yN at h;rw[aC aE] at h;simp only[jY,decide_eq_true_eq,aDm,Ji] at h
    have o:=h.2.2
    unfold zY at o
    have d:=eV o
    rw[dL] at d;refine t j (fun e=>h.1 (by rw[e])) h.2.1 ?_;simp only[eD,fR] at d;obtain⟨q,F,B⟩:=d
    have E:(q:Int)=(i:Int):=B
    have:q=i:=by omega
    rwa [<-this]
 .show(if(0:Nat)=0 then iL x 111 i else x)=_
  rw[aH rfl];unfold iL iB;dsimp only;rw[aC aE,aH (.inr rfl),aC aE,aH ⟨rfl,rfl,aE⟩,Ta (by rw[r.c];exact hi)];rfl
def aSB(hm:s.made)(o:x.of s)(hk:k < 64)(hi:i < s.domains.length)(h:hasB x.d i=true)(t:∀(j:Nat) d,s.domains[j]? =some d->d.above=(i:Int)->hasB x.d j=false):Xc s x ⟨17,4,i,rQ s i⟩ k:=by
 obtain⟨A,B,z,C,D⟩:=Zh (m:=4) (p:=17) (.inl rfl) (.inl rfl) hk
 have hd:s.domains[i]? =some s.domains[i]:=cX hi
 have c:∀kd:Int,(kd=100\/kd=107)->Ia s x (dV s) kd i=false:=by
  intro kd r;refine Zm fun j G=>?_;cases l:yN s x (dV s) kd i j with
  | false=>rfl
  | true =>
   exfalso;unfold yN at l;rw[aH r,jY,aDm,Ji] at l;cases n:s.domains[j]? with
   | none=>rw[n] at l;simp at l
   | some d=>
    rw[n] at l
    have F:d.above=(i:Int):=by simpa using l.1
    have:=t j d n F
    have E:yK kd x=x.d:=by rcases r with rfl | rfl<;>rfl
    rw[E,this] at l;cases l.2
 cases f:(s.domains[i]).ret with
 | false =>
  have e:rQ s i=0:=by unfold rQ;rw[hd];simp[f]
  rw[e]
  have w:bZ s [(dQ 4 0 17 k).1,(i:Int),0]=(0,100,(i:Int)):=by
   unfold bZ;dsimp only;rw[B,z,C,D,aC aB,show sP 17 4=some ⟨2,3,100,117,107⟩ from rfl,show eP 17 4=⟨2,3,100,117,107⟩ from rfl];simp[xI,xB,mV.act,Dj,hi]
  refine⟨A,?_,(by show(100:Int)≠0;decide),?_,⟨aB,by have:=hm.nd;simp;omega⟩,⟨aB,aB⟩⟩
  .show eY s x (dV s) [] 0 [(dQ 4 0 17 k).1,(i:Int),0]=(0,100,(i:Int))
   rw[aFx w aE aE (by rw[aH rfl,Ji];exact h),aFt _ _ _ (c 100 (.inl rfl)),aF7];rfl
  .show(if(0:Nat)=0 then iL x 100 i else x)=_
   rw[aH rfl];unfold iL iB;dsimp only;rw[aH (.inr (.inl rfl)),aH ⟨rfl,rfl,aE⟩,Ta (by rw[o.d];exact hi)];rfl
 | true =>
  have e:rQ s i=2:=by unfold rQ;rw[hd];simp[f]
  rw[e]
  have w:bZ s [(dQ 4 0 17 k).1,(i:Int),2]=(0,107,(i:Int)):=by
   have y:Js s i=true:=by unfold Js;rw[hd];simp[f]
   unfold bZ;dsimp only;rw[B,z,C,D,aC aB,show sP 17 4=some ⟨2,3,100,117,107⟩ from rfl,show eP 17 4=⟨2,3,100,117,107⟩ from rfl];simp[xI,xB,mV.act,Dj,hi,y]
  refine⟨A,?_,(by show(107:Int)≠0;decide),?_,⟨aB,by have:=hm.nd;simp;omega⟩,⟨aB,aB⟩⟩
  .show eY s x (dV s) [] 0 [(dQ 4 0 17 k).1,(i:Int),2]=(0,107,(i:Int))
   rw[aFx w aE aE (by rw[aH rfl,Ji];exact h),aFt _ _ _ (c 107 (.inr rfl)),aF7];rfl
  .show(if(0:Nat)=0 then iL x 107 i else x)=_
   rw[aH rfl];unfold iL iB;dsimp only;rw[aH (.inr (.inr rfl)),aH ⟨rfl,rfl,aE⟩,Ta (by rw[o.d];exact hi)];rfl
end
def aSP{s:aI}{L:List eJ}{x:bM}(h:x.of s):(L.foldl iB x).of s:=by
 induction L generalizing x with
 | nil=>exact h
 | cons p L ih=>
  obtain⟨f,i,e⟩:=aKS x p;exact ih ⟨by rw[f];exact h.d,by rw[i];exact h.c,by rw[e];exact h.l⟩
section
variable{x y:bM}
def Cv{a b:List Bool}{i:Nat}:uL a b i=true↔hasB b i=true/\hasB a i=false:=by
 unfold uL;rw[jY,Ml]
def Vh(L:List Nat)(z:bM):(kY 17 4 (fun _=>1) L).foldl iB z=⟨L.foldl (fun d (i:Nat)=>iY d (i:Int) true) z.d,z.c,z.l⟩:=Zv (val:=fun _=>1) (b:=true) (fun _=>⟨aE,rfl⟩) L z
def Zz(L:List Nat)(z:bM):(kY 20 7 (fun _=>1) L).foldl iB z=⟨z.d,L.foldl (fun d (i:Nat)=>iY d (i:Int) true) z.c,z.l⟩:=Zw (val:=fun _=>1) (b:=true) (fun _=>⟨aE,rfl⟩) L z
def aBV(L:List Nat)(z:bM):(kY 22 4 (fun _=>0) L).foldl iB z=⟨z.d,z.c,L.foldl (fun d (i:Nat)=>iY d (i:Int) true) z.l⟩:=Zu (val:=fun _=>0) (b:=true) (fun _=>⟨aE,rfl⟩) L z
def aEZ(L:List Nat)(z:bM):(kY 22 4 (fun _=>1) L).foldl iB z=⟨z.d,z.c,L.foldl (fun d (i:Nat)=>iY d (i:Int) false) z.l⟩:=Zu (val:=fun _=>1) (b:=false) (fun _=>⟨aE,rfl⟩) L z
def aJI(L:List Nat)(z:bM):(kY 20 7 (fun _=>0) L).foldl iB z=⟨z.d,L.foldl (fun d (i:Nat)=>iY d (i:Int) false) z.c,z.l⟩:=Zw (val:=fun _=>0) (b:=false) (fun _=>⟨aE,rfl⟩) L z
def aTi(s:aI)(L:List Nat)(z:bM):(kY 17 4 (rQ s) L).foldl iB z=⟨L.foldl (fun d (i:Nat)=>iY d (i:Int) false) z.d,z.c,z.l⟩:=Zv (val:=rQ s) (b:=false) (fun k=>by have:=aDI s k;exact⟨aA,gW aA⟩) L z
def aBr(b:Bool)(c:List Nat)(l:List Bool):(c.foldl (fun d (i:Nat)=>iY d (i:Int) b) l).length=l.length:=by
 induction c generalizing l with
 | nil=>rfl
 | cons i c ih=>rw[pW,ih,Pu]
end
variable{X:bM}
structure Inv(s:aI)(X:bM)(bd bc bl:Option Nat)(x:aS):Prop where
 ok:dF s x
 wt:∀i,pE x.wt i=0
 of:X.of s
 dom:∀i m,x.dm[i]? =some m->bd≠some i->(hasB X.d i=true->m.phase=49)/\(hasB X.d i=false->m.phase=48\/m.phase=116)
 iO:∀i c y,s.aL[i]? =some c->x.ck[i]? =some y->hasB X.c i=true->bc≠some i->y.on=true/\(c.kind=112->y.left=0)
 nR:∀i,hasB X.c i=true->∀j∈fV s i,rA s j->hasB X.c j=true
 vN:∀c,bc=some c->∀i,hasB X.c i=true->i≠c->c∉fV s i
 qC:∀i y,x.ln[i]? =some y->hasB X.l i=true->bl≠some i->y.held=false
 oO:∀(i:Nat) (p:dO×eK) (d:bR),x.dv[i]? =some p->s.aG[i]? =some d->(p.2.at_=0\/p.2.at_=2\/p.2.at_=1/\bd=some d.domain.toNat)/\(hasB X.d d.domain.toNat=true->bd≠some d.domain.toNat->p.2.at_=0)
def aND{m:gK}(h:m.phase=49\/m.phase=48\/m.phase=116):(jQ m).2=m:=by
 unfold jQ;rw[aC aA,aC aA,aC aA]
def aKC(s:aI):∀(k c:Nat),∀j∈mT s k c,j < s.aL.length
 | 0,c,j,h=>by simp[mT] at h
 | k + 1, c, j, h => by
  unfold mT at h;cases d:s.aL[c]? with
  | none=>rw[d] at h;simp at h
  | some x =>
   rw[d] at h;dsimp only at h;rcases fT.1 h with rfl | h
   .exact(cE.1 d).1
   .cases hs:x.src with
    | nil=>rw[hs] at h;simp at h
    | cons f fs=>rw[hs] at h;exact aKC s k _ j h
def aCn{s:aI}{i j:Nat}(h:j∈fV s i):j < s.aL.length:=aKC s _ _ j h
def Qg{s:aI}{i:Nat}{c:fK}(h:s.aL[i]? =some c):kindOf s i=c.kind:=by
 unfold kindOf;rw[h];rfl
section
variable{bd bc bl:Option Nat}
def aHe(hm:s.made){i:Nat}{c:fK}(j:s.aL[i]? =some c)(d:rA s i):∃(f:Nat) (h:List Int),c.src=(f:Int)::h/\f < i:=by
 have e:=hm.aL i c j
 have n:=Qg j
 unfold rA at d;rw[n] at d;obtain⟨m,l⟩:=e;cases k:c.src with
 | nil=>
  exfalso;rw[k] at l;simp at l;omega
 | cons f h=>
  have:=m f (by rw[k];simp)
  exact⟨f.toNat,h,by rw[Int.toNat_of_nonneg this.1],aA⟩
def aQU{c:Int}{n i:Nat}{p':dO×eK}(h:(Dk x c n)[i]? =some p'):∃p,x.dv[i]? =some p/\(p.2.at_≠1->p'.2=p.2)/\(i < n->p'.2=yA p.2 (decide (0 < pE x.wt i)) (Rb c i)):=by
 rw[Dk,wU] at h;cases e:x.dv[i]? with
 | none=>rw[e] at h;cases h
 | some q =>
  rw[e] at h;simp only[lO,tW] at h;refine⟨q,rfl,fun d=>?_,fun d=>?_⟩
  .subst h;split
   .unfold yA;rw[aH d]
   .rfl
  .subst h;rw[aH d]
def aTO{dv:List (dO×eK)}{e:Int×Nat}{i:Nat}{p':dO×eK}(h:(uU s dv e)[i]? =some p'):∃p,dv[i]? =some p/\p'.2=p.2:=by
 rw[uU,Fk,wU] at h;cases c:dv[i]? with
 | none=>rw[c] at h;cases h
 | some q =>
  rw[c] at h;simp only[lO,tW] at h;refine⟨q,rfl,?_⟩;subst h;split
  .unfold Io;split
   .split<;>rfl
   .rfl
  .rfl
def aJ3:∀(es:List (Int×Nat)) (dv:List (dO×eK)) (i:Nat) (p':dO×eK),(es.foldl (uU s) dv)[i]? =some p'->∃p,dv[i]? =some p/\p'.2=p.2
 | [],_,_,p',h=>⟨p',h,rfl⟩
 | e::es,dv,i,p',h=>by
  obtain⟨k,c,j⟩:=aJ3 es _ i p' h;obtain⟨p,d,f⟩:=aTO c;exact⟨p,d,j.trans f⟩
def aDv{c:Int}{i:Nat}{p':dO×eK}(h:(uM s x c).dv[i]? =some p'):∃p,x.dv[i]? =some p/\(p.2.at_≠1->p'.2=p.2)/\(i < s.aG.length->p'.2=yA p.2 (decide (0 < pE x.wt i)) (Rb c i)):=by
 obtain⟨m,f,e⟩:=aJ3 _ _ i p' h;obtain⟨p,k,j,l⟩:=aQU f;exact⟨p,k,fun d=>e.trans (j d),fun d=>e.trans (l d)⟩
def aNF{st:List fE}{i:Nat}{c:fK}{y':fE}(e:s.aL[i]? =some c)(hy:(oJ s st)[i]? =some y'):∃y,st[i]? =some y/\y'=Be s st c y:=by
 rw[oJ,lP,e] at hy;cases d:st[i]? with
 | none=>rw[d] at hy;cases hy
 | some y=>rw[d] at hy;cases hy;exact⟨y,rfl,rfl⟩
end
def aMC(s:aI)(X:bM)(l k id:Int):bX:=⟨X,dV s,0,0,[],[],l,-1,k,id⟩
structure Plain(m:List Int):Prop where
 u:nH m
 n:m.length<=1000000
 rep:wH m
 more:∀(s:aI) (x:aS),vZ s x m 0=[m.headD 0,IntKind.u32.wrap 0]
section
variable{m:List Int}{k id:Int}
end
def aBs{st:List gK}{d:Nat}{y:gK}(hy:st[d]? =some y):tY st (d:Int)=y.phase:=by
 have c:=(cE.1 hy).1
 unfold tY;rw[aH (show bJ st.length (d:Int)=true from eM aA),dL,hy];rfl
def aRB{x:aS}{D:Int}{n i:Nat}{p':dO×eK}{d:bR}(hd:s.aG[i]? =some d)(h:(xC s x D n)[i]? =some p'):∃p,x.dv[i]? =some p/\p'.2=if i < n/\d.domain=D then(qD p.2).2 else p.2:=by
 rw[xC,wU] at h;cases f:x.dv[i]? with
 | none=>rw[f] at h;cases h
 | some q =>
  rw[f] at h;simp only[lO,tW] at h;refine⟨q,rfl,?_⟩;subst h
  by_cases c:i < n
  .rw[aH c];unfold Ki;rw[hd];dsimp only
   by_cases e:d.domain=D
   .rw[aH e,aH ⟨c,e⟩]
   .rw[aC e,aC fun h=>e h.2]
  .rw[aC c,aC fun h=>c h.1]
section
variable{m:List Int}
structure aGk(m p tk:Int):Prop where
 pk:(dQ m 0 p tk).2=0
 un:wN (dQ m 0 p tk).1=0
 ty:Ib (dQ m 0 p tk).1=0
 pr:eN (dQ m 0 p tk).1=p
 ms:fB (dQ m 0 p tk).1=m
 z4:cZ (dQ m 0 p tk).1 28 4=0
 zp:cZ (dQ m 0 p tk).1 10 8=p
 zm:cZ (dQ m 0 p tk).1 0 8=m
def aQ0{m p tk i v:Int}(h:aGk m p tk)(d:m=4\/m=7)(hi:0<=i/\i < 4294967296)(f:0<=v/\v < 4294967296):Plain [(dQ m 0 p tk).1,i,v]:=by
 refine⟨fun y c=>?_,aB,⟨⟨_,_,rfl,h.z4,fun e=>?_⟩⟩,fun s x=>?_⟩
 .simp at c;rcases c with rfl | rfl | rfl
  .exact aQb _ _ _ _
  .exact hi
  .exact f
 .rw[h.zp,h.zm] at e;omega
 .unfold vZ qT;simp only[List.headD_cons,h.zp,h.zm];rw[aH trivial,aC aA,aC aA,aC aA,aC aA]
def aSw{l:List Bool}{i:Nat}(hi:i < l.length)(j:Nat):hasB (nY l i true) j=if j=i then true else hasB l j:=by
 rw[nY,aH ⟨aA,aA⟩,dL,Fq,Fq,gX]
 by_cases h:i=j
 .subst h;rw[aH rfl,aH hi,aH rfl];rfl
 .rw[aC h,aC (fN h)]
end
end Go.Proofs.YtmpkkaknjkffpaaGreatDoor
