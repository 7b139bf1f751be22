/- What each of the messages that wishes leads to. No walk in sight. -/
import Derived.Test.YtmpkkaknjkffpaaGreatDoorAuditSeesK6
namespace Go.Proofs.YtmpkkaknjkffpaaGreatDoor
set_option linter.all false
set_option maxHeartbeats 4000000
set_option maxRecDepth 20000
open Go.RowKit Go.Proofs.Tryz
variable{s:aI}{x:aS}{n:Nat}{N:cQ}{w0:World}{e:Env}{R:List Piece}{H:List HP}
section
variable{X:bM}{l k0 i0:Int}
def aMD(i:Nat):hasB (dV s).d i=false:=by
 show hasB (List.replicate _ false) i=false
 rw[Fq,zJ];split<;>rfl
def aIP(hm:s.made):Inv s (dV s) none none none (hw0 s):=by
 have k:∀(n i:Nat),hasB (List.replicate n false) i=false:=fun n i=>by
  rw[Fq,zJ];split<;>rfl
 refine⟨aIT hm.dM,fun i=>?_,⟨by simp[dV],by simp[dV],by simp[dV]⟩,fun i m e _=>⟨fun h=>?_,fun _=>?_⟩,fun i c y _ _ h _=>?_,fun i h=>?_,(fun _ h=>by cases h),fun i y _ h _=>?_,fun i p d f _=>?_⟩
 .unfold pE hw0;simp only[eO];cases s.aG[i]? <;>rfl
 .rw[show hasB (dV s).d i=false from k _ _] at h;cases h
 .simp only[hw0,eO] at e;cases j:s.domains[i]? with
  | none=>rw[j] at e;cases e
  | some q=>rw[j] at e;cases e;exact .inl rfl
 .rw[show hasB (dV s).c i=false from k _ _] at h;cases h
 .rw[show hasB (dV s).c i=false from k _ _] at h;cases h
 .rw[show hasB (dV s).l i=false from k _ _] at h;cases h
 .have o:p.2.at_=0:=by
   simp only[hw0,eO] at f;cases j:s.aG[i]? with
   | none=>rw[j] at f;cases f
   | some q=>rw[j] at f;cases f;rfl
  exact⟨.inl o,fun _ _=>o⟩
end
section
variable{z:bX}{b:Nat}{m:List Int}{k id:Int}
def aHR(l:nH m)(h:(bZ s m).1=0):wH m:=by
 cases m with
 | nil=>exact absurd h (by show ¬((-10:Int)=0);decide)
 | cons w r =>
  unfold bZ at h;dsimp only at h;split at h
  .exact absurd h aE
  .rename_i f
   split at h
   .exact absurd h aE
   .split at h
    .exact absurd h aE
    .rename_i t
     have d:cZ w 28 4=0:=by
      refine nO fun e=>f (.inl ?_);unfold wN;rw[aH e];decide
     refine⟨⟨w,r,rfl,d,fun p=>?_⟩⟩
     have k:eN w=cZ w 10 8:=by rw[eN,aC (by simp[d])]
     have c:fB w=cZ w 0 8:=by rw[fB,aC (by simp[d])]
     have o:(eP (eN w) (fB w)).n=1:=by
      rw[k,c];rcases p with⟨a,b⟩ | ⟨a,b⟩<;>rw[a,b]<;>rfl
     rw[o] at t
     have j:r.length=1:=by omega
     obtain⟨i,rfl⟩:=List.length_eq_one_iff.1 j;exact⟨i,rfl,l i aB⟩
end
def aSc:([(4,17),(7,20),(4,22)]:List (Int×Int)).all (fun q=>(List.range 1024).all fun k=>aEF q.1 q.2 k)=true:=by decide+kernel
def Ru(p:eJ):Prop:=(p.msg=4/\p.pr=17)\/(p.msg=7/\p.pr=20)\/(p.msg=4/\p.pr=22)
def aEE{p:eJ}(h:Ru p){k:Int}(t:0<=k)(o:k < 1024):(dQ p.msg 0 p.pr k).2=0/\cZ (dQ p.msg 0 p.pr k).1 28 4=0/\cZ (dQ p.msg 0 p.pr k).1 0 8=p.msg/\cZ (dQ p.msg 0 p.pr k).1 8 2=0/\cZ (dQ p.msg 0 p.pr k).1 10 8=p.pr:=by
 have e:=aSc
 rw[mJ] at e;obtain⟨n,rfl⟩:∃n:Nat,k=n:=⟨k.toNat,aA⟩
 have c:aEF p.msg p.pr (n:Int)=true:=by
  have d:=e (p.msg,p.pr) (by
   obtain⟨r,msg,id,v⟩:=p;dsimp only[Ru] at h|-
   rcases h with⟨rfl,rfl⟩ | ⟨rfl,rfl⟩ | ⟨rfl,rfl⟩<;>simp)
  rw[mJ] at d;exact d n (mI.2 aA)
 obtain⟨j,f,l,m,i,_⟩:=eV c;exact⟨j,f,l,m,i⟩
def aIf(m t p k:Int):0<=(dQ m t p k).1/\(dQ m t p k).1 < 4294967296:=by
 unfold dQ
 repeat' split
 all_goals first | exact aHV _ _ _ _ | exact⟨Br 0,(by decide:(0:Int) < 4294967296)⟩
def aWx{s:aI}{x y:bM}:∀p∈allM s x y,Ru p:=by
 intro p c;unfold allM xJ at c;simp only[oM,kY,fR] at c;rcases c with⟨i,_,rfl⟩ | ⟨i,_,rfl⟩ | ⟨i,_,rfl⟩ | ⟨i,_,rfl⟩ | ⟨i,_,rfl⟩ | ⟨i,_,rfl⟩
 all_goals simp[Ru]
def aWd{s:aI}{x:aS}{l:List Int}{st:Int}(hl:nH l):nH (vZ s x l st):=by
 have d:0<=l.headD 0/\l.headD 0 < 4294967296:=by
  cases l with
  | nil=>exact⟨aE,aE⟩
  | cons a r=>exact hl a aB
 have e : nH (qT s x l) := by
  intro v c;unfold qT at c;dsimp only at c;split at c
  .simp at c;subst c;decide
  .split at c
   .simp at c;subst c;exact Sq _
   .split at c
    .simp at c;subst c;unfold Mw
     repeat' split
     all_goals decide
    .split at c
     .simp at c;rcases c with rfl | rfl<;>exact Sq _
     .cases c
 intro v c;unfold vZ at c;rw[fT,fT] at c;rcases c with rfl | rfl | c
 .exact d
 .exact Sq _
 .split at c
  .exact e v c
  .cases c
def aWe{s:aI}{x:aS}{l:List Int}{st:Int}:2<=(vZ s x l st).length/\(vZ s x l st).length<=4:=by
 have:=aI7 s x l
 unfold vZ;split<;>simp<;>omega
def aKs{s:aI}{x y:bM}{wt:List Int}{ag:Nat}{l:List Int}(j:nH l):((eY s x y wt ag l).2.1=0/\((eY s x y wt ag l).1=0->wH l))\/((eY s x y wt ag l).1=0/\(eY s x y wt ag l).2=(bZ s l).2/\(bZ s l).1=0/\(eY s x y wt ag l).2.1≠0/\wH l/\Sd s (eY s x y wt ag l).2.1 (eY s x y wt ag l).2.2):=by
 unfold eY
 by_cases h:(bZ s l).1≠0\/(bZ s l).2.1=0\/jW (if ag=0 then x else y) (bZ s l).2.1 (bZ s l).2.2=decide (gR (bZ s l).2.1)
 .rw[aH h];exact .inl ⟨rfl,fun h=>aHR j h⟩
 .rw[aC h]
  have i:(bZ s l).1=0:=nO fun o=>h (.inl o)
  have f:(bZ s l).2.1≠0:=fun o=>h (.inr (.inl o))
  have r:=aHR j i
  have d:Sd s (bZ s l).2.1 (bZ s l).2.2:=by
   rcases aBk (s:=s) j with⟨t,_⟩ | ⟨_,d,m,c,_,_⟩
   .exact absurd t f
   .refine⟨by unfold Dq at d;omega,fun n=>⟨m,?_⟩⟩;rw[n] at c
    simpa[xB,yL] using c
  have no:∀e:Int,e≠0->e=0->wH l:=fun _ h k=>absurd k h
  by_cases p:gR (bZ s l).2.1
  .rw[aH p];split
   .exact .inl ⟨rfl,no _ aE⟩
   .exact .inr ⟨rfl,rfl,i,f,r,d⟩
  .rw[aC p];split
   .exact .inl ⟨rfl,no _ aE⟩
   .split
    .exact .inl ⟨rfl,no _ aE⟩
    .exact .inr ⟨rfl,rfl,i,f,r,d⟩
def aLg(s:aI)(x:aS)(k id:Int):(pQ s x k id).1.wt=x.wt/\(pQ s x k id).1.aV=x.aV:=by
 unfold pQ tA xH Bk tB Ea
 repeat' split
 all_goals exact⟨rfl,rfl⟩
structure FwB(s:aI)(y:bX):Prop where
 fm:Jd s y
 ax:y.x.of s
 ay:y.y.of s
 h0:y.h0=0\/y.h0=1\/y.h0=2
 h1:y.h1=0\/y.h1=1\/y.h1=2
 r0:y.h0=2->2<=y.w0.length
 r1:y.h1=2->2<=y.w1.length
structure oH(s:aI)(y:bX):Prop extends FwB s y where
 at_:y.at_= -1\/∃a:Nat,y.at_=(a:Int)/\a < 2/\zT y a=1/\Sd s y.kind y.id/\wH (jM y a)
def oH.step{s:aI}{x:aS}{y:bX}(h:oH s y)(hx:dF s x):aLS s x y:=by
 refine⟨hx,h.fm,?_,fun _ a _ d f=>?_,fun _ a _ d=>?_⟩
 .rcases h.at_ with d | ⟨a,d,f,_,c,e⟩
  .exact .inl aA
  .exact .inr ⟨a,d,f,c,e⟩
 .rcases aKs (s:=s) (x:=y.x) (y:=y.y) (wt:=kI s x) (ag:=a) (h.fm.box a).1 with⟨_,c⟩ | ⟨_,_,_,c,_⟩
  .exact c f
  .exact absurd d c
 .rcases aKs (s:=s) (x:=y.x) (y:=y.y) (wt:=kI s x) (ag:=a) (h.fm.box a).1 with⟨c,_⟩ | ⟨_,_,_,_,e,i⟩
  .exact absurd c d
  .exact⟨i,e⟩
def aMx{s:aI}{x:aS}{y:bX}(h:FwB s y)(c:y.at_= -1){a:Nat}(j:a < 2)(st:Int):oH s (rB s x y a st):=by
 have i:=h.fm.box a
 have f:=aWd (s:=s) (x:=x) (st:=st) i.1
 have e:=aWe (s:=s) (x:=x) (l:=jM y a) (st:=st)
 have d:(vZ s x (jM y a) st).length<=1000000:=oL e.2 aE
 unfold rB aDO;split
 .exact⟨⟨⟨h.fm.la,f,h.fm.u1,d,h.fm.n1,h.fm.sx,h.fm.sy⟩,h.ax,h.ay,.inr (.inr rfl),h.h1,fun _=>e.1,h.r1⟩,.inl c⟩
 .exact⟨⟨⟨h.fm.la,h.fm.u0,f,h.fm.n0,d,h.fm.sx,h.fm.sy⟩,h.ax,h.ay,h.h0,.inr (.inr rfl),h.r0,fun _=>e.1⟩,.inl c⟩
def aBa{s:aI}{x:bM}(h:x.of s)(k id:Int):(iL x k id).of s:=by
 obtain⟨f,i,e⟩:=aHp x k id;exact⟨f.trans h.d,i.trans h.c,e.trans h.l⟩
def oH.end_{s:aI}{y:bX}(h:oH s y){a:Nat}(c:y.at_=(a:Int))(d:a < 2)(r:aS×Bool):oH s (yO s y r):=by
 unfold yO;split
 .rw[c,dL];exact aMx (y:={y with at_:= -1}) ⟨⟨h.fm.la,h.fm.u0,h.fm.u1,h.fm.n0,h.fm.n1,h.fm.sx,h.fm.sy⟩,h.ax,h.ay,h.h0,h.h1,h.r0,h.r1⟩ rfl d 0
 .exact h
def oH.next{s:aI}{x:aS}{y:bX}(r:s.dM)(h:oH s y)(hx:dF s x):oH s (jX s x y).1/\dF s (jX s x y).2/\(jX s x y).2.wt=x.wt/\(jX s x y).2.aV=x.aV:=by
 unfold jX;dsimp only;rcases h.at_ with f | ⟨a,f,j,_⟩
 .have c:y.at_ < 0:=aA
  cases d:rG y with
  | none=>
   have p:kX s x y=(y,false):=by unfold kX;rw[d]
   rw[p,aH ⟨c,rfl⟩];exact⟨h,hx,rfl,rfl⟩
  | some a =>
   have j:=Yq h.fm.la d
   have k:zT y a=1:=by
    unfold rG at d;split at d
    .cases d;assumption
    .split at d
     .cases d;assumption
     .cases d
   have i:(a:Int)=0\/(a:Int)=1:=by omega
   have p:kX s x y=nX s x y a:=by unfold kX;rw[d]
   rw[p]
   by_cases hd:(cY s x y a).2.1=0
   .have e:nX s x y a=(rB s x {y with last:=a} a (cY s x y a).1,false):=by
     unfold nX;dsimp only;rw[aH hd]
    rw[e,aH ⟨c,rfl⟩];exact⟨aMx (y:={y with last:=a}) ⟨⟨i,h.fm.u0,h.fm.u1,h.fm.n0,h.fm.n1,h.fm.sx,h.fm.sy⟩,h.ax,h.ay,h.h0,h.h1,h.r0,h.r1⟩ f j _,hx,rfl,rfl⟩
   .have e:nX s x y a=({y with last:=a,x:=fH y.x a (cY s x y a).2.1 (cY s x y a).2.2,y:=iI y.y a (cY s x y a).2.1 (cY s x y a).2.2,at_:=a,kind:=(cY s x y a).2.1,id:=(cY s x y a).2.2},true):=by
     unfold nX;dsimp only;rw[aC hd]
    rw[e,aC aB,aH c];dsimp only;obtain⟨w,t⟩:=(h.step hx).new c a d hd
    have n:(fH y.x a (cY s x y a).2.1 (cY s x y a).2.2).of s:=by
     unfold fH;split
     .exact aBa h.ax _ _
     .exact h.ax
    have l:(iI y.y a (cY s x y a).2.1 (cY s x y a).2.2).of s:=by
     unfold iI;split
     .exact h.ay
     .exact aBa h.ay _ _
    obtain⟨o,m⟩:=aLg s x (cY s x y a).2.1 (cY s x y a).2.2
    exact⟨oH.end_ (y:={y with last:=a,x:=fH y.x a (cY s x y a).2.1 (cY s x y a).2.2,y:=iI y.y a (cY s x y a).2.1 (cY s x y a).2.2,at_:=a,kind:=(cY s x y a).2.1,id:=(cY s x y a).2.2})
     ⟨⟨⟨i,h.fm.u0,h.fm.u1,h.fm.n0,h.fm.n1,aTY h.fm.sx _ _ _,aTX h.fm.sy _ _ _⟩,n,l,h.h0,h.h1,h.r0,h.r1⟩,.inr ⟨a,rfl,j,k,w,t⟩⟩ rfl j _,aC3 r hx _ _,o,m⟩
 .have c:¬y.at_ < 0:=aA
  rw[aC (fun z=>c z.1),aC c];obtain⟨o,m⟩:=aLg s x y.kind y.id;exact⟨h.end_ f j _,aC3 r hx _ _,o,m⟩
def oH.send{s:aI}{y:bX}(h:oH s y)(a:Int){l:List Int}(f:nH l)(i:l.length<=1000000):oH s (fM y a l).2:=by
 have j:∀b:Nat,y.at_= -1\/(∃c:Nat,y.at_=(c:Int)/\c < 2/\zT y c=1/\Sd s y.kind y.id/\wH (jM y c)):=fun _=>h.at_
 unfold fM;split
 .exact h
 .split
  .split
   .exact h
   .rename_i d
    have d:y.h0=0:=nO d
    refine⟨⟨⟨h.fm.la,f,h.fm.u1,i,h.fm.n1,h.fm.sx,h.fm.sy⟩,h.ax,h.ay,.inr (.inl rfl),h.h1,(fun h=>absurd (show(1:Int)=2 from h) aE),h.r1⟩,?_⟩;rcases h.at_ with e | ⟨c,e,h2,h3,h4,h5⟩
    .exact .inl e
    .refine .inr ⟨c,e,h2,?_⟩;obtain rfl | rfl:c=0\/c=1:=by omega
     .exact absurd (d.symm.trans h3) aE
     .exact⟨h3,h4,h5⟩
  .split
   .exact h
   .rename_i d
    have d:y.h1=0:=nO d
    refine⟨⟨⟨h.fm.la,h.fm.u0,f,h.fm.n0,i,h.fm.sx,h.fm.sy⟩,h.ax,h.ay,h.h0,.inr (.inl rfl),h.r0,fun h=>absurd (show(1:Int)=2 from h) aE⟩,?_⟩;rcases h.at_ with e | ⟨c,e,h2,h3,h4,h5⟩
    .exact .inl e
    .refine .inr ⟨c,e,h2,?_⟩;obtain rfl | rfl:c=0\/c=1:=by omega
     .exact⟨h3,h4,h5⟩
     .exact absurd (d.symm.trans h3) aE
def oH.read{s:aI}{y:bX}(h:oH s y)(a:Int):oH s (gL y a):=by
 unfold gL;split
 .split
  .rename_i f
   refine⟨⟨⟨h.fm.la,(fun _ e=>by cases e),h.fm.u1,rE _,h.fm.n1,h.fm.sx,h.fm.sy⟩,h.ax,h.ay,.inl rfl,h.h1,(fun h=>absurd (show(0:Int)=2 from h) aE),h.r1⟩,?_⟩;rcases h.at_ with d | ⟨c,d,hc,h3,h4,h5⟩
   .exact .inl d
   .refine .inr ⟨c,d,hc,?_⟩;obtain rfl | rfl:c=0\/c=1:=by omega
    .exact absurd (f.symm.trans h3) aE
    .exact⟨h3,h4,h5⟩
  .exact h
 .split
  .split
   .rename_i f
    refine⟨⟨⟨h.fm.la,h.fm.u0,(fun _ e=>by cases e),h.fm.n0,rE _,h.fm.sx,h.fm.sy⟩,h.ax,h.ay,h.h0,.inl rfl,h.r0,fun h=>absurd (show(0:Int)=2 from h) aE⟩,?_⟩;rcases h.at_ with d | ⟨c,d,hc,h3,h4,h5⟩
    .exact .inl d
    .refine .inr ⟨c,d,hc,?_⟩;obtain rfl | rfl:c=0\/c=1:=by omega
     .exact⟨h3,h4,h5⟩
     .exact absurd (f.symm.trans h3) aE
   .exact h
  .exact h
def FwB.ans{s:aI}{y:bX}(h:FwB s y){b:Int}{a:List Int}(c:kZ y b=some a):2<=a.length:=by
 unfold kZ at c;split at c
 .split at c
  .cases c;exact h.r0 (by assumption)
  .cases c
 .split at c
  .split at c
   .cases c;exact h.r1 (by assumption)
   .cases c
  .cases c
def aTe{s:aI}(d:s.Bv):oH s (xF s):=
 ⟨⟨⟨.inr rfl,(fun _ c=>by simp[xF] at c),(fun _ c=>by simp[xF] at c),by simp[xF],by simp[xF],aGy d,aGy d⟩,⟨by simp[xF,dV],by simp[xF,dV],by simp[xF,dV]⟩,⟨by simp[xF,dV],by simp[xF,dV],by simp[xF,dV]⟩,.inl rfl,.inl rfl,(fun h=>by simp[xF] at h),(fun h=>by simp[xF] at h)⟩,.inl rfl⟩
def Zr:∀(l:List (Int×Int)) (k v j:Int),gO (Db l k v) j=if j=k then v else gO l j
 | [], k, v, j => by
  by_cases h:j=k
  .subst h;simp[gO,Db]
  .rw[aC h]
   have f:¬k=j:=fun e=>h e.symm
   simp[gO,Db,f]
 | (a, b) :: l, k, v, j => by
  have ih:=Zr l k v j
  unfold Db
  by_cases c:a=k
  .subst c;rw[aH rfl]
   by_cases h:j=a
   .subst h;simp[gO]
   .have f:¬a=j:=fun e=>h e.symm
    simp[gO,h,f]
  .rw[aC c]
   by_cases d:a=j
   .subst d;rw[aC c];simp[gO]
   .have i:∀m,gO ((a,b)::m) j=gO m j:=fun m=>by simp[gO,d]
    rw[i,i,ih]
def nN(a b:Int){p:Prop}(h:a=b)(c:a≠b:=by decide):p:=absurd h c
def Cw{z:bA}{i j:Nat}{t:uG}(hi:T3 i)(hj:T3 j):(z.iX j t).tk i=if i=j then t else z.tk i:=by
 rcases hi with rfl | rfl | rfl<;>rcases hj with rfl | rfl | rfl<;>rfl
structure RwB(s:aI)(z:bA):Prop where
 wn:z.wn.of s
 len:∀j,T3 j->(z.tk j).hs.length=6
 nn:∀j,T3 j->∀i,0<=hG (z.tk j) i
 cnt:∀i:Nat,hG (z.tk 0) i+hG (z.tk 1) i+hG (z.tk 2) i=gO z.cn.l (i:Int)
 c7:∀i:Nat,gO z.cn.l (i:Int)<=7
 call:∀j,T3 j->(z.tk j).st=1->uC (z.tk j).kind
 st:∀j,T3 j->0<=(z.tk j).st/\(z.tk j).st<=3
 val:∀j,T3 j->0<=(z.tk j).val/\(z.tk j).val < 4294967296
 many:0<=z.many/\z.many < 1024
 Bg:∀p∈z.steps,Ru p/\p.ok
def aCR(z:bA):Prop:=(z.cP= -1/\(∀j,T3 j->(z.tk j).st≠2)/\z.aV=false/\z.steps=[]/\z.sent=false)\/(∃j:Nat,T3 j/\z.cP=(j:Int)/\(∀i,T3 i->((z.tk i).st=2↔i=j))/\(z.aV=false->z.steps≠[]))
structure rM(s:aI)(z:bA):Prop extends RwB s z where
 cP:aCR z
def aS5{s:aI}{z:bA}(h:RwB s z){j:Nat}(hj:T3 j)(i:Nat):hG (z.tk j) i<=7:=by
 have k:=h.nn 0 (.inl rfl) i
 have f:=h.nn 1 (.inr (.inl rfl)) i
 have e:=h.nn 2 (.inr (.inr rfl)) i
 have c:=h.cnt i
 have d:=h.c7 i
 rcases hj with rfl | rfl | rfl<;>omega
def RwB.rp{s:aI}{z:bA}(h:RwB s z):Ww s z:=⟨h.wn,fun j c=>⟨h.len j c,fun i=>⟨h.nn j c i,by have:=aS5 h c i;omega⟩⟩⟩
def RwB.iX{s:aI}{z:bA}(h:RwB s z){j:Nat}(hj:T3 j){t:uG}(m:t.hs=(z.tk j).hs)(hs:0<=t.st/\t.st<=3)(n:0<=t.val/\t.val < 4294967296)(l:t.st=1->uC t.kind):RwB s (z.iX j t):=by
 have f:∀i,T3 i->((z.iX j t).tk i).hs=(z.tk i).hs:=fun i c=>by
  rw[Cw c hj];split
  .rename_i e;subst e;exact m
  .rfl
 have d:∀i,T3 i->∀k,hG ((z.iX j t).tk i) k=hG (z.tk i) k:=fun i c k=>by unfold hG;rw[f i c]
 refine⟨h.wn,fun i c=>by rw[f i c];exact h.len i c,fun i c k=>by rw[d i c];exact h.nn i c k,fun i=>?_,h.c7,fun i c=>?_,fun i c=>?_,fun i c=>?_,h.many,h.Bg⟩
 .rw[d 0 (.inl rfl),d 1 (.inr (.inl rfl)),d 2 (.inr (.inr rfl))];exact h.cnt i
 .rw[Cw c hj];split
  .exact l
  .exact h.call i c
 .rw[Cw c hj];split
  .exact hs
  .exact h.st i c
 .rw[Cw c hj];split
  .exact n
  .exact h.val i c
def RwB.rO{s:aI}{z:bA}(h:RwB s z){j:Nat}(hj:T3 j){d:Nat}(hd:d < 6){k:Int}{c:Cn}(t:∀i:Nat,gO c.l (i:Int)=if i=d then gO z.cn.l (d:Int)+k else gO z.cn.l (i:Int))(x:0<=hG (z.tk j) d+k)(h7:gO z.cn.l (d:Int)+k<=7):RwB s {z.iX j (rO (z.tk j) d k) with cn:=c}:=by
 have o:∀i,T3 i->({z.iX j (Go.Proofs.YtmpkkaknjkffpaaGreatDoor.rO (z.tk j) d k) with cn:=c}:bA).tk i=if i=j then Go.Proofs.YtmpkkaknjkffpaaGreatDoor.rO (z.tk j) d k else z.tk i:=fun i f=>(show _=(z.iX j (Go.Proofs.YtmpkkaknjkffpaaGreatDoor.rO (z.tk j) d k)).tk i from rfl).trans (Cw f hj)
 have w:∀i,hG (Go.Proofs.YtmpkkaknjkffpaaGreatDoor.rO (z.tk j) d k) i=if d=i then hG (z.tk j) d+k else hG (z.tk j) i:=fun i=>aEP (h.len j hj) hd
 have p:∀i,T3 i->∀n,hG (({z.iX j (Go.Proofs.YtmpkkaknjkffpaaGreatDoor.rO (z.tk j) d k) with cn:=c}:bA).tk i) n=hG (z.tk i) n+(if i=j/\n=d then k else 0):=fun i f n=>by
  rw[o i f]
  by_cases e:i=j
  .subst e;rw[aH rfl,w]
   by_cases r:d=n
   .subst r;simp
   .rw[aC r,aC (fun m=>r m.2.symm)];omega
  .rw[aC e,aC (fun m=>e m.1)];omega
 refine⟨h.wn,fun i f=>?_,fun i f n=>?_,fun n=>?_,fun n=>?_,fun i f=>?_,fun i f=>?_,fun i f=>?_,h.many,h.Bg⟩
 .rw[o i f];split
  .show((z.tk j).hs.set _ _).length=6
   rw[pJ];exact h.len j hj
  .exact h.len i f
 .rw[p i f]
  have:=h.nn i f n
  split
  .rename_i e
   obtain⟨rfl,rfl⟩:=e;exact x
  .omega
 .rw[p 0 (.inl rfl),p 1 (.inr (.inl rfl)),p 2 (.inr (.inr rfl))]
  show _=gO c.l (n:Int)
  rw[t]
  have:=h.cnt n
  by_cases e:n=d
  .subst e;rcases hj with rfl | rfl | rfl<;>simp<;>omega
  .rw[aC e,aC (fun m=>e m.2),aC (fun m=>e m.2),aC (fun m=>e m.2)];omega
 .show gO c.l (n:Int)<=7
  rw[t];split
  .exact h7
  .exact h.c7 n
 .rw[o i f];split
  .rename_i e;subst e;exact h.call _ f
  .exact h.call i f
 .rw[o i f];split
  .rename_i e;subst e;exact h.st _ f
  .exact h.st i f
 .rw[o i f];split
  .rename_i e;subst e;exact h.val _ f
  .exact h.val i f
def aKF{n:Nat}{c:Cn}{d:Int}(h:(lC n c d).1=0)(j:0<=gO c.l d):c.lU=false/\0<=d/\d < n/\gO c.l d < 7/\(lC n c d).2=⟨Db c.l d (gO c.l d+1),c.lU⟩:=by
 unfold lC at h|-;split at h
 .simp at h
 .rename_i e
  split at h
  .simp at h
  .rename_i i
   split at h
   .simp at h
   .rename_i f
    rw[aC e,aC i,aC f,qM aA];exact⟨by simpa using e,aA,aA,aA,rfl⟩
def aKv{n:Nat}{c:Cn}{d:Int}(h:(mS n c d).1=0)(h7:gO c.l d<=7):c.lU=false/\0<=d/\d < n/\0 < gO c.l d/\(mS n c d).2=⟨Db c.l d (gO c.l d - 1),c.lU⟩:=by
 unfold mS at h|-;split at h
 .simp at h
 .rename_i e
  split at h
  .simp at h
  .rename_i i
   split at h
   .simp at h
   .rename_i f
    rw[aC e,aC i,aC f,qM aA];exact⟨by simpa using e,aA,aA,aA,rfl⟩
def RwB.want{s:aI}{z:bA}(hm:s.made)(h:RwB s z):RwB s (vG s z):=
 ⟨aNj s z,h.len,h.nn,h.cnt,h.c7,h.call,h.st,h.val,h.many,fun p c=>⟨aWx p c,aWy hm _ _ p c⟩⟩
def RwB.same{s:aI}{z:bA}(h:RwB s z)(c:Cn)(d:c.l=z.cn.l):RwB s {z with cn:=c}:=
 ⟨h.wn,h.len,h.nn,fun i=>by show _=gO c.l _;rw[d];exact h.cnt i,fun i=>by show gO c.l _<=7;rw[d];exact h.c7 i,h.call,h.st,h.val,h.many,h.Bg⟩
structure aGp(s:aI)(z:bA)(x:aS)(r:Int×bA×aS):Prop where
 b:RwB s r.2.1
 st:∀i,(r.2.1.tk i).st=(z.tk i).st
 err:r.1≠0->r.2.1=z/\r.2.2=x
 x_:r.2.1.aV=false->r.2.2=x
 po:r.2.1.aV=true->z.aV=true\/∃(d:Nat) (wr:Bool) (rg v:Int) (dv:bR),s.aG[d]? =some dv/\0<=rg/\rg < dv.aX.length/\0<=v/\v < 4294967296/\r.2.1.id=x.aV/\r.2.2=Mv x d wr rg v
def aJQ{s:aI}(hm:s.made){z:bA}(h:RwB s z)(x:aS){j:Nat}(hj:T3 j)(k:Int):aGp s z x (kL s x z j k):=by
 have G:=Uc s
 have F:=hm.nv
 have same:∀e:Int,aGp s z x (e,z,x):=fun e=>⟨h,fun _=>rfl,fun _=>⟨rfl,rfl⟩,fun _=>rfl,fun o=>.inl o⟩
 have w:∀(d:Nat) (q:Int) (c:Cn) (i:Nat),((vG s {z.iX j (rO (z.tk j) d q) with cn:=c}).tk i).st=(z.tk i).st:=fun d q c i=>by
  show((z.iX j (rO (z.tk j) d q)).tk i).st=_
  rcases hj with rfl | rfl | rfl
  all_goals
   match i with
   | 0=>rfl
   | 1=>rfl
   | n+2=>rfl
 have acc : ∀ y : Bool, aGp s z x (mE s x z j y) := fun y => by
  unfold mE;split
  .exact same 4
  .rename_i A
   split
   .exact same 6
   .split
    .refine⟨⟨h.wn,h.len,h.nn,h.cnt,h.c7,h.call,h.st,h.val,h.many,h.Bg⟩,fun _=>rfl,fun h=>absurd rfl h,(fun h=>by cases h),fun _=>.inr ?_⟩
     have f:bJ s.aG.length (z.tk j).dev=true:=by
      cases t:bJ s.aG.length (z.tk j).dev with
      | true=>rfl
      | false=>exact absurd (.inl t) A
     have D:=eV f
     obtain⟨dv,r⟩:=get_some (l:=s.aG) (i:=(z.tk j).dev.toNat) aA
     have C:¬(z.tk j).bF < 0:=fun t=>A (.inr (.inl t))
     have p:¬De s (z.tk j).dev<=(z.tk j).bF:=fun t=>A (.inr (.inr t))
     unfold De at p;rw[r] at p;simp only[lO,tV] at p;exact⟨_,y,(z.tk j).bF,(z.tk j).val,dv,r,aA,aA,(h.val j hj).1,(h.val j hj).2,rfl,rfl⟩
    .exact same 6
 unfold kL;split
 .unfold Ds;split
  .exact same _
  .rename_i f
   have f:(lC (dS s).length z.cn (z.tk j).dev).1=0:=nO f
   have B:=aAf f
   obtain⟨d,hd⟩:∃d:Nat,(z.tk j).dev=d:=⟨(z.tk j).dev.toNat,aA⟩
   rw[hd] at f B|-;obtain⟨_,_,D,C,p⟩:=aKF f (by have:=h.cnt d;have:=h.nn 0 (.inl rfl) d;have:=h.nn 1 (.inr (.inl rfl)) d;have:=h.nn 2 (.inr (.inr rfl)) d;omega);rw[p,dL];refine⟨RwB.want hm (h.rO hj aA (fun i=>?_) (by have:=h.nn j hj d;omega) aA),w _ _ _,fun h=>absurd rfl h,fun _=>rfl,fun o=>.inl o⟩;dsimp only;rw[Zr]
   by_cases e:i=d
   .subst e;simp
   .rw[aC aA,aC e]
 .split
  .unfold zK;split
   .exact same _
   .rename_i m
    split
    .exact same _
    .rename_i E
     split
     .exact same _
     .rename_i f
      have f:(mS (dS s).length z.cn (z.tk j).dev).1=0:=nO f
      have m:bJ s.aG.length (z.tk j).dev=true:=by simpa using m
      have m:=eV m
      obtain⟨d,hd⟩:∃d:Nat,(z.tk j).dev=d:=⟨(z.tk j).dev.toNat,aA⟩
      rw[hd] at f E m|-;rw[dL] at E|-;obtain⟨_,_,D,C,p⟩:=aKv f (h.c7 d);rw[p];refine⟨RwB.want hm (h.rO hj aA (fun i=>?_) (by have:=h.nn j hj d;omega) (by have:=h.c7 d;omega)),w _ _ _,fun h=>absurd rfl h,fun _=>rfl,fun o=>.inl o⟩;dsimp only;rw[Zr]
      by_cases e:i=d
      .subst e;simp;omega
      .rw[aC aA,aC e]
  .split
   .exact acc false
   .split
    .exact acc true
    .split
     .unfold zA;split
      .exact same _
      .rename_i f
       refine⟨RwB.want hm (h.same _ ?_),fun _=>rfl,fun h=>absurd rfl h,fun _=>rfl,fun o=>.inl o⟩;unfold qF;split<;>rfl
     .unfold zD;split
      .exact same _
      .refine⟨RwB.want hm (h.same _ ?_),fun _=>rfl,fun h=>absurd rfl h,fun _=>rfl,fun o=>.inl o⟩;unfold qG;split<;>rfl
def RwB.end_{s:aI}{z:bA}(h:RwB s z){j:Nat}(hj:T3 j)(l:∀i,T3 i->(z.tk i).st=2->i=j)(e r:Int):rM s (qE z j e r):=by
 have d:=h.iX hj (t:={z.tk j with st:=3,err:=e,res:=r}) rfl ⟨by show(0:Int)<=3;decide,by show(3:Int)<=3;decide⟩ (h.val j hj) (fun n=>nN 3 1 n)
 refine⟨⟨d.wn,d.len,d.nn,d.cnt,d.c7,d.call,d.st,d.val,d.many,fun p m=>by cases m⟩,.inl ⟨rfl,fun i k c=>?_,rfl,rfl,rfl⟩⟩
 have c:((z.iX j {z.tk j with st:=3,err:=e,res:=r}).tk i).st=2:=c
 rw[Cw k hj] at c;split at c
 .exact nN 3 2 c
 .rename_i f
  exact f (l i k c)
def aQ1{z:bA}{i j:Nat}(hi:T3 i)(hj:T3 j):(nB z j).tk i=if i=j then {z.tk j with st:=2} else z.tk i:=Cw hi hj
def aVR{s:aI}(hm:s.made){z:bA}(h:rM s z)(n:z.cP < 0)(x:aS){j:Nat}(hj:T3 j):rM s (gP s x z j).1/\z.aV=false/\((gP s x z j).1.aV=false->(gP s x z j).2=x)/\((gP s x z j).1.aV=true->∃(d:Nat) (J:Bool) (B v:Int) (dv:bR),s.aG[d]? =some dv/\0<=B/\B < dv.aX.length/\0<=v/\v < 4294967296/\(gP s x z j).1.id=x.aV/\(gP s x z j).2=Mv x d J B v):=by
 obtain⟨_,A,c,H,M⟩:z.cP= -1/\(∀j,T3 j->(z.tk j).st≠2)/\z.aV=false/\z.steps=[]/\z.sent=false:=by
  rcases h.cP with G | ⟨i,_,G,_⟩
  .exact G
  .omega
 have E:RwB s (nB z j):=by
  have:=h.toRwB.iX hj (t:={z.tk j with st:=2}) rfl ⟨by show(0:Int)<=2;decide,by show(2:Int)<=3;decide⟩ (h.val j hj) (fun n=>nN 2 1 n)
  exact⟨this.wn,this.len,this.nn,this.cnt,this.c7,this.call,this.st,this.val,this.many,this.Bg⟩
 have F:∀i,T3 i->(((nB z j).tk i).st=2↔i=j):=fun i f=>by
  rw[aQ1 f hj];split
  .rename_i e;exact⟨fun _=>e,fun _=>rfl⟩
  .rename_i e;exact⟨fun n=>absurd n (A i f),fun n=>absurd n e⟩
 have k:=aJQ hm E x hj (z.tk j).kind
 have p:=aJR s x (nB z j) j (z.tk j).kind
 have o:(nB z j).aV=false:=c
 unfold gP;dsimp only;generalize kL s x (nB z j) j (z.tk j).kind=r at k p;split
 .rename_i C
  obtain⟨I,L⟩:=k.err C;rw[I,L];exact⟨E.end_ hj (fun i f m=>(F i f).1 m) _ _,c,fun _=>rfl,fun l=>by cases l⟩
 .have D:∀i,T3 i->((r.2.1.tk i).st=2↔i=j):=fun i f=>by rw[k.st i];exact F i f
  split
  .rename_i y
   exact⟨k.b.end_ hj (fun i f m=>(D i f).1 m) _ _,c,fun _=>k.x_ y.1,fun l=>by cases l⟩
  .rename_i y
   refine⟨⟨k.b,.inr ⟨j,hj,p,D,fun l K=>y ⟨l,by rw[K];rfl⟩⟩⟩,c,k.x_,fun l=>?_⟩;rcases k.po l with w | w
   .rw[o] at w;cases w
   .exact w
def aW7{s:aI}{z:bA}{y:bX}(h:rM s z)(hy:oH s y){j:Nat}(hj:T3 j)(k:(z.tk j).st=2)(c:z.aV=false):rM s (iP z y j).1/\oH s (iP z y j).2/\(iP z y j).1.aV=false:=by
 obtain⟨w,e,t⟩:z.cP=(j:Int)/\(∀i,T3 i->((z.tk i).st=2↔i=j))/\z.steps≠[]:=by
  rcases h.cP with⟨_,r,_⟩ | ⟨i,m,r,e,E⟩
  .exact absurd k (r j hj)
  .obtain rfl:=(e j hj).1 k;exact⟨r,e,E c⟩
 unfold iP;split
 .cases I:kZ y 0 with
  | none=>exact⟨h,hy.read 0,c⟩
  | some a =>
   dsimp only
   have A:RwB s (qP z a):=by
    unfold qP;split
    .exact⟨h.wn,h.len,h.nn,h.cnt,h.c7,h.call,h.st,h.val,h.many,fun p D=>h.Bg p (List.mem_of_mem_tail D)⟩
    .exact⟨h.wn,h.len,h.nn,h.cnt,h.c7,h.call,h.st,h.val,h.many,h.Bg⟩
   have B:∀i,(qP z a).tk i=z.tk i:=fun i=>by unfold qP;split<;>rfl
   have n:(qP z a).cP=z.cP:=by unfold qP;split<;>rfl
   have o:(qP z a).aV=z.aV:=by unfold qP;split<;>rfl
   split
   .exact⟨A.end_ hj (fun i m d=>by rw[B] at d;exact(e i m).1 d) _ _,hy.read 0,rfl⟩
   .rename_i H
    exact⟨⟨A,.inr ⟨j,hj,n.trans w,fun i m=>by rw[B];exact e i m,fun _ d=>H (by rw[d];rfl)⟩⟩,hy.read 0,o.trans c⟩
 .cases d:z.steps with
  | nil=>exact absurd d t
  | cons p tl =>
   dsimp only;obtain⟨J,f⟩:=h.Bg p (by rw[d];simp)
   have G:nH (nW p z.many):=fun v x=>by
    simp only[nW,fT,pY,or_false] at x;rcases x with rfl | rfl | rfl
    .exact aIf _ _ _ _
    .exact f.id
    .exact f.v
   have l:=hy.send 0 G (by simp[nW])
   split
   .refine⟨⟨⟨h.wn,h.len,h.nn,h.cnt,h.c7,h.call,h.st,h.val,?_,fun q F=>h.Bg q (by rw[d];exact F)⟩,.inr ⟨j,hj,w,e,fun _ C=>by cases C⟩⟩,l,c⟩
    have:=h.many
    show 0<=(z.many+1) % 1024/\(z.many+1) % 1024 < 1024
    omega
   .exact⟨h,l,c⟩
def aNV{s:aI}{z:bA}(h:rM s z)(t k d r v:Int)(A:0<=v/\v < 4294967296):rM s (lY z t k d r v).2/\(lY z t k d r v).2.aV=z.aV/\(lY z t k d r v).2.id=z.id:=by
 unfold lY;split
 .exact⟨h,rfl,rfl⟩
 .rename_i o
  obtain⟨j,rfl,x⟩:=zP (t:=t) (by simpa using o);rw[dL];split
  .exact⟨h,rfl,rfl⟩
  .rename_i w
   have w:(z.tk j).st=0:=nO w
   split
   .exact⟨h,rfl,rfl⟩
   .rename_i c
    have c:uC k:=nO c
    refine⟨⟨h.toRwB.iX x rfl ⟨by show(0:Int)<=1;decide,by show(1:Int)<=3;decide⟩ A (fun _=>c),?_⟩,rfl,rfl⟩
    have l:∀i,T3 i->(((z.iX j {z.tk j with st:=1,kind:=k,dev:=d,bF:=r,val:=v}).tk i).st=2↔(z.tk i).st=2):=fun i f=>by
     rw[Cw f x];split
     .rename_i e;subst e
      rw[w];exact⟨fun h=>nN 1 2 h,fun h=>nN 0 2 h⟩
     .exact Iff.rfl
    rcases h.cP with⟨p,n,m⟩ | ⟨i,f,p,n,m⟩
    .exact .inl ⟨p,fun i f y=>n i f ((l i f).1 y),m⟩
    .exact .inr ⟨i,f,p,fun k c=>(l k c).trans (n k c),m⟩
def aTS{s:aI}{z:bA}(h:rM s z)(t:Int):rM s (fG z t).2/\(fG z t).2.aV=z.aV/\(fG z t).2.id=z.id:=by
 unfold fG;split
 .exact⟨h,rfl,rfl⟩
 .rename_i m
  obtain⟨j,rfl,r⟩:=zP (t:=t) (by simpa using m);rw[dL];split
  .exact⟨h,rfl,rfl⟩
  .rename_i o
   have o:(z.tk j).st=3:=nO o
   refine⟨⟨h.toRwB.iX r rfl ⟨by show(0:Int)<=0;decide,by show(0:Int)<=3;decide⟩ ⟨by show(0:Int)<=0;decide,by show(0:Int) < 4294967296;decide⟩ (fun h=>nN 0 1 h),?_⟩,rfl,rfl⟩
   have d:∀i,T3 i->(((z.iX j {z.tk j with st:=0,kind:=0,dev:=0,bF:=0,val:=0,err:=0,res:=0}).tk i).st=2↔(z.tk i).st=2):=fun i c=>by
    rw[Cw c r];split
    .rename_i e;subst e
     rw[o];exact⟨fun h=>nN 0 2 h,fun h=>nN 3 2 h⟩
    .exact Iff.rfl
   rcases h.cP with⟨n,l,f⟩ | ⟨i,c,n,l,f⟩
   .exact .inl ⟨n,fun i c w=>l i c ((d i c).1 w),f⟩
   .exact .inr ⟨i,c,n,fun k p=>(d k p).trans (l k p),f⟩
def aWg{s:aI}{z:bA}(h:rM s z)(a:gQ):rM s (rX z a):=by
 unfold rX;split
 .exact h
 .rename_i l
  obtain⟨j,o,m,c⟩:∃j:Nat,T3 j/\z.cP=(j:Int)/\∀i,T3 i->((z.tk i).st=2↔i=j):=by
   rcases h.cP with⟨_,_,f,_⟩ | ⟨i,d,f,c,_⟩
   .exact absurd f l
   .exact⟨i,d,f,c⟩
  have k:∀e r,rM s (qE z z.cP.toNat e r):=fun e r=>by
   rw[m,dL];exact h.toRwB.end_ o (fun i d n=>(c i d).1 n) e r
  split
  .exact h
  .split
   .exact k _ _
   .exact k _ _
def aLa{s:aI}:∀(l:List gQ) {z:bA},rM s z->rM s (pP z l)
 | [],_,h=>h
 | a::l,_,h=>aLa l (aWg h a)
def rM.po{s:aI}{z:bA}(h:rM s z):Ry z:=fun d=>by
 rcases h.cP with⟨_,_,c,_⟩ | ⟨i,e,c,_⟩
 .rw[c] at d;cases d
 .exact⟨i,c,e⟩
def rM.go{s:aI}{z:bA}{y:bX}(h:rM s z)(hy:FwB s y):aMb s z y:=by
 refine⟨h.rp,h.call,fun j e c=>?_,h.many,fun p f=>(aEE (h.Bg p f).1 h.many.1 h.many.2).1,fun a m=>hy.ans m⟩;rcases h.cP with⟨_,d,_⟩ | ⟨i,n,d,l,k⟩
 .exact absurd c (d j e)
 .obtain rfl:=(l j e).1 c;exact⟨d,k⟩
def aPf{s:aI}:rM s (Xx s):=by
 have d:∀j,T3 j->(Xx s).tk j=Xs:=by rintro j (rfl | rfl | rfl)<;>rfl
 have e:∀i,hG Xs i=0:=fun i=>by
  match i with
  | 0 | 1 | 2 | 3 | 4 | 5=>rfl
  | n+6=>rfl
 refine⟨⟨aDo s [],fun j c=>by rw[d j c];rfl,fun j c i=>by rw[d j c,e];decide,fun i=>?_,fun i=>?_,fun j c h=>?_,fun j c=>?_,fun j c=>?_,⟨by show(0:Int)<=0;decide,by show(0:Int) < 1024;decide⟩,fun p f=>by cases f⟩,.inl ⟨rfl,fun j c h=>?_,rfl,rfl,rfl⟩⟩
 .rw[d 0 (.inl rfl),d 1 (.inr (.inl rfl)),d 2 (.inr (.inr rfl)),e];rfl
 .show(0:Int)<=7
  decide
 .rw[d j c] at h;exact nN 0 1 h
 .rw[d j c];decide
 .rw[d j c];decide
 .rw[d j c] at h;exact nN 0 2 h
def aX5{w0:World}{R:List Piece}{H:List HP}{q:Piece}{A:Option Addr}{es:List (Int×Nat)}{j:Nat}{p:Int×Nat}(f:q∈R)(hs:aO q 2 A es.length (es.flatMap Ij))(hj:es[j]? =some p):∃b off,A=some ⟨b,off,none⟩/\cI w0 R H b (off+j*2) (Ij p):=by
 have c:=(cE.1 hj).1
 obtain⟨b,off,h,l,d⟩:=aO.Dd (rows:=es.map Ij) (sz:=2) (k:=j) (r:=Ij p) (n:=es.length) (by rw[<-List.flatMap_def];exact hs) (fun r e=>by
  obtain⟨x,_,rfl⟩:=fR.1 e
  rfl) (by rw[eO,hj];rfl) c
 exact⟨b,off,h,.of fun k v i=>Rd.ro f l (d k v i)⟩
def gI(s:aI)(x:aS):Nat->aS×List gQ
 | 0=>(x,[])
 | n+1=>((fZ s (gI s x n).1 n).1,(gI s x n).2++(fZ s (gI s x n).1 n).2.toList)
def mX(s:aI)(x:aS)(c:Int):aS×List gQ:=(uM s (gI s x s.aG.length).1 c,(gI s x s.aG.length).2)
def Nv{s:aI}{x:aS}(d:dF s x)(c:Gh s x):∀n,dF s (gI s x n).1/\Gh s (gI s x n).1
 | 0=>⟨d,c⟩
 | n+1=>⟨aWl (Nv d c n).1 (Nv d c n).2 n,aWj (Nv d c n).2 n⟩
def aCv{s:aI}{x:aS}:∀n,(gI s x n).2.length<=n
 | 0=>gE _
 | n+1=>by
  have:=aCv (s:=s) (x:=x) n
  show((gI s x n).2++_).length<=_
  rw[rF];cases(fZ s (gI s x n).1 n).2<;>simp<;>omega
def aCu{s:aI}{x:aS}{i:Nat}(h:(x.wt[i]?).join=none):fZ s x i=(x,none):=by
 unfold fZ;rw[h]
def aFD{s:aI}{x:aS}{i:Nat}{t:jN}(c:dF s x)(hi:i < s.aG.length)(h:(x.wt[i]?).join=some t):∃a,(fZ s x i).2=some a/\(fZ s x i).1.wt=x.wt.set i none:=by
 obtain⟨d,hd⟩:=get_some hi;obtain⟨p,e⟩:=get_some (l:=x.dv) (i:=i) (by have:=c.dv;omega);unfold fZ;rw[h,hd,e];dsimp only;split<;>exact⟨_,rfl,rfl⟩
def aWm{s:aI}{x:aS}(c:dF s x)(i j:Nat)(h:j=i\/(x.wt[j]?).join=none):((fZ s x i).1.wt[j]?).join=none:=by
 cases e:(x.wt[i]?).join with
 | none=>
  rw[aCu e];rcases h with rfl | h
  .exact e
  .exact h
 | some t =>
  have f:i < s.aG.length:=by
   have:=c.wt
   rcases dI i x.wt.length with h | h
   .omega
   .rw[eW h] at e;cases e
  obtain⟨a,_,l⟩:=aFD c f e;rw[l];cases d:((x.wt.set i none)[j]?).join with
  | none=>rfl
  | some t' =>
   have k:=aD2 d
   rcases h with rfl | h
   .rw[gX] at d;simp at d;split at d<;>cases d
   .rw[h] at k;cases k
def aKZ{s:aI}{x:aS}(c:dF s x)(d:Gh s x):∀n j,j < n->((gI s x n).1.wt[j]?).join=none
 | 0,_,h=>absurd h aA
 | n+1,j,h=>aWm (Nv c d n).1 n j (by
  by_cases hj:j=n
  .exact .inl hj
  .exact .inr (aKZ c d n j aA))
def aKV{s:aI}{x:aS}(d:dF s x)(c:Gh s x)(i:Nat):pE (gI s x s.aG.length).1.wt i=0:=by
 have h:=(Nv d c s.aG.length).1.wt
 unfold pE;rcases dI i s.aG.length with e | e
 .rw[aKZ d c _ i e];rfl
 .rw[eW aA];rfl
def aSk(L:HL)(s:aI)(D:aS)(w:World)(hH:s.dM)(I:iS L s)(aED:dF s D)(aIS:Gh s D)(k:Int)(hd:0<=k/\k < 4294967296)(F:Nat->Prop)(hp:(eH L s D).sat F w)(hF:∀b,F b->b < w.heap.size):
  Cz 82 #[.pointer (some ⟨L.h,0,none⟩),.int .u32 k] w (fun y w'=>∃a:Option Addr×Nat,y=.returned (.slice a.1 (mX s D k).2.length a.2)/\True/\∃F',(HP.many [eH L s (mX s D k).1,HP.own 49 4 (.slice a.1 (mX s D k).2.length a.2) (mX s D k).2.length ((mX s D k).2.flatMap gQ.cells)]).sat F' w'/\jG w w' F F'):=by
 have Hw:=hH.t.nv
 have hnd:=hH.t.nd
 have hls:=I.ds
 refine fS func82 ntmps82 hp hF ?_;generalize Vb:(⟨w,fun b=>b < w.heap.size/\¬F b⟩:Piece)=R0;refine aD ?_;refine cR (fun N t=>Fp L s D N (t.pN 0 rfl I aED)) ?_;refine cG (bT rfl (tO 0 rfl rfl)) ?_;refine oF 49 4 ?_;refine cF [(24,iv 0),(23,iv s.aG.length),(5,sn),(0,.pointer (some ⟨L.h,0,none⟩)),(1,.int .u32 k)] ?_;refine gA (fun m e R H=>∃(i:Nat) (A:Option Addr) (c:Nat),i<=s.aG.length/\m=s.aG.length - i/\e=[(24,iv i),(23,iv s.aG.length),(5,.slice A (gI s D i).2.length c),(0,.pointer (some ⟨L.h,0,none⟩)),(1,.int .u32 k)]/\R=[R0]/\H=[HP.own 49 4 (.slice A (gI s D i).2.length c) (gI s D i).2.length ((gI s D i).2.flatMap gQ.cells),eH L s (gI s D i).1]) s.aG.length ⟨0,none,0,aA,rfl,rfl,rfl,rfl⟩ fun m e R H hI=>?_;obtain⟨i,A0,c0,hi,rfl,rfl,rfl,rfl⟩:=hI;obtain⟨C,Z⟩:=Nv aED aIS i
 have Y:=aCv (s:=s) (x:=D) i
 refine aD ?_;refine bP (fun o=>?_) (fun hge=>?_)
 .have o:i < s.aG.length:=aA
  have n:gI s D (i+1)=((fZ s (gI s D i).1 i).1,(gI s D i).2++(fZ s (gI s D i).1 i).2.toList):=rfl
  generalize hr:gI s D i=r at C Z Y n|-;obtain⟨xi,l⟩:=r;dsimp only at C Z Y n|-;cases hj:(xi.wt[i]?).join with
  | none=>
   rw[aCu hj] at n;refine aD ?_;refine cR (fun N t=>aSs L s xi i o (by unfold pE;rw[hj];rfl) N (t.pN 1 rfl I C)) ?_;refine kK fun g1=>?_;refine aZ [1,2] ?_;refine cF [(24,iv (i+1:Nat)),(23,iv s.aG.length),(5,.slice A0 l.length c0),(0,.pointer (some ⟨L.h,0,none⟩)),(1,.int .u32 k)] ?_;exact iZ (s.aG.length - (i+1)) aA ⟨i+1,A0,c0,o,rfl,by rw[n];simp,rfl,by rw[n];simp⟩
  | some t=>
   obtain⟨d,z⟩:=get_some o;obtain⟨a,ha,_⟩:=aFD C o hj;obtain⟨Wg,aC1,Cg,aVU⟩:=a;rw[ha] at n;refine aD ?_;refine aBF (v:=.tuple #[.agg #[iv Wg,iv aC1,.bool Cg,.int .u32 aVU],.bool true]) 1 (eH L s (fZ s xi i).1) (fun N F1 st h1 h2 h3=>aSr L s xi N hH I C Z i d z t hj _ ha F1 h1 h2) ?_;dsimp only[List.set];refine aD ?_;refine kK fun g1=>?_;refine eX fun g4=>?_;refine aD ?_;refine Qh 2 fun An cn=>?_;refine aD ?_;refine aZ [2,3] ?_;refine cF [(24,iv (i+1:Nat)),(23,iv s.aG.length),(5,.slice An (l.length+1) cn),(0,.pointer (some ⟨L.h,0,none⟩)),(1,.int .u32 k)] ?_;exact iZ (s.aG.length - (i+1)) aA ⟨i+1,An,cn,o,rfl,by rw[n];simp,rfl,by rw[n];simp[gQ.cells]⟩
 obtain rfl:i=s.aG.length:=by omega
 have Na:=aKV aED aIS
 have U:mX s D k=(uM s (gI s D s.aG.length).1 k,(gI s D s.aG.length).2):=rfl
 generalize hr:gI s D s.aG.length=r at C Z Y Na U|-;obtain⟨x,l⟩:=r;dsimp only at C Na Y U|-;rw[U]
 have J:=C
 have rR:=J.dv
 refine aZ [1,0] ?_;generalize hT:HP.own 49 4 (.slice A0 l.length c0) l.length (l.flatMap gQ.cells)=T;generalize hTv:Value.slice A0 l.length c0=tv;refine aD ?_;refine cG (bT rfl (tO 0 rfl rfl)) ?_
 have hq0:Dk x k 0=x.dv:=Ug _ _
 refine cF [(44,iv 0),(43,iv s.aG.length),(42,.slice L.A s.aG.length L.c),(5,tv),(0,.pointer (some ⟨L.h,0,none⟩)),(1,.int .u32 k)] ?_;refine gA (fun m e R H=>∃i:Nat,i<=s.aG.length/\m=s.aG.length - i/\e=[(44,iv i),(43,iv s.aG.length),(42,.slice L.A s.aG.length L.c),(5,tv),(0,.pointer (some ⟨L.h,0,none⟩)),(1,.int .u32 k)]/\R=[R0]/\H=[eH L s {x with dv:=Dk x k i},T]) s.aG.length ⟨0,aA,rfl,rfl,rfl,by rw[hq0]⟩ fun m e R H hI=>?_;obtain⟨i,hi,rfl,rfl,rfl,rfl⟩:=hI
 have E:=aEl hH J k i
 refine aD ?_;refine bP (fun o=>?_) (fun hge=>?_)
 .have o:i < s.aG.length:=aA
  obtain⟨d,z⟩:=get_some o;obtain⟨l,V⟩:=get_some (l:=L.ds) (i:=i) aA;obtain⟨p,O⟩:=get_some (l:=x.dv) (i:=i) aA
  have X:(Dk x k i)[i]? =some p:=Ui O
  have hstep:(Dk x k i).set i (p.1,yA p.2 (decide (0 < pE x.wt i)) (Rb k i))=Dk x k (i+1):=Uh (f:=fun i p=>(p.1,yA p.2 (decide (0 < pE x.wt i)) (Rb k i))) O
  have hw0:decide (0 < pE x.wt i)=false:=by rw[Na i];rfl
  rw[hw0] at hstep;refine Rk 0 rfl I E aA fun b off hA=>?_;refine aD ?_;refine kd (dat i (off+i*6) (hx:=by rw[<-hA];rfl)) ?_;refine kd (nQ rfl (cI.dev 0 rfl I E hA z V rfl)) ?_;refine kK fun g1=>?_;refine kO [0,1,3,4,5,11,12,13] ?_;refine bU 2 ?_;refine bU 6 ?_;refine bU 9 ?_;refine bU 10 ?_;refine aQ 0 ?_;refine aQ 1 ?_;refine aQ 3 ?_;refine aQ 4 ?_;refine aQ 5 ?_ (bL:=bT rfl (tO 1 rfl rfl));refine aQ 11 ?_ (bL:=aKb rfl rfl (c:=k.fdiv (2 ^ min i 32)) aA rfl);refine aQ 12 ?_ (bL:=aFq (c:=aCx (k.fdiv (2 ^ min i 32)) 1) rfl rfl (fun _=>rfl) aB);refine aQ 13 ?_;refine aR 7 ?_;refine cM (fun N t=>aKJ L.B (lR s) x.wt x.aV i (by rw[Kg];exact o) N (t.pN 1 rfl I E).bus) ?_;refine bH ?_;refine aR 8 ?_;refine bN ?_;refine bH ?_;refine aR 14 ?_;refine Wj 1 i rfl z V X ?_;dsimp only[List.set];refine bB 0 1 ?_;refine gM 0 (xT l.2 (yA p.2 (decide ((pE x.wt i:Int)>0)) (Rb k i))) (fun N F1 t h1 h2 h3=>aPJ _ _ h1 h2) ?_;refine aP 0 1 ?_;refine Wp 1 i rfl z V X (p':=(p.1,yA p.2 (decide ((pE x.wt i:Int)>0)) (Rb k i))) ?_;dsimp only[List.set]
  have hw1:decide ((pE x.wt i:Int)>0)=false:=by rw[Na i];rfl
  rw[hw1,hstep];refine cT ?_;refine kA ?_;refine aZ [1,2] ?_;exact fX (s.aG.length - (i+1)) ⟨i+1,o,rfl,rfl,rfl,rfl⟩
 obtain rfl:i=s.aG.length:=by omega
 have aEB:=aEl hH J k s.aG.length
 generalize hdv:Dk x k s.aG.length=Fw at aEB|-;refine aD ?_;refine cG (bT rfl (tO 0 rfl rfl)) ?_;refine bB 0 1 ?_;refine gM 0 (tJ L.T s (oJ s x.ck)) (fun N F1 t h1 h2 h3=>aVg L.T s x.ck hH I.fa J.ck N F1 h1 h2) ?_;refine aP 0 1 ?_
 change XK _ _ _ _ _ [eH L s {x with ck:=oJ s x.ck,dv:=Fw},T]
 refine aD ?_;refine cG (bT rfl (tO 0 rfl rfl)) ?_;refine bB 0 2 ?_;refine Bb (α:=Option Addr×Nat) 0 (f:=146) (fi:=[]) (ca:=[]) (fun a=>.slice a.1 (nD x.dm s.domains.length).length a.2) (fun a=>HP.many [yW L.G s (sE x.dm),HP.own 258 2 (.slice a.1 (nD x.dm s.domains.length).length a.2) (nD x.dm s.domains.length).length ((nD x.dm s.domains.length).flatMap Ij)]) (fun _=>True) aJ rfl rfl rfl aE (fun N F1 t h1 h2 h3=>aPS L.G s x.dm J.dm aA N F1 h1 h2) ?_;rintro⟨Ae,ce⟩ _;dsimp only[List.set];refine bB 0 0 ?_;refine aP 1 2 ?_;refine bB 0 1 ?_;refine dX [] [0] [2,3] fun q hq _ hfr=>?_;obtain⟨F2,sf2,zf2⟩:=hq 0 _ aB rfl
 have Zg:aO q 2 Ae (nD x.dm s.domains.length).length ((nD x.dm s.domains.length).flatMap Ij):=aO.own ⟨F2,sf2,zf2⟩
 have aRR:dF s {x with ck:=oJ s x.ck,dm:=sE x.dm,dv:=Fw}:=⟨aDy hH J.ck,aDx J.dm,J.ln,aEB.dv,aEB.each,J.wt⟩
 have hel:(nD x.dm s.domains.length).length<=1000:=oL (aJM x.dm s.domains.length) aA
 generalize hes:nD x.dm s.domains.length=es at Zg hel|-
 change XK _ _ _ _ _ [eH L s {x with ck:=oJ s x.ck,dm:=sE x.dm,dv:=Fw},T]
 refine aD ?_;refine cF [(76,iv 0),(75,iv es.length),(74,.slice Ae es.length ce),(5,tv),(0,.pointer (some ⟨L.h,0,none⟩))] ?_;refine gA (fun m e R H=>∃j:Nat,j<=es.length/\m=es.length - j/\e=[(76,iv j),(75,iv es.length),(74,.slice Ae es.length ce),(5,tv),(0,.pointer (some ⟨L.h,0,none⟩))]/\R=[q,R0]/\H=[eH L s {x with ck:=oJ s x.ck,dm:=sE x.dm,dv:=(es.take j).foldl (uU s) Fw},T]) es.length ⟨0,aA,rfl,rfl,rfl,rfl⟩ fun m e R H hI=>?_;obtain⟨j,hj,rfl,rfl,rfl,rfl⟩:=hI
 have aEC:dF s {x with ck:=oJ s x.ck,dm:=sE x.dm,dv:=(es.take j).foldl (uU s) Fw}:=aEU hH (es.take j) _ aRR
 refine aD ?_;refine bP (fun o=>?_) (fun hge=>?_)
 .have o:j < es.length:=aA
  obtain⟨p,O⟩:=get_some o
  have n:(es.take (j+1)).foldl (uU s) Fw=uU s ((es.take j).foldl (uU s) Fw) p:=by
   rw[vK,O,pK];rfl
  generalize hx3:({x with ck:=oJ s x.ck,dm:=sE x.dm,dv:=(es.take j).foldl (uU s) Fw}:aS)=x3 at aEC
  have hx4:({x with ck:=oJ s x.ck,dm:=sE x.dm,dv:=(es.take (j+1)).foldl (uU s) Fw}:aS)={x3 with dv:=uU s x3.dv p}:=by rw[n,<-hx3]
  have aXR:=aEC.dv
  obtain⟨be,aQ5,hAe,hrd⟩:=aX5 (w0:=w) (R:=[q,R0]) (H:=[eH L s x3,T]) aB Zg O;obtain⟨K,M⟩:=p;refine aD ?_;refine kd (dat j (aQ5+j*2) (hx:=by rw[<-hAe];rfl)) ?_;refine kd (nQ rfl hrd) ?_;refine kK fun g1=>?_;refine cM (fun N t=>aSp K N) ?_
  by_cases hk:K=115\/K=114\/K=108\/K=110
  .obtain⟨f,aEG,hcb,aEK⟩:=aUM hk;rw[aEG];refine aD ?_;refine cG (aKk rfl (.inr ⟨⟨_,_,_,rfl⟩,rfl⟩)) ?_;refine cG (bT rfl (tO 1 rfl rfl)) ?_
   have hm0:Fk s x3.dv (K,M) 0=x3.dv:=Ug _ _
   refine cF [(90,iv 0),(89,iv s.aG.length),(88,.slice L.A s.aG.length L.c),(13,.func (.func f) #[] #[]),(12,pt g1),(76,iv j),(75,iv es.length),(74,.slice Ae es.length ce),(5,tv),(0,.pointer (some ⟨L.h,0,none⟩))] ?_;refine gA (fun m e R H=>∃i:Nat,i<=s.aG.length/\m=s.aG.length - i/\e=[(90,iv i),(89,iv s.aG.length),(88,.slice L.A s.aG.length L.c),(13,.func (.func f) #[] #[]),(12,pt g1),(76,iv j),(75,iv es.length),(74,.slice Ae es.length ce),(5,tv),(0,.pointer (some ⟨L.h,0,none⟩))]/\R=[q,R0]/\H=[HP.aK g1 258 [.int .u8 K,iv (M:Int)],eH L s {x3 with dv:=Fk s x3.dv (K,M) i},T]) s.aG.length ⟨0,aA,rfl,rfl,rfl,by rw[hm0];rfl⟩ fun m e R H hI=>?_;obtain⟨i,hi,rfl,rfl,rfl,rfl⟩:=hI
   have E:=aI9 hH aEC (K,M) i
   refine aD ?_;refine bP (fun o=>?_) (fun hge=>?_)
   .have o:i < s.aG.length:=aA
    obtain⟨d,z⟩:=get_some o;obtain⟨l,V⟩:=get_some (l:=L.ds) (i:=i) aA;obtain⟨p,O⟩:=get_some (l:=x3.dv) (i:=i) aA
    have X:(Fk s x3.dv (K,M) i)[i]? =some p:=Ui O
    have hstep:(Fk s x3.dv (K,M) i).set i (Io s (K,M) i p)=Fk s x3.dv (K,M) (i+1):=Uh (f:=Io s (K,M)) O
    have hfo:=(E.each i d p z X).1
    refine Rk 1 rfl I E aA fun b off hA=>?_;refine aD ?_;refine kd (dat i (off+i*6) (hx:=by rw[<-hA];rfl)) ?_;refine kd (nQ rfl (cI.dev 1 rfl I E hA z V rfl)) ?_;refine kK fun g2=>?_;refine bP (fun he=>?_) (fun he=>?_)
    .have hd3:Io s (K,M) i p=(Ld K d p.1,p.2):=by
      unfold Io;rw[z];exact aH he
     refine aD ?_;refine Wj 2 i rfl z V X ?_;dsimp only[List.set];refine bB 0 0 ?_;refine aBE 0 (fi:=[]) (ca:=[]) (jB l.1 d (Ld K d p.1)) (fun N F1 t h1 h2 h3=>by simpa using aEK l.1 d p.1 (by have:=(hH.t.aG i d z).2.2.2.2.2.2.2.2.1;omega) hfo N F1 h1 h2) ?_ (hf:=hcb);dsimp only[List.set];refine aP 0 0 ?_;refine Wp 2 i rfl z V X (p':=(Ld K d p.1,p.2)) ?_;dsimp only[List.set];rw[<-hd3,hstep];refine aD ?_;refine aZ [1,2,3] ?_;exact fX (s.aG.length - (i+1)) ⟨i+1,o,rfl,rfl,rfl,rfl⟩
    .have hd3:Io s (K,M) i p=p:=by
      unfold Io;rw[z];exact aC he
     rw[hd3,Bi X] at hstep;rw[hstep];refine aD ?_;refine aZ [1,2,3] ?_;exact fX (s.aG.length - (i+1)) ⟨i+1,o,rfl,rfl,rfl,rfl⟩
   obtain rfl:i=s.aG.length:=by omega
   refine aD ?_;refine aZ [1,2] ?_;refine cF [(76,iv (j+1:Nat)),(75,iv es.length),(74,.slice Ae es.length ce),(5,tv),(0,.pointer (some ⟨L.h,0,none⟩))] ?_;exact iZ (es.length - (j+1)) aA ⟨j+1,aA,rfl,rfl,rfl,by rw[hx4];rfl⟩
  .have aEG:Lb K=.nilFunc:=by
    rw[Lb,aC aA,aC aA,aC aA]
   rw[aEG];refine aD ?_;refine cG (aKk rfl (.inl ⟨rfl,rfl⟩)) ?_;refine aZ [1,2] ?_;refine cF [(76,iv (j+1:Nat)),(75,iv es.length),(74,.slice Ae es.length ce),(5,tv),(0,.pointer (some ⟨L.h,0,none⟩))] ?_;exact iZ (es.length - (j+1)) aA ⟨j+1,aA,rfl,rfl,rfl,by rw[hx4,aQW hk,<-hx3]⟩
 obtain rfl:j=es.length:=by omega
 rw[Bn];refine aD ?_;refine cG (bT rfl (tO 0 rfl rfl)) ?_;refine bB 0 3 ?_;refine Bb (α:=Option Addr×Nat×Nat) 0 (f:=148) (fi:=[]) (ca:=[]) (fun a=>.slice a.1 a.2.1 a.2.2) (fun _=>sU L.R s (Jn x.ln)) (fun _=>True) aJ rfl rfl rfl aE (fun N F1 t h1 h2 h3=>aOU L.R s x.ln hH J.ln N F1 h1 h2) ?_;rintro _ _;dsimp only[List.set];refine aP 0 3 ?_
 change XK _ _ _ _ _ [eH L s {x with ck:=oJ s x.ck,dm:=sE x.dm,ln:=Jn x.ln,dv:=es.foldl (uU s) Fw},T]
 have aSa:({x with ck:=oJ s x.ck,dm:=sE x.dm,ln:=Jn x.ln,dv:=es.foldl (uU s) Fw}:aS)=uM s x k:=by rw[uM,hdv,hes]
 rw[aSa];refine aD ?_;subst Vb;subst hT;subst hTv;refine oP ?_;exact Ai fun N t=>⟨(A0,c0),rfl,trivial,t.turns hF aB (i:=0) rfl⟩
structure fA where
 z:bA
 y:bX
 x:aS
def fA.start(m:fA)(t k d r v:Int):fA:=⟨(lY m.z t k d r v).2,m.y,m.x⟩
def fA.done(m:fA)(t:Int):fA:=⟨(fG m.z t).2,m.y,m.x⟩
def fA.step(s:aI)(m:fA)(t:Int):fA:=⟨(pI s m.z m.y m.x t).1,(pI s m.z m.y m.x t).2.1,(pI s m.z m.y m.x t).2.2⟩
def fA.dH(s:aI)(m:fA):fA:=⟨m.z,(jX s m.x m.y).1,(jX s m.x m.y).2⟩
def fA.tick(s:aI)(m:fA)(c:Int):fA:=⟨pP m.z (mX s m.x c).2,m.y,(mX s m.x c).1⟩
structure fC(s:aI)(n:Nat)(m:fA):Prop where
 mY:rM s m.z
 fw:oH s m.y
 hw:dF s m.x
 wt:Gh s m.x
 po:0<=m.x.aV/\m.x.aV<=n
 w0:m.z.aV=false->∀i:Nat,(m.x.wt[i]?).join=none
 w1:m.z.aV=true->∃(i:Nat) (t:jN),i < s.aG.length/\(m.x.wt[i]?).join=some t/\t.id=m.z.id/\∀k:Nat,k≠i->(m.x.wt[k]?).join=none
section
variable{m:fA}
def fC.le{k:Nat}(h:fC s n m)(hk:n<=k):fC s k m:=⟨h.mY,h.fw,h.hw,h.wt,by have:=h.po;omega,h.w0,h.w1⟩
def fC.start(h:fC s n m)(t k d r v:Int)(l:0<=v/\v < 4294967296):fC s n (m.start t k d r v):=by
 obtain⟨f,e,j⟩:=aNV h.mY t k d r v l;refine⟨f,h.fw,h.hw,h.wt,h.po,fun c=>h.w0 (e.symm.trans c),fun c=>?_⟩
 have i:=h.w1 (e.symm.trans c)
 rwa [<-j] at i
def fC.done(h:fC s n m)(t:Int):fC s n (m.done t):=by
 obtain⟨f,d,e⟩:=aTS h.mY t;refine⟨f,h.fw,h.hw,h.wt,h.po,fun c=>h.w0 (d.symm.trans c),fun c=>?_⟩
 have i:=h.w1 (d.symm.trans c)
 rwa [<-e] at i
def fC.dH(hm:s.made)(h:fC s n m):fC s n (m.dH s):=by
 obtain⟨f,o,e,j⟩:=h.fw.next hm.dM h.hw;refine⟨h.mY,f,o,fun i d t hd l=>h.wt i d t hd (by rw[<-e];exact l),by rw[show(m.dH s).x.aV=m.x.aV from j];exact h.po,fun c i=>?_,fun c=>?_⟩
 .show((jX s m.x m.y).2.wt[i]?).join=none
  rw[e];exact h.w0 c i
 .show ∃i t,i < s.aG.length/\((jX s m.x m.y).2.wt[i]?).join=some t/\t.id=m.z.id/\∀k:Nat,k≠i->((jX s m.x m.y).2.wt[k]?).join=none
  rw[e];exact h.w1 c
def fC.idle(h:fC s n m)(hp:m.z.aV=false)(c:n<=1000000000):HwP s m.x:=⟨h.hw,h.w0 hp,by have:=h.po;omega⟩
def fC.free(h:fC s n m)(d:m.z.cP < 0):m.z.aV=false:=by
 rcases h.mY.cP with⟨_,_,c,_⟩ | ⟨i,_,c,_⟩
 .exact c
 .omega
def fC.step(hm:s.made)(h:fC s n m)(t:Int):fC s (n+1) (m.step s t):=by
 have same:fC s (n+1) ⟨m.z,m.y,m.x⟩:=h.le aA
 unfold fA.step pI;split
 .exact same
 .rename_i H
  obtain⟨j,rfl,N⟩:=zP (t:=t) (by simpa using H);rw[dL];split
  .split
   .rename_i D
    have E:=h.free D
    have hw0:=h.w0 E
    obtain⟨A,L,C,G⟩:=aVR hm h.mY D m.x N;dsimp only;generalize gP s m.x m.z j=r at A C G;obtain⟨T,Y⟩:=r;dsimp only at A C G|-;cases l:T.aV with
    | false=>
     cases C l;exact⟨A,h.fw,h.hw,h.wt,by have:=h.po;dsimp only;omega,fun _=>hw0,fun f=>by dsimp only at f;rw[l] at f;cases f⟩
    | true =>
     obtain⟨d,p,w,v,dv,B,r0,r1,V,O,I,rfl⟩:=G l
     have F:=(cE.1 B).1
     have U:=h.hw.wt
     have o:∀k:Nat,(((m.x.wt.set d (some ⟨m.x.aV,p,w,v⟩))[k]?).join)=if k=d then some ⟨m.x.aV,p,w,v⟩ else none:=fun k=>by
      rw[gX]
      by_cases e:d=k
      .subst e;rw[aH rfl,aH aA,aH rfl];rfl
      .rw[aC e,aC (fun D=>e D.symm)];exact hw0 k
     refine⟨A,h.fw,aDf h.hw d _ _,fun i e t M X=>?_,?_,fun f=>?_,fun _=>⟨d,⟨m.x.aV,p,w,v⟩,F,?_,I.symm,fun k R=>?_⟩⟩
     .have c:((m.x.wt.set d (some ⟨m.x.aV,p,w,v⟩))[i]?).join=some t:=X
      rw[o] at c
      by_cases J:i=d
      .rw[aH J] at c;cases c;rw[J,B] at M;cases M;exact⟨r0,r1,V,O⟩
      .rw[aC J] at c;cases c
     .have:=h.po
      show 0<=m.x.aV+1/\m.x.aV+1<=((n+1:Nat):Int)
      omega
     .dsimp only at f;rw[l] at f;cases f
     .show((m.x.wt.set d (some ⟨m.x.aV,p,w,v⟩))[d]?).join=_
      rw[o,aH rfl]
     .show((m.x.wt.set d (some ⟨m.x.aV,p,w,v⟩))[k]?).join=_
      rw[o,aC R]
   .exact same
  .split
   .rename_i K
    split
    .rename_i E
     obtain⟨A,L,C⟩:=aW7 h.mY h.fw N K E;exact⟨A,L,h.hw,h.wt,by have:=h.po;dsimp only;omega,fun _=>h.w0 E,fun f=>by dsimp only at f;rw[C] at f;cases f⟩
    .exact same
   .exact same
def aCw{x:aS}:∀n:Nat,(∀k,k < n->(x.wt[k]?).join=none)->gI s x n=(x,[])
 | 0,_=>rfl
 | n+1,h=>by
  have ih:=aCw n fun k d=>h k aA
  have c:=aCu (s:=s) (h n aA)
  show((fZ s (gI s x n).1 n).1,(gI s x n).2++(fZ s (gI s x n).1 n).2.toList)=_
  rw[ih];dsimp only;rw[c];rfl
def aKY{x:aS}(e:dF s x){i:Nat}{t:jN}(hi:i < s.aG.length)(h:(x.wt[i]?).join=some t)(ho:∀k:Nat,k≠i->(x.wt[k]?).join=none):
  ∃a,(fZ s x i).2=some a/\a.id=t.id/\a.dev=i/\∀d,gI s x (i+1+d)=((fZ s x i).1,[a]):=by
 obtain⟨a,c,j⟩:=aFD e hi h;refine⟨a,c,?_,?_,fun d=>?_⟩
 .obtain⟨d,hd⟩:=get_some hi;obtain⟨p,f⟩:=get_some (l:=x.dv) (i:=i) (by have:=e.dv;omega);unfold fZ at c;rw[h,hd,f] at c;dsimp only at c;split at c<;>cases c<;>rfl
 .obtain⟨d,hd⟩:=get_some hi;obtain⟨p,f⟩:=get_some (l:=x.dv) (i:=i) (by have:=e.dv;omega);unfold fZ at c;rw[h,hd,f] at c;dsimp only at c;split at c<;>cases c<;>rfl
 .induction d with
  | zero=>
   show((fZ s (gI s x i).1 i).1,(gI s x i).2++(fZ s (gI s x i).1 i).2.toList)=_
   rw[aCw i fun k n=>ho k aA];dsimp only;rw[c];rfl
  | succ d ih =>
   show((fZ s (gI s x (i+1+d)).1 (i+1+d)).1,(gI s x (i+1+d)).2++(fZ s (gI s x (i+1+d)).1 (i+1+d)).2.toList)=_
   rw[ih];dsimp only
   have m:fZ s (fZ s x i).1 (i+1+d)=((fZ s x i).1,none):=aCu (by
    rw[j,gX,aC aA]
    exact ho _ aA)
   rw[m];rfl
def fC.ans(h:fC s n m)(c:Int):(m.z.aV=false->(mX s m.x c).2=[])/\(m.z.aV=true->∃a,(mX s m.x c).2=[a]/\a.id=m.z.id):=by
 refine⟨fun e=>?_,fun e=>?_⟩
 .show(gI s m.x s.aG.length).2=[]
  rw[aCw _ fun k _=>h.w0 e k]
 .obtain⟨i,t,j,o,f,p⟩:=h.w1 e;obtain⟨a,_,r,_,l⟩:=aKY h.hw j o p;obtain⟨d,hd⟩:∃d,s.aG.length=i+1+d:=⟨s.aG.length - (i+1),aA⟩
  refine⟨a,?_,r.trans f⟩
  show(gI s m.x s.aG.length).2=[a]
  rw[hd,l d]
def fC.aDw(h:fC s n m)(c:Int):(m.tick s c).z.aV=false:=by
 obtain⟨k,j⟩:=h.ans c
 show(pP m.z (mX s m.x c).2).aV=false
 cases d:m.z.aV with
 | false=>rw[k d];exact d
 | true=>
  obtain⟨a,f,i⟩:=j d;rw[f]
  show(rX m.z a).aV=false
  unfold rX;rw[aC (by rw[d];simp),aC (fun e=>e i)];split<;>rfl
def aWk(s:aI)(x:aS)(i:Nat):(fZ s x i).1.aV=x.aV:=by
 unfold fZ;split
 .split<;>rfl
 .rfl
def aKX(s:aI)(x:aS):∀n,(gI s x n).1.aV=x.aV
 | 0=>rfl
 | n+1=>(aWk s _ n).trans (aKX s x n)
def fC.tick(hm:s.made)(h:fC s n m)(c:Int):fC s n (m.tick s c):=by
 obtain⟨l,o⟩:=Nv h.hw h.wt s.aG.length
 have j:∀i:Nat,(((m.tick s c).x.wt)[i]?).join=none:=fun i=>by
  have:=aKV h.hw h.wt i
  show((gI s m.x s.aG.length).1.wt[i]?).join=none
  unfold pE at this;cases k:((gI s m.x s.aG.length).1.wt[i]?).join with
  | none=>rfl
  | some t=>rw[k] at this;simp at this
 refine⟨aLa _ h.mY,h.fw,aGU hm.dM l c,(fun i d t _ f=>by rw[j i] at f;cases f),?_,fun _=>j,fun e=>by rw[h.aDw c] at e;cases e⟩
 show 0<=(gI s m.x s.aG.length).1.aV/\(gI s m.x s.aG.length).1.aV<=n
 rw[aKX];exact h.po
end
def zO(s:aI):fA:=⟨Xx s,xF s,hw0 s⟩
def aIG{s:aI}(hm:s.made):fC s 0 (zO s):=by
 have e:=aIT hm.dM
 have hw:∀i:Nat,((hw0 s).wt[i]?).join=none:=fun i=>by
  show((s.aG.map fun _=>(none:Option jN))[i]?).join=none
  rw[eO];cases s.aG[i]? <;>rfl
 exact⟨aPf,aTe hm.Bv,e,(fun i d t _ f=>by
  have:=(hw i).symm.trans f
  cases this),⟨Br 0,Br 0⟩,fun _=>hw,fun c=>by cases c⟩
def Zt{P:Program}{fn:FuncId}{args:Array Value}{w:World}{ps:List HP}(i:Nat){p p':HP}{v:Value}{F:Nat->Prop}(hi:ps[i]? =some p)(h:∀D,p.sat D w->(∀b,D b->b < w.heap.size)->(∀b,D b->F b)->Calls P fn args w fun y w'=>y=.returned v/\∃f,p'.sat f w'/\jG w w' D f)
  (hp:(HP.many ps).sat F w) (hF:∀b,F b->b < w.heap.size):Calls P fn args w fun y w'=>y=.returned v/\∃f,(HP.many (ps.set i p')).sat f w'/\jG w w' F f:=by
 obtain⟨G,K,l,I⟩:=hp
 have E:=(cE.1 hi).1
 refine(h (G i) (K i p hi) (fun b c=>hF b (l i b c)) (l i)).mono fun y w' ⟨L,f,M,d⟩=>⟨L,fun b=>f b\/∃k,k≠i/\k < ps.length/\G k b,⟨fun k=>if k=i then f else fun b=>k < ps.length/\G k b,fun k r x=>?_,fun k b c=>?_,fun j k b o z m=>?_⟩,⟨d.os,d.tape,d.output,d.size,fun b c=>?_,fun b c N=>?_⟩⟩
 .by_cases e:i=k
  .subst e;rw[kR E] at x;cases x
   simpa using M
  .rw[pZ e] at x
   have m:=(cE.1 x).1
   simp only[aC (fN e)];rw[show(fun b=>k < ps.length/\G k b)=G k by funext b;simp[m]];exact r.loc _ _ _ (K k r x) fun b c=>d.old b (hF b (l k b c)) fun A=>I i k b e A c
 .dsimp only at c;split at c
  .exact .inl c
  .exact .inr ⟨k,by assumption,c.1,c.2⟩
 .have t:∀k b,k≠i->f b->G k b->False:=fun k b H A J=>by
   rcases(d.new b A).1 with n | n
   .exact I i k b (fN H) n J
   .have:=hF b (l k b J)
    omega
  dsimp only at z m;split at z<;>split at m
  .rename_i C B;exact o (C.trans B.symm)
  .rename_i C B;exact t k b B z m.2
  .rename_i C B;exact t j b C m z.2
  .exact I j k b o z.2 m.2
 .rcases c with c | ⟨k,_,_,c⟩
  .refine⟨?_,(d.new b c).2⟩;rcases(d.new b c).1 with n | n
   .exact .inl (l i b n)
   .exact .inr n
  .exact⟨.inl (l k b c),jC (hF b (l k b c)) d.size⟩
 .exact d.old b c fun A=>N (l i b A)
def aRr{a b c:HP}{F:Nat->Prop}{w:World}(h:(HP.many [a,b,c]).sat F w):(HP.many [a,HP.many [b,c]]).sat F w:=by
 obtain⟨G,n,o,m⟩:=h
 have x:=n 1 b rfl
 have t:=n 2 c rfl
 have y:∀k,k < 3->(fun b=>k < 3/\G k b)=G k:=fun k r=>by funext b;simp[r]
 refine⟨fun i=>match i with | 0=>G 0 | 1=>fun b=>G 1 b\/G 2 b | _=>fun _=>False,fun i p d=>?_,fun i b e=>?_,fun i j b l d f=>?_⟩
 .match i,d with
  | 0,d=>cases d;exact n 0 _ rfl
  | 1, d =>
   cases d;refine⟨fun i=>match i with | 0=>G 1 | 1=>G 2 | _=>fun _=>False,fun i p d=>?_,fun i b e=>?_,fun i j b l d f=>?_⟩
   .match i,d with
    | 0,d=>cases d;exact x
    | 1,d=>cases d;exact t
    | i+2,d=>simp at d
   .match i,e with
    | 0,e=>exact .inl e
    | 1,e=>exact .inr e
    | i+2,e=>exact e.elim
   .match i,j,d,f with
    | 0,0,_,_=>exact absurd rfl l
    | 0,1,d,f=>exact m 1 2 b aE d f
    | 1,0,d,f=>exact m 2 1 b aE d f
    | 1,1,_,_=>exact absurd rfl l
    | i+2,_,d,_=>exact d.elim
    | _,j+2,_,f=>exact f.elim
  | i+2,d=>simp at d
 .match i,e with
  | 0,e=>exact o 0 b e
  | 1,e=>rcases e with e | e<;>exact o _ b e
  | i+2,e=>exact e.elim
 .match i,j,d,f with
  | 0,0,_,_=>exact absurd rfl l
  | 0,1,d,f=>rcases f with f | f<;>exact m _ _ b aE d f
  | 1,0,d,f=>rcases d with d | d<;>exact m _ _ b aE d f
  | 1,1,_,_=>exact absurd rfl l
  | i+2,_,d,_=>exact d.elim
  | _,j+2,_,f=>exact f.elim
def aRq{a b c:HP}{F:Nat->Prop}{w:World}(h:(HP.many [a,HP.many [b,c]]).sat F w):(HP.many [a,b,c]).sat F w:=by
 obtain⟨G,r,n,l⟩:=h;obtain⟨I,o,k,t⟩:=r 1 _ rfl;refine⟨fun i=>match i with | 0=>G 0 | 1=>I 0 | 2=>I 1 | _=>fun _=>False,fun i p d=>?_,fun i b f=>?_,fun i j b m d e=>?_⟩
 .match i,d with
  | 0,d=>cases d;exact r 0 _ rfl
  | 1,d=>cases d;exact o 0 _ rfl
  | 2,d=>cases d;exact o 1 _ rfl
  | i+3,d=>simp at d
 .match i,f with
  | 0,f=>exact n 0 b f
  | 1,f=>exact n 1 b (k 0 b f)
  | 2,f=>exact n 1 b (k 1 b f)
  | i+3,f=>exact f.elim
 .match i,j,d,e with
  | 0,0,_,_ | 1,1,_,_ | 2,2,_,_=>exact absurd rfl m
  | 0,1,d,e=>exact l 0 1 b aE d (k 0 b e)
  | 0,2,d,e=>exact l 0 1 b aE d (k 1 b e)
  | 1,0,d,e=>exact l 0 1 b aE e (k 0 b d)
  | 2,0,d,e=>exact l 0 1 b aE e (k 1 b d)
  | 1,2,d,e=>exact t 0 1 b aE d e
  | 2,1,d,e=>exact t 0 1 b aE e d
  | i+3,_,d,_=>exact d.elim
  | _,j+3,_,e=>exact e.elim
def lG(g f:Nat)(hL:HL)(s:aI)(m:fA):HP:=aCM g f hL s m.z m.y m.x
def aLN(g f:Nat)(hL:HL)(s:aI)(m:fA)(l:List gQ)(a:Option Addr×Nat):HP:=HP.many [lG g f hL s m,HP.own 49 4 (.slice a.1 l.length a.2) l.length (l.flatMap gQ.cells)]
def St.mac{w0 w:World}{R:List Piece}{H:List HP}{g f:Nat}{hL:HL}{s:aI}{m:fA}(t:St w0 R H w)(i:Nat)(hi:H[i]? =some (lG g f hL s m)):∃L,aA6 w g hL.h f L s m.z:=by
 obtain⟨F,j,c,_⟩:=t.chunk hi;obtain⟨G,k,e,_⟩:=j;obtain⟨L,hL⟩:=k 0 _ rfl;exact⟨L,aLZ hL fun b d=>c b (e 0 b d)⟩
section
variable(g f:Nat)(hL:HL)(s:aI)(n:Nat)(m:fA)(w:World)(F:Nat->Prop)
def aRh(t k d r v:Int)(hp:(lG g f hL s m).sat F w)(hF:∀b,F b->b < w.heap.size):
  Cz 73 #[pt g,iv t,.agg #[.int .u8 k,iv d,iv r,.int .u32 v]] w (Wr (iv (lY m.z t k d r v).1) (lG g f hL s (m.start t k d r v)) w F):=
 Zt 0 rfl (fun c e i _=>aPc g hL.h f s m.z w c t k d r v e i) hp hF
def aRk(t:Int)(hp:(lG g f hL s m).sat F w)(hF:∀b,F b->b < w.heap.size):
  Cz 125 #[pt g,iv t] w (Wr (.tuple #[.agg #[iv (fG m.z t).1.1,.int .u32 (fG m.z t).1.2.1],.bool (fG m.z t).1.2.2]) (lG g f hL s (m.done t)) w F):=
 Zt 0 rfl (fun d c e _=>aPi g hL.h f s m.z w d t c e) hp hF
def Mz(hm:s.made)(e:iS hL s)(c:fC s n m)(h:n<=1000000000)(t:Int)(hp:(lG g f hL s m).sat F w)(hF:∀b,F b->b < w.heap.size)(d:gJ ⟨w,fun b=>b < w.heap.size/\¬F b⟩):
  Cz 75 #[pt g,iv t] w (Wr (.tuple #[]) (lG g f hL s (m.step s t)) w F):=
 aPb g f hL s m.z m.y m.x w F t hm e (fun i=>c.idle (c.free i) h) (c.mY.go c.fw.toFwB) hp hF d
def aRj(hm:s.made)(h:iS hL s)(c:fC s n m)(hp:(lG g f hL s m).sat F w)(hF:∀b,F b->b < w.heap.size)(e:gJ ⟨w,fun b=>b < w.heap.size/\¬F b⟩):
  Cz 45 #[pt f] w (Wr (.tuple #[]) (lG g f hL s (m.dH s)) w F):=
 (Zt 1 rfl (fun k d i p=>aST f hL s m.y m.x w hm.dM h (c.fw.step c.hw) k d i (gJ.le e fun b j=>⟨⟨j.1,fun r=>j.2 (p b r)⟩,rfl⟩)) (aRr hp) hF).mono fun _ _ ⟨l,o,d,i⟩=>⟨l,o,aRq d,i⟩
def aRg(hm:s.made)(H:iS hL s)(B:fC s n m)(k:Int)(hd:0<=k/\k < 4294967296)(hp:(lG g f hL s m).sat F w)(hF:∀b,F b->b < w.heap.size):
  Cz 82 #[.pointer (some ⟨hL.h,0,none⟩),.int .u32 k] w (fun y w'=>∃a:Option Addr×Nat,y=.returned (.slice a.1 (mX s m.x k).2.length a.2)/\True/\∃t,(aLN g f hL s ⟨m.z,m.y,(mX s m.x k).1⟩ (mX s m.x k).2 a).sat t w'/\jG w w' F t):=by
 obtain⟨G,J,C,D⟩:=hp
 have hG:∀i b,G i b->b < w.heap.size:=fun i b d=>hF b (C i b d)
 have R:=J 0 _ rfl
 have N:=J 1 _ rfl
 refine(aSk hL s m.x w hm.dM H B.hw B.wt k hd (G 2) (J 2 _ rfl) (hG 2)).mono fun y w' ⟨a,M,_,t,⟨I,K,o,L⟩,l⟩=>⟨a,M,trivial,fun b=>t b\/G 0 b\/G 1 b,⟨fun i=>match i with | 0=>fun b=>I 0 b\/G 0 b\/G 1 b | 1=>I 1 | _=>fun _=>False,fun i p c=>?_,fun i b d=>?_,fun i j b r c e=>?_⟩,⟨l.os,l.tape,l.output,l.size,fun b d=>?_,fun b d O=>?_⟩⟩
 .have A:∀i,i≠2->∀b,G i b->w'.heap[b]? =w.heap[b]? :=fun i c b d=>l.old b (hG i b d) fun h=>D 2 i b (fN c) h d
  have fr:∀i,i≠2->∀b,t b->¬G i b:=fun i c b d E=>by
   rcases(l.new b d).1 with h | h
   .exact D 2 i b (fN c) h E
   .have:=hG i b E
    omega
  match i,c with
  | 0, c =>
   cases c;refine⟨fun i=>match i with | 0=>G 0 | 1=>G 1 | 2=>I 0 | _=>fun _=>False,fun i p c=>?_,fun i b d=>?_,fun i j b r c e=>?_⟩
   .match i,c with
    | 0,c=>cases c;exact HP.loc _ _ _ _ R (A 0 aE)
    | 1,c=>cases c;exact HP.loc _ _ _ _ N (A 1 aE)
    | 2,c=>cases c;exact K 0 _ rfl
    | i+3,c=>simp at c
   .match i,d with
    | 0,d=>exact .inr (.inl d)
    | 1,d=>exact .inr (.inr d)
    | 2,d=>exact .inl d
    | i+3,d=>exact d.elim
   .match i,j,c,e with
    | 0,0,_,_ | 1,1,_,_ | 2,2,_,_=>exact absurd rfl r
    | 0,1,c,e=>exact D 0 1 b aE c e
    | 1,0,c,e=>exact D 1 0 b aE c e
    | 0,2,c,e=>exact fr 0 aE b (o 0 b e) c
    | 2,0,c,e=>exact fr 0 aE b (o 0 b c) e
    | 1,2,c,e=>exact fr 1 aE b (o 0 b e) c
    | 2,1,c,e=>exact fr 1 aE b (o 0 b c) e
    | i+3,_,c,_=>exact c.elim
    | _,j+3,_,e=>exact e.elim
  | 1,c=>cases c;exact K 1 _ rfl
  | i+2,c=>simp at c
 .match i,d with
  | 0,d=>
   rcases d with d | d
   .exact .inl (o 0 b d)
   .exact .inr d
  | 1,d=>exact .inl (o 1 b d)
  | i+2,d=>exact d.elim
 .have fr:∀i,i≠2->∀b,t b->¬G i b:=fun i c b d E=>by
   rcases(l.new b d).1 with h | h
   .exact D 2 i b (fN c) h E
   .have:=hG i b E
    omega
  match i,j,c,e with
  | 0,0,_,_ | 1,1,_,_=>exact absurd rfl r
  | 0,1,c,e=>
   rcases c with c | c | c
   .exact L 0 1 b aE c e
   .exact fr 0 aE b (o 1 b e) c
   .exact fr 1 aE b (o 1 b e) c
  | 1,0,c,e=>
   rcases e with e | e | e
   .exact L 0 1 b aE e c
   .exact fr 0 aE b (o 1 b c) e
   .exact fr 1 aE b (o 1 b c) e
  | i+2,_,c,_=>exact c.elim
  | _,j+2,_,e=>exact e.elim
 .rcases d with d | d | d
  .refine⟨?_,(l.new b d).2⟩;rcases(l.new b d).1 with h | h
   .exact .inl (C 2 b h)
   .exact .inr h
  .exact⟨.inl (C 0 b d),jC (hG 0 b d) l.size⟩
  .exact⟨.inl (C 1 b d),jC (hG 1 b d) l.size⟩
 .exact l.old b d fun h=>O (C 2 b h)
def aEp{w0:World}{R:List Piece}{H:List HP}(i:Nat)(st:St w0 R H w)(hi:H[i]? =some (lG g f hL s m)):Cz 74 #[pt g] w (Rt (iv m.z.cP) w):=by
 obtain⟨L,c⟩:=st.mac i hi;exact aPg g hL.h f L s m.z w c
end
structure mW where
 k:Int
 d:Int
 r:Int
 v:Int
instance:DecidableEq mW:=fun a b=>decidable_of_iff (a.k=b.k/\a.d=b.d/\a.r=b.r/\a.v=b.v) ⟨fun h=>by
 obtain⟨a1,a2,a3,a4⟩:=a;obtain⟨b1,b2,b3,b4⟩:=b;obtain⟨rfl,rfl,rfl,rfl⟩:=h
 rfl,fun h=>by subst h;exact⟨rfl,rfl,rfl,rfl⟩⟩
def Lg:mW:=⟨0,0,0,0⟩
structure dU where
 kind:Int
 task:Int
 c:mW
 err:Int
 res:Int
 an:gQ
 alive:Bool
 words:List Int
def Qy:dU:=⟨0,0,Lg,0,0,⟨0,0,false,0⟩,false,[]⟩
structure aT where
 m:fA
 cl:Nat->mW
 wt:Nat->Bool
 es:List dU
def iE{α:Type}(f:Nat->α)(j:Nat)(a:α):Nat->α:=fun i=>if i=j then a else f i
def Mf(s:aI):aT:=⟨zO s,fun _=>Lg,fun _=>false,[]⟩
def rU(w:aT)(t:Int):dU:={Qy with kind:=101,task:=t,c:=w.cl t.toNat,err:=(fG w.m.z t).1.1,res:=(fG w.m.z t).1.2.1}
def aT.end_(w:aT)(t:Int):aT:=if(fG w.m.z t).1.2.2=true then {w with m:=w.m.done t,es:=w.es++[rU w t]} else {w with m:=w.m.done t}
def aT.call(w:aT)(t:Int)(c:mW):Int×aT:=((lY w.m.z t c.k c.d c.r c.v).1,if(lY w.m.z t c.k c.d c.r c.v).1≠0 then {w with m:=w.m.start t c.k c.d c.r c.v} else {w with m:=w.m.start t c.k c.d c.r c.v,cl:=iE w.cl t.toNat c,wt:=iE w.wt t.toNat true})
def aT.nS(w:aT)(t:Int):Bool:=bJ 3 t&&(w.wt t.toNat&&decide (w.m.z.cP < 0))
def pO(w:aT)(t:Int):dU:={Qy with kind:=98,task:=t,c:=w.cl t.toNat}
def aT.jJ(s:aI)(w:aT)(t:Int):aT:=if w.nS t then {w with m:=w.m.step s t,wt:=iE w.wt t.toNat false,es:=w.es++[pO w t]} else {w with m:=w.m.step s t}
def aT.task(s:aI)(w:aT)(t:Int):aT:=(w.jJ s t).end_ t
def aT.dH(s:aI)(w:aT):aT:={w with m:=w.m.dH s}
def tG(s:aI)(x:aS)(a:gQ):dU:={Qy with kind:=100,an:=a,alive:=uW s x a.dev.toNat}
def aT.mG(s:aI)(w:aT)(c:Int):aT:={w with m:=w.m.tick s c,es:=w.es++(mX s w.m.x c).2.map (tG s w.m.x)}
def aT.tick(s:aI)(w:aT)(c:Int):aT:=(((w.mG s c).end_ 0).end_ 1).end_ 2
def aT.send(w:aT)(l:List Int):Int×aT:=((fM w.m.y 1 l).1,if(fM w.m.y 1 l).1≠0 then {w with m:=⟨w.m.z,(fM w.m.y 1 l).2,w.m.x⟩} else {w with m:=⟨w.m.z,(fM w.m.y 1 l).2,w.m.x⟩,es:=w.es++[{Qy with kind:=115,words:=l}]})
def aT.take(w:aT):aT:=match kZ w.m.y 1 with
 | some l=>{w with m:=⟨w.m.z,gL w.m.y 1,w.m.x⟩,es:=w.es++[{Qy with kind:=114,words:=l}]}
 | none=>{w with m:=⟨w.m.z,gL w.m.y 1,w.m.x⟩}
structure Au where
 kind:Int
 task:Int
 c:mW
 Vv:Int
 words:List Int
def aT.nE(s:aI)(w:aT)(p:Au):Int×aT:=
 if p.kind=99 then w.call p.task p.c else if p.kind=116 then(0,w.task s p.task) else if p.kind=102 then(0,w.dH s) else if p.kind=104 then(0,w.tick s p.Vv)
 else if p.kind=109 then w.send p.words else if p.kind=97 then(0,w.take) else(1,w)
def aT.round(s:aI)(w:aT)(c:Int):aT:=((((w.task s 0).task s 1).task s 2).dH s).tick s c
structure iK(s:aI)(n:Nat)(w:aT):Prop where
 m:fC s n w.m
 es:w.es.length<=13*n
 wd:∀e∈w.es,nH e.words/\e.words.length<=1000000
section
variable{w:aT}
def iK.le{k:Nat}(h:iK s n w)(hk:n<=k):iK s k w:=⟨h.m.le hk,by have:=h.es;omega,h.wd⟩
def aAK(hm:s.made):iK s 0 (Mf s):=⟨aIG hm,rE _,fun _ h=>by cases h⟩
def iK.end_{b:Nat}(h:fC s n w.m)(d:w.es.length<=b)(hw:∀e∈w.es,nH e.words/\e.words.length<=1000000)(t:Int):fC s n (w.end_ t).m/\(w.end_ t).es.length<=b+1/\∀e∈(w.end_ t).es,nH e.words/\e.words.length<=1000000:=by
 unfold aT.end_;split
 .refine⟨h.done t,by show(w.es++[_]).length<=_;rw[rF];exact Tv d 1,fun e c=>?_⟩;rcases oM.1 c with c | c
  .exact hw e c
  .rw[mL] at c;subst c;exact⟨(fun _ h=>by cases h),rE _⟩
 .exact⟨h.done t,by show w.es.length<=_;omega,hw⟩
def iK.jJ(hm:s.made)(h:iK s n w)(t:Int):fC s (n+1) (w.jJ s t).m/\(w.jJ s t).es.length<=13*n+1/\∀e∈(w.jJ s t).es,nH e.words/\e.words.length<=1000000:=by
 have c:=h.es
 unfold aT.jJ;split
 .refine⟨h.m.step hm t,by show(w.es++[_]).length<=_;rw[rF];exact Tv c 1,fun e hm=>?_⟩;rcases oM.1 hm with hm | hm
  .exact h.wd e hm
  .rw[mL] at hm;subst hm;exact⟨(fun _ h=>by cases h),rE _⟩
 .exact⟨h.m.step hm t,by show w.es.length<=_;omega,h.wd⟩
def iK.task(hm:s.made)(h:iK s n w)(t:Int):iK s (n+1) (w.task s t):=by
 obtain⟨c,i,f⟩:=h.jJ hm t;obtain⟨d,j,e⟩:=iK.end_ c i f t;exact⟨d,by show(aT.end_ _ _).es.length<=_;omega,e⟩
def iK.mG(hm:s.made)(h:iK s n w)(c:Int):fC s n (w.mG s c).m/\(w.mG s c).es.length<=13*n+4/\∀e∈(w.mG s c).es,nH e.words/\e.words.length<=1000000:=by
 have f:=h.es
 have i:=aCv (s:=s) (x:=w.m.x) s.aG.length
 have d:=hm.nv
 refine⟨h.m.tick hm c,by show(w.es++List.map _ (gI s w.m.x s.aG.length).2).length<=_;rw[rF,Jv];omega,fun e hm=>?_⟩;rcases oM.1 hm with hm | hm
 .exact h.wd e hm
 .obtain⟨a,_,rfl⟩:=fR.1 hm;exact⟨(fun _ h=>by cases h),rE _⟩
def iK.tick(hm:s.made)(h:iK s n w)(c:Int):fC s n (w.tick s c).m/\(w.tick s c).es.length<=13*n+7/\∀e∈(w.tick s c).es,nH e.words/\e.words.length<=1000000:=by
 obtain⟨f,r,k⟩:=h.mG hm c;obtain⟨i,p,j⟩:=iK.end_ f r k 0;obtain⟨o,d,l⟩:=iK.end_ i p j 1;exact iK.end_ o d l 2
def iK.dH(hm:s.made)(h:iK s n w):iK s n (w.dH s):=⟨h.m.dH hm,h.es,h.wd⟩
def fC.aBT{m:fA}(h:fC s n m){y':bX}(hy:oH s y'):fC s n ⟨m.z,y',m.x⟩:=⟨h.mY,hy,h.hw,h.wt,h.po,h.w0,h.w1⟩
def aPA{y:bX}(h:Jd s y){l:List Int}(hl:kZ y 1=some l):nH l/\l.length<=1000000:=by
 unfold kZ at hl;rw[aC aE,aH rfl] at hl;split at hl
 .cases hl;exact⟨h.u1,h.n1⟩
 .cases hl
def Au.ok(p:Au):Prop:=(0<=p.c.v/\p.c.v < 4294967296)/\(0<=p.Vv/\p.Vv < 4294967296)/\nH p.words/\p.words.length<=1000000
def iK.nE(hm : s.made)(h : iK s n w){p : Au}(hp : p.ok) : iK s (n + 1) (w.nE s p).2 := by
 obtain⟨o,hd,j,i⟩:=hp
 have A:=h.es
 unfold aT.nE;split
 .unfold aT.call;dsimp only
  have:=h.m.start p.task p.c.k p.c.d p.c.r p.c.v o
  split<;>exact⟨this.le aA,by show w.es.length<=_;omega,h.wd⟩
 .split
  .exact h.task hm _
  .split
   .exact(h.dH hm).le aA
   .split
    .obtain⟨x,z,y⟩:=h.tick hm p.Vv;exact⟨x.le aA,by show(aT.tick _ _ _).es.length<=_;omega,y⟩
    .split
     .unfold aT.send;dsimp only
      have f:=h.m.aBT (h.m.fw.send 1 j i)
      split
      .exact⟨f.le aA,by show w.es.length<=_;omega,h.wd⟩
      .refine⟨f.le aA,by show(w.es++[_]).length<=_;rw[rF];simp;omega,fun e hm=>?_⟩;rcases oM.1 hm with hm | hm
       .exact h.wd e hm
       .rw[mL] at hm;subst hm;exact⟨j,i⟩
     .split
      .unfold aT.take
       have f:=h.m.aBT (h.m.fw.read 1)
       split
       .rename_i l t
        refine⟨f.le aA,by show(w.es++[_]).length<=_;rw[rF];simp;omega,fun e hm=>?_⟩;rcases oM.1 hm with hm | hm
        .exact h.wd e hm
        .rw[mL] at hm;subst hm;exact aPA h.m.fw.fm t
       .exact⟨f.le aA,by show w.es.length<=_;omega,h.wd⟩
      .exact h.le aA
def iK.round(hm:s.made)(h:iK s n w)(c:Int):iK s (n+4) (w.round s c):=by
 have e:=((((h.task hm 0).task hm 1).task hm 2).dH hm)
 obtain⟨f,i,d⟩:=e.tick hm c;exact⟨f.le aA,by show(aT.tick _ _ _).es.length<=_;omega,d⟩
end
def Pv(r:Int):Int:=[17,20,22,17,20,22,16,19].getD r.toNat 0
def aBx(p r:Int):Int:=if p=20/\r < 3 then 7 else[4,4,5,7,7,6,0,1,2].getD r.toNat 0
structure fQ where
 op:Int
 task:Int
 kind:Int
 dev:Int
 bF:Int
 v:Int
 ag:Int
 pr:Int
 ms:Int
 id:Int
 aw:Int
 od:Int
def fQ.cells(a:fQ):List Value:=[iv a.op,iv a.task,iv a.kind,iv a.dev,iv a.bF,.int .u32 a.v,iv a.ag,iv a.pr,iv a.ms,iv a.id,iv a.aw,iv a.od]
def wJ(a:Int):Prop:= -9223372036854775808<=a/\a<=9223372036854775807
structure fQ.ok(a:fQ):Prop where
 op:wJ a.op
 task:wJ a.task
 kind:wJ a.kind
 dev:wJ a.dev
 bF:wJ a.bF
 v:0<=a.v/\a.v < 4294967296
 pr:wJ a.pr
 ms:wJ a.ms
 id:wJ a.id
 aw:wJ a.aw
 od:wJ a.od
theorem fQ.len(a:fQ):a.cells.length=12:=rfl
def eC(c n:Int):Int:=(if c < 0 then 0 - (c+1) else c) % n
def Bu(c n:Int)(d:0 < n):0<=eC c n/\eC c n < n:=⟨Int.emod_nonneg _ aA,Int.emod_lt_of_pos _ d⟩
def aE2(r:Int):Int:=([103,103,103,112,112,114,119,114,119,115,109,109,120]:List Int).getD r.toNat 0
def aRF{r:Int}(e:0<=r)(d:r < 13):([.int .u8 103,.int .u8 103,.int .u8 103,.int .u8 112,.int .u8 112,.int .u8 114,.int .u8 119,.int .u8 114,.int .u8 119,.int .u8 115,.int .u8 109,.int .u8 109,.int .u8 120]:List Value)[r.toNat]? =some (.int .u8 (aE2 r)):=by
 obtain⟨n,rfl⟩:∃n:Nat,r=(n:Int):=⟨r.toNat,aA⟩
 have c:n < 13:=by omega
 unfold aE2;rw[dL]
 match n,c with
 | 0,_ | 1,_ | 2,_ | 3,_ | 4,_ | 5,_ | 6,_ | 7,_ | 8,_ | 9,_ | 10,_ | 11,_ | 12,_=>rfl
 | n+13,h=>omega
def aAg(a:fQ):Int:=aE2 (eC a.kind 13)
def aAh(a:fQ)(many:Int):Int:=eC a.dev (many+1)
def Wc(a:fQ):Int:=eC a.bF 4
def aBz(a:fQ):Int:=Pv (eC a.pr 8)
def My(a:fQ):Int:=aBx (aBz a) (eC a.ms 9)
def yH(a:fQ):List Int:=[(dQ (My a) 0 (aBz a) (eC a.aw 1024)).1]++((if My a≠0/\My a≠1 then[eC a.id 10] else[])++(if My a=4\/My a=7 then[eC a.aw 4] else[]))
def uB(a:fQ):List Int:=
 if eC a.od 30=0 then yH a++[0] else if eC a.od 30=1 then(yH a).take ((yH a).length - 1) else if eC a.od 30=2 then(yH a).set 0 (Fj ((yH a).headD 0) 268435456) else if eC a.od 30=3 then(yH a).set 0 (Fj ((yH a).headD 0) 256) else yH a
def aQP(a:fQ):nH (yH a)/\1<=(yH a).length/\(yH a).length<=3:=by
 have e:=Bu a.id 10 aE
 have f:=Bu a.aw 4 aE
 have d:=aIf (My a) 0 (aBz a) (eC a.aw 1024)
 unfold yH;constructor
 .intro v c;simp only[oM,mL] at c;rcases c with rfl | c | c
  .exact d
  .split at c
   .rw[mL] at c;omega
   .cases c
  .split at c
   .rw[mL] at c;omega
   .cases c
 .split<;>split<;>simp
def aB1(a:fQ):nH (uB a)/\(uB a).length<=4:=by
 obtain⟨d,i,f⟩:=aQP a
 have jE:∀v:Int,0<=v/\v < 4294967296->nH ((yH a).set 0 v):=fun v c u e=>by
  rcases Bq e with h | h
  .exact d u h
  .rw[h];exact c
 unfold uB;split
 .refine⟨fun v c=>?_,by rw[rF];simp;omega⟩;rcases oM.1 c with h | h
  .exact d v h
  .rw[mL] at h;subst h;decide
 .split
  .exact⟨fun v c=>d v (Dg c),by rw[pX];omega⟩
  .split
   .exact⟨jE _ (aDX _ _),by rw[pJ];omega⟩
   .split
    .exact⟨jE _ (aDX _ _),by rw[pJ];omega⟩
    .exact⟨d,aA⟩
def vM(r:Int):Int:=if r < 4 then 99 else if r < 12 then 116 else if r < 19 then 102 else if r < 26 then 104 else if r=26 then 109 else if r=27 then 97 else 0
def pkW(a:fQ)(many:Int):Au:=⟨vM (eC a.op 30),if eC a.bF 40=39 then eC a.task 6 - 2 else eC a.task 3,⟨aAg a,aAh a many,Wc a,a.v⟩,a.v,uB a⟩
def aIb{a:fQ}(c:a.ok)(many:Int):(pkW a many).ok:=⟨c.v,c.v,(aB1 a).1,oL (aB1 a).2 aE⟩
def Ab(s:aI)(w:aT)(a:fQ):aT:=if eC a.op 30=28 then w.round s a.v else(w.nE s (pkW a s.aG.length)).2
def runN(s:aI)(cK:List fQ)(n:Nat):aT:=(cK.take n).foldl (Ab s) (Mf s)
def Mh{s:aI}{cK:List fQ}{n:Nat}{a:fQ}(h:cK[n]? =some a):runN s cK (n+1)=Ab s (runN s cK n) a:=by
 have c:=(cE.1 h).1
 unfold runN;rw[List.take_succ,h,pK];rfl
def aC2{s:aI}(hm:s.made){w:aT}{n:Nat}(h:iK s n w){a:fQ}(c:a.ok):iK s (n+4) (Ab s w a):=by
 unfold Ab;split
 .exact h.round hm _
 .exact(h.nE hm (aIb c _)).le aA
def sK(c n:Int)(w:World)(d:wJ c)(e:0 < n):Cz 16 #[iv c,iv n] w (Rt (iv (eC c n)) w):=by
 unfold wJ at d;refine fP func16 ntmps16 ?_;refine aF ?_;refine dD rfl (fun h=>?_) (fun h=>?_)
 .refine aF ?_;refine lD aB ?_;rw[eC,aH h]
 .refine aF ?_;refine lD aB ?_;rw[eC,aC h]
def On(cs:List fK)(rows:List (List Value))(p:Piece):Prop:=Rows (vD (gB p)) 6 cs rows
def On.le{cs:List fK}{rows:List (List Value)}(p q:Piece)(h:p.Le q)(k:On cs rows p):On cs rows q:=Rows.mono (fun _ _=>vD.mono (lN h)) k
def Ok(vs:List bR)(rows:List (List Value))(p:Piece):Prop:=Rows (sV (gB p)) 6 vs rows
def Ok.le{vs:List bR}{rows:List (List Value)}(p q:Piece)(h:p.Le q)(k:Ok vs rows p):Ok vs rows q:=Rows.mono (fun _ _=>sV.mono (lN h)) k
def tL(sz:Nat)(A:Option Addr)(n:Nat)(xs:List Value)(p:Piece):Prop:=aO p sz A n xs
def tL.le{sz n:Nat}{A:Option Addr}{xs:List Value}(p q:Piece)(h:p.Le q)(k:tL sz A n xs p):tL sz A n xs q:=aO.le k h
def uF(cs:List fK)(rows:List (List Value)):HP:=HP.cO (On cs rows) (On.le (cs:=cs) (rows:=rows))
def Ik(vs:List bR)(rows:List (List Value)):HP:=HP.cO (Ok vs rows) (Ok.le (vs:=vs) (rows:=rows))
section
variable{K:Act->World->Prop}
def aLx{p:HP}(hp:∀w,p.sat (fun _=>False) w)(h:XK N w0 K e R (p::H)):XK N w0 K e R H:=fun a w n st=>by
 obtain⟨Z,F,t,k,o,f,d⟩:=st.ex;refine h a w n ⟨st.os,st.tape,st.output,st.size,Z,fun i=>match i with | 0=>fun _=>False | i+1=>F i,t,k,fun i r c=>?_,fun i b l=>?_,fun i j b m c=>?_⟩
 .cases i with
  | zero=>simp at c;subst c;exact hp w
  | succ i=>exact o i r (by simpa using c)
 .cases i with
  | zero=>exact l.elim
  | succ i=>exact f i b l
 .cases i with
  | zero=>exact c.elim
  | succ i=>cases j with
   | zero=>exact id
   | succ j=>exact d i j b aA c
def aWV{cs:List fK}{rows:List (List Value)}{cl:fK}{A:Option Addr}{c:Nat}(h:XK N w0 K e R (uF (cs++[cl]) (rows++[[.int .u8 cl.kind,.slice A cl.src.length c,.int .u64 cl.rate,iv cl.mul,iv cl.div,iv cl.lock]])::H)):XK N w0 K e R (HP.own 3 1 (.slice A cl.src.length c) cl.src.length (aU cl.src)::uF cs rows::H):=
 Ch 0 (Φ:=tL 1 A cl.src.length (aU cl.src)) (hm:=tL.le) rfl (fun _ h=>h) (Ny (X:=On (cs++[cl]) (rows++[_])) (h3:=On.le) (fun p d f=>f.snoc rfl ⟨A,_,c,rfl,rfl,d⟩) h)
def aWT{vs:List bR}{rows:List (List Value)}{d:bR}{A A':Option Addr}{c i:Nat}(h:XK N w0 K e R (Ik (vs++[d]) (rows++[[iv d.clock,iv d.domain,iv d.reset,.int .u32 d.zX,.slice A d.aX.length c,.slice A' d.kJ.length i]])::H)):XK N w0 K e R (HP.own 82 2 (.slice A d.aX.length c) d.aX.length (d.aX.flatMap Rg.cells)::HP.own 3 1 (.slice A' d.kJ.length i) d.kJ.length (aU d.kJ)::Ik vs rows::H):=
 Ch 0 (Φ:=tL 2 A d.aX.length (d.aX.flatMap Rg.cells)) (hm:=tL.le) rfl (fun _ h=>h) (Ch 1 (Φ:=tL 1 A' d.kJ.length (aU d.kJ)) (hm:=tL.le) rfl (fun _ h=>h) (Ny (X:=fun p=>tL 2 A d.aX.length (d.aX.flatMap Rg.cells) p/\tL 1 A' d.kJ.length (aU d.kJ) p) (h3:=fun p q k h=>⟨tL.le p q k h.1,tL.le p q k h.2⟩) (fun p f j=>⟨f,j⟩) (Ny (X:=Ok (vs++[d]) (rows++[_])) (h3:=Ok.le) (fun p f j=>j.snoc rfl ⟨A,_,c,A',_,i,rfl,rfl,rfl,f.1,f.2⟩) h)))
end
def aGs(v:Value)(hs:List HP)(_:Piece):Prop:=∃(s:aI) (e f c d:Option Addr×Nat) (r1 r2 i h:List (List Value)),v=.agg #[.slice e.1 s.aL.length e.2,.slice f.1 s.domains.length f.2,.slice c.1 s.bG.length c.2,.slice d.1 s.aG.length d.2]/\s.made/\Rows xX 3 s.domains r2/\Rows Ci 1 s.bG i/\
 hs=[HP.own 73 6 (.slice e.1 s.aL.length e.2) s.aL.length r1.flatten,uF s.aL r1,HP.own 75 3 (.slice f.1 s.domains.length f.2) s.domains.length r2.flatten,HP.own 77 1 (.slice c.1 s.bG.length c.2) s.bG.length i.flatten,HP.own 80 6 (.slice d.1 s.aG.length d.2) s.aG.length h.flatten,Ik s.aG h]
def iV.tail{w:World}{p:HP}{hs:List HP}{q:Piece}(h:iV w (p::hs) q):iV w hs q:=by
 obtain⟨F,k,f,l,e⟩:=h;exact⟨fun i=>F (i+1),fun i r c=>k (i+1) r (by simpa using c),fun i=>f (i+1),fun i j b d=>l (i+1) (j+1) b aA,e⟩
def aGs.weak{w w':World}{v:Value}{hs:List HP}{q:Piece}(h:aGs v hs q)(y:q.w=w')(G:iV w hs q):∃cs s,v=.agg cs/\yT (gB (fresh w w')) s cs/\s.made:=by
 obtain⟨s,o,p,j,m,r1,r2,E,B,rfl,C,z,D,rfl⟩:=h;obtain⟨F,d,l,_⟩:=G;subst y
 have f:∀i,(⟨q.w,F i⟩:Piece).Le (fresh w q.w):=fun i b r=>⟨⟨(l i b r).1,(l i b r).2.1⟩,rfl⟩
 have e:∀{i:Nat} {t:TypeId} {k n c:Nat} {A:Option Addr} {x:List Value},(HP.own t k (.slice A n c) n x).sat (F i) q.w->aO (fresh w q.w) k A n x:=fun {i} _ _ _ _ _ _ hs=>(aO.own (q:=⟨q.w,F i⟩) ⟨F i,hs,fun _ h=>h⟩).le (f i)
 exact⟨_,s,rfl,⟨o.1,_,o.2,p.1,_,p.2,j.1,_,j.2,m.1,_,m.2,rfl,⟨r1,On.le _ _ (f 1) (d 1 _ rfl),rfl,e (d 0 _ rfl)⟩,⟨r2,z,rfl,e (d 2 _ rfl)⟩,⟨E,D,rfl,e (d 3 _ rfl)⟩,⟨B,Ok.le _ _ (f 5) (d 5 _ rfl),rfl,e (d 4 _ rfl)⟩⟩,C⟩
def aPQ{r:Int}(d:0<=r)(c:r < 8):([iv 17,iv 20,iv 22,iv 17,iv 20,iv 22,iv 16,iv 19]:List Value)[r.toNat]? =some (iv (Pv r)):=by
 rcases(by omega:r=0\/r=1\/r=2\/r=3\/r=4\/r=5\/r=6\/r=7) with rfl | rfl | rfl | rfl | rfl | rfl | rfl | rfl<;>rfl
def aBy(r:Int):Int:=([4,4,5,7,7,6,0,1,2]:List Int).getD r.toNat 0
def aQO{r:Int}(d:0<=r)(c:r < 9):([iv 4,iv 4,iv 5,iv 7,iv 7,iv 6,iv 0,iv 1,iv 2]:List Value)[r.toNat]? =some (iv (aBy r)):=by
 rcases(by omega:r=0\/r=1\/r=2\/r=3\/r=4\/r=5\/r=6\/r=7\/r=8) with rfl | rfl | rfl | rfl | rfl | rfl | rfl | rfl | rfl<;>rfl
def aPP{r:Int}(d:0<=r)(c:r < 8):0<=Pv r/\Pv r < 256:=by
 rcases(by omega:r=0\/r=1\/r=2\/r=3\/r=4\/r=5\/r=6\/r=7) with rfl | rfl | rfl | rfl | rfl | rfl | rfl | rfl<;>decide
def aQN{r:Int}(d:0<=r)(c:r < 9):0<=aBy r/\aBy r < 256:=by
 rcases(by omega:r=0\/r=1\/r=2\/r=3\/r=4\/r=5\/r=6\/r=7\/r=8) with rfl | rfl | rfl | rfl | rfl | rfl | rfl | rfl | rfl<;>decide
def aQM{p r:Int}(c:0<=r)(d:r < 9):0<=aBx p r/\aBx p r < 256:=by
 unfold aBx;split
 .decide
 .exact aQN c d
def Si(A:Option Addr)(l:List Int):HP:=HP.cO (tL 1 A l.length (eB l)) tL.le
def Xa(l:List Int)(v:Value)(hs:List HP)(_:Piece):Prop:=∃A c,v=.slice A l.length c/\hs=[Si A l]
def aLt{nn:Nat}{fn:Func}{t n c:Nat}{A:Option Addr}{w0:World}{e:Env}{R:List Piece}{H:List HP}(l:List Int)(k:n=l.length)(hi:H[0]? =some (Si A l):=by rfl)(i:fn.results=#[.tmp t]:=by rfl)(m:e.get t=some (.slice A n c):=by rfl)(f:all w0∈R:=by simp):
  XK ⟨nn,[]⟩ w0 (bodyPost Tryz.prog fn (fun y w'=>(∃v hs q,y=.returned v/\q.w=w'/\Xa l v hs q/\iV w0 hs q)/\Below w0.heap.size w0 w') .ret) e R H:=by
 subst k;refine xL [0] (H':=[Si A l]) ?_ aE (fun _ h=>h) ?_
 .unfold zB;rw[hi];rfl
 refine dX [] [] [0] fun q _ _ d=>?_;exact xM i m fun j st=>⟨⟨_,_,⟨j,q.Z⟩,rfl,rfl,⟨A,c,rfl,rfl⟩,st.newR (by simp[f]) aB (d f aB)⟩,st.below (by simp[f])⟩
def aC8{nn:Nat}{fn:Func}{t n c:Nat}{A:Option Addr}{xs:List Value}{w0:World}{e:Env}{R:List Piece}{H:List HP}(l:List Int)(f:n=l.length)(hx:xs=eB l)(hi:H[0]? =some (HP.own 36 1 (.slice A n c) n xs):=by rfl)(d:fn.results=#[.tmp t]:=by rfl)(i:e.get t=some (.slice A n c):=by rfl)(j:all w0∈R:=by simp):
  XK ⟨nn,[]⟩ w0 (bodyPost Tryz.prog fn (fun y w'=>(∃v hs q,y=.returned v/\q.w=w'/\Xa l v hs q/\iV w0 hs q)/\Below w0.heap.size w0 w') .ret) e R H:=by
 subst f;subst hx;refine Ch 0 (Φ:=tL 1 A l.length (eB l)) (hm:=tL.le) hi (fun _ h=>h) ?_;exact aLt l rfl (kR (By hi)) d i j
def aEo(a:fQ)(R:a.ok)(w:World):
  Cz 30 #[.agg #[iv a.ag,iv a.pr,iv a.ms,iv a.id,iv a.aw,iv a.od]] w (fun y w'=>(∃v hs q,y=.returned v/\q.w=w'/\Xa (uB a) v hs q/\iV w hs q)/\Below w.heap.size w w'):=by
 have U:=Bu a.pr 8 aE
 have T:=Bu a.ms 9 aE
 have b3:=Bu a.id 10 aE
 have b4:=Bu a.aw 4 aE
 have b5:=Bu a.aw 1024 aE
 have hP:=aPQ U.1 U.2
 have hM:=aQO T.1 T.2
 have L:=aPP U.1 U.2
 have hmb:=aQM (p:=Pv (eC a.pr 8)) T.1 T.2
 have h1:=R.pr
 have h2:=R.ms
 have h3:=R.id
 have h4:=R.aw
 have h5:=R.od
 have r:My a=if Pv (eC a.pr 8)=20/\eC a.ms 9 < 3 then 7 else aBy (eC a.ms 9):=rfl
 obtain⟨m,hm⟩:∃m,My a=m:=⟨_,rfl⟩
 obtain⟨p,hp⟩:∃p,Pv (eC a.pr 8)=p:=⟨_,rfl⟩
 obtain⟨e,j⟩:∃t,(if m≠0/\m≠1 then[eC a.id 10] else[])=t:=⟨_,rfl⟩
 obtain⟨f,i⟩:∃t,(if m=4\/m=7 then[eC a.aw 4] else[])=t:=⟨_,rfl⟩
 obtain⟨d,M⟩:∃x,(dQ m 0 p (eC a.aw 1024)).1=x:=⟨_,rfl⟩
 have hl1:e.length<=1:=by rw[<-j];split<;>simp
 have hl2:f.length<=1:=by rw[<-i];split<;>simp
 have X:yH a=d::(e++f):=by
  unfold yH;rw[hm,show aBz a=p from hp,M,j,i];rfl
 have K:uB a=if eC a.od 30=0 then(d::(e++f))++[0] else if eC a.od 30=1 then(d::(e++f)).take ((d::(e++f)).length - 1) else if eC a.od 30=2 then(d::(e++f)).set 0 (Fj d 268435456) else if eC a.od 30=3 then(d::(e++f)).set 0 (Fj d 256) else d::(e++f):=by
  unfold uB;rw[X];rfl
 obtain⟨od,O⟩:∃o,eC a.od 30=o:=⟨_,rfl⟩
 rw[O] at K;rw[K];rw[hp] at hP r L;rw[hm] at r
 have N:0<=m/\m < 256:=by rw[<-hm];exact hmb
 have Z:=aQa N L b5
 have hlen:(d::(e++f)).length=e.length+f.length+1:=by simp
 refine bQ func30 ntmps30 ?_;refine iG fun J=>?_;refine eX fun g2=>?_;refine aF ?_;refine cR (fun l t=>sK _ 8 l h1 aE) ?_;refine cG (bT rfl (Rd.aK 0 rfl hP)) ?_;refine eX fun g3=>?_;refine aF ?_;refine cR (fun l t=>sK _ 9 l h2 aE) ?_;refine kd (bT rfl (Rd.aK 0 rfl hM)) ?_;refine bN ?_;refine iJ ?_;refine Ll (α:=Unit) (fun _=>[(6,iv m),(4,iv p),(1,pt J)]) (fun _=>[HP.aK J 98 [iv a.ag,iv a.pr,iv a.ms,iv a.id,iv a.aw,iv a.od]]) (fun _=>True) ?_ fun _ _=>?_
 .refine aF ?_;refine cH (t:=25) rfl (fun A=>?_) (fun A=>?_)
  .refine aF ?_;refine cR (fun l t=>sK _ 9 l h2 aE) ?_;refine bP (fun h=>?_) (fun h=>?_)
   .rw[aH ⟨A,h⟩] at r;subst r;refine aF ?_;exact eF ()
   .rw[aC (fun B=>h B.2)] at r;subst r;refine aF ?_;exact eF ()
  .rw[aC (fun B=>A B.1)] at r;subst r;refine aF ?_;exact eF ()
 refine aF ?_;refine cR (fun l t=>sK _ 1024 l h4 aE) ?_
 refine gN (aM7 [d]) (fun l t=>by
  have:=aUY m 0 p (eC a.aw 1024) none 0 0 [] l (aO.nil _ _) rfl aA Z
  rwa [M] at this) ?_
 rintro _ _ q1 ⟨A1,c1,rfl,rfl⟩ _;dsimp only[dW,dG];refine Ee (R':=[all w]) aB ?_;refine bN ?_;refine bN ?_;refine bN ?_;refine bN ?_;refine bN ?_;refine iJ ?_;refine Ll (α:=Option Addr×Nat) (fun b=>[(7,.slice b.1 (d::e).length b.2),(6,iv m),(1,pt J)]) (fun b=>[HP.own 36 1 (.slice b.1 (d::e).length b.2) (d::e).length (eB (d::e)),HP.aK J 98 [iv a.ag,iv a.pr,iv a.ms,iv a.id,iv a.aw,iv a.od]]) (fun _=>True) ?_ fun b _=>?_
 .refine aF ?_;refine cH (t:=43) rfl (fun A=>?_) (fun A=>?_)
  .refine aF ?_;refine bP (fun h=>?_) (fun h=>?_)
   .rw[aH ⟨A,h⟩] at j;subst j;refine aF ?_;refine cR (fun l t=>sK _ 10 l h3 aE) ?_;refine eX fun g5=>?_;refine jU 1 1 4 1 (n':=([d,eC a.id 10]).length) (el:=36) aJ aJ aE rfl rfl rfl (tU 0 rfl rfl) (by simp[Value.oneCell']) aB (by first | (simp;done) | (simp;omega)) (by first | (simp;done) | (simp;omega)) aE fun I c2=>?_;dsimp only[List.set];refine aF ?_;rw[show eB ([d])++[.int .u32 (eC a.id 10)]=eB ([d,eC a.id 10]) by simp[eB]];exact eF (I,c2)
   .rw[aC (fun B=>h B.2)] at j;subst j;refine aF ?_;exact eF (A1,c1)
  .rw[aC (fun B=>A B.1)] at j;subst j;refine aF ?_;exact eF (A1,c1)
 refine Ll (α:=Option Addr×Nat) (fun b=>[(7,.slice b.1 (d::(e++f)).length b.2),(6,iv m),(1,pt J)]) (fun b=>[HP.own 36 1 (.slice b.1 (d::(e++f)).length b.2) (d::(e++f)).length (eB (d::(e++f))),HP.aK J 98 [iv a.ag,iv a.pr,iv a.ms,iv a.id,iv a.aw,iv a.od]]) (fun _=>True) ?_ fun b _=>?_
 .refine aF ?_;refine cH (t:=56) rfl (fun A=>?_) (fun A=>?_)
  .rw[aH (.inl A)] at i;subst i;refine aF ?_;refine cR (fun l t=>sK _ 4 l h4 aE) ?_;refine eX fun g5=>?_;refine jU 1 1 4 1 (n':=(d::(e++[eC a.aw 4])).length) (el:=36) aJ aJ aE rfl rfl rfl (tU 0 rfl rfl) (by simp[Value.oneCell']) aB (by first | (simp;done) | (simp;omega)) (by first | (simp;done) | (simp;omega)) aE fun I c2=>?_;dsimp only[List.set];refine aF ?_;rw[show eB (d::e)++[.int .u32 (eC a.aw 4)]=eB (d::(e++[eC a.aw 4])) by simp[eB]];exact eF (I,c2)
  .refine aF ?_;refine bP (fun h=>?_) (fun h=>?_)
   .rw[aH (.inr h)] at i;subst i;refine aF ?_;refine cR (fun l t=>sK _ 4 l h4 aE) ?_;refine eX fun g5=>?_;refine jU 1 1 4 1 (n':=(d::(e++[eC a.aw 4])).length) (el:=36) aJ aJ aE rfl rfl rfl (tU 0 rfl rfl) (by simp[Value.oneCell']) aB (by first | (simp;done) | (simp;omega)) (by first | (simp;done) | (simp;omega)) aE fun I c2=>?_;dsimp only[List.set];refine aF ?_;rw[show eB (d::e)++[.int .u32 (eC a.aw 4)]=eB (d::(e++[eC a.aw 4])) by simp[eB]];exact eF (I,c2)
   .rw[aC (fun B=>B.elim A h)] at i;subst i;rw[nZ];refine aF ?_;exact eF b
 refine aF ?_;refine cM (fun l t=>sK _ 30 l h5 aE) ?_;rw[O];refine aF ?_;refine bP (fun h=>?_) (fun h=>?_)
 .rw[aH h];refine aF ?_;refine eX fun g7=>?_;refine jU 1 1 4 1 (n':=((d::(e++f))++[0]).length) (el:=36) aJ aJ aE rfl rfl rfl (tU 0 rfl rfl) (by simp[Value.oneCell']) (by simp[wT]) (by first | (simp;done) | (simp;omega)) (by first | (simp;done) | (simp;omega)) aE fun I c2=>?_;dsimp only[List.set];refine aF ?_;refine aZ [1] ?_;exact aC8 _ rfl (aN2 _ _)
 rw[aC h];refine aF ?_;refine bP (fun h=>?_) (fun h=>?_)
 .rw[aH h];refine aFO 0 rfl fun hcap=>?_;refine aF ?_;refine aCY ((d::(e++f)).length - 1) (el:=36) (sz:=1) aJ aJ rfl rfl aA aA aE fun A3 V=>?_;refine aF ?_
  refine tH (q:=Si A3 ((d::(e++f)).take ((d::(e++f)).length - 1))) 0 rfl (fun F w h=>by
   obtain⟨A9,c9,hB,hs9⟩:=Em (Y:=F) h (fun _ h=>h)
   injection hB with e1
   subst e1
   have:=hs9.aAU (k:=(d::(e++f)).length - 1) aA V
   rw[zG,eB,<-List.map_take] at this
   show aO _ 1 A3 (List.length _) (eB _)
   rw[pX,Tm aA]
   exact this) ?_
  exact aLt _ (by rw[pX,Tm aA])
 rw[aC h];refine aF ?_;refine bP (fun h=>?_) (fun h=>?_)
 .rw[aH h];refine aAv 0 rfl aB ?_;rintro⟨gb,E⟩;rw[E];refine Iv 0 rfl fun cs G z D H=>?_;dsimp only[List.set]
  have C:cs[0]? =some (.int .u32 d):=by
   rw[zG] at z;rw[<-wV (show 0 < (d::(e++f)).length by simp),z];rfl
  refine aF ?_;refine kd (bT rfl (Rd.aK 0 rfl C)) ?_;refine Xn rfl rfl (fun w=>aH5 _ d 268435456 w) aB aE ?_;refine aF ?_;refine Aj 0 (n:=(d::(e++f)).length) (c:=b.2) (sz:=1) (xs:=eB ((d::(e++f)).set 0 (Fj d 268435456))) rfl (by simpa using G) (by rw[<-aGS,<-z,List.take_set]) D H ?_;dsimp only[List.set];exact aC8 (n:=(d::(e++f)).length) _ aB rfl
 rw[aC h];refine aF ?_;refine bP (fun h=>?_) (fun h=>?_)
 .rw[aH h];refine aAv 0 rfl aB ?_;rintro⟨gb,E⟩;rw[E];refine Iv 0 rfl fun cs G z D H=>?_;dsimp only[List.set]
  have C:cs[0]? =some (.int .u32 d):=by
   rw[zG] at z;rw[<-wV (show 0 < (d::(e++f)).length by simp),z];rfl
  refine aF ?_;refine kd (bT rfl (Rd.aK 0 rfl C)) ?_;refine Xn rfl rfl (fun w=>aH5 _ d 256 w) aB aE ?_;refine aF ?_;refine Aj 0 (n:=(d::(e++f)).length) (c:=b.2) (sz:=1) (xs:=eB ((d::(e++f)).set 0 (Fj d 256))) rfl (by simpa using G) (by rw[<-aGS,<-z,List.take_set]) D H ?_;dsimp only[List.set];exact aC8 (n:=(d::(e++f)).length) _ aB rfl
 rw[aC h];refine aF ?_;exact aC8 _ rfl rfl
def dU.row(e:dU)(A:Option Addr)(c:Nat):List Value:=[.int .u8 e.kind,iv e.task,.int .u8 e.c.k,iv e.c.d,iv e.c.r,.int .u32 e.c.v,iv e.err,.int .u32 e.res,iv e.an.id,iv e.an.dev,.bool e.an.dead,.int .u32 e.an.val,.bool e.alive,.slice A e.words.length c]
def EvR(S:xS)(e:dU)(r:List Value):Prop:=∃A c,r=e.row A c/\S 36 1 A e.words.length (eB e.words)
def EvR.mono{S S':xS}(h:∀t sz A n xs,S t sz A n xs->S' t sz A n xs){e:dU}{r:List Value}(k:EvR S e r):EvR S' e r:=by
 obtain⟨A,c,f,d⟩:=k;exact⟨A,c,f,h _ _ _ _ _ d⟩
def nJ(es:List dU)(rows:List (List Value))(p:Piece):Prop:=Rows (EvR (gB p)) 14 es rows
def nJ.le{es:List dU}{rows:List (List Value)}(p q:Piece)(h:p.Le q)(k:nJ es rows p):nJ es rows q:=Rows.mono (fun _ _=>EvR.mono (lN h)) k
def Rows.app{α:Type}{R:α->List Value->Prop}{sz:Nat}:∀{es d:List α} {e c:List (List Value)},Rows R sz es e->Rows R sz d c->Rows R sz (es++d) (e++c)
 | [],_,[],_,_,h=>h
 | [],_,_::_,_,h,_=>h.elim
 | _::_,_,[],_,h,_=>h.elim
 | _::_,_,_::_,_,h,k=>⟨h.1,h.2.1,Rows.app h.2.2 k⟩
def nJ.one{e:dU}{A:Option Addr}{c:Nat}{p:Piece}(h:aO p 1 A e.words.length (eB e.words)):nJ [e] [e.row A c] p:=⟨rfl,⟨A,c,rfl,h⟩,trivial⟩
def nJ.no{e:dU}{p:Piece}(h:e.words=[]):nJ [e] [e.row none 0] p:=⟨rfl,⟨none,0,rfl,by rw[h];exact aO.nil _ _⟩,trivial⟩
def qW(es:List dU)(rows:List (List Value)):HP:=HP.cO (nJ es rows) (nJ.le (es:=es) (rows:=rows))
structure lX where
 A:Option Addr
 c:Nat
 rows:List (List Value)
def pF(f r:Nat)(hL:HL)(s:aI)(w:aT)(L:lX):List Value:=
  [.pointer (some ⟨hL.h,0,none⟩),pt f,pt r,iv s.aG.length,iv (s.domains.length+s.aL.length+s.bG.length:Nat),
   .int .u8 (w.cl 0).k,iv (w.cl 0).d,iv (w.cl 0).r,.int .u32 (w.cl 0).v,.int .u8 (w.cl 1).k,iv (w.cl 1).d,iv (w.cl 1).r,.int .u32 (w.cl 1).v,.int .u8 (w.cl 2).k,iv (w.cl 2).d,iv (w.cl 2).r,.int .u32 (w.cl 2).v,
   .bool (w.wt 0),.bool (w.wt 1),.bool (w.wt 2),.slice L.A w.es.length L.c]
def nT(g f r:Nat)(hL:HL)(s:aI)(w:aT)(L:lX):HP:=HP.many [HP.aK g 94 (pF f r hL s w L),lG r f hL s w.m,HP.own 52 14 (.slice L.A w.es.length L.c) w.es.length L.rows.flatten,qW w.es L.rows]
def fJ(g f r:Nat)(hL:HL)(s:aI)(w:aT):HP:=HP.ex fun L:lX=>nT g f r hL s w L
def aTz(t:TypeId)(sz:Nat)(w:World):(HP.own t sz (.slice none 0 0) 0 []).sat (fun _=>False) w:=⟨fun g h=>by simp[Value.ownBlock] at h,aB,.inl ⟨rfl,rfl⟩⟩
def aT1(w:World):(qW [] []).sat (fun _=>False) w:=(trivial:nJ [] [] ⟨w,fun _=>False⟩)
def aLJ(s:aI)(v:Value)(hs:List HP)(_:Piece):Prop:=∃(g f r:Nat) (c:HL),v=.tuple #[pt g,iv 0]/\hs=[fJ g f r c s (Mf s)]/\iS c s
def aNd(s:aI)(A1 A2 A3 A4:Option Addr)(n1 k1 n2 k2 n3 k3 n4 k4:Nat)(w:World)(hW:jH w s A1 n1 A2 n2 A3 n3 A4 n4)(hm:s.made):
  Cz 23 #[.agg #[.slice A1 n1 k1,.slice A2 n2 k2,.slice A3 n3 k3,.slice A4 n4 k4]] w (fun y w'=>(∃v hs q,y=.returned v/\q.w=w'/\aLJ s v hs q/\iV w hs q)/\Below w.heap.size w w'):=by
 have k:=hm.dM
 have m:=hm.nc
 have n:=hm.nd
 have l:=hm.nr
 obtain rfl:=hW.vQ;obtain rfl:=hW.vP;obtain rfl:=hW.yJ;obtain rfl:=hW.vO;refine bQ func23 ntmps23 ?_;refine iG fun A=>?_;refine gN (aMp s) (fun c t=>aSx s k A1 A2 A3 A4 _ k1 _ k2 _ k3 _ k4 c (hW.le (t.started aB))) ?_;rintro _ _ z ⟨d,rfl,rfl,j,e⟩ _;dsimp only[dW,dG];refine aF ?_;refine gN (aMy d.h s) (fun c t=>aTf d.h s k A1 A2 A3 A4 _ k1 _ k2 _ k3 _ k4 c (hW.le (t.started aB))) ?_;rintro _ _ o ⟨f,rfl,rfl⟩ _;dsimp only[dW,dG];refine aF ?_;refine gN (aLY d.h f s) (fun c t=>aOY s A1 A2 A3 A4 _ k1 _ k2 _ k3 _ k4 c d.h f hm (hW.le (t.started aB))) ?_;rintro _ _ x ⟨r,rfl,rfl⟩ _;dsimp only[dW,dG];refine aF ?_;refine iG fun g=>?_;refine aZ [1,2,3,0] ?_ (R':=[all w]);refine Ah ?_;refine rZ (p:=qW [] []) aT1 ?_;refine rZ (p:=HP.own 52 14 (.slice none 0 0) 0 []) (aTz _ _) ?_;refine aZ [3,2,0,1] ?_ (R':=[all w]);refine oP ?_;refine uY ?_;refine uY ?_;refine wB 0 (f:=fun L:lX=>nT g f r d s (Mf s) L) ⟨none,0,[]⟩ rfl ?_;dsimp only[List.set];refine dX [] [] [0] fun q _ _ i=>?_;exact kN fun c t=>⟨⟨_,_,⟨c,q.Z⟩,rfl,rfl,⟨g,f,r,d,rfl,rfl,⟨j,e⟩⟩,t.newR aB aB (i aB aB)⟩,t.below aB⟩
def aLO(g f r:Nat)(hL:HL)(s:aI)(W:aT)(d:Nat)(c:List dU)(Ez:List (List Value)):HP:=HP.many [fJ g f r hL s W,HP.aK d 52 Ez.flatten,qW c Ez]
section
variable(g f r:Nat)(hL:HL)(s:aI)(W:aT)(w:World)(F:Nat->Prop)
def aGH(d:List dU)(Ez:List (List Value))(i m c:Nat)(hm:d.length=m)(hl:Ez.flatten.length=m*14)(h:∀u∈Ez.flatten,u.oneCell'=true)(n:W.es.length+d.length<=1000000000)
  (hp:(aLO g f r hL s W i d Ez).sat F w) (hF:∀b,F b->b < w.heap.size):
  Cz 49 #[pt g,.slice (some ⟨i,0,none⟩) m c] w (Wr (.tuple #[]) (fJ g f r hL s {W with es:=W.es++d}) w F):=by
 have e:(W.es++d).length=W.es.length+m:=by rw[rF,hm]
 refine fS func49 ntmps49 hp hF ?_;refine bB 0 0 ?_;refine bB 1 1 ?_;refine bB 2 2 ?_;refine kF 2 fun L=>?_;refine bB 2 0 ?_;refine bB 3 2 ?_;refine bB 4 3 ?_;dsimp only[pF];refine aF ?_;refine jU 1 14 120 m (n':=(W.es++d).length) (el:=52) aJ aJ aE rfl rfl rfl (tU 4 rfl hl) h (by rw[rF,hm]) (by have:=e;omega) (by have:=e;omega) aE fun j k=>?_;dsimp only[List.set];rw[<-Ts];refine aF ?_;refine aZ [0,3,1,2,5] ?_;refine Ny (X:=nJ (W.es++d) (L.rows++Ez)) (h3:=nJ.le) (fun p h l=>Rows.app h l) ?_;refine aP 2 3 ?_;refine aP 1 2 ?_;refine aP 0 0 ?_;refine dN 0 (fun L:lX=>nT g f r hL s {W with es:=W.es++d} L) ⟨j,k,L.rows++Ez⟩ ?_;exact gF 0 hF
def Me(e:dU)(A:Option Addr)(k c:Nat)(d:W.es.length<=900000000)(hp:(aLO g f r hL s W c [e] [e.row A k]).sat F w)(hF:∀b,F b->b < w.heap.size):
  Cz 49 #[pt g,.slice (some ⟨c,0,none⟩) 1 1] w (Wr (.tuple #[]) (fJ g f r hL s {W with es:=W.es++[e]}) w F):=
 aGH g f r hL s W w F [e] [e.row A k] c 1 1 rfl rfl (by simp[dU.row,Value.oneCell']) (by simp;omega) hp hF
def Vn(e:dU)(h:e.words=[])(w:World):(qW [e] [e.row none 0]).sat (fun _=>False) w:=nJ.no (p:=⟨w,fun _=>False⟩) h
def aNW{z:bA}{t k d r v:Int}(h:(lY z t k d r v).1=0):t=0\/t=1\/t=2:=by
 unfold lY at h;split at h
 .simp at h
 .rename_i c
  obtain⟨j,rfl,e⟩:=zP (t:=t) (by simpa using c);omega
def aNf(t k d q v:Int)(hp:(fJ g f r hL s W).sat F w)(hF:∀b,F b->b < w.heap.size):
  Cz 43 #[pt g,iv t,.agg #[.int .u8 k,iv d,iv q,.int .u32 v]] w (Wr (iv (W.call t ⟨k,d,q,v⟩).1) (fJ g f r hL s (W.call t ⟨k,d,q,v⟩).2) w F):=by
 unfold aT.call;refine oQ func43 ntmps43 hp hF ?_;refine iG fun p=>?_;refine kF 1 fun L=>?_;refine bB 1 0 ?_;refine bB 2 1 ?_;dsimp only[pF];refine Lj [1,2,3,5] ?_;refine bU 0 ?_;refine aQ 1 ?_;refine aQ 2 ?_;refine aQ 3 ?_;refine bU 4 ?_;refine aQ 5 ?_;refine aR 6 ?_;refine gM 0 (lG r f hL s (W.m.start t k d q v)) (fun l i o n j x=>aRh r f hL s W.m l i t k d q v n j) ?_;refine bH ?_;refine wF [7] ?_;refine aF ?_;refine dD rfl (fun c=>?_) (fun c=>?_)
 .rw[aH c];refine aF ?_;refine aP 2 1 ?_;refine aP 1 0 ?_;refine dN 1 (fun L:lX=>nT g f r hL s {W with m:=W.m.start t k d q v} L) L ?_;exact cJ 1 hF
 .have e:=Tp.1 c
  rw[aC c,e];rcases aNW e with rfl | rfl | rfl
  .refine aF ?_;refine aZ [1,0,2,3] ?_;refine Lj [4,5,6,7,9,10] ?_;refine bU 0 ?_;refine bU 1 ?_;refine bU 2 ?_;refine bU 3 ?_;refine aQ 4 ?_;refine aQ 5 ?_;refine aQ 6 ?_;refine aQ 7 ?_ (bL:=by exact iA 0 5);refine aQ 9 ?_;refine aQ 10 ?_;refine aR 8 ?_;refine Hu 0 rfl ?_;dsimp only[List.set];simp only[jR,List.take,List.drop,sI,nZ,mK,Bl,sZ,Nat.reduceAdd];refine bH ?_;refine aR 11 ?_;refine kd (iA 0 17) ?_;refine bH ?_;refine aR 12 ?_;refine vR ?_;refine bH ?_;refine kA ?_;refine tH (q:=HP.aK g 94 (pF f r hL s {W with m:=W.m.start 0 k d q v,cl:=iE W.cl (0:Int).toNat ⟨k,d,q,v⟩,wt:=iE W.wt (0:Int).toNat true} L)) 0 rfl (fun F w h=>by simpa[pF,iE] using h) ?_;dsimp only[List.set];refine aP 2 0 ?_;refine aP 1 1 ?_;refine dN 1 (fun L:lX=>nT g f r hL s {W with m:=W.m.start 0 k d q v,cl:=iE W.cl (0:Int).toNat ⟨k,d,q,v⟩,wt:=iE W.wt (0:Int).toNat true} L) L ?_;exact cJ 1 hF
  .refine aF ?_;refine aZ [1,0,2,3] ?_;refine Lj [4,5,6,7,9,10] ?_;refine bU 0 ?_;refine bU 1 ?_;refine bU 2 ?_;refine bU 3 ?_;refine aQ 4 ?_;refine aQ 5 ?_;refine aQ 6 ?_;refine aQ 7 ?_ (bL:=by exact iA 1 9);refine aQ 9 ?_;refine aQ 10 ?_;refine aR 8 ?_;refine Hu 0 rfl ?_;dsimp only[List.set];simp only[jR,List.take,List.drop,sI,nZ,mK,Bl,sZ,Nat.reduceAdd];refine bH ?_;refine aR 11 ?_;refine kd (iA 1 18) ?_;refine bH ?_;refine aR 12 ?_;refine vR ?_;refine bH ?_;refine kA ?_;refine tH (q:=HP.aK g 94 (pF f r hL s {W with m:=W.m.start 1 k d q v,cl:=iE W.cl (1:Int).toNat ⟨k,d,q,v⟩,wt:=iE W.wt (1:Int).toNat true} L)) 0 rfl (fun F w h=>by simpa[pF,iE] using h) ?_;dsimp only[List.set];refine aP 2 0 ?_;refine aP 1 1 ?_;refine dN 1 (fun L:lX=>nT g f r hL s {W with m:=W.m.start 1 k d q v,cl:=iE W.cl (1:Int).toNat ⟨k,d,q,v⟩,wt:=iE W.wt (1:Int).toNat true} L) L ?_;exact cJ 1 hF
  .refine aF ?_;refine aZ [1,0,2,3] ?_;refine Lj [4,5,6,7,9,10] ?_;refine bU 0 ?_;refine bU 1 ?_;refine bU 2 ?_;refine bU 3 ?_;refine aQ 4 ?_;refine aQ 5 ?_;refine aQ 6 ?_;refine aQ 7 ?_ (bL:=by exact iA 2 13);refine aQ 9 ?_;refine aQ 10 ?_;refine aR 8 ?_;refine Hu 0 rfl ?_;dsimp only[List.set];simp only[jR,List.take,List.drop,sI,nZ,mK,Bl,sZ,Nat.reduceAdd];refine bH ?_;refine aR 11 ?_;refine kd (iA 2 19) ?_;refine bH ?_;refine aR 12 ?_;refine vR ?_;refine bH ?_;refine kA ?_;refine tH (q:=HP.aK g 94 (pF f r hL s {W with m:=W.m.start 2 k d q v,cl:=iE W.cl (2:Int).toNat ⟨k,d,q,v⟩,wt:=iE W.wt (2:Int).toNat true} L)) 0 rfl (fun F w h=>by simpa[pF,iE] using h) ?_;dsimp only[List.set];refine aP 2 0 ?_;refine aP 1 1 ?_;refine dN 1 (fun L:lX=>nT g f r hL s {W with m:=W.m.start 2 k d q v,cl:=iE W.cl (2:Int).toNat ⟨k,d,q,v⟩,wt:=iE W.wt (2:Int).toNat true} L) L ?_;exact cJ 1 hF
def aTU{z:bA}{t:Int}(h:(fG z t).1.2.2=true):t=0\/t=1\/t=2:=by
 unfold fG at h;split at h
 .simp at h
 .rename_i c
  obtain⟨j,rfl,d⟩:=zP (t:=t) (by simpa using c);omega
def Cu(o:W.es.length<=900000000)(t:Int)(hp:(fJ g f r hL s W).sat F w)(hF:∀b,F b->b < w.heap.size):
  Cz 76 #[pt g,iv t] w (Wr (.tuple #[]) (fJ g f r hL s (W.end_ t)) w F):=by
 unfold aT.end_;refine fS func76 ntmps76 hp hF ?_;refine kF 0 fun L=>?_;refine bB 0 0 ?_;refine bB 1 1 ?_;dsimp only[pF];refine aF ?_;refine gH 0 (lG r f hL s (W.m.done t)) (fun h c l i e n=>aRk r f hL s W.m h c t i e) ?_;refine kK fun y=>?_;cases x:(fG W.m.z t).1.2.2 with
 | false=>
  rw[aC aE];refine aF ?_;refine aZ [1,2,3] ?_;refine aP 1 1 ?_;refine aP 0 0 ?_;refine dN 0 (fun L:lX=>nT g f r hL s {W with m:=W.m.done t} L) L ?_;exact gF 0 hF
 | true =>
  rw[aH rfl];refine aF ?_;rcases aTU x with rfl | rfl | rfl
  .refine xN ?_;refine kG 7 ?_ (bL:=nQ rfl (Cl (vs:=[.int .u8 (W.cl 0).k,iv (W.cl 0).d,iv (W.cl 0).r,.int .u32 (W.cl 0).v]) 2 rfl rfl));refine kG 9 ?_;refine aR 10 ?_;refine eX fun j=>?_;refine bH ?_;refine wF [11] ?_;refine aZ [2,3,4,0] ?_;refine aP 1 1 ?_;refine aP 0 0 ?_;refine dN 0 (fun L:lX=>nT g f r hL s {W with m:=W.m.done 0} L) L ?_;refine rZ (p:=qW [rU W 0] [(rU W 0).row none 0]) (Vn _ rfl) ?_;refine aZ [1,2,0] ?_;refine Ah ?_;refine gM 0 (fJ g f r hL s {W with m:=W.m.done 0,es:=W.es++[rU W 0]}) (fun h c l i e n=>Me g f r hL s {W with m:=W.m.done 0} h c (rU W 0) none 0 j o i e) ?_;exact gF 0 hF
  .refine xN ?_;refine kG 7 ?_ (bL:=nQ rfl (Cl (vs:=[.int .u8 (W.cl 1).k,iv (W.cl 1).d,iv (W.cl 1).r,.int .u32 (W.cl 1).v]) 2 rfl rfl));refine kG 9 ?_;refine aR 10 ?_;refine eX fun j=>?_;refine bH ?_;refine wF [11] ?_;refine aZ [2,3,4,0] ?_;refine aP 1 1 ?_;refine aP 0 0 ?_;refine dN 0 (fun L:lX=>nT g f r hL s {W with m:=W.m.done 1} L) L ?_;refine rZ (p:=qW [rU W 1] [(rU W 1).row none 0]) (Vn _ rfl) ?_;refine aZ [1,2,0] ?_;refine Ah ?_;refine gM 0 (fJ g f r hL s {W with m:=W.m.done 1,es:=W.es++[rU W 1]}) (fun h c l i e n=>Me g f r hL s {W with m:=W.m.done 1} h c (rU W 1) none 0 j o i e) ?_;exact gF 0 hF
  .refine xN ?_;refine kG 7 ?_ (bL:=nQ rfl (Cl (vs:=[.int .u8 (W.cl 2).k,iv (W.cl 2).d,iv (W.cl 2).r,.int .u32 (W.cl 2).v]) 2 rfl rfl));refine kG 9 ?_;refine aR 10 ?_;refine eX fun j=>?_;refine bH ?_;refine wF [11] ?_;refine aZ [2,3,4,0] ?_;refine aP 1 1 ?_;refine aP 0 0 ?_;refine dN 0 (fun L:lX=>nT g f r hL s {W with m:=W.m.done 2} L) L ?_;refine rZ (p:=qW [rU W 2] [(rU W 2).row none 0]) (Vn _ rfl) ?_;refine aZ [1,2,0] ?_;refine Ah ?_;refine gM 0 (fJ g f r hL s {W with m:=W.m.done 2,es:=W.es++[rU W 2]}) (fun h c l i e n=>Me g f r hL s {W with m:=W.m.done 2} h c (rU W 2) none 0 j o i e) ?_;exact gF 0 hF
end
section
variable(g f r:Nat)(hL:HL)(s:aI)(n:Nat)(W:aT)(w:World)(F:Nat->Prop)
def aNa(hm:s.made)(C:iS hL s)(A:iK s n W)(J:n<=50000000)(t:Int)(B:gJ ⟨w,fun b=>b < w.heap.size/\¬F b⟩)(hp:(fJ g f r hL s W).sat F w)(hF:∀b,F b->b < w.heap.size):
  Cz 44 #[pt g,iv t] w (Wr (.tuple #[]) (fJ g f r hL s (W.task s t)) w F):=by
 have G:=A.es
 have o:W.es.length<=900000000:=by omega
 refine fS func44 ntmps44 hp hF ?_;refine kF 0 fun L=>?_;refine bB 0 0 ?_;refine bB 1 1 ?_;dsimp only[pF];refine aF ?_;refine cH (t:=7) rfl (fun I=>?_) (fun I=>?_)
 .refine aF ?_;refine cH (t:=11) rfl (fun l=>?_) (fun l=>?_)
  .rcases(show t=0\/t=1\/t=2 by omega) with rfl | rfl | rfl
   .refine aF ?_;refine Gx (t:=19) rfl (fun hw=>?_) (fun hw=>?_)
    .refine aF ?_;refine cR (fun c x=>aEp r f hL s W.m c 0 x rfl) ?_;refine gH 0 (lG r f hL s (W.m.step s 0)) (fun c e x j i l=>Mz r f hL s n W.m c e hm C A.m aA 0 j i (gJ.le B (l _ aB))) ?_;refine dD rfl (fun D=>?_) (fun E=>?_)
     .have z:W.nS 0=true:=by unfold aT.nS;rw[show W.wt (0:Int).toNat=W.wt 0 from rfl,hw,eM D];rfl
      have y:(W.es++[pO W 0]).length<=900000000:=by rw[rF];exact oL (Tv G 1) aA
      refine aF ?_;refine cG (nQ rfl (Cl (vs:=[.int .u8 (W.cl 0).k,iv (W.cl 0).d,iv (W.cl 0).r,.int .u32 (W.cl 0).v]) 1 rfl rfl)) ?_;refine eX fun H=>?_;refine aF ?_;refine aZ [1,2,3,0] ?_;refine tH (q:=HP.aK g 94 (pF f r hL s {W with m:=W.m.step s 0,wt:=iE W.wt (0:Int).toNat false} L)) 1 rfl (fun F w h=>by simpa[pF,iE] using h) ?_;dsimp only[List.set];refine aP 1 1 ?_;refine aP 0 0 ?_;refine dN 0 (fun L:lX=>nT g f r hL s {W with m:=W.m.step s 0,wt:=iE W.wt (0:Int).toNat false} L) L ?_;refine rZ (p:=qW [pO W 0] [(pO W 0).row none 0]) (Vn _ rfl) ?_;refine aZ [1,2,0] ?_;refine Ah ?_;refine gH 0 (fJ g f r hL s {W with m:=W.m.step s 0,wt:=iE W.wt (0:Int).toNat false,es:=W.es++[pO W 0]}) (fun c e x j i l=>Me g f r hL s {W with m:=W.m.step s 0,wt:=iE W.wt (0:Int).toNat false} c e (pO W 0) none 0 H o j i) ?_
      refine gM 0 (fJ g f r hL s (W.task s 0)) (fun c e x j i l=>by
       have:=Cu g f r hL s {W with m:=W.m.step s 0,wt:=iE W.wt (0:Int).toNat false,es:=W.es++[pO W 0]} c e (by first | exact o | exact y) 0 j i
       rwa [show aT.end_ {W with m:=W.m.step s 0,wt:=iE W.wt (0:Int).toNat false,es:=W.es++[pO W 0]} 0=W.task s 0 by unfold aT.task aT.jJ;rw[z];rfl] at this) ?_
      exact gF 0 hF
     .have z:W.nS 0=false:=by unfold aT.nS;rw[show W.wt (0:Int).toNat=W.wt 0 from rfl,hw,gW E];rfl
      refine aF ?_;refine aP 1 1 ?_;refine aP 0 0 ?_;refine dN 0 (fun L:lX=>nT g f r hL s {W with m:=W.m.step s 0} L) L ?_;refine aF ?_
      refine gM 0 (fJ g f r hL s (W.task s 0)) (fun c e x j i l=>by
       have:=Cu g f r hL s {W with m:=W.m.step s 0} c e (by first | exact o | exact y) 0 j i
       rwa [show aT.end_ {W with m:=W.m.step s 0} 0=W.task s 0 by unfold aT.task aT.jJ;rw[z];rfl] at this) ?_
      exact gF 0 hF
    .have z:W.nS 0=false:=by unfold aT.nS;rw[show W.wt (0:Int).toNat=W.wt 0 from rfl,hw];rfl
     refine aF ?_;refine gH 0 (lG r f hL s (W.m.step s 0)) (fun c e x j i l=>Mz r f hL s n W.m c e hm C A.m aA 0 j i (gJ.le B (l _ aB))) ?_;refine aP 1 1 ?_;refine aP 0 0 ?_;refine dN 0 (fun L:lX=>nT g f r hL s {W with m:=W.m.step s 0} L) L ?_;refine aF ?_
     refine gM 0 (fJ g f r hL s (W.task s 0)) (fun c e x j i l=>by
      have:=Cu g f r hL s {W with m:=W.m.step s 0} c e (by first | exact o | exact y) 0 j i
      rwa [show aT.end_ {W with m:=W.m.step s 0} 0=W.task s 0 by unfold aT.task aT.jJ;rw[z];rfl] at this) ?_
     exact gF 0 hF
   .refine aF ?_;refine Gx (t:=19) rfl (fun hw=>?_) (fun hw=>?_)
    .refine aF ?_;refine cR (fun c x=>aEp r f hL s W.m c 0 x rfl) ?_;refine gH 0 (lG r f hL s (W.m.step s 1)) (fun c e x j i l=>Mz r f hL s n W.m c e hm C A.m aA 1 j i (gJ.le B (l _ aB))) ?_;refine dD rfl (fun D=>?_) (fun E=>?_)
     .have z:W.nS 1=true:=by unfold aT.nS;rw[show W.wt (1:Int).toNat=W.wt 1 from rfl,hw,eM D];rfl
      have y:(W.es++[pO W 1]).length<=900000000:=by rw[rF];exact oL (Tv G 1) aA
      refine aF ?_;refine cG (nQ rfl (Cl (vs:=[.int .u8 (W.cl 1).k,iv (W.cl 1).d,iv (W.cl 1).r,.int .u32 (W.cl 1).v]) 1 rfl rfl)) ?_;refine eX fun H=>?_;refine aF ?_;refine aZ [1,2,3,0] ?_;refine tH (q:=HP.aK g 94 (pF f r hL s {W with m:=W.m.step s 1,wt:=iE W.wt (1:Int).toNat false} L)) 1 rfl (fun F w h=>by simpa[pF,iE] using h) ?_;dsimp only[List.set];refine aP 1 1 ?_;refine aP 0 0 ?_;refine dN 0 (fun L:lX=>nT g f r hL s {W with m:=W.m.step s 1,wt:=iE W.wt (1:Int).toNat false} L) L ?_;refine rZ (p:=qW [pO W 1] [(pO W 1).row none 0]) (Vn _ rfl) ?_;refine aZ [1,2,0] ?_;refine Ah ?_;refine gH 0 (fJ g f r hL s {W with m:=W.m.step s 1,wt:=iE W.wt (1:Int).toNat false,es:=W.es++[pO W 1]}) (fun c e x j i l=>Me g f r hL s {W with m:=W.m.step s 1,wt:=iE W.wt (1:Int).toNat false} c e (pO W 1) none 0 H o j i) ?_
      refine gM 0 (fJ g f r hL s (W.task s 1)) (fun c e x j i l=>by
       have:=Cu g f r hL s {W with m:=W.m.step s 1,wt:=iE W.wt (1:Int).toNat false,es:=W.es++[pO W 1]} c e (by first | exact o | exact y) 1 j i
       rwa [show aT.end_ {W with m:=W.m.step s 1,wt:=iE W.wt (1:Int).toNat false,es:=W.es++[pO W 1]} 1=W.task s 1 by unfold aT.task aT.jJ;rw[z];rfl] at this) ?_
      exact gF 0 hF
     .have z:W.nS 1=false:=by unfold aT.nS;rw[show W.wt (1:Int).toNat=W.wt 1 from rfl,hw,gW E];rfl
      refine aF ?_;refine aP 1 1 ?_;refine aP 0 0 ?_;refine dN 0 (fun L:lX=>nT g f r hL s {W with m:=W.m.step s 1} L) L ?_;refine aF ?_
      refine gM 0 (fJ g f r hL s (W.task s 1)) (fun c e x j i l=>by
       have:=Cu g f r hL s {W with m:=W.m.step s 1} c e (by first | exact o | exact y) 1 j i
       rwa [show aT.end_ {W with m:=W.m.step s 1} 1=W.task s 1 by unfold aT.task aT.jJ;rw[z];rfl] at this) ?_
      exact gF 0 hF
    .have z:W.nS 1=false:=by unfold aT.nS;rw[show W.wt (1:Int).toNat=W.wt 1 from rfl,hw];rfl
     refine aF ?_;refine gH 0 (lG r f hL s (W.m.step s 1)) (fun c e x j i l=>Mz r f hL s n W.m c e hm C A.m aA 1 j i (gJ.le B (l _ aB))) ?_;refine aP 1 1 ?_;refine aP 0 0 ?_;refine dN 0 (fun L:lX=>nT g f r hL s {W with m:=W.m.step s 1} L) L ?_;refine aF ?_
     refine gM 0 (fJ g f r hL s (W.task s 1)) (fun c e x j i l=>by
      have:=Cu g f r hL s {W with m:=W.m.step s 1} c e (by first | exact o | exact y) 1 j i
      rwa [show aT.end_ {W with m:=W.m.step s 1} 1=W.task s 1 by unfold aT.task aT.jJ;rw[z];rfl] at this) ?_
     exact gF 0 hF
   .refine aF ?_;refine Gx (t:=19) rfl (fun hw=>?_) (fun hw=>?_)
    .refine aF ?_;refine cR (fun c x=>aEp r f hL s W.m c 0 x rfl) ?_;refine gH 0 (lG r f hL s (W.m.step s 2)) (fun c e x j i l=>Mz r f hL s n W.m c e hm C A.m aA 2 j i (gJ.le B (l _ aB))) ?_;refine dD rfl (fun D=>?_) (fun E=>?_)
     .have z:W.nS 2=true:=by unfold aT.nS;rw[show W.wt (2:Int).toNat=W.wt 2 from rfl,hw,eM D];rfl
      have y:(W.es++[pO W 2]).length<=900000000:=by rw[rF];exact oL (Tv G 1) aA
      refine aF ?_;refine cG (nQ rfl (Cl (vs:=[.int .u8 (W.cl 2).k,iv (W.cl 2).d,iv (W.cl 2).r,.int .u32 (W.cl 2).v]) 1 rfl rfl)) ?_;refine eX fun H=>?_;refine aF ?_;refine aZ [1,2,3,0] ?_;refine tH (q:=HP.aK g 94 (pF f r hL s {W with m:=W.m.step s 2,wt:=iE W.wt (2:Int).toNat false} L)) 1 rfl (fun F w h=>by simpa[pF,iE] using h) ?_;dsimp only[List.set];refine aP 1 1 ?_;refine aP 0 0 ?_;refine dN 0 (fun L:lX=>nT g f r hL s {W with m:=W.m.step s 2,wt:=iE W.wt (2:Int).toNat false} L) L ?_;refine rZ (p:=qW [pO W 2] [(pO W 2).row none 0]) (Vn _ rfl) ?_;refine aZ [1,2,0] ?_;refine Ah ?_;refine gH 0 (fJ g f r hL s {W with m:=W.m.step s 2,wt:=iE W.wt (2:Int).toNat false,es:=W.es++[pO W 2]}) (fun c e x j i l=>Me g f r hL s {W with m:=W.m.step s 2,wt:=iE W.wt (2:Int).toNat false} c e (pO W 2) none 0 H o j i) ?_
      refine gM 0 (fJ g f r hL s (W.task s 2)) (fun c e x j i l=>by
       have:=Cu g f r hL s {W with m:=W.m.step s 2,wt:=iE W.wt (2:Int).toNat false,es:=W.es++[pO W 2]} c e (by first | exact o | exact y) 2 j i
       rwa [show aT.end_ {W with m:=W.m.step s 2,wt:=iE W.wt (2:Int).toNat false,es:=W.es++[pO W 2]} 2=W.task s 2 by unfold aT.task aT.jJ;rw[z];rfl] at this) ?_
      exact gF 0 hF
     .have z:W.nS 2=false:=by unfold aT.nS;rw[show W.wt (2:Int).toNat=W.wt 2 from rfl,hw,gW E];rfl
      refine aF ?_;refine aP 1 1 ?_;refine aP 0 0 ?_;refine dN 0 (fun L:lX=>nT g f r hL s {W with m:=W.m.step s 2} L) L ?_;refine aF ?_
      refine gM 0 (fJ g f r hL s (W.task s 2)) (fun c e x j i l=>by
       have:=Cu g f r hL s {W with m:=W.m.step s 2} c e (by first | exact o | exact y) 2 j i
       rwa [show aT.end_ {W with m:=W.m.step s 2} 2=W.task s 2 by unfold aT.task aT.jJ;rw[z];rfl] at this) ?_
      exact gF 0 hF
    .have z:W.nS 2=false:=by unfold aT.nS;rw[show W.wt (2:Int).toNat=W.wt 2 from rfl,hw];rfl
     refine aF ?_;refine gH 0 (lG r f hL s (W.m.step s 2)) (fun c e x j i l=>Mz r f hL s n W.m c e hm C A.m aA 2 j i (gJ.le B (l _ aB))) ?_;refine aP 1 1 ?_;refine aP 0 0 ?_;refine dN 0 (fun L:lX=>nT g f r hL s {W with m:=W.m.step s 2} L) L ?_;refine aF ?_
     refine gM 0 (fJ g f r hL s (W.task s 2)) (fun c e x j i l=>by
      have:=Cu g f r hL s {W with m:=W.m.step s 2} c e (by first | exact o | exact y) 2 j i
      rwa [show aT.end_ {W with m:=W.m.step s 2} 2=W.task s 2 by unfold aT.task aT.jJ;rw[z];rfl] at this) ?_
     exact gF 0 hF
  .have z:W.nS t=false:=by unfold aT.nS;rw[show bJ 3 t=false from gW aA];rfl
   refine aF ?_;refine gH 0 (lG r f hL s (W.m.step s t)) (fun c e x j i l=>Mz r f hL s n W.m c e hm C A.m aA t j i (gJ.le B (l _ aB))) ?_;refine aP 1 1 ?_;refine aP 0 0 ?_;refine dN 0 (fun L:lX=>nT g f r hL s {W with m:=W.m.step s t} L) L ?_;refine aF ?_
   refine gM 0 (fJ g f r hL s (W.task s t)) (fun c e x j i l=>by
    have:=Cu g f r hL s {W with m:=W.m.step s t} c e (by first | exact o | exact y) t j i
    rwa [show aT.end_ {W with m:=W.m.step s t} t=W.task s t by unfold aT.task aT.jJ;rw[z];rfl] at this) ?_
   exact gF 0 hF
 .have z:W.nS t=false:=by unfold aT.nS;rw[show bJ 3 t=false from gW aA];rfl
  refine aF ?_;refine gH 0 (lG r f hL s (W.m.step s t)) (fun c e x j i l=>Mz r f hL s n W.m c e hm C A.m aA t j i (gJ.le B (l _ aB))) ?_;refine aP 1 1 ?_;refine aP 0 0 ?_;refine dN 0 (fun L:lX=>nT g f r hL s {W with m:=W.m.step s t} L) L ?_;refine aF ?_
  refine gM 0 (fJ g f r hL s (W.task s t)) (fun c e x j i l=>by
   have:=Cu g f r hL s {W with m:=W.m.step s t} c e (by first | exact o | exact y) t j i
   rwa [show aT.end_ {W with m:=W.m.step s t} t=W.task s t by unfold aT.task aT.jJ;rw[z];rfl] at this) ?_
  exact gF 0 hF
end
def aRt{z:Array Value}{n sz:Nat}(e:z.size=sz)(c:0 < sz):madeCells z (n*sz)=(List.replicate n z.toList).flatten.toArray:=by
 have h:∀r∈List.replicate n z.toList,r.length=sz:=fun r k=>by rw[List.eq_of_mem_replicate k];simpa using e
 unfold madeCells;refine Array.ext (by simp[Pe _ h]) fun j i p=>?_
 have m:j < n*sz:=by simpa using i
 have l:j / sz < n:=Nat.div_lt_of_lt_mul (by rw[Nat.mul_comm];exact m)
 have f:j % sz < sz:=Nat.mod_lt _ c
 have:=Ve (sz:=sz) (List.replicate n z.toList) h (j / sz) (j % sz) z.toList (by rw[zJ,aH l]) f
 rw[show j / sz*sz+j % sz=j by rw[Nat.mul_comm];exact Nat.div_add_mod j sz] at this;rw[<-Option.some_inj]
 have o:some ((List.replicate n z.toList).flatten.toArray[j])=(List.replicate n z.toList).flatten[j]? :=by rw[List.getElem_toArray,cX]
 rw[o,this]
 have d:j % z.size < z.size:=by rw[e];exact f
 rw[Array.getElem_map,Array.getElem_range,getElem!_pos z _ d];subst e;simp
def aPM{sz i:Nat}{rows:List (List Value)}{r':List Value}(d:∀r∈rows,r.length=sz)(hi:i < rows.length)(c:r'.length=sz):jR rows.flatten (i*sz) r'=(rows.set i r').flatten:=by
 have f:rows=rows.take i++rows[i]::rows.drop (i+1):=by rw[<-Ya hi,Ye]
 have e:(rows.take i).flatten.length=i*sz:=by rw[Pe _ (fun r h=>d r (Dg h)),pX,Tm aA]
 have k:rows[i].length=sz:=d _ (Mu hi)
 have j:rows.flatten=(rows.take i).flatten++(rows[i]++(rows.drop (i+1)).flatten):=by
  have:=congrArg List.flatten f
  rwa [Ts,Pp] at this
 unfold jR;rw[aDM,aH hi,j,List.take_left' e,<-List.drop_drop,List.drop_left' e,List.drop_left' (k.trans c.symm),Ts,Pp,Mm]
def aI8{α:Type}{new old:List α}{i:Nat}{x:α}(hx:new[i]? =some x)(hl:old.length=new.length):(new.take i++old.drop i).set i x=new.take (i+1)++old.drop (i+1):=by
 obtain⟨c,rfl⟩:=cE.1 hx;rw[List.take_succ_eq_append_getElem c,Ya (i:=i) (l:=old) aA,Yf _ _ (by rw[pX];omega),show i - (new.take i).length=0 by rw[pX];omega,Pq,Mm];rfl
section
variable{P:Program}{Q:Exit->Act->World->Prop}{ops:Array Oper}{rest:List Oper}{d:Nat}{ty:TypeId}{pos:String}{aN:Array Edge}
def aMI(sz c:Nat){x y:Operand}{t el:TypeId}{n:Nat}{zs:List Value}{kd tD:IntKind}(B:P.underlying t=some (.slice el))(p:(P.info? el).map (fun i=>(i.zero.map (fun z=>z.cells.toList),i.size,i.bytes))=some (some zs,sz,c))(h:zs.length=sz)(f:0 < sz)(hx:e.ev x=some (.int kd (n:Int)))(hy:e.ev y=some (.int tD (n:Int)))
  (D:c*n<=281474976710656) (A:(n:Int)<=9223372036854775807) (hd:d < N.n) (k:∀g,XK N w0 (wpList P ops Q rest) ((d,.slice (some ⟨g,0,none⟩) n n)::e) R (HP.aK g el (List.replicate n zs).flatten::H)):
  XK N w0 (wpList P ops Q (⟨some d,.makeSlice t x y,ty,pos,aN,none⟩::rest)) e R H:=by
 obtain⟨i,o,l⟩:=kS.1 p;simp only[Ke] at l;obtain⟨r,m,rfl⟩:=l;obtain⟨z,C,rfl⟩:=kS.1 r;refine Xi (val:=fun g=>.slice (some ⟨g,0,none⟩) n n) rfl rfl hd (fun a w j st=>?_) k
 have:=run_make (P:=P) w t el i z B o C kd tD n n aA (Br _) (by rw[<-Int.natCast_mul];omega) A
 simp only[dL,m,aRt (n:=n) (show z.cells.size=sz by simpa using h) f] at this;simp only[execOp,j.ev hx,j.ev hy,Sem.run_bind,this,Result.andThen_ok,Sem.run_pure]
end
def Gp(j:Nat)(z c:bA):Prop:=∀i,T3 i->(c.tk i).kind=(z.tk i).kind/\(c.tk i).dev=(z.tk i).dev/\(c.tk i).bF=(z.tk i).bF/\(c.tk i).val=(z.tk i).val/\(i≠j->(c.tk i).st=(z.tk i).st)
def Gp.trans{j:Nat}{a b c:bA}(h:Gp j a b)(k:Gp j b c):Gp j a c:=fun i d=>by
 obtain⟨w,l,p,f,x⟩:=h i d;obtain⟨t,r,n,m,o⟩:=k i d;exact⟨t.trans w,r.trans l,n.trans p,m.trans f,fun e=>(o e).trans (x e)⟩
section
variable{y:bX}{z:bA}{j:Nat}
def Qs(hj:T3 j)(e r:Int):Gp j z (qE z j e r)/\((qE z j e r).tk j).st=3:=by
 constructor
 .intro i c;rcases hj with rfl | rfl | rfl<;>rcases c with rfl | rfl | rfl<;>exact⟨rfl,rfl,rfl,rfl,fun h=>by first | rfl | exact absurd rfl h⟩
 .rcases hj with rfl | rfl | rfl<;>rfl
def aSO(hj:T3 j):Gp j z (nB z j):=fun i c=>by
 rcases hj with rfl | rfl | rfl<;>rcases c with rfl | rfl | rfl<;>exact⟨rfl,rfl,rfl,rfl,fun h=>by first | rfl | exact absurd rfl h⟩
def Ja(z c:bA):Prop:=∀i,T3 i->(c.tk i).kind=(z.tk i).kind/\(c.tk i).dev=(z.tk i).dev/\(c.tk i).bF=(z.tk i).bF/\(c.tk i).val=(z.tk i).val/\(c.tk i).st=(z.tk i).st
def Ja.fr{z d:bA}(h:Ja z d)(j:Nat):Gp j z d:=fun i c=>⟨(h i c).1,(h i c).2.1,(h i c).2.2.1,(h i c).2.2.2.1,fun _=>(h i c).2.2.2.2⟩
def Pc(z:bA):Ja z z:=fun _ _=>⟨rfl,rfl,rfl,rfl,rfl⟩
def aH2(hj:T3 j)(i:Nat)(k:Int)(c:Cn):Ja z (vG s {z.iX j (rO (z.tk j) i k) with cn:=c}):=fun i d=>by
 rcases hj with rfl | rfl | rfl<;>rcases d with rfl | rfl | rfl<;>exact⟨rfl,rfl,rfl,rfl,rfl⟩
def aD9(hj:T3 j)(k:Int):Ja z (kL s x z j k).2.1:=by
 have f:∀c:Cn,Ja z (vG s {z with cn:=c}):=fun c i d=>by rcases d with rfl | rfl | rfl<;>exact⟨rfl,rfl,rfl,rfl,rfl⟩
 have e:∀b,Ja z (mE s x z j b).2.1:=fun b=>by
  unfold mE
  repeat' split
  all_goals exact fun i d=>by rcases d with rfl | rfl | rfl<;>exact⟨rfl,rfl,rfl,rfl,rfl⟩
 unfold kL;split
 .unfold Ds;split
  .exact Pc z
  .exact aH2 hj _ _ _
 .split
  .unfold zK
   repeat' split
   all_goals first | exact Pc z | exact aH2 hj _ _ _
  .split
   .exact e _
   .split
    .exact e _
    .split
     .unfold zA;split
      .exact Pc z
      .exact f _
     .unfold zD;split
      .exact Pc z
      .exact f _
def aJz(hj:T3 j):Gp j z (gP s x z j).1/\(((gP s x z j).1.tk j).st=2\/((gP s x z j).1.tk j).st=3):=by
 have c:=(aSO (z:=z) hj).trans ((aD9 (s:=s) (x:=x) (z:=nB z j) hj (z.tk j).kind).fr j)
 unfold gP;dsimp only;split
 .exact⟨c.trans (Qs hj _ _).1,.inr (Qs hj _ _).2⟩
 .split
  .exact⟨c.trans (Qs hj _ _).1,.inr (Qs hj _ _).2⟩
  .refine⟨c,.inl ?_⟩;rw[(aD9 (s:=s) (x:=x) (z:=nB z j) hj (z.tk j).kind j hj).2.2.2.2,aBv hj]
def aJ0(hj:T3 j)(f:(z.tk j).st=2):Gp j z (iP z y j).1/\(((iP z y j).1.tk j).st=2\/((iP z y j).1.tk j).st=3):=by
 have d:∀a,Ja z (qP z a):=fun a i c=>by
  unfold qP;split<;>(rcases c with rfl | rfl | rfl<;>exact⟨rfl,rfl,rfl,rfl,rfl⟩)
 have e:∀L b k,Ja z {z with steps:=L,sent:=b,many:=k}:=fun L b k i c=>by rcases c with rfl | rfl | rfl<;>exact⟨rfl,rfl,rfl,rfl,rfl⟩
 have fin:∀{z'},Ja z z'->Gp j z z'/\((z'.tk j).st=2\/(z'.tk j).st=3):=fun h=>⟨h.fr j,.inl ((h j hj).2.2.2.2.trans f)⟩
 unfold iP;split
 .split
  .exact fin (Pc z)
  .split
   .exact⟨((d _).fr j).trans (Qs hj _ _).1,.inr (Qs hj _ _).2⟩
   .exact fin (d _)
 .split
  .exact fin (Pc z)
  .split
   .exact fin (e _ _ _)
   .exact fin (Pc z)
def aT5(d:z.aV=false){k:Int}(h:(kL s x z j k).2.1.aV=true):(k=114\/k=119)/\∃(i:Nat) (m:Bool) (q v:Int),(z.tk j).dev=(i:Int)/\(kL s x z j k).2.2=Mv x i m q v:=by
 have p : ∀ b, (mE s x z j b).2.1.aV = true -> ∃ (i : Nat) (m : Bool) (q v : Int), (z.tk j).dev = (i : Int) /\ (mE s x z j b).2.2 = Mv x i m q v := fun b c => by
  unfold mE at c|-;split at c
  .rw[d] at c;cases c
  .rename_i l
   rw[aC l];split at c
   .rw[d] at c;cases c
   .rename_i n
    rw[aC n];split at c
    .rename_i f
     rw[aH f]
     have o:bJ s.aG.length (z.tk j).dev=true:=by
      cases t:bJ s.aG.length (z.tk j).dev with
      | true=>rfl
      | false=>exact absurd (.inl t) l
     have:=eV o
     exact⟨_,_,_,_,aA,rfl⟩
    .rw[d] at c;cases c
 unfold kL at h|-;split at h
 .exfalso;unfold Ds at h;split at h
  .rw[d] at h;cases h
  .have:z.aV=true:=h
   rw[d] at this;cases this
 .rename_i l
  rw[aC l];split at h
  .exfalso;unfold zK at h
   repeat' split at h
   all_goals(have e:z.aV=true:=h;rw[d] at e;cases e)
  .rename_i n
   rw[aC n];split at h
   .rename_i f
    rw[aH f];exact⟨.inl f,p _ h⟩
   .rename_i f
    rw[aC f];split at h
    .rename_i r
     rw[aH r];exact⟨.inr r,p _ h⟩
    .exfalso;split at h
     .unfold zA at h;split at h<;>(have e:z.aV=true:=h;rw[d] at e;cases e)
     .unfold zD at h;split at h<;>(have e:z.aV=true:=h;rw[d] at e;cases e)
def aVQ(hj:T3 j)(e:z.aV=false)(h:(gP s x z j).1.aV=true):((z.tk j).kind=114\/(z.tk j).kind=119)/\∃(i:Nat) (d:Bool) (q v:Int),(z.tk j).dev=(i:Int)/\(gP s x z j).2=Mv x i d q v:=by
 have hd:((nB z j).tk j).dev=(z.tk j).dev:=by rw[aBv hj]
 unfold gP at h|-;dsimp only at h|-;split at h
 .cases h
 .rename_i c
  rw[aC c];split at h
  .cases h
  .rename_i f
   rw[aC f]
   have:=aT5 (s:=s) (x:=x) (z:=nB z j) (j:=j) e h
   rw[hd] at this;exact this
def aW5(c:z.aV=false):(iP z y j).1.aV=false:=by
 have d:∀a,(qP z a).aV=false:=fun a=>by
  unfold qP;split<;>exact c
 unfold iP;split
 .split
  .exact c
  .split
   .rfl
   .exact d _
 .split
  .exact c
  .split
   .exact c
   .exact c
def aFG:∀(l:List gQ) {z:bA},z.aV=false->pP z l=z
 | [],_,_=>rfl
 | a::l,z,h=>by
  show pP (rX z a) l=z
  rw[show rX z a=z by unfold rX;rw[aH h]];exact aFG l h
def aFF:∀(l:List gQ) (z:bA),pP z l=z\/∃e r,pP z l=qE z z.cP.toNat e r
 | [],_=>.inl rfl
 | a :: l, z => by
  show pP (rX z a) l=z\/∃e r,pP (rX z a) l=_
  unfold rX;split
  .exact aFF l z
  .split
   .exact aFF l z
   .split
    .exact .inr ⟨_,_,aFG l rfl⟩
    .exact .inr ⟨_,_,aFG l rfl⟩
def aWn{x:aS}{i:Nat}{a:gQ}(h:(fZ s x i).2=some a):a.dev=(i:Int)/\(x.wt[i]?).join≠none:=by
 unfold fZ at h;split at h
 .rename_i t d p c _ _
  split at h<;>(obtain rfl:=sJ h;exact⟨rfl,by rw[c];simp⟩)
 .cases h
def aWi{x:aS}{i k:Nat}(h:((fZ s x i).1.wt[k]?).join≠none):(x.wt[k]?).join≠none:=by
 unfold fZ at h
 have c:((x.wt.set i none)[k]?).join≠none->(x.wt[k]?).join≠none:=fun h=>by
  by_cases e:i=k
  .subst e;rw[gX] at h;split at h
   .split at h
    .exact absurd rfl h
    .exact absurd rfl h
   .exact h
  .rwa [pZ e] at h
 split at h
 .split at h
  .exact c h
  .exact c h
 .exact h
def aKW{x:aS}{k:Nat}:∀n,((gI s x n).1.wt[k]?).join≠none->(x.wt[k]?).join≠none
 | 0,h=>h
 | n+1,h=>aKW n (aWi h)
def aFE{x:aS}{a:gQ}:∀n,a∈(gI s x n).2->∃i:Nat,a.dev=(i:Int)/\(x.wt[i]?).join≠none
 | 0,h=>by cases h
 | n + 1, h => by
  rcases oM.1 h with h | h
  .exact aFE n h
  .have h:(fZ s (gI s x n).1 n).2=some a:=by simpa using h
   obtain⟨c,d⟩:=aWn h;exact⟨n,c,aKW n d⟩
end
def qS(c:Option (Int×mW))(e:dU):Option (Option (Int×mW)):=
 if e.kind=98 then(match c with | none=>if 0<=e.task/\e.task<=2 then some (some (e.task,e.c)) else none | some _=>none)
 else if e.kind=101 then(match c with | some q=>if e.task=q.1/\e.c=q.2 then some none else none | none=>none)
 else if e.kind=100 then(match c with | some q=>if(q.2.k=114\/q.2.k=119)/\e.an.dev=q.2.d then some c else none | none=>none)
 else some c
def sM:Option (Int×mW)->List dU->Option (Option (Int×mW))
 | c,[]=>some c
 | c,e::es=>(qS c e).bind fun d=>sM d es
def Ub:∀(a b:List dU) (c:Option (Int×mW)),sM c (a++b)=(sM c a).bind fun d=>sM d b
 | [],b,c=>rfl
 | e::a,b,c=>by
  show(qS c e).bind (fun d=>sM d (a++b))=((qS c e).bind fun d=>sM d a).bind _
  cases qS c e with
  | none=>rfl
  | some d=>exact Ub a b d
def aEf(es:List dU)(e:dU){c:Option (Int×mW)}(h:sM none es=some c):sM none (es++[e])=qS c e:=by
 rw[Ub,h]
 show(qS c e).bind (fun d=>some d)=_
 cases qS c e<;>rfl
def Cd(w:aT):Option (Int×mW):=if w.m.z.cP < 0 then none else some (w.m.z.cP,w.cl w.m.z.cP.toNat)
def aCi(w:aT):Option Nat->Option (Int×mW)
 | none=>Cd w
 | some j=>some ((j:Int),w.cl j)
def Oq(t:uG)(c:mW):Prop:=t.kind=c.k/\t.dev=c.d/\t.bF=c.r/\t.val=c.v
structure NE(w:aT)(d:Option Nat):Prop where
 Kf:∀j,T3 j->((w.m.z.tk j).st=3↔d=some j)
 wt:∀j,T3 j->(w.wt j=true↔(w.m.z.tk j).st=1)
 cl:∀j,T3 j->(w.m.z.tk j).st≠0->Oq (w.m.z.tk j) (w.cl j)
 es:sM none w.es=some (aCi w d)
 dn:∀j,d=some j->T3 j/\w.m.z.cP < 0
 po:w.m.z.aV=true->∃j,T3 j/\w.m.z.cP=(j:Int)/\((w.m.z.tk j).kind=114\/(w.m.z.tk j).kind=119)/\∀i:Nat,(w.m.x.wt[i]?).join≠none->(i:Int)=(w.m.z.tk j).dev
def Oq.of{t d:uG}{c:mW}(h:Oq t c)(e:d.kind=t.kind)(i:d.dev=t.dev)(h3:d.bF=t.bF)(f:d.val=t.val):Oq d c:=⟨e.trans h.1,i.trans h.2.1,h3.trans h.2.2.1,f.trans h.2.2.2⟩
section
variable{w:aT}
def ne0:NE (Mf s) none:=by
 have d:∀j,T3 j->((zO s).z.tk j).st=0:=fun j c=>by rcases c with rfl | rfl | rfl<;>rfl
 refine⟨fun j c=>?_,fun j c=>?_,fun j c h=>absurd (d j c) h,rfl,(fun _ h=>by cases h),fun h=>by cases h⟩
 .show((zO s).z.tk j).st=3↔_
  rw[d j c];simp
 .show false=true↔((zO s).z.tk j).st=1
  rw[d j c];simp
def aJW{z:bA}{j:Nat}(hj:T3 j){i:Nat}(hi:T3 i)(h3:(z.tk j).st=3):((fG z j).2.tk i)=if i=j then {z.tk j with st:=0,kind:=0,dev:=0,bF:=0,val:=0,err:=0,res:=0} else z.tk i:=by
 unfold fG;rw[aC (by rcases hj with rfl | rfl | rfl<;>decide),dL,aC (by rw[h3];simp)];rcases hj with rfl | rfl | rfl<;>rcases hi with rfl | rfl | rfl<;>rfl
def aCd{z:bA}{j:Nat}(h3:(z.tk j).st≠3):fG z j=((0,0,false),z):=by
 unfold fG;split
 .rfl
 .rw[dL,aH h3]
def NE.end_{d:Option Nat}(h:NE w d){j:Nat}(hj:T3 j):NE (w.end_ j) (if d=some j then none else d):=by
 by_cases n:(w.m.z.tk j).st=3
 .have hd:=(h.Kf j hj).1 n
  rw[aH hd]
  have A:(fG w.m.z j).1.2.2=true:=by
   unfold fG;rw[aC (by rcases hj with rfl | rfl | rfl<;>decide),dL,aC (by rw[n];simp)]
  have l:=fun {i} f=>aJW (z:=w.m.z) hj (i:=i) f n
  have k:∀z:bA,(fG z j).2.cP=z.cP/\(fG z j).2.aV=z.aV:=fun z=>by
   unfold fG;split
   .exact⟨rfl,rfl⟩
   .split<;>exact⟨rfl,rfl⟩
  obtain⟨_,r⟩:=h.dn j hd;unfold aT.end_;rw[aH A];refine⟨fun i f=>?_,fun i f=>?_,fun i f c=>?_,?_,(fun _ h=>by cases h),fun p=>?_⟩
  .show((fG w.m.z j).2.tk i).st=3↔_
   rw[l f]
   by_cases e:i=j
   .rw[aH e];simp
   .rw[aC e]
    have:=h.Kf i f
    rw[hd] at this;constructor
    .intro o;exact absurd (sJ (this.1 o)).symm e
    .intro o;cases o
  .show w.wt i=true↔((fG w.m.z j).2.tk i).st=1
   rw[l f]
   by_cases e:i=j
   .subst e;rw[aH rfl]
    have:=h.wt i f
    rw[n] at this;constructor
    .intro o;exact absurd (this.1 o) aE
    .intro o;exact absurd (show(0:Int)=1 from o) aE
   .rw[aC e];exact h.wt i f
  .have c:((fG w.m.z j).2.tk i).st≠0:=c
   show Oq ((fG w.m.z j).2.tk i) (w.cl i)
   rw[l f] at c|-
   by_cases e:i=j
   .rw[aH e] at c;exact absurd rfl c
   .rw[aC e] at c|-;exact h.cl i f c
  .have t:=h.es
   rw[hd] at t;rw[aEf _ _ t]
   show qS (some ((j:Int),w.cl j)) (rU w j)=some (Cd _)
   unfold Cd;rw[aH (show(w.m.done j).z.cP < 0 by show(fG w.m.z j).2.cP < 0;rw[(k _).1];exact r)]
   show(if(j:Int)=(j:Int)/\w.cl (j:Int).toNat=w.cl j then some none else none)=_
   rw[dL,aH ⟨rfl,rfl⟩]
  .have p:(fG w.m.z j).2.aV=true:=p
   rw[(k _).2] at p;obtain⟨i,f,B,_⟩:=h.po p;omega
 .have hd:d≠some j:=fun e=>n ((h.Kf j hj).2 e)
  rw[aC hd]
  have hw:w.end_ j=w:=by
   unfold aT.end_;rw[aCd n];rw[aC aB]
   show({w with m:=⟨(fG w.m.z j).2,w.m.y,w.m.x⟩}:aT)=w
   rw[aCd n]
  rw[hw];exact h
def aIk{t:Int}(h:bJ 3 t=false):w.end_ t=w:=by
 have hd:fG w.m.z t=((0,0,false),w.m.z):=by unfold fG;rw[aH h]
 unfold aT.end_;rw[hd,aC aB]
 show({w with m:=⟨(fG w.m.z t).2,w.m.y,w.m.x⟩}:aT)=w
 rw[hd]
def aHb{z:bA}{y:bX}{x:aS}{t:Int}(h:∀j:Nat,t=(j:Int)->T3 j->(z.tk j).st=1->0<=z.cP)(k:∀j:Nat,t=(j:Int)->T3 j->(z.tk j).st=2->z.aV=true):(pI s z y x t).1=z/\(pI s z y x t).2.2=x:=by
 unfold pI
 by_cases c:bJ 3 t=false
 .rw[aH c];exact⟨rfl,rfl⟩
 rw[aC c];obtain⟨j,rfl,f⟩:=zP (t:=t) (by cases i:bJ 3 t with | true=>rfl | false=>exact absurd i c);rw[dL]
 by_cases d:(z.tk j).st=1
 .rw[aH d,aC (by have:=h j rfl f d;omega)];exact⟨rfl,rfl⟩
 rw[aC d]
 by_cases e:(z.tk j).st=2
 .rw[aH e,aC (by rw[k j rfl f e];simp)];exact⟨rfl,rfl⟩
 rw[aC e];exact⟨rfl,rfl⟩
def NE.Ow(h:NE w none)(T:fC s n w.m){j:Nat}(hj:T3 j){f:bA}{y':bX}{x':aS}(t:aCR f)(hf:Gp j w.m.z f)(H:(f.tk j).st=2\/(f.tk j).st=3)(p:∀i,T3 i->i≠j->(w.m.z.tk i).st≠2)(y:Nat->Bool)(A:List dU)(F:∀i,T3 i->y i=if i=j then false else w.wt i)(X:(w.m.z.tk j).st≠0)(D:sM none A=some (some ((j:Int),w.cl j)))
  (J:f.aV=true->((w.m.z.tk j).kind=114\/(w.m.z.tk j).kind=119)/\∀i:Nat,(x'.wt[i]?).join≠none->(i:Int)=(w.m.z.tk j).dev):∃d,NE ⟨⟨f,y',x'⟩,w.cl,y,A⟩ d/\(d=none\/d=some j):=by
 have I:∀i,T3 i->i≠j->(f.tk i).st≠2:=fun i c k=>by rw[(hf i c).2.2.2.2 k];exact p i c k
 have E:∀i,T3 i->(f.tk i).st≠0->Oq (f.tk i) (w.cl i):=fun i c k=>by
  obtain⟨M,L,O,R,Y⟩:=hf i c
  by_cases e:i=j
  .subst e;exact(h.cl i c X).of M L O R
  .rw[Y e] at k;exact(h.cl i c k).of M L O R
 have r:∀i,T3 i->(y i=true↔(f.tk i).st=1):=fun i c=>by
  rw[F i c]
  by_cases e:i=j
  .subst e;rw[aH rfl];simp;omega
  .rw[aC e,(hf i c).2.2.2.2 e];exact h.wt i c
 have N:∀i,T3 i->i≠j->(f.tk i).st≠3:=fun i c k=>by
  rw[(hf i c).2.2.2.2 k];intro l
  have:=(h.Kf i c).1 l
  cases this
 rcases H with K | e3
 .have B:f.cP=(j:Int):=by
   rcases t with⟨_,G,_⟩ | ⟨i,c,B,o,_⟩
   .exact absurd K (G j hj)
   .rw[B,((o j hj).1 K)]
  refine⟨none,⟨fun i c=>?_,r,E,?_,(fun _ h=>by cases h),fun x=>?_⟩,.inl rfl⟩
  .constructor
   .intro l
    have l:(f.tk i).st=3:=l
    by_cases e:i=j
    .subst e;omega
    .exact absurd l (N i c e)
   .intro l;cases l
  .rw[show sM none A=_ from D];unfold aCi Cd;dsimp only;rw[B,aC aA,dL]
  .obtain⟨U,V⟩:=J x;exact⟨j,hj,B,by show(f.tk j).kind=114\/(f.tk j).kind=119;rw[(hf j hj).1];exact U,fun i c=>by show(i:Int)=(f.tk j).dev;rw[(hf j hj).2.1];exact V i c⟩
 .have C:f.cP < 0/\f.aV=false:=by
   rcases t with⟨B,_,x,_⟩ | ⟨i,c,B,o,_⟩
   .exact⟨aA,x⟩
   .exfalso
    have:=(o i c).2 rfl
    by_cases e:i=j
    .subst e;omega
    .exact I i c e this
  refine⟨some j,⟨fun i c=>?_,r,E,D,fun i c=>?_,fun x=>?_⟩,.inr rfl⟩
  .constructor
   .intro l
    have l:(f.tk i).st=3:=l
    by_cases e:i=j
    .rw[e]
    .exact absurd l (N i c e)
   .intro l;rw[<-sJ l];exact e3
  .rw[<-sJ c];exact⟨hj,C.1⟩
  .have x:f.aV=true:=x
   rw[C.2] at x;cases x
def Km{z:bA}(h:aCR z){j:Nat}(hj:T3 j):z.cP=(j:Int)↔(z.tk j).st=2:=by
 rcases h with⟨f,e,_⟩ | ⟨i,k,f,c,_⟩
 .constructor
  .intro d;omega
  .intro d;exact absurd d (e j hj)
 .rw[c j hj,f];constructor
  .intro d;omega
  .intro d;rw[d]
def aJd{z:bA}(h:aCR z)(hl:z.cP < 0):(∀j,T3 j->(z.tk j).st≠2)/\z.aV=false:=by
 rcases h with⟨e,c,d,_⟩ | ⟨i,f,e,_⟩
 .exact⟨c,d⟩
 .omega
def NE.aGB{d:Option Nat}(h:NE w d){j:Nat}(hj:T3 j)(hs:(w.m.z.tk j).st≠1):w.wt j=false:=by
 cases c:w.wt j with
 | false=>rfl
 | true=>exact absurd ((h.wt j hj).1 c) hs
def NE.same(h:NE w none){y':bX}{x':aS}(hw:x'.wt=w.m.x.wt):NE {w with m:=⟨w.m.z,y',x'⟩} none:=
 ⟨h.Kf,h.wt,h.cl,h.es,h.dn,fun c=>by
  have:=h.po c
  rw[<-hw] at this
  exact this⟩
def NE.more(h:NE w none){e:dU}(hk:e.kind=115\/e.kind=114){m':fA}(c:m'.z=w.m.z)(hx:m'.x=w.m.x):NE {w with m:=m',es:=w.es++[e]} none:=by
 obtain⟨f,i,d⟩:=m';dsimp only at c hx;subst c;subst hx;refine⟨h.Kf,h.wt,h.cl,?_,h.dn,h.po⟩;rw[aEf _ _ h.es];unfold qS;rcases hk with hk | hk
 .rw[hk,aC aE,aC aE,aC aE];rfl
 .rw[hk,aC aE,aC aE,aC aE];rfl
def NE.jJ(hm:s.made)(o:fC s n w.m)(h:NE w none)(t:Int):∃d,NE (w.jJ s t) d/\∀j,d=some j->t=(j:Int):=by
 have cP:=o.mY.cP
 have c:=(o.step hm t).mY.cP
 by_cases D:w.nS t=true
 .have B:=D
  unfold aT.nS at B;simp only[jY,decide_eq_true_eq] at B;obtain⟨E,r,K⟩:=B;obtain⟨j,rfl,f⟩:=zP E;rw[dL] at r
  have J:=(h.wt j f).1 r
  obtain⟨G,l⟩:=aJd cP K
  have p:pI s w.m.z w.m.y w.m.x j=((gP s w.m.x w.m.z j).1,w.m.y,(gP s w.m.x w.m.z j).2):=by
   unfold pI;rw[aC (by rw[E];simp),dL,aH J,aH K]
  have hw:w.jJ s j=⟨⟨(gP s w.m.x w.m.z j).1,w.m.y,(gP s w.m.x w.m.z j).2⟩,w.cl,iE w.wt j false,w.es++[pO w j]⟩:=by
   unfold aT.jJ fA.step;rw[aH D,p,dL]
  unfold fA.step at c;rw[p] at c;rw[hw];obtain⟨L,F⟩:=aJz (s:=s) (x:=w.m.x) (z:=w.m.z) f
  obtain⟨d,hd,A⟩:=h.Ow o f (y':=w.m.y) (x':=(gP s w.m.x w.m.z j).2) c L F (fun i k _=>G i k) (iE w.wt j false) (w.es++[pO w j]) (fun i _=>rfl) aA (by
   rw[aEf _ _ h.es]
   have:aCi w none=none:=by show Cd w=none;unfold Cd;rw[aH K]
   rw[this]
   show(if 0<=(j:Int)/\(j:Int)<=2 then some (some ((j:Int),w.cl (j:Int).toNat)) else none)=_
   rw[aH (by rcases f with rfl | rfl | rfl<;>decide),dL]) (fun C=>by
   obtain⟨O,M,wr,q,v,Z,U⟩:=aVQ f l C;refine⟨O,fun i k=>?_⟩;rw[U] at k
   by_cases e:M=i
   .rw[<-e,Z]
   .have k:((w.m.x.wt.set M _)[i]?).join≠none:=k
    rw[pZ e] at k
    exact absurd (o.w0 l i) k)
  exact⟨d,hd,fun i k=>by rcases A with rfl | rfl;cases k;rw[sJ k]⟩
 .have hw:w.jJ s t={w with m:=w.m.step s t}:=by unfold aT.jJ;rw[aC D]
  rw[hw]
  by_cases N:∃j:Nat,t=(j:Int)/\T3 j/\(w.m.z.tk j).st=2/\w.m.z.aV=false
  .obtain⟨j,rfl,f,r,l⟩:=N
   have p:pI s w.m.z w.m.y w.m.x j=((iP w.m.z w.m.y j).1,(iP w.m.z w.m.y j).2,w.m.x):=by
    unfold pI;rw[aC (by rcases f with rfl | rfl | rfl<;>decide),dL,aC aA,aH r,aH l]
   unfold fA.step at c|-;rw[p] at c|-
   have Y:=(Km cP f).2 r
   obtain⟨L,F⟩:=aJ0 (y:=w.m.y) (z:=w.m.z) f r
   obtain⟨d,hd,A⟩:=h.Ow o f (y':=(iP w.m.z w.m.y j).2) (x':=w.m.x) c L F (fun i k I X=>I (by have:=(Km cP k).2 X;omega)) w.wt w.es (fun i k=>by
    by_cases e:i=j
    .rw[aH e,e];exact h.aGB f aA
    .rw[aC e]) aA (by
    rw[h.es]
    show some (Cd w)=_
    unfold Cd
    rw[aC aA,Y,dL]) (fun C=>by rw[aW5 l] at C;cases C)
   exact⟨d,hd,fun i k=>by rcases A with rfl | rfl;cases k;rw[sJ k]⟩
  .obtain⟨T,R⟩:=aHb (s:=s) (z:=w.m.z) (y:=w.m.y) (x:=w.m.x) (t:=t) (fun j H f E=>by
    by_cases V:w.m.z.cP < 0
    .exfalso;refine D ?_;unfold aT.nS;rw[H,dL,(h.wt j f).2 E,eM V,show bJ 3 (j:Int)=true by rcases f with rfl | rfl | rfl<;>rfl];rfl
    .omega) (fun j H f r=>by
    cases C:w.m.z.aV with
    | true=>rfl
    | false=>exact absurd ⟨j,H,f,r,C⟩ N)
   refine⟨none,?_,fun _ h=>by cases h⟩;unfold fA.step;rw[T];exact h.same (by rw[R])
def NE.task(hm:s.made)(f:fC s n w.m)(h:NE w none)(t:Int):NE (w.task s t) none:=by
 obtain⟨d,hd,l⟩:=h.jJ hm f t;unfold aT.task
 by_cases c:bJ 3 t=false
 .rw[aIk c];cases d with
  | none=>exact hd
  | some j=>
   obtain⟨k,_⟩:=hd.dn j rfl;rw[l j rfl] at c;rcases k with rfl | rfl | rfl<;>cases c
 .obtain⟨j,rfl,k⟩:=zP (t:=t) (by cases o:bJ 3 t with | true=>rfl | false=>exact absurd o c)
  have:=hd.end_ k
  cases d with
  | none=>exact this
  | some i=>
   have e:i=j:=by have:=l i rfl;omega
   subst e;rw[aH rfl] at this;exact this
def aI2{x:aS}{j:Int}{c:mW}(hk:c.k=114\/c.k=119):∀l:List gQ,(∀a∈l,a.dev=c.d)->sM (some (j,c)) (l.map (tG s x))=some (some (j,c))
 | [],_=>rfl
 | a :: l, h => by
  show(qS (some (j,c)) (tG s x a)).bind (fun f=>sM f (l.map (tG s x)))=_
  rw[show qS (some (j,c)) (tG s x a)=some (some (j,c)) by
   unfold qS;rw[show(tG s x a).kind=100 from rfl,aC aE,aC aE,aH rfl]
   exact aH ⟨hk,h a aB⟩]
  exact aI2 hk l fun b e=>h b (vL _ e)
def NE.mG(hm:s.made)(f:fC s n w.m)(h:NE w none)(c:Int):∃d,NE (w.mG s c) d:=by
 have cP:=f.mY.cP
 have l:=(f.tick hm c).mY.cP
 cases o:w.m.z.aV with
 | false =>
  refine⟨none,?_⟩
  have D:(mX s w.m.x c)=(uM s w.m.x c,[]):=by
   unfold mX;rw[aCw _ fun k _=>f.w0 o k]
  unfold aT.mG fA.tick;rw[D,List.map_nil,nZ];exact h.same rfl
 | true =>
  obtain⟨j,t,A,E,r⟩:=h.po o
  have M:=(Km cP t).1 A
  have K:(w.m.tick s c).z=pP w.m.z (mX s w.m.x c).2:=rfl
  have p:=h.cl j t aA
  rcases aFF (mX s w.m.x c).2 w.m.z with e | ⟨er,rs,e⟩
  .have:=f.aDw c
   rw[K,e,o] at this;cases this
  .rw[A,dL] at e;obtain⟨I,G⟩:=Qs (z:=w.m.z) t er rs;unfold fA.tick at l;rw[e] at l
   obtain⟨d,hd,_⟩:=h.Ow f t (y':=w.m.y) (x':=(mX s w.m.x c).1) l I (.inr G) (fun i C B L=>B (by have:=(Km cP C).2 L;omega)) w.wt (w.es++(mX s w.m.x c).2.map (tG s w.m.x)) (fun i C=>by
    by_cases e:i=j
    .rw[aH e,e];exact h.aGB t aA
    .rw[aC e]) aA (by
    rw[Ub,h.es]
    have:aCi w none=some ((j:Int),w.cl j):=by
     show Cd w=_
     unfold Cd;rw[aC aA,A,dL]
    rw[this];refine aI2 (by rw[<-p.1];exact E) _ fun a J=>?_;obtain⟨i,F,H⟩:=aFE _ J
    rw[F,r i H,p.2.1]) (fun o=>by cases o)
   refine⟨d,?_⟩;unfold aT.mG fA.tick;rw[e];exact hd
def NE.tick(hm:s.made)(e:fC s n w.m)(h:NE w none)(c:Int):NE (w.tick s c) none:=by
 obtain⟨d,hd⟩:=h.mG hm e c
 have o:=hd.end_ (j:=0) (.inl rfl)
 have k:=o.end_ (j:=1) (.inr (.inl rfl))
 have i:=k.end_ (j:=2) (.inr (.inr rfl))
 have f:=hd.dn
 unfold aT.tick;cases d with
 | none=>exact i
 | some j=>
  obtain⟨l,_⟩:=f j rfl;rcases l with rfl | rfl | rfl<;>exact i
def aHd{z:bA}{t k d r v:Int}:((lY z t k d r v).1≠0/\(lY z t k d r v).2=z)\/((lY z t k d r v).1=0/\∃j:Nat,T3 j/\t=(j:Int)/\(z.tk j).st=0/\(lY z t k d r v).2=z.iX j {z.tk j with st:=1,kind:=k,dev:=d,bF:=r,val:=v}):=by
 unfold lY
 by_cases c:bJ 3 t=false
 .rw[aH c];exact .inl ⟨aB,rfl⟩
 rw[aC c];obtain⟨j,rfl,h⟩:=zP (t:=t) (by cases i:bJ 3 t with | true=>rfl | false=>exact absurd i c);rw[dL]
 by_cases f:(z.tk j).st≠0
 .rw[aH f];exact .inl ⟨aB,rfl⟩
 rw[aC f]
 by_cases e:¬uC k
 .rw[aH e];exact .inl ⟨aB,rfl⟩
 rw[aC e];exact .inr ⟨rfl,j,h,rfl,aA,rfl⟩
def NE.call(A:fC s n w.m)(h:NE w none)(t:Int)(c:mW):NE (w.call t c).2 none:=by
 unfold aT.call;dsimp only;rcases aHd (z:=w.m.z) (t:=t) (k:=c.k) (d:=c.d) (r:=c.r) (v:=c.v) with⟨C,B⟩ | ⟨C,j,G,rfl,I,B⟩
 .rw[aH C];unfold fA.start;rw[B];exact h
 .rw[aC aA];unfold fA.start;rw[B,dL]
  have l:∀i,T3 i->(w.m.z.iX j {w.m.z.tk j with st:=1,kind:=c.k,dev:=c.d,bF:=c.r,val:=c.v}).tk i=if i=j then {w.m.z.tk j with st:=1,kind:=c.k,dev:=c.d,bF:=c.r,val:=c.v} else w.m.z.tk i:=fun i f=>by
   rcases G with rfl | rfl | rfl<;>rcases f with rfl | rfl | rfl<;>rfl
  have cP:=A.mY.cP
  refine⟨fun i f=>?_,fun i f=>?_,fun i f o=>?_,?_,(fun _ h=>by cases h),fun D=>?_⟩
  .dsimp only;rw[l i f];split
   .simp
   .exact h.Kf i f
  .dsimp only;rw[l i f];unfold iE;split
   .simp
   .exact h.wt i f
  .dsimp only at o|-;rw[l i f] at o|-;unfold iE;split
   .exact⟨rfl,rfl,rfl,rfl⟩
   .rename_i e
    rw[aC e] at o;exact h.cl i f o
  .dsimp only;rw[h.es]
   congr 1
   show Cd w=Cd _
   unfold Cd
   show(if w.m.z.cP < 0 then none else _)=(if w.m.z.cP < 0 then none else _)
   split
   .rfl
   .rename_i H
    rcases cP with⟨y,_⟩ | ⟨i,f,y,p,_⟩
    .omega
    .have:i≠j:=fun e=>by
      subst e
      have:=(p i f).2 rfl
      omega
     show some (w.m.z.cP,w.cl w.m.z.cP.toNat)=some (w.m.z.cP,iE w.cl j c w.m.z.cP.toNat)
     unfold iE;rw[aC aA]
  .obtain⟨i,f,y,E,x⟩:=h.po D
   have F:=(Km cP f).1 y
   have e:i≠j:=fun e=>by subst e;omega
   exact⟨i,f,y,by dsimp only;rw[l i f,aC e];exact E,by dsimp only;rw[l i f,aC e];exact x⟩
def NE.nE(hm:s.made)(c:fC s n w.m)(h:NE w none)(p:Au):NE (w.nE s p).2 none:=by
 unfold aT.nE;split
 .exact h.call c _ _
 .split
  .exact h.task hm c _
  .split
   .exact h.same (c.fw.next hm.dM c.hw).2.2.1
   .split
    .exact h.tick hm c _
    .split
     .unfold aT.send;dsimp only;split
      .exact h.same rfl
      .exact h.more (.inl rfl) rfl rfl
     .split
      .unfold aT.take;split
       .exact h.more (.inr rfl) rfl rfl
       .exact h.same rfl
      .exact h
def NE.dH(hm:s.made)(c:fC s n w.m)(h:NE w none):NE (w.dH s) none:=h.same (c.fw.next hm.dM c.hw).2.2.1
def NE.round(hm:s.made)(hw:iK s n w)(h:NE w none)(c:Int):NE (w.round s c) none:=by
 have d:=hw.task hm 0
 have e:=d.task hm 1
 have f:=e.task hm 2
 have i:=((h.task hm hw.m 0).task hm d.m 1).task hm e.m 2
 exact(i.dH hm f.m).tick hm (f.dH hm).m c
def aDA(hm:s.made){cK:List fQ}(f:∀a∈cK,a.ok):∀k,k<=cK.length->iK s (k*4) (runN s cK k)/\NE (runN s cK k) none
 | 0,_=>⟨aAK hm,ne0⟩
 | k+1,hk=>by
  obtain⟨d,h⟩:=aDA hm f k aA;obtain⟨a,c⟩:=get_some (l:=cK) (i:=k) aA
  have e:=f a (dJ c)
  rw[Mh c];refine⟨(aC2 hm d e).le aA,?_⟩;unfold Ab;split
  .exact h.round hm d _
  .exact h.nE hm d.m _
end
def Gb(s:aI)(x:aS)(i:Nat):List Value:=((List.range s.aG.length).map fun k=>Value.bool (uW s x k)).take i++(List.replicate s.aG.length (Value.bool false)).drop i
def aWu{s:aI}(x:aS):List.replicate s.aG.length (Value.bool false)=Gb s x 0:=by simp[Gb]
def aWs{s:aI}{x:aS}{i:Nat}:(Gb s x i).length=s.aG.length:=by simp[Gb];omega
def aWr{s:aI}{x:aS}{i:Nat}(hi:i < s.aG.length):(Gb s x i).set i (.bool (uW s x i))=Gb s x (i+1):=aI8 (by simp[hi]) aB
def aWt{s:aI}{x:aS}{i:Nat}(hi:i < s.aG.length):(Gb s x s.aG.length)[i]? =some (.bool (uW s x i)):=by simp[Gb,hi,List.getElem?_append]
def zEv:List Value:=[.int .u8 0,iv 0,.int .u8 0,iv 0,iv 0,.int .u32 0,iv 0,.int .u32 0,iv 0,iv 0,.bool false,.int .u32 0,.bool false,sn]
def Cc(s:aI)(x:aS)(l:List gQ):List (List Value):=l.map fun a=>(tG s x a).row none 0
def Fy(s:aI)(x:aS)(l:List gQ)(i:Nat):List (List Value):=(Cc s x l).take i++(List.replicate l.length zEv).drop i
def aUL{s:aI}(x:aS)(l:List gQ):List.replicate l.length zEv=Fy s x l 0:=by simp[Fy]
def aKo{s:aI}{x:aS}{l:List gQ}:Fy s x l l.length=Cc s x l:=by unfold Fy Cc;rw[yE aB,List.drop_of_length_le aB,nZ]
def aKp{s:aI}{x:aS}{l:List gQ}{i:Nat}:(Fy s x l i).length=l.length:=by simp[Fy,Cc];omega
def aFu{s:aI}{x:aS}{l:List gQ}{i:Nat}:∀r∈Fy s x l i,r.length=14:=fun r c=>by
 rcases oM.1 c with h | h
 .obtain⟨a,_,rfl⟩:=fR.1 (Dg h);rfl
 .rw[List.eq_of_mem_replicate (Ph h)];rfl
def aUK{s:aI}{x:aS}{l:List gQ}{i:Nat}{a:gQ}(c:l[i]? =some a):jR (Fy s x l i).flatten (i*14) ((tG s x a).row none 0)=(Fy s x l (i+1)).flatten:=by
 have d:=(cE.1 c).1
 rw[aPM aFu (by rw[aKp];exact d) rfl];exact congrArg _ (aI8 (by simp[Cc,c]) (by simp[Cc]))
def aM2{p:Piece}:∀{es:List dU},(∀e∈es,e.words=[])->nJ es (es.map fun e=>e.row none 0) p
 | [],_=>trivial
 | e::es,h=>⟨rfl,⟨none,0,rfl,by rw[h e aB];exact aO.nil _ _⟩,aM2 fun e' c=>h e' (by simp[c])⟩
def aUI(s:aI)(x:aS)(l:List gQ):∀w,(qW (l.map (tG s x)) (Cc s x l)).sat (fun _=>False) w:=fun w=>by
 have:=aM2 (p:=⟨w,fun _=>False⟩) (es:=l.map (tG s x)) fun e c=>by
  obtain⟨a,_,rfl⟩:=fR.1 c;rfl
 rwa [Mr] at this
def aUJ(s:aI)(x:aS)(l:List gQ):(Cc s x l).flatten.length=l.length*14:=by rw[Pe (sz:=14) _ (by rw[<-aKo];exact aFu)];simp[Cc]
def aUH(s:aI)(x:aS)(l:List gQ):∀u∈(Cc s x l).flatten,u.oneCell'=true:=fun u c=>by
 obtain⟨r,d,c⟩:=List.mem_flatten.1 c;obtain⟨a,_,rfl⟩:=fR.1 d;simp only[dU.row,fT,pY,or_false] at c;rcases c with rfl | rfl | rfl | rfl | rfl | rfl | rfl | rfl | rfl | rfl | rfl | rfl | rfl | rfl<;>rfl
def aT.ends(w:aT):Nat->aT
 | 0=>w
 | k+1=>(w.ends k).end_ (k:Int)
def aTx(w:aT)(t:Int):(w.end_ t).es.length<=w.es.length+1:=by
 unfold aT.end_;split
 .show(w.es++[_]).length<=_
  rw[rF];exact gE _
 .exact Nat.le_add_right _ _
def aJP(w:aT):∀k,(w.ends k).es.length<=w.es.length+k
 | 0=>gE _
 | k+1=>oL (aTx (w.ends k) k) (Tv (aJP w k) 1)
section
variable(g f r:Nat)(hL:HL)(s:aI)(n:Nat)(W:aT)(w:World)(F:Nat->Prop)
def aRl(m:fA)(d:rM s m.z)(l:List gQ)(hl:l.length<=1000)(A:Option Addr)(c:Nat)(hs:aO ⟨w,fun b=>b < w.heap.size/\¬F b⟩ 4 A l.length (l.flatMap gQ.cells))(hp:(lG r f hL s m).sat F w)(hF:∀b,F b->b < w.heap.size):
  Cz 83 #[pt r,.slice A l.length c] w (Wr (.tuple #[]) (lG r f hL s ⟨pP m.z l,m.y,m.x⟩) w F):=
 Zt 0 rfl (p':=lF r hL.h f s (pP m.z l)) (v:=.tuple #[]) (fun k n j o=>aPn r hL.h f s m.z w k A c l hl d.po n j (hs.le fun b e=>⟨⟨e.1,fun i=>e.2 (o b i)⟩,rfl⟩)) hp hF
def aRm(m:fA)(hm:s.made)(d:iS hL s)(c:dF s m.x)(v:Nat)(e:v < s.aG.length){w0:World}{R:List Piece}{H:List HP}(i:Nat)(st:St w0 R H w)(hi:H[i]? =some (lG r f hL s m)):Cz 81 #[.pointer (some ⟨hL.h,0,none⟩),iv (v:Int)] w (Rt (.bool (uW s m.x v)) w):=by
 obtain⟨F,n,j,_⟩:=st.chunk hi;obtain⟨G,o,l,_⟩:=n;exact aJq hL s m.x w hm.dM d c v e (aMq (o 2 _ rfl) (fun b k=>j b (l 2 b k)) d c)
def aMZ(hm:s.made)(U:iS hL s)(j:iK s n W)(hn:n<=50000000)(d:Int)(hd:0<=d/\d < 4294967296)(hp:(fJ g f r hL s W).sat F w)(hF:∀b,F b->b < w.heap.size):
  Cz 46 #[pt g,.int .u32 d] w (Wr (.tuple #[]) (fJ g f r hL s (W.tick s d)) w F):=by
 have Hw:=hm.nv
 have he0:=j.es
 have J:=(j.mG hm d).2.1
 have hT:=fun w F=>aRg r f hL s n W.m w F hm U j.m d hd
 have C:∀a∈(mX s W.m.x d).2,∃i:Nat,a.dev=(i:Int)/\i < s.aG.length:=fun a Z=>by
  obtain⟨i,H,D⟩:=aFE (s:=s) (x:=W.m.x) (a:=a) s.aG.length Z;refine⟨i,H,?_⟩;rcases dI i s.aG.length with h | h
  .exact h
  .rw[eW (by rw[j.m.hw.wt];exact h)] at D;exact absurd rfl D
 have O:(mX s W.m.x d).2.length<=1000:=oL (aCv (s:=s) (x:=W.m.x) s.aG.length) aA
 obtain⟨K,o⟩:∃K,W.mG s d=K:=⟨_,rfl⟩
 have I:W.tick s d=K.ends 3:=by rw[<-o];rfl
 rw[o] at J;unfold aT.mG fA.tick at o;obtain⟨⟨E,l⟩,hxl⟩:∃p,mX s W.m.x d=p:=⟨_,rfl⟩
 rw[hxl] at hT C O o;dsimp only at hT C O o;rw[I];clear I;refine fS func46 ntmps46 hp hF ?_;refine kF 0 fun L=>?_;refine bB 0 0 ?_;refine bB 1 1 ?_;dsimp only[pF];refine aF ?_;refine oZ (n:=s.aG.length) 1 (el:=4) (z:=.bool false) aJ aJ rfl rfl rfl aA aA aE fun R=>?_;rw[aWu W.m.x];refine aF ?_;refine xO (α:=Unit) (fun _=>[(0,pt g),(1,.int .u32 d),(4,.slice (some ⟨R,0,none⟩) s.aG.length s.aG.length)]) (fun _=>[lG r f hL s W.m,HP.aK R 4 (Gb s W.m.x s.aG.length),HP.aK g 94 (pF f r hL s W L),HP.many [cS,cS,HP.own 52 14 (.slice L.A W.es.length L.c) W.es.length L.rows.flatten,qW W.es L.rows]]) (fun _=>True) ?_ fun _ _=>?_
 .refine wD (α:=Unit) (fun i _=>[(18,iv i),(17,iv s.aG.length),(0,pt g),(1,.int .u32 d),(4,.slice (some ⟨R,0,none⟩) s.aG.length s.aG.length)]) (fun i _=>[lG r f hL s W.m,HP.aK R 4 (Gb s W.m.x i),HP.aK g 94 (pF f r hL s W L),HP.many [cS,cS,HP.own 52 14 (.slice L.A W.es.length L.c) W.es.length L.rows.flatten,qW W.es L.rows]]) (fun _ _=>True) s.aG.length () trivial fun i _ hi _=>?_;refine aF ?_;refine dD rfl (fun e=>?_) (fun X=>?_)
  .have e:i < s.aG.length:=aA
   refine aF ?_;refine cR (fun G t=>aRm f r hL s G W.m hm U j.m.hw i e 0 t rfl) ?_;refine jD rfl rfl ?_ (hs:=dR.mk 1 rfl dK.h rfl (by rw[aWs];exact e));dsimp only[List.set];rw[aWr e];refine aF ?_;exact oG ()
  .obtain rfl:i=s.aG.length:=by omega
   refine aF ?_;exact eF ()
 refine aF ?_;refine Bb (α:=Option Addr×Nat) 0 (f:=82) (fi:=[]) (ca:=[]) (fun a=>.slice a.1 l.length a.2) (fun a=>aLN r f hL s ⟨W.m.z,W.m.y,E⟩ l a) (fun _=>True) aJ rfl rfl rfl aE (fun G N t H D h3=>by simpa using hT G N H D) fun aa _=>?_;dsimp only[List.set];obtain⟨Aa,ca⟩:=aa;refine bB 0 1 ?_;refine bB 1 0 ?_;refine dX [] [1] [0,3,4,5] fun q hq _ _=>?_;obtain⟨F2,sf2,zf2⟩:=hq 1 _ aB rfl
 have V:aO q 4 Aa l.length (l.flatMap gQ.cells):=aO.own ⟨F2,sf2,zf2⟩
 refine aF ?_;refine aMI 14 120 (n:=l.length) (el:=52) (zs:=zEv) aJ aJ rfl aE rfl rfl aA aA aE fun Y=>?_;rw[aUL (s:=s) W.m.x l];refine aF ?_;refine xO (α:=Unit) (fun _=>[(0,pt g),(6,.slice Aa l.length ca),(7,.slice (some ⟨Y,0,none⟩) l.length l.length)]) (fun _=>[HP.aK Y 52 (Cc s W.m.x l).flatten,lG r f hL s ⟨W.m.z,W.m.y,E⟩,HP.aK g 94 (pF f r hL s W L),HP.many [cS,cS,HP.own 52 14 (.slice L.A W.es.length L.c) W.es.length L.rows.flatten,qW W.es L.rows]]) (fun _=>True) ?_ fun _ _=>?_
 .refine wD (α:=Unit) (fun i _=>[(42,iv i),(41,iv l.length),(40,.slice Aa l.length ca),(0,pt g),(4,.slice (some ⟨R,0,none⟩) s.aG.length s.aG.length),(6,.slice Aa l.length ca),(7,.slice (some ⟨Y,0,none⟩) l.length l.length)]) (fun i _=>[HP.aK Y 52 (Fy s W.m.x l i).flatten,HP.aK R 4 (Gb s W.m.x s.aG.length),lG r f hL s ⟨W.m.z,W.m.y,E⟩,HP.aK g 94 (pF f r hL s W L),HP.many [cS,cS,HP.own 52 14 (.slice L.A W.es.length L.c) W.es.length L.rows.flatten,qW W.es L.rows]]) (fun _ _=>True) l.length () trivial fun i _ hi _=>?_;refine aF ?_;refine dD rfl (fun e=>?_) (fun X=>?_)
  .have e:i < l.length:=aA
   obtain⟨a,Z⟩:=get_some e;obtain⟨dv,T,rR⟩:=C a (dJ Z)
   have hfl:(Fy s W.m.x l i).flatten.length=l.length*14:=by rw[Pe (sz:=14) _ aFu,aKp]
   have hput:=aUK (s:=s) (x:=W.m.x) Z
   obtain⟨b,off,rfl,uD,hc⟩:=V.2 aA
   have Ng:=fun k v hv=>hc _ _ (aKU (k:=k) (v:=v) Z hv)
   obtain⟨Wg,aC1,B,M⟩:=a;dsimp only at T;subst T;refine aF ?_;refine kd (nQ rfl (cI.of (vs:=[iv Wg,iv dv,.bool B,.int .u32 M]) fun k v hv=>Rd.ro (p:=q) aB uD (by rw[wT];exact Ng k v hv))) ?_;refine kK fun g1=>?_;refine xN ?_;refine kG 7 ?_ (bL:=bT rfl (Rd.aK 2 rfl (aWt rR)));refine kG 8 ?_;refine kG 9 ?_;refine aR 10 ?_;refine Hu 1 rfl ?_ (vs:=(tG s W.m.x ⟨Wg,dv,B,M⟩).row none 0) (hl:=eM (by show i*14+14<=_;rw[hfl];omega));dsimp only[List.set];rw[hput];refine cT ?_;refine kA ?_;exact oG ()
  .obtain rfl:i=l.length:=by omega
   rw[aKo];refine aF ?_;exact eF ()
 refine aF ?_;refine aZ [1,2,3,0] ?_;refine aP 1 1 ?_;refine aP 0 0 ?_;refine dN 0 (fun L:lX=>nT g f r hL s {W with m:=⟨W.m.z,W.m.y,E⟩} L) L ?_;refine rZ (p:=qW (l.map (tG s W.m.x)) (Cc s W.m.x l)) (aUI _ _ _) ?_;refine aZ [1,2,0] ?_;refine Ah ?_;refine gM 0 (fJ g f r hL s {W with m:=⟨W.m.z,W.m.y,E⟩,es:=W.es++l.map (tG s W.m.x)}) (fun G N t1 H D h3=>aGH g f r hL s {W with m:=⟨W.m.z,W.m.y,E⟩} G N (l.map (tG s W.m.x)) (Cc s W.m.x l) Y l.length l.length aB (aUJ _ _ _) (aUH _ _ _) (by show W.es.length+_<=_;rw[Jv];omega) H D) ?_;refine kF 0 fun L2=>?_;refine bB 0 0 ?_;refine bB 1 1 ?_;dsimp only[pF];refine aF ?_;refine gH 0 (lG r f hL s ⟨pP W.m.z l,W.m.y,E⟩) (fun G N t1 H D h3=>aRl f r hL s G N ⟨W.m.z,W.m.y,E⟩ j.m.mY l O Aa ca (V.le (h3 _ aB)) H D) ?_;refine aP 1 1 ?_;refine aP 0 0 ?_;subst o;refine dN 0 (fun L:lX=>nT g f r hL s {W with m:=⟨pP W.m.z l,W.m.y,E⟩,es:=W.es++l.map (tG s W.m.x)} L) L2 ?_;generalize ({W with m:=⟨pP W.m.z l,W.m.y,E⟩,es:=W.es++l.map (tG s W.m.x)}:aT)=K at J|-;refine wD (α:=Unit) (fun i _=>[(67,iv i),(0,pt g)]) (fun i _=>[fJ g f r hL s (K.ends i)]) (fun _ _=>True) 3 () trivial fun i _ hi _=>?_
 have hel:=aJP K i
 refine aF ?_;refine dD rfl (fun e=>?_) (fun X=>?_)
 .refine aF ?_;refine gH 0 (fJ g f r hL s (K.ends (i+1))) (fun G N t1 H D h3=>Cu g f r hL s (K.ends i) G N aA i H D) ?_;exact oG ()
 .obtain rfl:i=3:=by omega
  refine aF ?_;exact gF 0 hF
end
section
variable(g f r:Nat)(hL:HL)(s:aI)(W:aT)(w:World)(F:Nat->Prop)
def aRi(m:fA)(A:Option Addr)(n c:Nat)(l:List Int)(hs:aO ⟨w,fun b=>b < w.heap.size/\¬F b⟩ 1 A n (eB l))(o:n=l.length)(d:n<=1000000)(hp:(lG r f hL s m).sat F w)(hF:∀b,F b->b < w.heap.size):
  Cz 84 #[pt f,iv 1,.slice A n c] w (Wr (iv (fM m.y 1 l).1) (lG r f hL s ⟨m.z,(fM m.y 1 l).2,m.x⟩) w F):=
 Zt 1 rfl (fun j k i p=>aJ6 f hL.h s m.y 1 A n c l w j k i (hs.le fun b e=>⟨⟨e.1,fun t=>e.2 (p b t)⟩,rfl⟩) o d) hp hF
def Mb(k:Int)(l:List Int):dU:={Qy with kind:=k,words:=l}
def aNb(H:W.es.length<=900000000)(A:Option Addr)(n c:Nat)(l:List Int)(hs:aO ⟨w,fun b=>b < w.heap.size/\¬F b⟩ 1 A n (eB l))(k:n=l.length)(e:n<=1000000)(hp:(fJ g f r hL s W).sat F w)(hF:∀b,F b->b < w.heap.size):
  Cz 47 #[pt g,.slice A n c] w (Wr (iv (W.send l).1) (fJ g f r hL s (W.send l).2) w F):=by
 subst k;unfold aT.send;refine fS func47 ntmps47 hp hF ?_;refine kF 0 fun L=>?_;refine bB 0 0 ?_;refine bB 1 1 ?_;dsimp only[pF];refine aF ?_;refine gH 0 (lG r f hL s ⟨W.m.z,(fM W.m.y 1 l).2,W.m.x⟩) (fun d j E p o B=>aRi f r hL s d j W.m A _ c l (hs.le (B _ aB)) rfl e p o) ?_;refine dD rfl (fun i=>?_) (fun i=>?_)
 .rw[aH i];refine aF ?_;refine aP 1 1 ?_;refine aP 0 0 ?_;refine dN 0 (fun L:lX=>nT g f r hL s {W with m:=⟨W.m.z,(fM W.m.y 1 l).2,W.m.x⟩} L) L ?_;exact cJ 0 hF
 .rw[aC i,Tp.1 i];refine aF ?_;refine gN (aAA l.length (eB l)) (fun d t=>aCj A _ c _ d (hs.le (t.le aB)) (Hi _) e) ?_;rintro _ _ I ⟨D,C,rfl,rfl⟩ _;dsimp only[dW,dG];refine aF ?_;refine eX fun G=>?_;refine aF ?_;refine aZ [2,3,4,0,1] ?_ (R':=[⟨w,fun b=>b < w.heap.size/\¬F b⟩]);refine aP 1 1 ?_;refine aP 0 0 ?_;refine dN 0 (fun L:lX=>nT g f r hL s {W with m:=⟨W.m.z,(fM W.m.y 1 l).2,W.m.x⟩} L) L ?_;refine Ch 2 (Φ:=nJ [Mb 115 l] [(Mb 115 l).row D C]) (hm:=nJ.le) rfl (fun _ h=>nJ.one h) ?_;dsimp only[List.set];refine Ah ?_;refine gH 0 (fJ g f r hL s {W with m:=⟨W.m.z,(fM W.m.y 1 l).2,W.m.x⟩,es:=W.es++[Mb 115 l]}) (fun d j E p o B=>Me g f r hL s {W with m:=⟨W.m.z,(fM W.m.y 1 l).2,W.m.x⟩} d j (Mb 115 l) D C G H p o) ?_;exact cJ 0 hF
end
def aT.Jl(s:aI)(w:aT):Nat->aT
 | 0=>w
 | k+1=>(w.Jl s k).task s (k:Int)
def aDt{s:aI}(hm:s.made){n:Nat}{w:aT}(h:iK s n w):∀k,iK s (n+k) (w.Jl s k)
 | 0=>h
 | k+1=>(aDt hm h k).task hm k
section
variable(g f r:Nat)(hL:HL)(s:aI)(n:Nat)(W:aT)(w:World)(F:Nat->Prop)
def aAJ(hm:s.made)(E:iS hL s)(B:iK s n W)(U:n<=50000000)(p:Au)(K:p.ok)(A:Option Addr)(k c:Nat)(hs:aO ⟨w,fun b=>b < w.heap.size/\¬F b⟩ 1 A k (eB p.words))(hk:k=p.words.length)(H:gJ ⟨w,fun b=>b < w.heap.size/\¬F b⟩)(hp:(fJ g f r hL s W).sat F w)(hF:∀b,F b->b < w.heap.size):
  Cz 25 #[pt g,.agg #[.int .u8 p.kind,iv p.task,.int .u8 p.c.k,iv p.c.d,iv p.c.r,.int .u32 p.c.v,.int .u32 p.Vv,.slice A k c]] w (Wr (iv (W.nE s p).1) (fJ g f r hL s (W.nE s p).2) w F):=by
 have he0:=B.es
 have I:W.es.length<=900000000:=by omega
 obtain⟨V,hd,Y,Z⟩:=K;obtain⟨pk,C,⟨O,c2,M,N⟩,R,T⟩:=p;dsimp only at hs hk V hd Y Z|-;unfold aT.nE;dsimp only;refine oQ func25 ntmps25 hp hF ?_;refine iG fun g3=>?_;refine bP (fun h=>?_) (fun h=>?_)
 .rw[aH h];refine aF ?_;refine kd (nQ rfl (Cl (vs:=[.int .u8 O,iv c2,iv M,.int .u32 N]) 0 rfl rfl)) ?_;refine gH 1 (fJ g f r hL s (W.call C ⟨O,c2,M,N⟩).2) (fun i o G j e D=>aNf g f r hL s W i o C O c2 M N j e) ?_;exact cJ 1 hF
 rw[aC h];refine aF ?_;refine bP (fun h=>?_) (fun h=>?_)
 .rw[aH h];refine aF ?_;refine gH 1 (fJ g f r hL s (W.task s C)) (fun i o G j e D=>aNa g f r hL s n W i o hm E B U C (gJ.le H (D _ aB)) j e) ?_;exact cJ 1 hF
 rw[aC h];refine aF ?_;refine bP (fun h=>?_) (fun h=>?_)
 .rw[aH h];refine kF 1 fun L=>?_;refine bB 1 0 ?_;refine bB 2 1 ?_;dsimp only[pF];refine aF ?_;refine gH 0 (lG r f hL s (W.m.dH s)) (fun i o G j e D=>aRj r f hL s n W.m i o hm E B.m j e (gJ.le H (D _ aB))) ?_;refine aP 2 1 ?_;refine aP 1 0 ?_;refine dN 1 (fun L:lX=>nT g f r hL s (W.dH s) L) L ?_;exact cJ 1 hF
 rw[aC h];refine aF ?_;refine bP (fun h=>?_) (fun h=>?_)
 .rw[aH h];refine aF ?_;refine gH 1 (fJ g f r hL s (W.tick s R)) (fun i o G j e D=>aMZ g f r hL s n W i o hm E B U R hd j e) ?_;exact cJ 1 hF
 rw[aC h];refine aF ?_;refine bP (fun h=>?_) (fun h=>?_)
 .rw[aH h];refine aF ?_;refine gH 1 (fJ g f r hL s (W.send T).2) (fun i o G j e D=>aNb g f r hL s W i o I A k c T (hs.le (D _ aB)) hk aA j e) ?_;exact cJ 1 hF
 rw[aC h];refine aF ?_;refine bP (fun h=>?_) (fun h=>?_)
 .rw[aH h];unfold aT.take;refine kF 1 fun L=>?_;refine bB 1 0 ?_;refine bB 2 1 ?_;dsimp only[pF];refine bB 0 1 ?_;refine aF ?_;refine Bb (α:=AC) 0 (f:=48) (fi:=[]) (ca:=[]) (fun c=>Th (kZ W.m.y 1) c) (fun c=>Jt f hL.h s (gL W.m.y 1) ((kZ W.m.y 1).getD []) c) (fun _=>True) aJ rfl rfl rfl aE (fun i o t j e D=>aEW f hL.h s W.m.y 1 i o j e) fun J _=>?_;dsimp only[List.set];refine bB 0 0 ?_;refine aP 1 1 ?_;cases hw:kZ W.m.y 1 with
  | none=>
   refine aF ?_;refine aZ [1,2,3,4] ?_;refine aP 2 1 ?_;refine aP 1 0 ?_;refine dN 1 (fun L:lX=>nT g f r hL s {W with m:=⟨W.m.z,gL W.m.y 1,W.m.x⟩} L) L ?_;exact cJ 1 hF
  | some l=>
   refine aF ?_;refine eX fun X=>?_;refine aF ?_;refine bB 1 1 ?_;refine aZ [3,4,6,1,0] ?_;refine aP 1 1 ?_;refine aP 0 0 ?_;refine dN 0 (fun L:lX=>nT g f r hL s {W with m:=⟨W.m.z,gL W.m.y 1,W.m.x⟩} L) L ?_;refine tH (q:=qW [Mb 114 l] [(Mb 114 l).row J.1 J.2]) 2 rfl (fun F w h=>nJ.one h) ?_;dsimp only[List.set];refine Ah ?_;refine gH 0 (fJ g f r hL s {W with m:=⟨W.m.z,gL W.m.y 1,W.m.x⟩,es:=W.es++[Mb 114 l]}) (fun i o G j e D=>Me g f r hL s {W with m:=⟨W.m.z,gL W.m.y 1,W.m.x⟩} i o (Mb 114 l) J.1 J.2 X I j e) ?_;exact cJ 0 hF
 rw[aC h];refine aF ?_;exact cJ 1 hF
theorem aU6(t:Int):W.nE s ⟨116,t,Lg,0,[]⟩=(0,W.task s t):=rfl
theorem aU7(t:Int):W.nE s ⟨102,t,Lg,0,[]⟩=(0,W.dH s):=rfl
theorem aU5(t d:Int):W.nE s ⟨104,t,Lg,d,[]⟩=(0,W.tick s d):=rfl
def aDT{k t d:Int}(hd:0<=d/\d < 4294967296):(Au.mk k t Lg d []).ok:=⟨⟨Br _,(by decide:(0:Int) < 4294967296)⟩,hd,(fun _ h=>by cases h),rE _⟩
def aNc(hm:s.made)(h:iS hL s)(j:iK s n W)(B:n<=40000000)(c:Int)(hd:0<=c/\c < 4294967296)(e:gJ ⟨w,fun b=>b < w.heap.size/\¬F b⟩)(hp:(fJ g f r hL s W).sat F w)(hF:∀b,F b->b < w.heap.size):
  Cz 11 #[pt g,.int .u32 c] w (Wr (.tuple #[]) (fJ g f r hL s (W.round s c)) w F):=by
 have d:=aDt hm j 3
 refine oQ func11 ntmps11 hp hF ?_;refine xO (α:=Unit) (fun _=>[(0,pt g),(1,.int .u32 c)]) (fun _=>[fJ g f r hL s (W.Jl s 3)]) (fun _=>True) ?_ fun _ _=>?_
 .refine wD (α:=Unit) (fun i _=>[(5,iv i),(0,pt g),(1,.int .u32 c)]) (fun i _=>[fJ g f r hL s (W.Jl s i)]) (fun _ _=>True) 3 () trivial fun i _ A _=>?_
  have l:=aDt hm j i
  refine aF ?_;refine bP (fun y=>?_) (fun z=>?_)
  .refine aF ?_
   refine gM 0 (fJ g f r hL s (W.Jl s (i+1))) (fun p k x t o m=>by
    have:=aAJ g f r hL s (n+i) (W.Jl s i) p k hm h l aA ⟨116,i,Lg,0,[]⟩ (aDT aE) none 0 0 (aO.nil _ _) rfl (gJ.le e (m _ aB)) t o
    rwa [aU6] at this) ?_
   refine aF ?_;exact oG ()
  .obtain rfl:i=3:=by omega
   refine aF ?_;exact eF ()
 refine aF ?_
 refine gM 0 (fJ g f r hL s ((W.Jl s 3).dH s)) (fun p k x t o m=>by
  have:=aAJ g f r hL s (n+3) (W.Jl s 3) p k hm h d aA ⟨102,0,Lg,0,[]⟩ (aDT aE) none 0 0 (aO.nil _ _) rfl (gJ.le e (m _ aB)) t o
  rwa [aU7] at this) ?_
 refine aF ?_
 refine gM 0 (fJ g f r hL s (W.round s c)) (fun p k x t o m=>by
  have:=aAJ g f r hL s (n+3) ((W.Jl s 3).dH s) p k hm h (d.dH hm) aA ⟨104,0,Lg,c,[]⟩ (aDT hd) none 0 0 (aO.nil _ _) rfl (gJ.le e (m _ aB)) t o
  rwa [aU5] at this) ?_
 refine aF ?_;exact gF 0 hF
end
structure WdR(w:World)(g:Nat)(L:lX)(es:List dU):Prop where
 c:iD w g 20 (.slice L.A es.length L.c)
 row:aO (all w) 14 L.A es.length L.rows.flatten
 ev:nJ es L.rows (all w)
def St.wdR{w0 w:World}{R:List Piece}{H:List HP}{g f r:Nat}{hL:HL}{s:aI}{W:aT}(t:St w0 R H w)(i:Nat)(hi:H[i]? =some (fJ g f r hL s W)):∃L,WdR w g L W.es:=by
 obtain⟨F,n,l,_⟩:=t.chunk hi;obtain⟨L,G,e,m,_⟩:=n
 have j:=e 0 _ rfl
 have d:∀i b,G i b->b < w.heap.size:=fun i b d=>l b (m i b d)
 obtain⟨o,p,h,k⟩:=Em (Y:=fun b=>b < w.heap.size) (e 2 _ rfl) (fun b c=>d 2 b c)
 injection h with h
 subst h;exact⟨L,⟨j.2.lt,by rw[j.2.cell];rfl⟩,k,nJ.le ⟨w,G 3⟩ (all w) (fun b c=>⟨d 3 b c,rfl⟩) (e 3 _ rfl)⟩
def aM8(n:Nat)(xs:List Value)(v:Value)(hs:List HP)(_:Piece):Prop:=∃A c,v=.slice A n c/\hs=[HP.own 52 14 (.slice A n c) n xs]
def aVa(A:Option Addr)(n c:Nat)(xs:List Value)(w:World)(hs:aO (all w) 14 A n xs)(j:∀u∈xs,u.oneCell'=true)(m:n<=1000000):
  Cz 31 #[.slice A n c] w (fun y w'=>(∃v hs q,y=.returned v/\q.w=w'/\aM8 n xs v hs q/\iV w hs q)/\Below w.heap.size w w'):=by
 refine bQ func31 ntmps31 ?_;refine Xk (el:=52) aJ rfl aE ?_;refine iJ ?_;refine tI rfl (fun i=>?_) (fun i=>?_)
 .refine aD ?_
  have f:n=0:=by
   rcases zI n with h | h
   .exact h
   .obtain⟨b,off,rfl,_⟩:=hs.2 h;cases i
  subst f
  have k:xs=[]:=Fh (by simpa using hs.1)
  subst k;refine oF 52 14 ?_;refine dX [] [] [0] fun q _ _ d=>?_;exact bK (h:=fun e st=>⟨_,_,⟨e,q.Z⟩,rfl,rfl,⟨_,_,rfl,rfl⟩,st.newR aB aB (d aB aB)⟩)
 .refine aD ?_;refine Ot (el:=52) (sz:=14) aJ aJ aE fun g=>?_;refine Rq 0 14 0 rfl rfl aA ?_;dsimp only[List.set];refine aD ?_;refine jU 0 14 120 n (n':=n) (el:=52) aJ aJ aE rfl rfl rfl (sF aB hs) j aA aA aA aE fun l o=>?_;dsimp only[List.set,dG];refine aD ?_;refine dX [] [] [0] fun q _ _ d=>?_;exact bK (h:=fun e st=>⟨_,_,⟨e,q.Z⟩,rfl,rfl,⟨_,_,rfl,rfl⟩,st.newR aB aB (d aB aB)⟩)
def aWQ{N:cQ}{w0:World}{K:Act->World->Prop}{e:Env}{R:List Piece}{H:List HP}{es:List dU}{rows:List (List Value)}{x:dU}{A:Option Addr}{c:Nat}(h:XK N w0 K e R (qW (es++[x]) (rows++[x.row A c])::H)):XK N w0 K e R (HP.own 36 1 (.slice A x.words.length c) x.words.length (eB x.words)::qW es rows::H):=
 Ch 0 (Φ:=tL 1 A x.words.length (eB x.words)) (hm:=tL.le) rfl (fun _ h=>h) (Ny (X:=nJ (es++[x]) (rows++[x.row A c])) (h3:=nJ.le) (fun p f d=>Rows.app d ⟨rfl,⟨A,c,rfl,f⟩,trivial⟩) h)
def aT2(w:World):(qW [] []).sat (fun _=>False) w:=(trivial:nJ [] [] ⟨w,fun _=>False⟩)
def nJ.one'{es:List dU}{rows:List (List Value)}{p:Piece}(h:nJ es rows p):∀u∈rows.flatten,u.oneCell'=true:=fun u d=>by
 obtain⟨r,j,d⟩:=List.mem_flatten.1 d;obtain⟨i,f⟩:=lA j;obtain⟨e,_,_,A,c,rfl,_⟩:=Rows.at_ h f;simp only[dU.row,fT,pY,or_false] at d;rcases d with rfl | rfl | rfl | rfl | rfl | rfl | rfl | rfl | rfl | rfl | rfl | rfl | rfl | rfl<;>rfl
def aQT{c old:List (List Value)}{r:List Value}{i:Nat}(d:c.length=i)(e:i < old.length):(c++old.drop i).set i r=(c++[r])++old.drop (i+1):=by
 subst d;rw[Yf _ _ (gE _),yC,Ya e,Pq,Mm];rfl
def qB(a:fQ):fQ:={a with op:=if 28<=eC a.op 30 then 28 else a.op,bF:=eC a.bF 4}
def aIx{a:fQ}(h:a.ok):(qB a).ok:=by
 have c:=Bu a.bF 4 aE
 refine⟨?_,h.task,h.kind,h.dev,?_,h.v,h.pr,h.ms,h.id,h.aw,h.od⟩
 .show wJ (if 28<=eC a.op 30 then 28 else a.op)
  split
  .unfold wJ;omega
  .exact h.op
 .show wJ (eC a.bF 4)
  unfold wJ;omega
def aQE{cK:List fQ}(h:∀a∈cK,a.ok):∀a∈cK.map qB,a.ok:=fun a c=>by
 obtain⟨b,d,rfl⟩:=fR.1 c;exact aIx (h b d)
def Ty(a:fQ)(many:Int):Au:=⟨vM (eC a.op 30),eC a.task 3,⟨aAg a,aAh a many,Wc a,a.v⟩,a.v,uB a⟩
def aPY{a:fQ}(c:a.ok)(many:Int):(Ty a many).ok:=⟨c.v,c.v,(aB1 a).1,oL (aB1 a).2 aE⟩
def aIc{x n:Int}(d:0<=x)(c:x < n):eC x n=x:=by
 unfold eC;rw[aC aA,Int.emod_eq_of_lt d c]
def aWC(s:aI)(w:aT)(a:fQ):Ab s w (qB a)=if 28<=eC a.op 30 then w.round s a.v else(w.nE s (Ty a s.aG.length)).2:=by
 have c:=Bu a.bF 4 aE
 have j:uB (qB a)=uB a:=rfl
 by_cases h:28<=eC a.op 30
 .have:(qB a).op=28:=aH h
  unfold Ab;rw[this,aH h,aH aE];rfl
 .have d:(qB a).op=a.op:=aC h
  have e:(qB a).bF=eC a.bF 4:=rfl
  have f:eC (qB a).bF 40=eC a.bF 4:=by rw[e];exact aIc c.1 aA
  have i:eC (qB a).bF 4=eC a.bF 4:=by rw[e];exact aIc c.1 c.2
  unfold Ab;rw[d,aC h,aC (show ¬eC a.op 30=28 by omega)]
  have:pkW (qB a) s.aG.length=Ty a s.aG.length:=by
   unfold pkW Ty Wc;rw[d,f,i,aC (show ¬eC a.bF 4=39 by omega)];rfl
  rw[this]
def aDB{s:aI}(hm:s.made){cK:List fQ}(d:∀a∈cK,a.ok):∀k,k<=cK.length->iK s (k*4) (runN s (cK.map qB) k)
 | 0,_=>aAK hm
 | k+1,hk=>by
  obtain⟨a,c⟩:=get_some (l:=cK) (i:=k) aA;rw[Mh (a:=qB a) (by rw[eO,c];rfl)];exact(aC2 hm (aDB hm d k aA) (aIx (d a (dJ c)))).le aA
def aWB{cK:List fQ}{i k:Nat}{a:fQ}{v:Value}(h:cK[i]? =some a)(c:a.cells[k]? =some v):(cK.flatMap fQ.cells)[i*12+k]? =some v:=by
 have d:k < 12:=by
  have:=(cE.1 c).1
  rwa [fQ.len] at this
 exact(Nh fQ.cells 12 cK (fun _ _=>rfl) i k a h d).trans c
def aW9{w:World}{A:Option Addr}{cK:List fQ}(hs:aO (all w) 12 A cK.length (cK.flatMap fQ.cells)){i:Nat}{a:fQ}(c:cK[i]? =some a):∃b off,A=some ⟨b,off,none⟩/\eL w b (off+i*12) a.cells:=by
 have h:=(cE.1 c).1
 obtain⟨b,off,rfl,e,d⟩:=hs.2 aA;exact⟨b,off,rfl,e,fun j v f=>by rw[wT];exact d _ _ (aWB c f)⟩
def aBD:List Value:=[.int .u8 103,.int .u8 103,.int .u8 103,.int .u8 112,.int .u8 112,.int .u8 114,.int .u8 119,.int .u8 114,.int .u8 119,.int .u8 115,.int .u8 109,.int .u8 109,.int .u8 120]
def aLX(s:aI)(W:aT)(v:Value)(hs:List HP)(_:Piece):Prop:=∃(g f r:Nat) (c:HL),v=pt g/\hs=[fJ g f r c s W]/\iS c s
def aOS(s:aI)(A1 A2 A3 A4:Option Addr)(n1 k1 n2 k2 n3 k3 n4 k4:Nat)(B:Option Addr)(cb:Nat)(cK:List fQ)(w:World)(hW:jH w s A1 n1 A2 n2 A3 n3 A4 n4)(hm:s.made)(hs:aO (all w) 12 B cK.length (cK.flatMap fQ.cells))(C:∀a∈cK,a.ok)(hnb:cK.length<=2000000)(A:gJ (all w)):
  Cz 14 #[.agg #[.slice A1 n1 k1,.slice A2 n2 k2,.slice A3 n3 k3,.slice A4 n4 k4],.slice B cK.length cb] w (fun y w'=>(∃v hs q,y=.returned v/\q.w=w'/\aLX s (runN s (cK.map qB) cK.length) v hs q/\iV w hs q)/\Below w.heap.size w w'):=by
 have Hw:=hm.nv
 obtain rfl:=hW.vO;refine bQ func14 ntmps14 ?_;refine iG fun m=>?_;refine gN (aLJ s) (fun c t=>aNd s A1 A2 A3 A4 _ k1 _ k2 _ k3 _ k4 c (hW.le (t.started aB)) hm) ?_;rintro _ _ R ⟨g,f,r,l,rfl,rfl,p⟩ _;dsimp only[dW,dG];refine Ee (R':=[all w]) aB ?_;refine aF ?_;refine eX fun gT=>?_;refine aF ?_;refine xO (α:=Unit) (fun _=>[(5,pt g)]) (fun _=>[fJ g f r l s (runN s (cK.map qB) cK.length)]) (fun _=>True) ?_ fun _ _=>?_
 .refine wD (α:=Unit) (fun i _=>[(8,iv i),(5,pt g),(1,.slice B cK.length cb),(7,.slice (some ⟨gT,0,none⟩) 13 13),(2,pt m)]) (fun i _=>[fJ g f r l s (runN s (cK.map qB) i),HP.aK gT 5 aBD,HP.aK m 30 [.slice A1 n1 k1,.slice A2 n2 k2,.slice A3 n3 k3,.slice A4 s.aG.length k4]]) (fun _ _=>True) cK.length () trivial fun i _ hi _=>?_
  have x:=aDB hm C i hi
  refine aF ?_;refine cH (t:=23) rfl (fun F=>?_) (fun hge=>?_)
  .have F:i < cK.length:=aA
   obtain⟨a,V⟩:=get_some F
   have d:=C a (dJ V)
   have e:=Mh (s:=s) (cK:=cK.map qB) (n:=i) (a:=qB a) (by rw[eO,V];rfl)
   rw[aWC] at e;obtain⟨b,off,rfl,ka⟩:=aW9 hs V
   have ka1:eL w b (off+i*12) [iv a.op,iv a.task,iv a.kind,iv a.dev,iv a.bF,.int .u32 a.v,iv a.ag,iv a.pr,iv a.ms,iv a.id,iv a.aw,iv a.od]:=ka
   have Y:=Bu a.kind 13 aE
   have b2:=Bu a.dev (s.aG.length+1) aA
   have hk:=aRF Y.1 Y.2
   have M:=Bu a.op 30 aE
   refine aF ?_;refine kK fun H=>?_;refine Ro (α:=Nat) (fun j=>[(10,pt j),(9,pt H),(8,iv i),(5,pt g),(1,.slice (some ⟨b,off,none⟩) cK.length cb),(7,.slice (some ⟨gT,0,none⟩) 13 13),(2,pt m)]) (fun j=>[HP.aK j 44 [.int .u8 (aAg a),iv (aAh a s.aG.length),iv (Wc a),.int .u32 a.v],HP.aK H 100 a.cells,fJ g f r l s (runN s (cK.map qB) i),HP.aK gT 5 aBD,HP.aK m 30 [.slice A1 n1 k1,.slice A2 n2 k2,.slice A3 n3 k3,.slice A4 s.aG.length k4]]) (fun _=>True) ?_ fun j _=>?_
   .refine aFT ?_;refine Ap 3 19 rfl rfl aJ ?_ ?_
    .refine cM (fun c t=>sK _ 13 c d.kind aE) ?_;refine bH ?_;refine kG 4 ?_;refine kG 5 ?_ (bL:=bT rfl (Rd.aK 2 rfl hk));refine Ap 12 19 rfl rfl aJ ?_ ?_
     .refine cM (fun c t=>sK _ (s.aG.length+1) c d.dev aA) ?_;refine bH ?_;refine Ap 15 19 rfl rfl aJ ?_ ?_
      .refine cM (fun c t=>sK _ 4 c d.bF aE) ?_;refine bH ?_;refine kG 18 ?_;refine aR 19 ?_;refine eE fun j=>?_;refine bH ?_;refine aR 20 ?_;refine mO 0 rfl ?_;dsimp only[List.set];refine cT ?_;refine kA ?_;exact eF j
      .refine eE fun j=>?_;refine bH ?_;refine aR 15 ?_;refine cM (fun c t=>sK _ 4 c d.bF aE) ?_;refine bH ?_;refine kG 18 ?_;refine aR 20 ?_;refine mO 0 rfl ?_;dsimp only[List.set];refine cT ?_;refine kA ?_;exact eF j
     .refine eE fun j=>?_;refine bH ?_;refine aR 12 ?_;refine cM (fun c t=>sK _ (s.aG.length+1) c d.dev aA) ?_;refine bH ?_;refine aR 15 ?_;refine cM (fun c t=>sK _ 4 c d.bF aE) ?_;refine bH ?_;refine kG 18 ?_;refine aR 20 ?_;refine mO 0 rfl ?_;dsimp only[List.set];refine cT ?_;refine kA ?_;exact eF j
    .refine eE fun j=>?_;refine bH ?_;refine aR 3 ?_;refine cM (fun c t=>sK _ 13 c d.kind aE) ?_;refine bH ?_;refine kG 4 ?_;refine kG 5 ?_ (bL:=bT rfl (Rd.aK 2 rfl hk));refine aR 12 ?_;refine cM (fun c t=>sK _ (s.aG.length+1) c d.dev aA) ?_;refine bH ?_;refine aR 15 ?_;refine cM (fun c t=>sK _ 4 c d.bF aE) ?_;refine bH ?_;refine kG 18 ?_;refine aR 20 ?_;refine mO 0 rfl ?_;dsimp only[List.set];refine cT ?_;refine kA ?_;exact eF j
   refine aF ?_;refine Ro (α:=Nat×Option Addr×Nat) (fun z=>[(11,pt z.1),(9,pt H),(8,iv i),(5,pt g),(1,.slice (some ⟨b,off,none⟩) cK.length cb),(7,.slice (some ⟨gT,0,none⟩) 13 13),(2,pt m)]) (fun z=>[HP.aK z.1 70 [.int .u8 0,iv (eC a.task 3),.int .u8 (aAg a),iv (aAh a s.aG.length),iv (Wc a),.int .u32 a.v,.int .u32 a.v,.slice z.2.1 (uB a).length z.2.2],Si z.2.1 (uB a),HP.aK H 100 a.cells,fJ g f r l s (runN s (cK.map qB) i),HP.aK gT 5 aBD,HP.aK m 30 [.slice A1 n1 k1,.slice A2 n2 k2,.slice A3 n3 k3,.slice A4 s.aG.length k4]]) (fun _=>True) ?_ fun z _=>?_
   .refine aFT ?_;refine kG 7 ?_ (bL:=nQ rfl (Cl (vs:=[iv a.ag,iv a.pr,iv a.ms,iv a.id,iv a.aw,iv a.od]) 1 rfl rfl));refine Ap 2 10 rfl rfl aJ ?_ ?_
    .refine cM (fun c t=>sK _ 3 c d.task aE) ?_;refine bH ?_;refine Ap 8 10 rfl rfl aJ ?_ ?_
     .refine gN (Xa (uB a)) (fun c t=>aEo a d c) ?_;rintro _ _ R ⟨A1,E,rfl,rfl⟩ _;dsimp only[dW,dG];refine Ee (R':=[all w]) aB ?_;refine bH ?_;refine kG 9 ?_;refine aR 10 ?_;refine eE fun k=>?_;refine bH ?_;refine aR 11 ?_;refine mO 0 rfl ?_;dsimp only[List.set];refine cT ?_;refine kA ?_;exact eF (k,A1,E)
     .refine eE fun k=>?_;refine bH ?_;refine aR 8 ?_;refine gN (Xa (uB a)) (fun c t=>aEo a d c) ?_;rintro _ _ R ⟨A1,E,rfl,rfl⟩ _;dsimp only[dW,dG];refine Ee (R':=[all w]) aB ?_;refine bH ?_;refine kG 9 ?_;refine aR 11 ?_;refine mO 1 rfl ?_;dsimp only[List.set];refine cT ?_;refine kA ?_;exact eF (k,A1,E)
    .refine eE fun k=>?_;refine bH ?_;refine aR 2 ?_;refine cM (fun c t=>sK _ 3 c d.task aE) ?_;refine bH ?_;refine aR 8 ?_;refine gN (Xa (uB a)) (fun c t=>aEo a d c) ?_;rintro _ _ R ⟨A1,E,rfl,rfl⟩ _;dsimp only[dW,dG];refine Ee (R':=[all w]) aB ?_;refine bH ?_;refine kG 9 ?_;refine aR 11 ?_;refine mO 1 rfl ?_;dsimp only[List.set];refine cT ?_;refine kA ?_;exact eF (k,A1,E)
   refine aF ?_;refine cM (fun c t=>sK _ 30 c d.op aE) ?_;obtain⟨o,X⟩:∃o,eC a.op 30=o:=⟨_,rfl⟩
   rw[X] at e M|-
   have J:(Ty a s.aG.length).kind=vM o:=by show vM (eC a.op 30)=_;rw[X]
   refine aF ?_;refine xO (α:=Unit) (fun _=>[(11,pt z.1),(8,iv i),(5,pt g),(1,.slice (some ⟨b,off,none⟩) cK.length cb),(7,.slice (some ⟨gT,0,none⟩) 13 13),(2,pt m)]) (fun _=>[HP.aK z.1 70 [.int .u8 (vM o),iv (eC a.task 3),.int .u8 (aAg a),iv (aAh a s.aG.length),iv (Wc a),.int .u32 a.v,.int .u32 a.v,.slice z.2.1 (uB a).length z.2.2],Si z.2.1 (uB a),fJ g f r l s (runN s (cK.map qB) i),HP.aK gT 5 aBD,HP.aK m 30 [.slice A1 n1 k1,.slice A2 n2 k2,.slice A3 n3 k3,.slice A4 s.aG.length k4]]) (fun _=>o < 28) ?_ fun _ aXI=>?_
   .refine aF ?_;refine dD rfl (fun h=>?_) (fun D=>?_)
    .rw[show vM o=99 by unfold vM;rw[aH h]];refine aF ?_;exact eF () (hg:=aA)
    refine aF ?_;refine dD rfl (fun h=>?_) (fun n1=>?_)
    .rw[show vM o=116 by unfold vM;rw[aC D,aH h]];refine aF ?_;exact eF () (hg:=aA)
    refine aF ?_;refine dD rfl (fun h=>?_) (fun n2=>?_)
    .rw[show vM o=102 by unfold vM;rw[aC D,aC n1,aH h]];refine aF ?_;exact eF () (hg:=aA)
    refine aF ?_;refine dD rfl (fun h=>?_) (fun n3=>?_)
    .rw[show vM o=104 by unfold vM;rw[aC D,aC n1,aC n2,aH h]];refine aF ?_;exact eF () (hg:=aA)
    refine aF ?_;refine dD rfl (fun h=>?_) (fun n4=>?_)
    .rw[show vM o=109 by unfold vM;rw[aC D,aC n1,aC n2,aC n3,aH h]];refine aF ?_;exact eF () (hg:=aA)
    refine aF ?_;refine dD rfl (fun h=>?_) (fun n5=>?_)
    .rw[show vM o=97 by unfold vM;rw[aC D,aC n1,aC n2,aC n3,aC n4,aH h]];refine aF ?_;exact eF () (hg:=aA)
    rw[aH aA] at e;refine aF ?_
    refine gM 3 (fJ g f r l s (runN s (cK.map qB) (i+1))) (fun c G t T O I=>by
     rw[e]
     exact aNc g f r l s (i*4) _ c G hm p x aA a.v d.v (gJ.le A (I _ aB)) T O) ?_
    refine aF ?_;exact oG ()
   rw[aC aA] at e;refine dX [] [1] [0,2,3,4] fun q hq _ _=>?_;obtain⟨G,K,U⟩:=hq 1 _ aB rfl
   have N:aO q 1 z.2.1 (uB a).length (eB (uB a)):=tL.le ⟨q.w,G⟩ q (fun b hb=>⟨U b hb,rfl⟩) K
   refine aF ?_
   refine gM 1 (fJ g f r l s (runN s (cK.map qB) (i+1))) (fun c G t T O I=>by
    rw[e]
    have:=aAJ g f r l s (i*4) _ c G hm p x aA (Ty a s.aG.length) (aPY d _) z.2.1 _ z.2.2 (N.le (I _ aB)) rfl (gJ.le A (I _ aB)) T O
    rw[J] at this
    exact this) ?_
   refine Ee (R':=[all w]) aB ?_;refine aF ?_;exact oG ()
  .obtain rfl:i=cK.length:=by omega
   refine aF ?_;exact eF ()
 refine aF ?_;refine dX [] [] [0] fun q _ _ L=>?_;exact bK (h:=fun c st=>⟨_,_,⟨c,q.Z⟩,rfl,rfl,⟨g,f,r,l,rfl,rfl,p⟩,st.newR aB aB (L aB aB)⟩)
end Go.Proofs.YtmpkkaknjkffpaaGreatDoor
