/- AuditSees, in plain words: what an audit finds of a world's events, of which one is changed. No walk in sight. -/
import Derived.Test.YtmpkkaknjkffpaaGreatDoorRows
import Derived.Test.YtmpkkaknjkffpaaGreatDoorAuditSeesK8
namespace Go.Proofs.YtmpkkaknjkffpaaGreatDoor
set_option linter.all false
set_option maxHeartbeats 4000000
set_option maxRecDepth 20000
open Go.RowKit Go.Proofs.Tryz
variable{w:World}
def dU.ev(e:dU)(A:Option Addr)(c:Nat):Ev:=⟨e.kind,e.task,e.c.k,e.c.d,e.c.r,e.c.v,e.err,e.res,e.an.id,e.an.dev,e.an.dead,e.an.val,e.alive,A,c,e.words⟩
def rN:List dU->List Ev->Prop
 | [],[]=>True
 | e::es,x::xs=>(∃A c,x=e.ev A c)/\rN es xs
 | _,_=>False
def rN.len:∀{es:List dU} {xs:List Ev},rN es xs->xs.length=es.length
 | [],[],_=>rfl
 | [],_::_,h=>h.elim
 | _::_,[],h=>h.elim
 | _::_,_::_,h=>by rw[mK,mK,rN.len h.2]
def rN.split:∀{es:List dU} {xs:List Ev} {k:Nat} {x:Ev},rN es xs->xs[k]? =some x->∃e A c,es[k]? =some e/\x=e.ev A c/\es=es.take k++e::es.drop (k+1)/\xs=xs.take k++x::xs.drop (k+1)/\rN (es.take k) (xs.take k)/\rN (es.drop (k+1)) (xs.drop (k+1))
 | [],[],_,_,_,h=>by simp at h
 | [],_::_,_,_,h,_=>h.elim
 | _::_,[],_,_,h,_=>h.elim
 | e::es,y::ys,0,x,h,hx=>by
  obtain⟨A,c,rfl⟩:=h.1;simp at hx;subst hx;exact⟨e,A,c,rfl,rfl,aB,aB,trivial,h.2⟩
 | e::es,y::ys,k+1,x,h,hx=>by
  obtain⟨n,A,c,l,j,d,i,f,m⟩:=rN.split h.2 (by simpa using hx);exact⟨n,A,c,by simpa using l,j,by rw[Fe,Mn,sZ,<-d],by rw[Fe,Mn,sZ,<-i],⟨h.1,f⟩,m⟩
def aOq{α:Type}{l:List α}{k:Nat}(h:k < l.length)(y:α):l.set k y=l.take k++y::l.drop (k+1):=by
 rw[aDM,aH h]
def aHy:∀{es:List dU} {xs:List Ev},rN es xs->tM es->∀x∈xs,mB x=false
 | [],[],_,_=>fun _ h=>by cases h
 | [],_::_,h,_=>h.elim
 | _::_,[],h,_=>h.elim
 | e :: es, y :: ys, h, hs => fun x hx => by
  rcases fT.1 hx with rfl | hx
  .obtain⟨A,c,rfl⟩:=h.1;unfold mB
   by_cases d:e.kind=100
   .obtain⟨i,f⟩:=hs e aB d
    show(e.kind==100&&(e.an.dead|| !e.alive))=false
    rw[i,f];simp
   .show(e.kind==100&&_)=false
    rw[show(e.kind==100)=false by simpa using d];rfl
  .exact aHy h.2 (fun k j=>hs k (vL _ j)) x hx
def aEw(x:Ev)(l:List Ev):gG (x::l)=(gG [x]).add (gG l):=aBA [x] l
def aEv:∀{l:List Ev},(∀x∈l,mB x=false)->(gG l).dead=0
 | [],_=>rfl
 | x::l,h=>by
  rw[aEw]
  show(gG [x]).dead+(gG l).dead=0
  rw[aEv fun y hy=>h y (vL _ hy)]
  have:=aUT [x]
  rw[aH1 (by simpa using h x aB)] at this
  have:(gG [x]).dead=0:=by simpa using this
  omega
def aO8{a b:List Ev}{y:Ev}(h:∀x∈a++b,mB x=false)(hy:mB y=true):wQ (a++y::b)=a.length/\(gG (a++y::b)).dead=1:=by
 constructor
 .refine aH0 (k:=a.length) aB (by simpa using hy) fun j d=>?_;rw[List.getElem_append_left d];exact h _ (List.mem_append_left _ (Mu d))
 .rw[aBA,aEw]
  show(gG a).dead+((gG [y]).dead+(gG b).dead)=1
  rw[aEv fun x c=>h x (List.mem_append_left _ c),aEv fun x c=>h x (List.mem_append_right _ c)]
  have e:y.kind=100:=by
   unfold mB at hy;simp only[jY,beq_iff_eq] at hy;exact hy.1
  have:(gG [y]).dead=1:=by
   show(Rp.zero.step y).dead=1
   unfold Rp.step;rw[aC aA,aC aA,aH e,aH hy];rfl
  omega
def aDJ{s : aI} : ∀ {es : List dU} {xs : List Ev}, rN es xs -> ∀ {o k : Option (List Int)} {st : Bool × Int}, sW s o es = some k -> st.1 = o.isSome -> (∀ l, o = some l -> st.2 = l.headD 0) -> ∃ d, vI st xs = some d /\ d.1 = k.isSome /\ ∀ l, k = some l -> d.2 = l.headD 0
 | [],[],_,o,k,st,j,h1,h2=>by
  cases j;exact⟨st,rfl,h1,h2⟩
 | [],_::_,h,_,_,_,_,_,_=>h.elim
 | _::_,[],h,_,_,_,_,_,_=>h.elim
 | e :: es, y :: ys, h, o, k, st, j, h1, h2 => by
  obtain⟨A,c,rfl⟩:=h.1
  have j:(uN s o e).bind (fun n=>sW s n es)=some k:=j
  cases f:uN s o e with
  | none=>rw[f] at j;cases j
  | some n =>
   rw[f] at j
   have r : ∃ i, sH st (e.ev A c) = some i /\ i.1 = n.isSome /\ ∀ l, n = some l -> i.2 = l.headD 0 := by
    unfold uN at f;unfold sH
    show ∃i,(if e.kind=115 then _ else if e.kind=114 then _ else _)=some i/\_
    by_cases m:e.kind=115
    .rw[aH m] at f|-;cases o with
     | some l=>cases f
     | none=>
      cases f;refine⟨(true,e.words.headD 0),?_,rfl,fun l t=>by cases t;rfl⟩;rw[aC (by rw[h1];simp)];rfl
    .rw [aC m] at f |-
     by_cases p:e.kind=114
     .rw [aH p] at f |-;cases o with
      | none=>cases f
      | some l =>
       dsimp only at f;split at f
       .rename_i x
        cases f;refine⟨(false,st.2),?_,rfl,fun l t=>by cases t⟩;rw[aH];refine⟨by rw[h1];rfl,?_,?_⟩
        .show e.words.length≠0
         omega
        .show e.words.headD 0=st.2
         rw[h2 l rfl];exact x.2.1
       .cases f
     .rw[aC p] at f|-;cases f;exact⟨st,rfl,h1,h2⟩
   obtain⟨i,m,p,w⟩:=r;obtain⟨d,r1,r2,z⟩:=aDJ h.2 j p w;refine⟨d,?_,r2,z⟩
   show(match sH st (e.ev A c) with | none=>none | some d=>vI d ys)=_
   rw[m];exact r1
def aO4{s:aI}{d:List dU}{a b:List Ev}{e:dU}{o:Option (List Int)}(p:rN d a)(h:sW s none (d++[e])=some o)(hk:e.kind=114){y:Ev}(hy:y.kind=114)(hw:y.ws.length=0\/y.ws.headD 0≠e.words.headD 0):wR (a++y::b)=a.length:=by
 rw[Mi] at h;cases c:sW s none d with
 | none=>rw[c] at h;cases h
 | some o1 =>
  rw[c] at h;obtain⟨st,r1,r2,m⟩:=aDJ p c (st:=(false,0)) rfl (fun _ h=>by cases h)
  have h:(uN s o1 e).bind (fun k=>some k)=some o:=h
  unfold wR;rw[aDK r1]
  .simp
  .unfold sH;rw[aC aA,aH hy,aC];rintro⟨f,n,i⟩;unfold uN at h;rw[aC aA,aH hk] at h;cases o1 with
   | none=>rw[r2] at f;cases f
   | some l =>
    dsimp only at h;split at h
    .rename_i j
     rcases hw with hw | hw
     .exact n hw
     .refine hw ?_;rw[i,m l rfl];exact j.2.1.symm
    .cases h
def aO5{s:aI}{d:List dU}{a b:List Ev}{e:dU}{o:Option (List Int)}(j:rN d a)(h:sW s none (d++[e])=some o)(hk:e.kind=115){y:Ev}(hy:y.kind=115):wR ((a++[y])++y::b)=a.length+1:=by
 rw[Mi] at h;cases c:sW s none d with
 | none=>rw[c] at h;cases h
 | some o1 =>
  rw[c] at h;obtain⟨st,r1,r2,k⟩:=aDJ j c (st:=(false,0)) rfl (fun _ h=>by cases h)
  have h:(uN s o1 e).bind (fun i=>some i)=some o:=h
  have q:sH st y=some (true,y.ws.headD 0):=by
   unfold uN at h;rw[aH hk] at h;unfold sH;cases o1 with
   | some l=>cases h
   | none=>rw[aH hy,aC (by rw[r2];simp)]
  have f:vI (false,0) (a++[y])=some (true,y.ws.headD 0):=by
   rw[aHN,r1];exact q
  unfold wR;rw[aDK f]
  .simp
  .unfold sH;rw[aH hy,aH rfl]
def aGX(e:Ev)(l:List Ev)(t:Int):lM (e::l) t=lM l t+(if e.task=t then(if e.kind=98 then 1 else -1) else 0):=by
 have:∀(l:List Ev) (n m:Int),l.foldl (fun n e=>if e.task=t then(if e.kind=98 then n+1 else n - 1) else n) (n+m)=l.foldl (fun n e=>if e.task=t then(if e.kind=98 then n+1 else n - 1) else n) n+m:=by
  intro l
  induction l with
  | nil=>intro n m;rfl
  | cons x l ih=>
   intro n m;rw[pW,pW,<-ih]
   congr 1
   split
   .split<;>omega
   .rfl
 unfold lM;rw[pW]
 have h:=this l 0 (if e.task=t then(if e.kind=98 then 1 else -1) else 0)
 rw[<-h]
 congr 1
 split
 .split<;>omega
 .omega
def aCh(c:Option (Int×mW))(t:Int):Int:=match c with | some q=>if q.1=t then 1 else 0 | none=>0
def aGW : ∀ {es : List dU} {xs : List Ev}, rN es xs -> ∀ {c n : Option (Int × mW)}, sM c es = some n -> (∀ q, c = some q -> 0 <= q.1 /\ q.1 <= 2) -> ∀ t, lM (xs.filter gD) t = aCh n t - aCh c t
 | [],[],_,c,n,h,_,t=>by
  cases h
  show(0:Int)=_
  omega
 | [],_::_,h,_,_,_,_,_=>h.elim
 | _::_,[],h,_,_,_,_,_=>h.elim
 | e :: es, y :: ys, h, c, n, k, hc, t => by
  obtain⟨A,i,rfl⟩:=h.1
  have k:(qS c e).bind (fun o=>sM o es)=some n:=k
  cases d:qS c e with
  | none=>rw[d] at k;cases k
  | some o =>
   rw[d] at k
   have w : (∀ q, o = some q -> 0 <= q.1 /\ q.1 <= 2) /\ ∀ l : List Ev, lM ((if gD (e.ev A i) = true then [e.ev A i] else []) ++ l) t = lM l t + (aCh o t - aCh c t) := by
    unfold qS at d
    by_cases f:e.kind=98
    .rw [aH f] at d;cases c with
     | some q=>cases d
     | none =>
      dsimp only at d;split at d
      .rename_i r
       cases d;refine⟨(fun q p=>by cases p;exact r),fun l=>?_⟩
       have m:gD (e.ev A i)=true:=by
        show((e.kind==98||e.kind==101)&&decide (0<=e.task/\e.task < 3))=true
        rw[f,eM aA];rfl
       rw[aH m,List.singleton_append,aGX]
       show _+(if e.task=t then(if e.kind=98 then 1 else -1) else 0)=_+((if e.task=t then 1 else 0) - 0)
       rw[aH f];omega
      .cases d
    .rw [aC f] at d
     by_cases j:e.kind=101
     .rw [aH j] at d;cases c with
      | none=>cases d
      | some q =>
       dsimp only at d;split at d
       .rename_i r
        cases d
        have p:=hc q rfl
        refine⟨(fun q p=>by cases p),fun l=>?_⟩
        have m:gD (e.ev A i)=true:=by
         show((e.kind==98||e.kind==101)&&decide (0<=e.task/\e.task < 3))=true
         rw[j,eM aA];rfl
        rw[aH m,List.singleton_append,aGX]
        show _+(if e.task=t then(if e.kind=98 then 1 else -1) else 0)=_+(0 - (if q.1=t then 1 else 0))
        rw[aC f,r.1];split<;>omega
       .cases d
     .rw [aC j] at d
      have m:gD (e.ev A i)=false:=by
       show((e.kind==98||e.kind==101)&&decide (0<=e.task/\e.task < 3))=false
       rw[show(e.kind==98)=false by simpa using f,show(e.kind==101)=false by simpa using j];rfl
      have same:o=c:=by
       split at d
       .cases c with
        | none=>cases d
        | some q=>
         dsimp only at d;split at d
         .exact(sJ d).symm
         .cases d
       .exact(sJ d).symm
      subst same;refine⟨hc,fun l=>?_⟩;rw[m,aC aB,sI];omega
   obtain⟨f,j⟩:=w
   have ih:=aGW h.2 k f t
   have:(e.ev A i::ys).filter gD=(if gD (e.ev A i)=true then[e.ev A i] else[])++ys.filter gD:=by
    rw[To];split<;>rfl
   rw[this,j,ih];omega
def aO7{es:List dU}{xs:List Ev}{e:dU}{A:Option Addr}{c:Nat}{q:Option (Int×mW)}(h:rN es xs)(d:sM none (es++[e])=some q)(hk:e.kind=98):Px (xs++[e.ev A c])=[e.task]:=by
 have hw:rN (es++[e]) (xs++[e.ev A c]):=by
  have:∀{es:List dU} {xs:List Ev},rN es xs->rN (es++[e]) (xs++[e.ev A c]):=by
   intro es
   induction es with
   | nil=>
    intro xs h;cases xs with
    | nil=>exact⟨⟨A,c,rfl⟩,trivial⟩
    | cons _ _=>exact h.elim
   | cons e1 es ih=>
    intro xs h;cases xs with
    | nil=>exact h.elim
    | cons _ _=>exact⟨h.1,ih h.2⟩
  exact this h
 have m:=aGW hw d (fun _ h=>by cases h)
 have k:q=some (e.task,e.c)/\0<=e.task/\e.task<=2:=by
  rw[Ub] at d;cases i:sM none es with
  | none=>rw[i] at d;cases d
  | some c1 =>
   rw[i] at d
   have d:(qS c1 e).bind (fun l=>some l)=some q:=d
   unfold qS at d;rw[aH hk] at d;cases c1 with
   | some _=>cases d
   | none =>
    dsimp only at d;split at d
    .rename_i j
     exact⟨(sJ d).symm,j⟩
    .cases d
 obtain⟨rfl,o,n⟩:=k
 have hd:∀t:Int,decide (0 < lM ((xs++[e.ev A c]).filter gD) t)=decide (e.task=t):=fun t=>by
  rw[m t]
  show decide (0 < (if e.task=t then(1:Int) else 0) - 0)=_
  by_cases f:e.task=t
  .rw[aH f,eM f];rfl
  .rw[aC f,gW f];rfl
 unfold Px;simp only[hd];obtain f | f | f:e.task=0\/e.task=1\/e.task=2:=by omega
 .rw[f];rfl
 .rw[f];rfl
 .rw[f];rfl
structure Cj(x:sB):Prop where
 nn:∀t,T3 t->∀i,0<=x.h t i
 cnt:∀i:Nat,x.h 0 i+x.h 1 i+x.h 2 i=gO x.c.l (i:Int)
 c7:∀i:Nat,gO x.c.l (i:Int)<=7
 la:∀t,T3 t->x.last t≠2
def aOZ:Cj Dc:=⟨fun _ _ _=>Br 0,fun _=>rfl,fun _=>(by decide:(0:Int)<=7),fun _ _=>(by decide:(0:Int)≠2)⟩
section
variable{s:aI}{x:sB}{t:Nat}{c:mW}
def Cj.h7(h:Cj x)(c:T3 t)(i:Nat):x.h t i<=7:=by
 have j:=h.nn 0 (.inl rfl) i
 have d:=h.nn 1 (.inr (.inl rfl)) i
 have k:=h.nn 2 (.inr (.inr rfl)) i
 have f:=h.cnt i
 have e:=h.c7 i
 rcases c with rfl | rfl | rfl<;>omega
def Cj.g0(h:Cj x)(i:Nat):0<=gO x.c.l (i:Int):=by
 have f:=h.nn 0 (.inl rfl) i
 have d:=h.nn 1 (.inr (.inl rfl)) i
 have j:=h.nn 2 (.inr (.inr rfl)) i
 have e:=h.cnt i
 omega
def aTs(e:Nat)(c:Cn)(d:Int):(lC e c d).1≠2/\(mS e c d).1≠2/\(qF c).1≠2/\(qG c).1≠2:=by
 unfold lC mS qF qG;refine⟨?_,?_,?_,?_⟩<;>repeat' split
 all_goals simp
def aTD(h:Cj x)(r:T3 t):(iH s x t c).1≠2/\(((iH s x t c).2.1.l=x.c.l/\(iH s x t c).2.2=x.h)\/
  ∃(d:Nat) (k:Int),c.d=(d:Int)/\d < s.aG.length/\(iH s x t c).2.1.l=Db x.c.l d (gO x.c.l d+k)/\(iH s x t c).2.2=Jq x.h t d (x.h t d+k)/\0<=x.h t d+k/\gO x.c.l d+k<=7):=by
 obtain⟨E,C,A,z⟩:=aTs s.aG.length x.c c.d;unfold iH
 by_cases o:c.k=103
 .rw[aH o]
  by_cases e:(lC s.aG.length x.c c.d).1≠0
  .rw[aH e];exact⟨E,.inl ⟨rfl,rfl⟩⟩
  .rw[aC e]
   have e:=nO e
   have hd:=aAf e
   obtain⟨d,f⟩:∃d:Nat,c.d=(d:Int):=⟨c.d.toNat,aA⟩
   rw[f] at e|-;obtain⟨_,F,B,D,j⟩:=aKF e (h.g0 d);rw[j];exact⟨(by decide:(0:Int)≠2),.inr ⟨d,1,rfl,aA,rfl,by rw[dL],by have:=h.nn t r d;omega,aA⟩⟩
 rw[aC o]
 by_cases y:c.k=112
 .rw[aH y]
  by_cases m:bJ s.aG.length c.d=false
  .rw[aH m];exact⟨(by decide:(4:Int)≠2),.inl ⟨rfl,rfl⟩⟩
  rw[aC m]
  by_cases i:x.h t c.d.toNat=0
  .rw[aH i];exact⟨(by decide:(6:Int)≠2),.inl ⟨rfl,rfl⟩⟩
  rw[aC i]
  by_cases e:(mS s.aG.length x.c c.d).1≠0
  .rw[aH e];exact⟨C,.inl ⟨rfl,rfl⟩⟩
  .rw[aC e]
   have e:=nO e
   have n:bJ s.aG.length c.d=true:=by simpa using m
   have hd:=eV n
   obtain⟨d,f⟩:∃d:Nat,c.d=(d:Int):=⟨c.d.toNat,aA⟩
   rw[f] at e i|-;rw[dL] at i;obtain⟨_,F,B,D,j⟩:=aKv e (h.c7 d);rw[j];exact⟨(by decide:(0:Int)≠2),.inr ⟨d,-1,rfl,aA,rfl,by rw[dL];rfl,by have:=h.nn t r d;omega,by have:=h.c7 d;omega⟩⟩
 rw[aC y]
 by_cases p:c.k=115
 .rw[aH p];refine⟨A,.inl ⟨?_,rfl⟩⟩;unfold qF;split<;>rfl
 rw[aC p]
 by_cases w:c.k=109
 .rw[aH w];refine⟨z,.inl ⟨?_,rfl⟩⟩;unfold qG;split<;>rfl
 rw[aC w];refine⟨?_,.inl ⟨rfl,rfl⟩⟩
 show(if _ then(4:Int) else if _ then 6 else 0)≠2
 split
 .decide
 .split<;>decide
def Cj.begin(h:Cj x)(w:T3 t):Cj (We s x t c):=by
 obtain⟨z,e⟩:=aTD (s:=s) (c:=c) h w
 have j:∀i,T3 i->(We s x t c).last i≠2:=fun i o=>by
  show(if i=t then(iH s x t c).1 else x.last i)≠2
  split
  .exact z
  .exact h.la i o
 rcases e with⟨f,m⟩ | ⟨d,k,_,_,f,m,y,A⟩
 .refine⟨fun i o n=>?_,fun n=>?_,fun n=>?_,j⟩
  .show 0<=(iH s x t c).2.2 i n
   rw[m];exact h.nn i o n
  .show(iH s x t c).2.2 0 n+(iH s x t c).2.2 1 n+(iH s x t c).2.2 2 n=gO (iH s x t c).2.1.l n
   rw[f,m];exact h.cnt n
  .show gO (iH s x t c).2.1.l n<=7
   rw[f];exact h.c7 n
 .refine⟨fun i o n=>?_,fun n=>?_,fun n=>?_,j⟩
  .show 0<=(iH s x t c).2.2 i n
   rw[m];unfold Jq;split
   .exact y
   .exact h.nn i o n
  .show(iH s x t c).2.2 0 n+(iH s x t c).2.2 1 n+(iH s x t c).2.2 2 n=gO (iH s x t c).2.1.l n
   rw[f,m,Zr]
   have:=h.cnt n
   unfold Jq
   by_cases r:n=d
   .subst r;rw[aH rfl];rcases w with rfl | rfl | rfl<;>simp<;>omega
   .have p:¬((n:Int)=(d:Int)):=aA
    simp only[r,p,and_false,if_false];exact this
  .show gO (iH s x t c).2.1.l n<=7
   rw[f,Zr];split
   .exact A
   .exact h.c7 n
def aS6{l:List Int}(hl:l.length=18){c d e:Nat}{v:Int}(i:T3 t)(f:T3 c)(hd:d < 6)(j:e < 6):xE (l.set (t*6+d) v) c e=if c=t/\e=d then v else xE l c e:=by
 unfold xE;rw[gX]
 by_cases h:c=t/\e=d
 .obtain⟨rfl,rfl⟩:=h;rw[aH rfl,aH (by rcases i with rfl | rfl | rfl<;>omega),aH ⟨rfl,rfl⟩];rfl
 .rw[aC (fun k=>h (by rcases i with rfl | rfl | rfl<;>rcases f with rfl | rfl | rfl<;>omega)),aC h]
def aTC{σ:Je}(h:Cj x)(n:T3 t)(hl:σ.h.length=18)(B:σ.c=x.c)(f:∀i,T3 i->∀d,d < 6->xE σ.h i d=x.h i d)(hk:uC c.k)(G:s.aG.length<=6):
  (kT s.aG σ t c.k c.d c.r).1=(iH s x t c).1/\(kT s.aG σ t c.k c.d c.r).2.c=(iH s x t c).2.1/\∀i,T3 i->∀d,d < 6->xE (kT s.aG σ t c.k c.d c.r).2.h i d=(iH s x t c).2.2 i d:=by
 obtain⟨H,o⟩:=σ;dsimp only at hl B f;subst B
 have up:∀{d:Nat} {k:Int},d < 6-> -1<=k/\k<=1->∀i,T3 i->∀w,w < 6->xE (o.set (t*6+d) (IntKind.i64.wrap (xE o t d+k))) i w=Jq x.h t d (x.h t d+k) i w:=fun {d k} hd hk i ht' w hd'=>by
  have y:=h.nn t n d
  have h7:=h.h7 n d
  rw[aS6 hl n ht' hd hd',f t n d hd,qM aA];unfold Jq;split
  .rfl
  .exact f i ht' w hd'
 have acc:c.k=114\/c.k=119->(kT s.aG ⟨x.c,o⟩ t c.k c.d c.r).1=(iH s x t c).1/\(kT s.aG ⟨x.c,o⟩ t c.k c.d c.r).2.c=(iH s x t c).2.1/\∀i,T3 i->∀d,d < 6->xE (kT s.aG ⟨x.c,o⟩ t c.k c.d c.r).2.h i d=(iH s x t c).2.2 i d:=fun e=>by
  have A:(¬(0<=c.d/\c.d < s.aG.length)\/c.r < 0\/(Pg s.aG c.d.toNat:Int)<=c.r)↔(bJ s.aG.length c.d=false\/c.r < 0\/De s c.d<=c.r):=by
   have E:bJ s.aG.length c.d=false↔¬(0<=c.d/\c.d < s.aG.length):=by
    unfold bJ;exact decide_eq_false_iff_not
   have D:(Pg s.aG c.d.toNat:Int)=De s c.d:=by
    unfold Pg De;cases s.aG[c.d.toNat]? <;>rfl
   rw[E,D]
  unfold kT iH;rw[aC (show ¬c.k=103 by omega),aC (show ¬c.k=112 by omega),aC (show ¬c.k=115 by omega),aC (show ¬c.k=109 by omega),aH e,aC (show ¬c.k=103 by omega),aC (show ¬c.k=112 by omega),aC (show ¬c.k=115 by omega),aC (show ¬c.k=109 by omega)]
  by_cases p:bJ s.aG.length c.d=false\/c.r < 0\/De s c.d<=c.r
  .rw[aH p,aH (A.2 p)];exact⟨rfl,rfl,f⟩
  .have m:bJ s.aG.length c.d=true:=by
    cases C:bJ s.aG.length c.d with
    | true=>rfl
    | false=>exact absurd (.inl C) p
   have hd:=eV m
   rw[aC p,aC (fun f=>p (A.1 f))];dsimp only;rw[f t n c.d.toNat aA];split
   .exact⟨rfl,rfl,f⟩
   .exact⟨rfl,rfl,f⟩
 rcases hk with e | e | e | e | e | e
 .unfold kT iH;rw[aH e,aH e]
  by_cases l:(lC s.aG.length x.c c.d).1=0
  .have hd:=aAf l
   have j:¬(lC s.aG.length x.c c.d).1≠0:=fun h=>h l
   rw[aC j];dsimp only;rw[aH l];exact⟨l,rfl,up aA aA⟩
  .have j:(lC s.aG.length x.c c.d).1≠0:=l
   rw[aH j];dsimp only;rw[aC l];exact⟨rfl,aKE l,f⟩
 .unfold kT iH;rw[aC (show ¬c.k=103 by omega),aH e,aC (show ¬c.k=103 by omega),aH e]
  by_cases z:bJ s.aG.length c.d=false
  .have:¬(0<=c.d/\c.d < s.aG.length):=Tr z
   rw[aH z,aH this];exact⟨rfl,rfl,f⟩
  have m:bJ s.aG.length c.d=true:=by simpa using z
  have hd:=eV m
  rw[aC z,aC (fun F=>F hd)];dsimp only;rw[f t n c.d.toNat aA]
  by_cases y:x.h t c.d.toNat=0
  .rw[aH y,aH y];exact⟨rfl,rfl,f⟩
  rw[aC y,aC y]
  by_cases l:(mS s.aG.length x.c c.d).1=0
  .have j:¬(mS s.aG.length x.c c.d).1≠0:=fun h=>h l
   rw[aC j];dsimp only;rw[aH l];refine⟨l,rfl,?_⟩
   have:=up (d:=c.d.toNat) (k:= -1) aA aA
   rw[f t n c.d.toNat aA] at this;exact this
  .have j:(mS s.aG.length x.c c.d).1≠0:=l
   rw[aH j];dsimp only;rw[aC l];exact⟨rfl,aKu l,f⟩
 .exact acc (.inl e)
 .exact acc (.inr e)
 .unfold kT iH;rw[aC (show ¬c.k=103 by omega),aC (show ¬c.k=112 by omega),aH e,aC (show ¬c.k=103 by omega),aC (show ¬c.k=112 by omega),aH e];exact⟨rfl,rfl,f⟩
 .unfold kT iH;rw[aC (show ¬c.k=103 by omega),aC (show ¬c.k=112 by omega),aC (show ¬c.k=115 by omega),aH e,aC (show ¬c.k=103 by omega),aC (show ¬c.k=112 by omega),aC (show ¬c.k=115 by omega),aH e];exact⟨rfl,rfl,f⟩
end
structure Mat(σ:Ay)(x:sB):Prop where
 l18:σ.x.h.length=18
 l3:σ.last.length=3
 c:σ.x.c=x.c
 h:∀t',T3 t'->∀d,d < 6->xE σ.x.h t' d=x.h t' d
 la:∀t',T3 t'->σ.last[t']?.getD 0=x.last t'
def aRn:Mat aDU Dc:=by
 refine⟨rfl,rfl,rfl,fun t c d hd=>?_,fun t c=>?_⟩
 .show((List.replicate 18 (0:Int))[t*6+d]?).getD 0=0
  rw[zJ];split<;>rfl
 .rcases c with rfl | rfl | rfl<;>rfl
def zM(aG:List bR):Ay->List Ev->Option Ay
 | σ,[]=>some σ
 | σ,e::r=>if gD e=true then(if Di σ e then none else zM aG (uP aG σ e) r) else zM aG σ r
def aIn{s : aI}(N : s.aG.length <= 6) : ∀ {es : List dU} {xs : List Ev}, rN es xs -> ∀ {x x' : sB} {c C : Option (Int × mW)} {σ : Ay}, tZ s x es = some x' -> sM c es = some C -> (∀ q, c = some q -> 0 <= q.1 /\ q.1 <= 2) -> Mat σ x -> Cj x -> ∃ E, zM s.aG σ xs = some E /\ Mat E x' /\ Cj x' /\ ∀ q, C = some q -> 0 <= q.1 /\ q.1 <= 2
 | [],[],_,x,x',c,C,σ,o,m,hc,hM,hI=>by
  cases o;cases m;exact⟨σ,rfl,hM,hI,hc⟩
 | [],_::_,h,_,_,_,_,_,_,_,_,_,_=>h.elim
 | _::_,[],h,_,_,_,_,_,_,_,_,_,_=>h.elim
 | e :: es, y :: ys, h, x, x', c, C, σ, o, m, hc, hM, hI => by
  obtain⟨A,j,rfl⟩:=h.1
  have o:(uQ s x e).bind (fun H=>tZ s H es)=some x':=o
  have m:(qS c e).bind (fun D=>sM D es)=some C:=m
  cases i:uQ s x e with
  | none=>rw[i] at o;cases o
  | some H=>
  cases f:qS c e with
  | none=>rw[f] at m;cases m
  | some D=>
  rw[i] at o;rw[f] at m
  have M : (∀ q, D = some q -> 0 <= q.1 /\ q.1 <= 2) /\ ∃ J, Mat J H /\ Cj H /\ ∀ r, zM s.aG σ (e.ev A j :: r) = zM s.aG J r := by
   by_cases l:e.kind=98
   .unfold qS at f;rw[aH l] at f;cases c with
    | some q=>cases f
    | none =>
     dsimp only at f;split at f
     .rename_i O
      unfold uQ at i;rw[aH l] at i;split at i
      .rename_i p
       cases f;cases i
       have R:T3 e.task.toNat:=by unfold T3;omega
       refine⟨(fun q G=>by cases G;exact O),uP s.aG σ (e.ev A j),?_,hI.begin R,fun r=>?_⟩
       .have t:uP s.aG σ (e.ev A j)=⟨(kT s.aG σ.x e.task.toNat e.c.k e.c.d e.c.r).2,σ.last.set e.task.toNat (kT s.aG σ.x e.task.toNat e.c.k e.c.d e.c.r).1⟩:=aH l
        obtain⟨Z,U,Y⟩:=aTC (s:=s) (c:=e.c) hI R hM.l18 hM.c hM.h p N;rw[t];refine⟨by show(kT _ _ _ _ _ _).2.h.length=18;rw[aJS];exact hM.l18,by show(List.set _ _ _).length=3;rw[pJ];exact hM.l3,U,Y,fun B I=>?_⟩
        show((σ.last.set e.task.toNat (kT s.aG σ.x e.task.toNat e.c.k e.c.d e.c.r).1)[B]?).getD 0=(if B=e.task.toNat then(iH s x e.task.toNat e.c).1 else x.last B)
        rw[Z,gX]
        by_cases F:e.task.toNat=B
        .rw[aH F,aH F.symm,aH (by have:=hM.l3;omega)];rfl
        .rw[aC F,aC (fun X=>F X.symm)];exact hM.la B I
       .show(if gD (e.ev A j)=true then(if Di σ (e.ev A j) then none else zM s.aG (uP s.aG σ (e.ev A j)) r) else zM s.aG σ r)=_
        have t:gD (e.ev A j)=true:=by
         show((e.kind==98||e.kind==101)&&decide (0<=e.task/\e.task < 3))=true
         rw[l,eM aA];rfl
        rw[aH t,aC (fun w=>w.1 l)]
      .cases i
     .cases f
   .by_cases n:e.kind=101
    .unfold qS at f;rw[aC l,aH n] at f;cases c with
     | none=>cases f
     | some q =>
      dsimp only at f;split at f
      .rename_i O
       unfold uQ at i;rw[aC l,aH n] at i;split at i
       .cases i
       .rename_i z
        cases f;cases i
        have G:=hc q rfl
        refine⟨(fun q G=>by cases G),σ,hM,hI,fun r=>?_⟩
        show(if gD (e.ev A j)=true then(if Di σ (e.ev A j) then none else zM s.aG (uP s.aG σ (e.ev A j)) r) else zM s.aG σ r)=_
        have t:gD (e.ev A j)=true:=by
         show((e.kind==98||e.kind==101)&&decide (0<=e.task/\e.task < 3))=true
         rw[n,eM aA];rfl
        have L:Qf σ (e.ev A j)=x.last e.task.toNat:=hM.la e.task.toNat (by unfold T3;omega)
        have K:uP s.aG σ (e.ev A j)=σ:=aC l
        rw[aH t,aC,K];intro w;refine z ?_
        have w:=w.2
        rw[L] at w;exact w
      .cases f
    .unfold uQ at i;rw[aC l,aC n] at i;split at i
     .cases i
      have t:gD (e.ev A j)=false:=by
       show((e.kind==98||e.kind==101)&&decide (0<=e.task/\e.task < 3))=false
       rw[show(e.kind==98)=false by simpa using l,show(e.kind==101)=false by simpa using n];rfl
      have same:D=c:=by
       unfold qS at f;rw[aC l,aC n] at f;split at f
       .cases c with
        | none=>cases f
        | some q=>
         dsimp only at f;split at f
         .exact(sJ f).symm
         .cases f
       .exact(sJ f).symm
      subst same;refine⟨hc,σ,hM,hI,fun r=>?_⟩
      show(if gD (e.ev A j)=true then _ else zM s.aG σ r)=_
      rw[aC (by rw[t];simp)]
     .cases i
  obtain⟨l,J,n,T,V⟩:=M;obtain⟨E,r1,r2⟩:=aIn N h.2 o m l n T;exact⟨E,by rw[V];exact r1,r2⟩
def aO3(e:Ev):dZ [e]=if gD e=true then[e] else[]:=by
 have c:mH [e] 0=gD e:=rfl
 unfold dZ jK;rw[show List.range [e].length=[0] from rfl,To,c];split<;>rfl
def aOz{e:Ev}(h:gD e=true):jK [e]=[0]:=by
 have c:mH [e] 0=gD e:=rfl
 unfold jK;rw[show List.range [e].length=[0] from rfl,To,c,aH h];rfl
def aHw(e:Ev)(r:List Ev):dZ (e::r)=(if gD e=true then[e] else[])++dZ r:=by
 rw[show e::r=[e]++r from rfl,aHx,aO3]
def aEc{aG:List bR}:∀{a:List Ev} {σ c:Ay},zM aG σ a=some c->(dZ a).foldl (uP aG) σ=c/\∀(j:Nat) (e:Ev),(dZ a)[j]? =some e->¬Di (((dZ a).take j).foldl (uP aG) σ) e
 | [],σ,c,h=>by
  cases h;exact⟨rfl,fun j e h=>by simp[dZ,jK] at h⟩
 | y :: a, σ, c, h => by
  have h:(if gD y=true then(if Di σ y then none else zM aG (uP aG σ y) a) else zM aG σ a)=some c:=h
  rw[aHw]
  by_cases f:gD y=true
  .rw[aH f] at h|-;split at h
   .cases h
   .rename_i l
    obtain⟨i,k⟩:=aEc h;rw[List.singleton_append];refine⟨i,fun j e d=>?_⟩;cases j with
    | zero=>
     rw[List.getElem?_cons_zero] at d;cases d;exact l
    | succ j=>
     rw[tX] at d;rw[Fe,pW];exact k j e d
  .rw[aC f] at h|-;rw[sI];exact aEc h
def aQu{aG:List bR}{a b:List Ev}{y:Ev}{σ:Ay}(h:zM aG aDU a=some σ)(hs:gD y=true)(o:Di σ y):Dh aG (a++y::b)=a.length:=by
 obtain⟨l,e⟩:=aEc h
 have d:dZ (a++y::b)=dZ a++(y::dZ b):=by
  rw[aHx,aHw,aH hs];rfl
 have f:jK (a++y::b)=jK a++(a.length::(jK b).map fun i=>a.length+(1+i)):=by
  rw[show a++y::b=a++([y]++b) from rfl,aD7,aD7,aOz hs];simp[Mr,Function.comp_def]
 refine aIq (k:=(jK a).length) (by rw[f,nA (gE _),yC];rfl) (fun j n=>?_) ?_
 .have c:j < (dZ a).length:=by rw[Xt];exact n
  rw[d,aVS c,rJ,cX c];dsimp only;exact gW (e j _ (cX c))
 .have m:(jK a).length=(dZ a).length:=(Xt a).symm
  rw[d,m,rJ,nA (gE _),yC]
  show decide (Di (mM aG (dZ a++y::dZ b) (dZ a).length) y)=true
  rw[mM,List.take_left' rfl];rw[l];exact eM o
def aFh:∀{es:List dU} {xs:List Ev},rN es xs->(∀e∈es,nH e.words/\e.words.length<=1000000)->∀x∈xs,nH x.ws/\x.ws.length<=1000000
 | [],[],_,_=>fun _ h=>by cases h
 | [],_::_,h,_=>h.elim
 | _::_,[],h,_=>h.elim
 | e :: es, y :: ys, h, hs => fun x hx => by
  rcases fT.1 hx with rfl | hx
  .obtain⟨A,c,rfl⟩:=h.1;exact hs e aB
  .exact aFh h.2 (fun f d=>hs f (vL _ d)) x hx
def aR4{a b:List Ev}{y:Ev}(hk:y.kind=101)(c:y.err≠0):1<=(gG (a++y::b)).errs:=by
 rw[aBA,aEw]
 show 1<=(gG a).errs+((gG [y]).errs+(gG b).errs)
 have d:=(Yy a).2.2.1.1
 have e:=(Yy b).2.2.1.1
 have:(gG [y]).errs=1:=by
  show(Rp.zero.step y).errs=1
  unfold Rp.step;rw[aC aA,aH hk,aC c];rfl
 omega
def aR5(a b:List Ev):(gG a).begun<=(gG (a++b)).begun:=by
 rw[aBA]
 show _<=(gG a).begun+(gG b).begun
 have:=(Yy b).1.1
 omega
structure aLW(s:aI)(xs:List Ev)(k:Nat)(x:Ev):Prop where
 del:x.kind=100->∀y,mB y=true->wQ (xs.set k y)=k/\(gG (xs.set k y)).dead=1
 end_:x.kind=101->Dh s.aG (xs.set k {x with err:=2})=k/\1<=(gG (xs.set k {x with err:=2})).errs
 rep:x.kind=114->1<=x.ws.length/\∀y:Ev,y.kind=114->y.ws.length=0\/y.ws.headD 0≠x.ws.headD 0->wR (xs.set k y)=k
 snt:x.kind=115->wR (xs.take (k+1)++xs.drop k)=k+1
 beg:x.kind≠100->x.kind≠101->x.kind≠114->x.kind≠115->(gG (xs.take (k+1))).begun<=(gG xs).begun/\Px (xs.take (k+1))=[x.task]
def aO6{s:aI}(hm:s.made){cK:List fQ}(L:∀a∈cK,a.ok){xs:List Ev}(hw:rN (runN s cK cK.length).es xs){k:Nat}{x:Ev}(hx:xs[k]? =some x):aLW s xs k x:=by
 have U:=(cE.1 hx).1
 have F:=aHl hm L cK.length (gE _)
 obtain⟨xo,G,_⟩:=aIm hm L cK.length (gE _);obtain⟨o,I,_⟩:=(aH4 hm L cK.length (gE _)).2
 have J:=(aDA hm L cK.length (gE _)).2.es
 generalize (runN s cK cK.length).es=es at hw F G I J;obtain⟨e,A,c,he,rfl,R,hxs,t,hwb⟩:=hw.split hx
 have E:=aHy hw F
 have jE:∀y,xs.set k y=xs.take k++y::xs.drop (k+1):=aOq U
 have r:(xs.take k).length=k:=by rw[pX];omega
 have z:∀y∈xs.take k++xs.drop (k+1),mB y=false:=fun y p=>by
  rcases oM.1 p with p | p
  .exact E y (Dg p)
  .exact E y (Ph p)
 rw[R,show es.take k++e::es.drop (k+1)=(es.take k++[e])++es.drop (k+1) by simp] at G I J;rw[Tz] at G;rw[Mi] at I;rw[Ub] at J;cases i:tZ s Dc (es.take k++[e]) with
 | none=>rw[i] at G;cases G
 | some x1=>
 cases d:sW s none (es.take k++[e]) with
 | none=>rw[d] at I;cases I
 | some o1=>
 cases f:sM none (es.take k++[e]) with
 | none=>rw[f] at J;cases J
 | some c1=>
 have H:xs.take (k+1)=xs.take k++[e.ev A c]:=by rw[vK,hx];rfl
 refine⟨fun _ y p=>?_,fun j=>?_,fun m=>⟨?_,fun y p M=>?_⟩,fun w=>?_,fun Z N X V=>?_⟩
 .rw[jE];obtain⟨Y,h2⟩:=aO8 z p;rw[r] at Y;exact⟨Y,h2⟩
 .rw [jE];rw[Tz] at i;rw[Ub] at f;cases n:tZ s Dc (es.take k) with
  | none=>rw[n] at i;cases i
  | some x2=>
  cases C:sM none (es.take k) with
  | none=>rw[C] at f;cases f
  | some c2=>
  rw[C] at f;obtain⟨σ,g1,g2,g3,g4⟩:=aIn (by have:=hm.nv;omega) t n C (fun _ h=>by cases h) aRn aOZ
  have f:(qS c2 e).bind (fun T=>some T)=some c1:=f
  have O:0<=e.task/\e.task < 3:=by
   unfold qS at f
   have j:e.kind=101:=j
   rw[aC aA,aH j] at f;cases c2 with
   | none=>cases f
   | some q =>
    dsimp only at f;split at f
    .rename_i K
     have:=g4 q rfl
     rw[K.1];omega
    .cases f
  have hs:gD {e.ev A c with err:=2}=true:=by
   show((e.kind==98||e.kind==101)&&decide (0<=e.task/\e.task < 3))=true
   rw[show e.kind=101 from j,eM O];rfl
  have hb:Di σ {e.ev A c with err:=2}:=by
   have j:e.kind=101:=j
   refine⟨show e.kind≠98 by omega,.inl ?_⟩
   show(2:Int)≠σ.last[e.task.toNat]?.getD 0
   have hT:T3 e.task.toNat:=by unfold T3;omega
   rw[g2.la _ hT];exact fun K=>g3.la _ hT K.symm
  have:=aQu (b:=xs.drop (k+1)) g1 hs hb
  rw[r] at this;exact⟨this,aR4 (y:={e.ev A c with err:=2}) j (show(2:Int)≠0 by decide)⟩
 .rw [Mi] at d;cases D:sW s none (es.take k) with
  | none=>rw[D] at d;cases d
  | some o2 =>
   rw[D] at d
   have d:(uN s o2 e).bind (fun o'=>some o')=some o1:=d
   unfold uN at d
   have m:e.kind=114:=m
   rw[aC aA,aH m] at d;cases o2 with
   | none=>cases d
   | some l =>
    dsimp only at d;split at d
    .rename_i K
     show 1<=e.words.length
     omega
    .cases d
 .rw[jE]
  have:=aO4 (b:=xs.drop (k+1)) t d m p M
  rw[r] at this;exact this
 .rw[H]
  have hd:xs.drop k=e.ev A c::xs.drop (k+1):=by
   rw[Ya U]
   congr 1
   exact(cE.1 hx).2
  rw[hd]
  have:=aO5 (b:=xs.drop (k+1)) t d w (y:=e.ev A c) w
  rw[r] at this;exact this
 .have B:e.kind=98:=by
   rw[Tz] at i;cases n:tZ s Dc (es.take k) with
   | none=>rw[n] at i;cases i
   | some x2=>
    rw[n] at i
    have i:(uQ s x2 e).bind (fun T=>some T)=some x1:=i
    refine nO fun B=>?_
    have Z:e.kind≠100:=Z
    have N:e.kind≠101:=N
    have X:e.kind≠114:=X
    have V:e.kind≠115:=V
    unfold uQ at i;rw[aC B,aC N,aC aA] at i;cases i
  constructor
  .have:=aR5 (xs.take (k+1)) (xs.drop (k+1))
   rw[Ye] at this;exact this
  .rw[H];exact aO7 t f B
def aCV(r:List Value):Prop:=∀A n c,r[13]? =some (.slice A n c)->n<=c
def aM1(es:List dU)(v:Value)(hs:List HP)(q:Piece):Prop:=∃A c rows,v=.slice A es.length c/\hs=[HP.own 52 14 (.slice A es.length c) es.length rows.flatten]/\nJ es rows q/\es.length<=c/\∀r∈rows,aCV r
def aNe(g:Nat)(L:lX)(es:List dU)(w:World)(hn:es.length<=1000000)(hw:∀e∈es,e.words.length<=1000000)(z:WdR w g L es):
  Cz 15 #[pt g] w (fun y w'=>(∃v hs q,y=.returned v/\q.w=w'/\aM1 es v hs q/\iV w hs q)/\Below w.heap.size w w'):=by
 have hr0:=z.c
 have hlr:=(Rows.len z.ev).1
 have F:=Rows.aCz z.ev
 refine bQ func15 ntmps15 ?_;refine gN (aM8 es.length L.rows.flatten) (fun C t=>aVa L.A _ L.c _ C (z.row.le (t.le aB)) z.ev.one' hn) ?_;rintro _ _ q2 ⟨A,c,rfl,rfl⟩ _;dsimp only[dW,dG];refine aF ?_;refine Ee (R':=[all w]) aB ?_;refine rZ (p:=qW [] []) aT2 ?_;refine xO (α:=List (List Value)) (fun _=>[(3,.slice A es.length c)]) (fun d=>[HP.own 52 14 (.slice A es.length c) es.length d.flatten,qW es d]) (fun d=>∀r∈d,aCV r) ?_ fun d j=>?_
 .refine wD (α:=List (List Value)) (fun i _=>[(12,iv i),(11,iv es.length),(3,.slice A es.length c)]) (fun i d=>[HP.own 52 14 (.slice A es.length c) es.length (d++L.rows.drop i).flatten,qW (es.take i) d]) (fun i d=>d.length=i/\(∀r∈d,r.length=14)/\∀r∈d,aCV r) es.length [] ⟨rfl,(fun _ h=>by cases h),fun _ h=>by cases h⟩ fun i d hi hx=>?_;obtain⟨o,f,j⟩:=hx;refine aF ?_;refine dD rfl (fun B=>?_) (fun hge=>?_)
  .have B:i < es.length:=aA
   obtain⟨ro,G⟩:=get_some (l:=L.rows) (i:=i) aA;obtain⟨e,I,_,Aw,cw,rfl,O⟩:=Rows.at_ z.ev G
   have K:=hw e (dJ I)
   have k:∀r∈d++L.rows.drop i,r.length=14:=fun r h=>by
    rcases oM.1 h with h | h
    .exact f r h
    .exact F r (Ph h)
   have H:(d++L.rows.drop i).length=es.length:=by rw[rF,List.length_drop];omega
   refine aAv 0 rfl aA ?_;rintro⟨gb,rfl⟩;refine Iv 0 rfl fun cs U E N Y=>?_;dsimp only[List.set]
   have V:(d++L.rows.drop i)[i]? =some (e.row Aw cw):=by
    rw[nA aA,o,yC,Bp,Ms];exact G
   have m:=Ig E H k V
   have hcc:i*14+14<=cs.length:=by
    have:=Mo 14 (show i+1<=c by omega)
    omega
   refine aF ?_;refine cG (bT rfl (Rd.sub 0 13 rfl m rfl rfl)) ?_;refine gN (aAA e.words.length (eB e.words)) (fun C t=>aCj Aw _ cw _ C (aO.le O (t.le aB)) (Hi _) K) ?_;rintro _ _ q3 ⟨A2,c2,rfl,rfl⟩ _;dsimp only[dW,dG];refine aFO 0 rfl fun T=>?_;refine aF ?_;refine Aj 1 (n:=es.length) (c:=c) (sz:=14) (xs:=((d++L.rows.drop i).set i (e.row A2 c2)).flatten) rfl (by rw[pJ];exact U) (Fs E H k B aA rfl (Sub.set m 13 _ (show 13 < 14 by decide) aA) ((xQ.refl cs (i*14) 14).set 13 _ aE)) N Y ?_;dsimp only[List.set];rw[aQT o aA];refine aZ [0,2,1] ?_ (R':=[all w]);refine aWQ (x:=e) ?_;rw[show es.take i++[e]=es.take (i+1) by rw[vK,I];rfl]
   exact oG (d++[e.row A2 c2]) (hg:=⟨by rw[rF,o];rfl,(fun r h=>by
    rcases oM.1 h with h | h
    .exact f r h
    .rw[mL] at h;subst h
     rfl),fun r h=>by
    rcases oM.1 h with h | h
    .exact j r h
    .rw[mL] at h;subst h;intro A' n' c' I;cases I
     exact T⟩)
  .obtain rfl:i=es.length:=by omega
   rw[List.drop_of_length_le aA,nZ,Bn];refine aF ?_;exact eF d
 refine aF ?_;refine aFO 0 rfl fun D=>?_;refine dX [] [1] [0] fun q hq _ M=>?_;obtain⟨F1,sf1,R⟩:=hq 1 _ aB rfl
 have X:nJ es d q:=nJ.le ⟨q.w,F1⟩ q (fun b J=>⟨R b J,rfl⟩) sf1
 exact bK (h:=fun C st=>⟨_,_,⟨C,q.Z⟩,rfl,rfl,⟨A,c,d,rfl,rfl,nJ.le q _ (fun b J=>⟨J,st.ro aB J⟩) X,D,j⟩,st.newR aB aB (M aB aB)⟩)
section
attribute [local irreducible] KC KI KQ
def aHv(aM:List Ev):dZ aM=aM.filter gD:=by
 have e:aM=(List.range aM.length).map fun i=>aM[i]?.getD default:=by
  apply List.ext_getElem
  .simp
  .intro i f h;simp[cX f]
 conv=>rhs;rw[e,List.filter_map]
 unfold dZ jK
 congr 1
 refine List.filter_congr fun i d=>?_
 have c:=mI.1 d
 simp[mH,cX c]
def wO(l:List Ev):List Value:=[iv (lM l 0),iv (lM l 1),iv (lM l 2)]
def aNJ{l:List Ev}{x:Ev}(c:0<=x.task)(h3:x.task < 3):wO (l++[x])=(wO l).set x.task.toNat (iv (if x.kind=98 then lM l x.task+1 else lM l x.task - 1)):=by
 have:x.task=0\/x.task=1\/x.task=2:=by omega
 unfold wO;rw[aD0,aD0,aD0];rcases this with e | e | e<;>rw[e]<;>rfl
def aNK{l:List Ev}{t:Int}(c:0<=t)(h3:t < 3):(wO l)[t.toNat]? =some (iv (lM l t)):=by
 have:t=0\/t=1\/t=2:=by omega
 rcases this with rfl | rfl | rfl<;>rfl
def aU4{N:cQ}{w0:World}{e:Env}{R:List Piece}{H:List HP}{d:Nat}{ty:TypeId}{pos:String}{aN:Array Edge}{x f:Operand}{t:TypeId}{a i v:Value}(hx:e.ev x=some a)(hi:e.ev f=some i)(h:∀w,(Instr.index t a i).run Tryz.prog w=.ok v w):bY Tryz.prog N w0 e R H ⟨some d,.index t x f,ty,pos,aN,none⟩ v:=jF fun a w c=>by
 simp[execOp,c.ev hx,c.ev hi,h]
def aWa(l:List Ev){k:Nat}(h:k < 3):∀w,(Instr.index 118 (.agg (wO l).toArray) (iv k)).run Tryz.prog w=.ok (iv (lM l k)) w:=match k,h with
 | 0,_=>fun w=>by kernel_rfl
 | 1,_=>fun w=>by kernel_rfl
 | 2,_=>fun w=>by kernel_rfl
 | _+3,h=>absurd h aA
def aGj(l:List Int)(v:Value)(w w':World):Prop:=∃A c,v=.slice A l.length c/\aO (fresh w w') 1 A l.length (aU l)
def aIs(A:Option Addr)(n c:Nat)(aM:List Ev)(w:World)(h:Gs w w.heap.size A aM)(hn:n=aM.length)(hb:n<=9223372036854775807):
  Cz 22 #[.slice A n c] w fun x w'=>(∃v,x=.returned v/\aGj (Px aM) v w w')/\Below w.heap.size w w':=by
 subst hn
 have hs:=h.eS
 obtain⟨b,off,hA⟩:=hs.base;refine Gg (vs:=[.slice A aM.length c]) func22 rfl ntmps22 aB (St.start w) ?_;refine aW ?_;refine eE fun o=>?_;refine aW ?_;refine jL [all w] (aGt (all w) A aM.length aM) (fun w1 st=>aKI (all w) A aM.length c aM w1 hs rfl aA) ?_;rintro _ w1 M ⟨g6,rfl,j⟩ hf Lc _
 have yM:=hs.le (Lc (all w) aB)
 have Y:=j M (Lc (all w) aB) hf b off hA
 clear j hf;refine aW ?_;refine cF [(10,.func (.func 56) #[] #[pt g6]),(3,pt o)] ?_
 refine Ln (gf:=56) (lb:=[pt g6]) (encs:=jZ b off (jK aM)) (p:=M) rfl aJ Y aB (fun T d=>?_) aE (fun k=>[HP.aK o 118 (wO ((dZ aM).take k))]) (fun _=>[qJ False])
  (fun k T e1 H1=>∃i:Nat,(jK aM)[k]? =some i/\e1=[(5,rT b off i),(3,pt o)]/\H1=[HP.aK o 118 (wO ((dZ aM).take k))]) rfl ?_ ?_ ?_ ?_
 .simp only[jZ,fR] at d;obtain⟨i,_,rfl⟩:=d;rfl
 .intro l2 k T W1 q X d Bw;obtain⟨i,y,rfl⟩:=Ut d;dsimp only[It,dW,dG];refine aW ?_;refine cF [(5,rT b off i),(3,pt o)] ?_;exact Lp (H1:=[HP.aK o 118 (wO ((dZ aM).take k))]) ⟨i,y,rfl,rfl⟩
 .rintro l2 k T W1 q X _ _ d Bw ⟨i,y,rfl,rfl⟩;obtain⟨x,J,I,G⟩:=aHu y;obtain⟨F,O⟩:=aHt G
  have hk:=(cE.1 I).1
  have hlen:(dZ aM).length<=aM.length:=by rw[aHv];exact Pj _ _
  obtain rfl:=hA (by have:=(cE.1 J).1;omega);obtain⟨U,z⟩:=yM.ev J
  have f:=aNK (l:=(dZ aM).take k) F O
  have Ql:=aNJ (l:=(dZ aM).take k) F O
  have K:=aNI ((dZ aM).take k) x.task
  have hl3:(wO ((dZ aM).take k)).length=3:=rfl
  rw[pX,Tm aA] at K;rw[show(dZ aM).take (k+1)=(dZ aM).take k++[x] by rw[vK,I];rfl,Ql];generalize wO ((dZ aM).take k)=L at f hl3|-;generalize lM ((dZ aM).take k) x.task=m at f K|-;dsimp only[dW,dG,rT];refine aW ?_;refine iF (Rd.ro (p:=M) aB U (z 0 _ rfl)) ?_;refine aW ?_;refine sA rfl (fun r=>?_) (fun r=>?_)
  .rw[aH r];refine aW ?_;refine iF (Rd.ro (p:=M) aB U (z 1 _ rfl)) ?_;refine Xo x.task.toNat x.task.toNat (n:=3) (el:=3) (sz:=1) aJ aJ rfl rfl aA aA aA aE ?_;refine iF (Rd.aK 0 rfl f) ?_;refine aW ?_;exact oX
  .rw[aC r];refine aW ?_;refine iF (Rd.ro (p:=M) aB U (z 1 _ rfl)) ?_;refine Xo x.task.toNat x.task.toNat (n:=3) (el:=3) (sz:=1) aJ aJ rfl rfl aA aA aA aE ?_;refine iF (Rd.aK 0 rfl f) ?_;refine aW ?_;exact oX
 .intro D;rw[show(jZ b off (jK aM)).length=(dZ aM).length by simp[jZ,Xt],Bn,aHv]
  have Z:Px aM=upTo (fun t=>decide (0 < lM (aM.filter gD) t)) 3:=rfl
  rw[Z];generalize aM.filter gD=l;refine aW ?_;refine oF 3 1 ?_;refine aZ [0,1,2] ?_ (R':=[all w]);refine cF [(35,iv 0),(34,.agg (wO l).toArray),(6,sn)] ?_;refine aA0 (fun m L e R H=>∃(k:Nat) (B:Option Addr) (E:Nat),k<=3/\m=3 - k/\L=[D]/\e=[(35,iv k),(34,.agg (wO l).toArray),(6,.slice B (upTo (fun t=>decide (0 < lM l t)) k).length E)]/\R=[all w]/\H=[HP.own 3 1 (.slice B (upTo (fun t=>decide (0 < lM l t)) k).length E) (upTo (fun t=>decide (0 < lM l t)) k).length (aU (upTo (fun t=>decide (0 < lM l t)) k)),HP.aK o 118 (wO l),sC [D]]) 3 ⟨0,none,0,aA,rfl,rfl,rfl,rfl,rfl⟩ fun m L e R H hI=>?_;obtain⟨k,B,E,hk,rfl,rfl,rfl,rfl,rfl⟩:=hI;refine aW ?_;refine sA rfl (fun hlt=>?_) (fun hge=>?_)
  .have N:k < 3:=aA
   have C:=aN0 (fun t=>decide (0 < lM l t)) k aA
   have hul:=aN1 (fun t=>decide (0 < lM l t)) k
   refine aW ?_;refine kd (aU4 rfl rfl (aWa l N)) ?_;refine aW ?_;refine sA rfl (fun V=>?_) (fun V=>?_)
   .rw[eM V,aH rfl] at C;refine aW ?_;refine eX fun g3=>?_;refine Qh 1 fun A2 k2=>?_;refine aW ?_;refine aZ [1,2,3] ?_;exact cF [(35,iv ((k:Int)+1)),(34,.agg (wO l).toArray),(6,.slice A2 ((upTo (fun t=>decide (0 < lM l t)) k).length+1) k2)] (Oa (3 - (k+1)) aA ⟨k+1,A2,k2,aA,rfl,rfl,by rw[show((k+1:Nat):Int)=k+1 from rfl,C];simp,rfl,by rw[show((k+1:Nat):Int)=k+1 from rfl,C];simp[aU]⟩)
   .rw[gW V,aC aB,nZ] at C;refine aW ?_;exact cF [(35,iv ((k:Int)+1)),(34,.agg (wO l).toArray),(6,.slice B (upTo (fun t=>decide (0 < lM l t)) k).length E)] (Oa (3 - (k+1)) aA ⟨k+1,B,E,aA,rfl,rfl,by rw[show((k+1:Nat):Int)=k+1 from rfl,C],rfl,by rw[show((k+1:Nat):Int)=k+1 from rfl,C]⟩)
  .obtain rfl:k=3:=by omega
   refine aW ?_;refine dX [] [0] [1,2] fun q2 hq2 _ hfr=>?_
   have h2:=aO.own (hq2 0 _ aB rfl)
   refine aL8 (Hs:=[HP.aK o 118 (wO l)]) rfl rfl fun w1 t=>⟨⟨_,rfl,B,E,rfl,h2.le (t.oA aB (hfr aB aB))⟩,t.below aB⟩
 .intro D k _;exact Eh 0 rfl fun h=>h.elim
end
def aOa(w:World):Cz 12 #[] w fun x w'=>x=.returned (.bool true)/\Below w.heap.size w w':=by
 refine bQ func12 ntmps12 ?_;refine gZ (fun c st=>aD8 none 0 0 [] c ⟨Sl.nil,aB⟩ rfl aA) ?_;rw[show wQ []= -1 from rfl];refine aF ?_;refine eX fun d=>?_;refine aF ?_;refine gZ (fun c st=>aBi _ 1 1 [aJN 114] c (aTp (st.aK (i:=0) rfl) Sl.nil) rfl aA) ?_;rw[show wR [aJN 114]=0 from by decide];refine aF ?_;exact bK (h:=fun _ _=>rfl)
def aJA:∀{aM:List Ev} {k f:Nat} {e e':Ev} {v:Value},aM[k]? =some e->f < 14->e'.cells=e.cells.set f v->(aM.flatMap Ev.cells).set (k*14+f) v=(aM.set k e').flatMap Ev.cells
 | [],_,_,_,_,_,h,_,_=>by simp at h
 | x::r,0,f,e,e',v,h,hf,he=>by
  simp at h;subst h;rw[Df,Pq,Df,Nat.zero_mul,mA,List.set_append_left _ _ (by rw[Xd];exact hf),he]
 | x::r,k+1,f,e,e',v,h,hf,he=>by
  rw[Df,Tq,Df,Yf _ _ (by rw[Xd,Kc];omega),<-aJA (by simpa using h) hf he]
  congr 2
  rw[Xd,Kc];omega
def aNL{cs:List Value}{n i:Nat}{v:Value}:(cs.set i v).take n=(cs.take n).set i v:=by
 rw[List.take_set]
def aJL{p:Piece}:∀{es:List dU} {rows:List (List Value)},nJ es rows p->(∀r∈rows,aCV r)->∃aM,rN es aM/\rows.flatten=aM.flatMap Ev.cells/\(∀e∈aM,aO p 1 e.wA e.ws.length (eB e.ws))/\∀e∈aM,e.ws.length<=e.wc
 | [],[],_,_=>⟨[],trivial,rfl,(fun _ h=>by cases h),fun _ h=>by cases h⟩
 | [],_::_,h,_=>h.elim
 | _::_,[],h,_=>h.elim
 | e :: es, r :: rs, h, hc => by
  obtain⟨_,⟨A,c,rfl,hs⟩,l⟩:=h;obtain⟨aM,i,k,j,m⟩:=aJL l fun r f=>hc r (vL _ f);refine⟨e.ev A c::aM,⟨⟨A,c,rfl⟩,i⟩,by rw[Pp,k];rfl,(fun x d=>?_),fun x d=>?_⟩
  .rcases fT.1 d with rfl | d
   .exact hs
   .exact j x d
  .rcases fT.1 d with rfl | d
   .exact hc (e.row A c) List.mem_cons_self A e.words.length c rfl
   .exact m x d
section
variable{w0:World}{R:List Piece}{H:List HP}
def St.Qx(st:St w0 R H w)(i:Nat){g n:Nat}{t:TypeId}{cs:List Value}{aM:List Ev}(hi:H[i]? =some (HP.aK g t cs))(d:cs.take (n*14)=aM.flatMap Ev.cells)(f:n=aM.length)(hl:n*14<=cs.length)(hw:∀e∈aM,aO (all w) 1 e.wA e.ws.length (eB e.ws)):Gs w w.heap.size (some ⟨g,0,none⟩) aM:=by
 refine⟨⟨?_,fun _=>⟨g,0,rfl,(st.aK hi).lt,fun j u c=>?_⟩⟩,fun e h=>aO.sl (hw e h) (Piece.Le.refl _)⟩
 .rw[<-d,pX,f] at *;omega
 .rw[<-d,Ka] at c;split at c
  .rw[(st.aK hi).cell,mA]
   simpa using c
  .cases c
def St.evO(st:St w0 R H w)(i:Nat){n c:Nat}{A:Option Addr}{t:TypeId}{aM:List Ev}{xs:List Value}(hi:H[i]? =some (HP.own t 14 (.slice A n c) n xs))(hx:xs=aM.flatMap Ev.cells)(j:n=aM.length)(hw:∀e∈aM,aO (all w) 1 e.wA e.ws.length (eB e.ws)):Gs w w.heap.size A aM:=by
 subst hx;subst j;obtain⟨F,h,f,l⟩:=st.chunk hi
 have:=aO.own (q:=all w) ⟨F,h,fun b d=>f b d⟩
 exact⟨aO.sl this (Piece.Le.refl _),fun e k=>aO.sl (hw e k) (Piece.Le.refl _)⟩
end
def Cs(a b:Int):Int:=IntKind.u32.wrap (BitVec.ofInt 32 a ^^^ BitVec.ofInt 32 b).toNat
def aME{a:Int}(j:0<=a)(i:a < 4294967296):Cs a 1≠a:=fun h=>by
 unfold Cs at h
 have f:=(BitVec.ofInt 32 a ^^^ BitVec.ofInt 32 1).isLt
 rw[wrap_u32 aA] at h
 have d:BitVec.ofInt 32 a ^^^ BitVec.ofInt 32 1=BitVec.ofInt 32 a:=by
  apply BitVec.eq_of_toNat_eq
  have e:((BitVec.ofInt 32 a).toNat:Int)=a:=by
   rw[BitVec.toNat_ofInt];omega
  omega
 have c:=congrArg (fun v=>v.getLsbD 0) d
 simp[BitVec.getLsbD_xor] at c
def aXk{N:cQ}{w0:World}{e:Env}{R R0:List Piece}{H H0:List HP}{Q:Exit->Act->World->Prop}{ops:Array Oper}{Z:List Nat}{fuel:Nat}{listed:Array Bool}{d t j:Nat}{want:Bool}{ty:TypeId}{pos:String}{aN:Array Edge}{v:Value}(i:Nat){y:Operand}(k:XB Tryz.prog N w0 ops Q R0 H0 Z fuel (listed.setIfInBounds i true) ((d,v)::e) R H)(hi:ops[i]? =some ⟨some d,.move y,ty,pos,aN,some (j,want)⟩:=by rfl)(hj:(ops[j]?).bind (·.dst)=some t:=by rfl)(r:e.get t=some (.bool want):=by rfl)(hx:e.ev y=some v:=by rfl)(hd:d < N.n:=by decide)
  (l:(Region.free .any ops listed i&&(Region.ready .any ops listed).contains i)=true:=by kernel_rfl) (hQ:∀c a w,Q (.panic c) (a.put (some d) v) w->Q (.panic c) a w:=by exact fun _ _ _ h=>h):XB Tryz.prog N w0 ops Q R0 H0 Z (fuel+1) listed e R H:=by
 simp only[jY] at l;obtain⟨o,m⟩:=l;intro up a w f st
 have p:=k (up.lZ (by simpa using m)) (a.put (some d) v) w (f.put hd v) st
 refine aGE hi (by simp[Qa,hi]) (Region.noSelect_spec up.gD) hQ fuel listed a w up.down (Region.free_spec hi o) (by simpa using m) (.inl ⟨?_,fun x _=>by simp[execOp,f.ev hx]⟩) p;simp only[Region.wanted,yielded,hj,Bo,f.get t _ r];simp
def aHz(A B:Option Addr)(c f:Nat)(x:Int)(w:World)(z:aO (all w) 1 A 1 [iv x])(t:aO (all w) 1 B 1 [iv x]):Cz 21 #[.slice A 1 c,.slice B 1 f] w (Rt (.bool true) w):=by
 obtain⟨m,k,rfl,p,n⟩:=z.2 aE;obtain⟨l,e,rfl,o,y⟩:=t.2 aE
 have r1:eL w m k [iv x]:=⟨p,fun j v d=>n j v d⟩
 have r2:eL w l e [iv x]:=⟨o,fun j v d=>y j v d⟩
 have D:=r1.at_ (j:=0) rfl
 have F:=r2.at_ (j:=0) rfl
 refine bQ func21 ntmps21 ?_;refine xO (α:=Unit) (fun _=>[]) (fun _=>[]) (fun _=>True) ?_ fun _ _=>?_
 .refine wD (α:=Unit) (fun i _=>[(5,iv i),(0,.slice (some ⟨m,k,none⟩) 1 c),(1,.slice (some ⟨l,e,none⟩) 1 f)]) (fun _ _=>[]) (fun _ _=>True) 1 () trivial fun i _ E _=>?_;refine aF ?_;refine bP (fun r=>?_) (fun C=>?_)
  .obtain rfl:i=0:=by omega
   refine aF ?_;refine xN ?_;refine kA ?_;refine bP (fun h=>absurd rfl h) (fun _=>?_);refine aF ?_;exact oG ()
  .obtain rfl:i=1:=by omega
   refine aF ?_;exact eF ()
 refine aF ?_;exact dP
def aVV(A:Option Addr)(n c:Nat)(zs:List Int)(B:Option Addr)(nb cb:Nat)(cK:List fQ)(at':Int)(w:World)(h0:aO (all w) 1 A n (aU zs))(hz:aCQ zs)(hn:n=zs.length)(hn2:n<=9223372036854775807)(h1:aO (all w) 12 B nb (cK.flatMap fQ.cells))(hac:∀a∈cK,a.ok)(hnb:nb=cK.length)(aRT:nb<=2000000)(Ng:wJ at')(hLt:gJ (all w)):
  Cz 4 #[.slice A n c,.slice B nb cb,iv at'] w (Rt (.bool true) w):=by
 subst hnb
 have hLw:∀{d:World} {R:List Piece} {H:List HP},St w R H d->all w∈R->gJ (all d):=fun t h=>gJ.le hLt (t.le h)
 refine bQ func4 ntmps4 ?_;refine cR (fun d t=>aOa d) ?_;refine jL [] (fun v w w'=>∃cs s,v=.agg cs/\yT (gB (fresh w w')) s cs/\s.made) (fun d t=>aVs A n c zs d (h0.le (t.le aB)) hz hn hn2) ?_;rintro _ wc q0 ⟨cs,s,rfl,hS,hm⟩ hf _ _;obtain⟨A1,n1,k1,A2,n2,k2,A3,n3,k3,A4,n4,k4,rfl,hQ⟩:=yT.Q (hS.mono (lN hf));clear hf hS
 have Hw:=hm.nv
 obtain⟨rfl,rfl,rfl,rfl⟩:=hQ.len;refine kK fun gS=>?_;refine gN (aLX s (runN s (cK.map qB) cK.length)) (fun d t=>aOS s A1 A2 A3 A4 _ k1 _ k2 _ k3 _ k4 B cb cK d (hQ.W (t.le aB) (Yw hm)) hm (h1.le (t.le aB)) hac aRT (hLw t aB)) ?_;rintro _ _ q1 ⟨g1,f1,r1,hL1,rfl,rfl,aYa⟩ _;dsimp only[dW,dG];refine Ee (R':=[q0,all w]) aB ?_;refine aF ?_;refine bP (fun hg=>?_) (fun hg=>?_)
 .refine aF ?_;exact dP
 have hok:=aDB hm hac cK.length (gE _)
 have K:∀xs,rN (runN s (cK.map qB) cK.length).es xs->∀k x,xs[k]? =some x->aLW s xs k x:=fun xs hx k x hk=>aO6 hm (aQE hac) (by rw[Jv];exact hx) hk
 have hel:=hok.es
 have J:=hok.wd
 obtain⟨W,hW⟩:∃W,runN s (cK.map qB) cK.length=W:=⟨_,rfl⟩
 rw[hW] at hel J K|-;clear hW hok;refine aF ?_
 refine gN (aM1 W.es) (fun d t=>by
  obtain⟨L,hr⟩:=t.wdR 0 rfl
  exact aNe g1 L _ d aA (fun e C=>(J e C).2) hr) ?_
 rintro _ _ q3 ⟨Av,cv,rows,rfl,rfl,hz,hca,hcap⟩ _;dsimp only[dW,dG];obtain⟨aM,hps,hfl,O,hwc⟩:=aJL hz hcap
 have K:=K aM hps
 have hlen:=hps.len
 have T:W.es.length=aM.length:=hlen.symm
 have hu:∀e∈aM,nH e.ws:=fun e C=>(aFh hps J e C).1
 have aRV:∀e∈aM,e.ws.length<=1000000:=fun e C=>(aFh hps J e C).2
 obtain⟨N,hN⟩:∃N,W.es.length=N:=⟨_,rfl⟩
 rw[hN] at hlen T hel hca|-;rw[hfl];clear hz hfl hcap rows hps J hN;refine aZ [0,2] ?_ (R':=[q3,q0,all w]);refine aF ?_;refine bP (fun h0=>?_) (fun hpos=>?_)
 .refine aF ?_;exact dP
 have hpos:0 < N:=by omega
 have bk:=Bu at' N aA
 obtain⟨k,hk⟩:∃k:Nat,eC at' N=(k:Int):=⟨(eC at' N).toNat,aA⟩
 have hkl:k < N:=by omega
 obtain⟨x,hx⟩:=get_some (l:=aM) (i:=k) aA
 have hs:=K k x hx
 clear K;refine aF ?_;refine cM (fun d t=>sK _ N d Ng aA) ?_;rw[hk];refine aAv 0 rfl hpos ?_;rintro⟨gb,rfl⟩;refine Iv 0 rfl fun cs vU hct _ _=>?_;dsimp only[List.set]
 have o:N*14<=cs.length:=by rw[vU];exact Mo _ hca
 have hkc:k*14+14<=cs.length:=by
  have:=Mo 14 (show k+1<=N by omega)
  omega
 have hsub:∀f u,x.cells[f]? =some u->cs[k*14+f]? =some u:=fun f u hu'=>by
  have hf:f < 14:=by
   have:=(cE.1 hu').1
   rwa [Xd] at this
  have h2:(aM.flatMap Ev.cells)[k*14+f]? =some u:=(Nh Ev.cells 14 aM (fun _ _=>rfl) k f x hx hf).trans hu'
  rw[<-hct,Ka] at h2;split at h2
  .exact h2
  .cases h2
 have jE:∀{cs':List Value} {aFg:List Ev} {f:Nat} {e e':Ev} {v:Value},cs'.take (N*14)=aFg.flatMap Ev.cells->aFg[k]? =some e->f < 14->e'.cells=e.cells.set f v->(cs'.set (k*14+f) v).take (N*14)=(aFg.set k e').flatMap Ev.cells:=fun h1 h2 h3 h4=>by
  rw[aNL,h1];exact aJA h2 h3 h4
 have m:∀(y:Ev) {d:World},q3.Le (all d)->aO (all d) 1 y.wA y.ws.length (eB y.ws)->∀e∈aM.set k y,aO (all d) 1 e.wA e.ws.length (eB e.ws):=fun y d hq hy e C=>by
  rcases Bq C with C | C
  .exact(O e C).le hq
  .rw[C];exact hy
 have G:=dJ hx
 have j:∀y,(aM.set k y).length=aM.length:=fun y=>pJ
 have hgs:∀y,(aM.set k y)[k]? =some y:=fun y=>kR aA
 refine aF ?_;refine kd (nQ rfl (cI.aK 0 rfl hsub)) ?_;refine kK fun g12=>?_;refine bP (fun X=>?_) (fun n100=>?_)
 .
  obtain⟨s1,_⟩:=hs.del X {x with alive:=false} (by unfold mB;rw[show x.kind=100 from X];simp);obtain⟨s2,s3⟩:=hs.del X {x with alive:=true,Cg:=true} (by unfold mB;rw[show x.kind=100 from X];simp)
  have t1:=jE (f:=12) (v:=.bool false) (e':={x with alive:=false}) hct hx aE rfl
  have t2:=jE (f:=12) (v:=.bool true) (e':={x with alive:=true}) t1 (hgs _) aE rfl
  have t3:=jE (f:=10) (v:=.bool true) (e:={x with alive:=true}) (e':={x with alive:=true,Cg:=true}) t2 (by rw[sX];exact hgs _) aE rfl
  have e3q:((aM.set k {x with alive:=false}).set k {x with alive:=true}).set k {x with alive:=true,Cg:=true}=aM.set k {x with alive:=true,Cg:=true}:=by rw[sX,sX]
  rw[e3q] at t3;refine aF ?_;refine gZ (v0:=iv (wQ (aM.set k {x with alive:=false}))) (fun d st=>aD8 (some ⟨gb,0,none⟩) N cv (aM.set k {x with alive:=false}) d (st.Qx 1 rfl t1 (by rw[j];omega) (by rw[pJ];exact o) (m _ (st.le aB) ((O x G).le (st.le aB)))) (by rw[j];omega) aA) ?_;rw[s1];refine aF ?_;refine cH (t:=77) rfl (fun _=>?_) (fun h=>absurd rfl h);refine aF ?_;refine gZ (v0:=iv (wQ (aM.set k {x with alive:=true,Cg:=true}))) (fun d st=>aD8 (some ⟨gb,0,none⟩) N cv (aM.set k {x with alive:=true,Cg:=true}) d (st.Qx 1 rfl t3 (by rw[j];omega) (by rw[pJ,pJ,pJ];exact o) (m _ (st.le aB) ((O x G).le (st.le aB)))) (by rw[j];omega) aA) ?_;rw[s2];refine aF ?_;refine cH (t:=83) rfl (fun _=>?_) (fun h=>absurd rfl h);refine aF ?_;refine gZ (v0:=.agg (gG (aM.set k {x with alive:=true,Cg:=true})).cells) (fun d st=>aB9 (some ⟨gb,0,none⟩) N cv (aM.set k {x with alive:=true,Cg:=true}) d (st.Qx 1 rfl t3 (by rw[j];omega) (by rw[pJ,pJ,pJ];exact o) (m _ (st.le aB) ((O x G).le (st.le aB)))) (by rw[j];omega) aA) ?_;unfold Rp.cells;refine aF ?_;rw[s3];refine aF ?_;exact dP
 refine aF ?_;refine bP (fun aTJ=>?_) (fun n101=>?_)
 .
  obtain⟨s1,s2⟩:=hs.end_ aTJ
  have t1:=jE (f:=6) (v:=iv 2) (e':={x with err:=2}) hct hx aE rfl
  have b2:=(Yy (aM.set k {x with err:=2})).2.2.1
  refine aF ?_;refine gZ (v0:=.tuple #[iv (Dh s.aG (aM.set k {x with err:=2})),iv 0]) (fun d st=>aQn s A1 A2 A3 A4 _ k1 _ k2 _ k3 _ k4 (some ⟨gb,0,none⟩) N cv (aM.set k {x with err:=2}) d (hQ.W (st.le aB) (Yw hm)) (Yx hm) aA (st.Qx 1 rfl t1 (by rw[j];omega) (by rw[pJ];exact o) (m _ (st.le aB) ((O x G).le (st.le aB)))).S (by rw[j];omega) aA) ?_;rw[s1];refine aF ?_;refine cH (t:=105) rfl (fun _=>?_) (fun h=>absurd rfl h);refine aF ?_;refine gZ (v0:=.agg (gG (aM.set k {x with err:=2})).cells) (fun d st=>aB9 (some ⟨gb,0,none⟩) N cv (aM.set k {x with err:=2}) d (st.Qx 1 rfl t1 (by rw[j];omega) (by rw[pJ];exact o) (m _ (st.le aB) ((O x G).le (st.le aB)))) (by rw[j];omega) aA) ?_;unfold Rp.cells;refine aF ?_;rw[eM s2];exact dP
 refine aF ?_;refine bP (fun aFj=>?_) (fun n114=>?_)
 .
  obtain⟨s1,s2⟩:=hs.rep aFj
  have Zb:=O x G
  have hcx:=hwc x G
  have hux:=hu x G
  obtain⟨x0,x1,x2,x3,x4,x5,x6,x7,x8,x9,E,F,D,xA,xc,xs⟩:=x;dsimp only at s1 Zb hcx hux;cases xs with
  | nil=>exact absurd s1 aB
  | cons r tl=>
  obtain⟨bw,ow,rfl,zw,qw⟩:=Zb.2 aB
  have hv0:=hux r aB
  have Qj:=Zb.aAa (k:=1) (A':=some ⟨bw,ow+1,none⟩) aB (fun _ b off C=>by cases C;rfl)
  have hl1:(r::tl).length=tl.length+1:=rfl
  have hlt:tl.length<=1000000:=by
   have:=aRV _ G
   simp at this;omega
  dsimp only[Ev.cells];refine aF ?_;refine Ro (α:=Option Addr×Nat) (fun _=>[(12,pt g12),(11,iv k),(10,.slice (some ⟨gb,0,none⟩) N cv)]) (fun z=>[HP.own 36 1 (.slice z.1 (1+tl.length) z.2) (1+tl.length) (eB (Cs r 1::tl)),HP.aK gb 52 (cs.set (k*14+13) (.slice z.1 (1+tl.length) z.2)),HP.aK gS 30 [.slice A1 s.aL.length k1,.slice A2 s.domains.length k2,.slice A3 s.bG.length k3,.slice A4 s.aG.length k4]]) (fun _=>True) ?_ fun z _=>?_
  .refine xN ?_;refine kG 5 ?_ (bL:=bT rfl (Rd.ro (p:=q3) aB zw (qw 0 _ rfl)));refine kG 6 ?_ (bL:=aFq (c:=Cs r 1) rfl rfl (fun _=>rfl) aB);refine Ap 7 10 rfl rfl aJ ?_ ?_
   .refine eX fun g13=>?_;refine bH ?_;refine aR 10 ?_;refine aCX 1 (el:=36) (sz:=1) aJ aJ rfl rfl rfl aB hcx aE fun A' hA'=>?_
    have Zo:aO q3 1 A' tl.length (eB tl):=by
     have:=Zb.aAa (k:=1) aB hA'
     exact this
    refine bH ?_;refine aR 11 ?_;refine Aj 0 (n:=1) (c:=1) (sz:=1) (xs:=[.int .u32 (Cs r 1)]) rfl rfl rfl aA aE ?_;dsimp only[List.set];refine jU 0 1 4 tl.length (n':=1+tl.length) (el:=36) aJ aJ aE rfl rfl rfl (sF aB Zo) (Hi _) rfl aA aA aE fun U V=>?_;dsimp only[List.set];refine cT ?_;refine wF [12,13,14] ?_;refine aF ?_;exact eF (U,V)
   .refine aCX 1 (el:=36) (sz:=1) aJ aJ rfl rfl rfl aB hcx aE fun A' hA'=>?_
    have Zo:aO q3 1 A' tl.length (eB tl):=by
     have:=Zb.aAa (k:=1) aB hA'
     exact this
    refine bH ?_;refine aR 7 ?_;refine eX fun g13=>?_;refine bH ?_;refine aR 11 ?_;refine Aj 0 (n:=1) (c:=1) (sz:=1) (xs:=[.int .u32 (Cs r 1)]) rfl rfl rfl aA aE ?_;dsimp only[List.set];refine jU 0 1 4 tl.length (n':=1+tl.length) (el:=36) aJ aJ aE rfl rfl rfl (sF aB Zo) (Hi _) rfl aA aA aE fun U V=>?_;dsimp only[List.set];refine cT ?_;refine wF [12,13,14] ?_;refine aF ?_;exact eF (U,V)
  obtain⟨U,V⟩:=z;dsimp only;rw[show 1+tl.length=(Cs r 1::tl).length by rw[mK];omega]
  have t1:=jE (f:=13) (v:=.slice U (Cs r 1::tl).length V) (e':=⟨x0,x1,x2,x3,x4,x5,x6,x7,x8,x9,E,F,D,U,V,Cs r 1::tl⟩) hct hx aE rfl
  have t2:=jE (f:=13) (v:=sn) (e':=⟨x0,x1,x2,x3,x4,x5,x6,x7,x8,x9,E,F,D,none,0,[]⟩) t1 (hgs _) aE rfl
  have e2q:(aM.set k ⟨x0,x1,x2,x3,x4,x5,x6,x7,x8,x9,E,F,D,U,V,Cs r 1::tl⟩).set k ⟨x0,x1,x2,x3,x4,x5,x6,x7,x8,x9,E,F,D,none,0,[]⟩=aM.set k ⟨x0,x1,x2,x3,x4,x5,x6,x7,x8,x9,E,F,D,none,0,[]⟩:=by rw[sX]
  rw[e2q] at t2;refine aF ?_;refine gZ (v0:=iv (wR (aM.set k ⟨x0,x1,x2,x3,x4,x5,x6,x7,x8,x9,E,F,D,U,V,Cs r 1::tl⟩))) (fun d st=>aBi (some ⟨gb,0,none⟩) N cv _ d (st.Qx 1 rfl t1 (by rw[j];omega) (by rw[pJ];exact o) (m _ (st.le aB) (st.slO (i:=0) rfl))) (by rw[j];omega) aA) ?_;rw[s2 ⟨x0,x1,x2,x3,x4,x5,x6,x7,x8,x9,E,F,D,U,V,Cs r 1::tl⟩ aFj (.inr (aME hv0.1 hv0.2))];refine aF ?_;refine cH (t:=140) rfl (fun _=>?_) (fun h=>absurd rfl h);refine aF ?_;refine gZ (v0:=iv (wR (aM.set k ⟨x0,x1,x2,x3,x4,x5,x6,x7,x8,x9,E,F,D,none,0,[]⟩))) (fun d st=>aBi (some ⟨gb,0,none⟩) N cv _ d (st.Qx 1 rfl t2 (by rw[j];omega) (by rw[pJ,pJ];exact o) (m _ (st.le aB) (aO.nil _ _))) (by rw[j];omega) aA) ?_;rw[s2 ⟨x0,x1,x2,x3,x4,x5,x6,x7,x8,x9,E,F,D,none,0,[]⟩ aFj (.inl rfl)];refine aF ?_;rw[eM (rfl:(k:Int)=(k:Int))];exact dP
 refine dX [q3] [1] [0,2] fun q4 hq4 L4 _=>?_;obtain⟨F4,sf4,zf4⟩:=hq4 1 _ aB rfl
 have L4:=L4 q3 aB
 have hE4:aO q4 14 (some ⟨gb,0,none⟩) N (aM.flatMap Ev.cells):=by
  have h:=aO.aAU (k:=N) (A':=some ⟨gb,0,none⟩) (uH (Y:=q4.Z) (c:=0) sf4 zf4 vU) hca (fun _ _=>rfl)
  rw[hct] at h;exact h
 clear hq4 sf4 zf4
 have M:(aM.take (k+1)).length=k+1:=by rw[pX];omega
 have hwk:∀{d:World},q4.Le (all d)->∀e∈aM,aO (all d) 1 e.wA e.ws.length (eB e.ws):=fun hl e C=>(O e C).le (L4.trans hl)
 refine aF ?_;refine bP (fun aTI=>?_) (fun n115=>?_)
 .
  have s1:=hs.snt aTI
  have hld:(aM.drop k).length=N - k:=by rw[List.length_drop];omega
  refine aF ?_;refine Ot (el:=52) (sz:=14) aJ aJ aE fun g2=>?_;refine Aj 0 (n:=0) (c:=0) (sz:=14) (xs:=[]) rfl rfl rfl (gE _) (rE _) ?_;dsimp only[List.set];refine aF ?_;refine aCY (k+1) (el:=52) (sz:=14) aJ aJ rfl rfl aA aA aE fun Ak hA=>?_
  have Zn:=hE4.aAU (k:=k+1) aA hA
  rw[<-aEX Ev.cells 14 aM (k+1) (fun _ _=>rfl)] at Zn;refine jU 0 14 120 (k+1) (n':=k+1) (el:=52) aJ aJ aE rfl rfl rfl (sF aB Zn) (aFi _) aA aA aA aE fun U V=>?_;dsimp only[List.set,dG];refine aF ?_;refine aCX k (el:=52) (sz:=14) aJ aJ rfl rfl rfl aA aA aE fun Ad Zo=>?_
  have hEd:=hE4.aAa (k:=k) aA Zo
  rw[<-aJB Ev.cells 14 aM k (fun _ _=>rfl)] at hEd;refine jU 0 14 120 (N - k) (n':=N+1) (el:=52) aJ aJ aE rfl rfl rfl (sF aB hEd) (aFi _) aA aA aA aE fun B2 c2=>?_;dsimp only[List.set];rw[<-List.flatMap_append];refine aF ?_
  refine gZ (v0:=iv (wR (aM.take (k+1)++aM.drop k))) (fun d st=>aBi B2 (N+1) c2 _ d (st.evO 0 rfl rfl (by rw[rF,M,hld];omega) (fun e C=>hwk (st.le aB) e (by
   rcases oM.1 C with h | h
   .exact Dg h
   .exact Ph h))) (by rw[rF,M,hld];omega) aA) ?_
  rw[s1];refine aF ?_;rw[eM (rfl:(k:Int)+1=(k:Int)+1)];exact dP
 obtain⟨s1,s2⟩:=hs.beg n100 n101 n114 n115;refine aF ?_;refine gZ (v0:=.agg (gG aM).cells) (fun d st=>aB9 (some ⟨gb,0,none⟩) N cv aM d ⟨by rw[<-T];exact aO.sl hE4 (st.le aB),fun e C=>aO.sl (hwk (st.le aB) e C) (Piece.Le.refl _)⟩ T aA) ?_;unfold Rp.cells;refine aF ?_;refine Ot (el:=52) (sz:=14) aJ aJ aE fun g2=>?_;refine Aj 0 (n:=0) (c:=0) (sz:=14) (xs:=[]) rfl rfl rfl (gE _) (rE _) ?_;dsimp only[List.set];refine aF ?_;refine aCY (k+1) (el:=52) (sz:=14) aJ aJ rfl rfl aA aA aE fun Ak hA=>?_
 have Zn:=hE4.aAU (k:=k+1) aA hA
 rw[<-aEX Ev.cells 14 aM (k+1) (fun _ _=>rfl)] at Zn;refine jU 0 14 120 (k+1) (n':=k+1) (el:=52) aJ aJ aE rfl rfl rfl (sF aB Zn) (aFi _) aA aA aA aE fun U V=>?_;dsimp only[List.set,dG];refine aF ?_
 have Na:∀{d:World},q4.Le (all d)->∀e∈aM.take (k+1),aO (all d) 1 e.wA e.ws.length (eB e.ws):=fun hl e C=>hwk hl e (Dg C)
 refine aFT ?_;refine aR 1 ?_;refine gZ (v0:=.agg (gG (aM.take (k+1))).cells) (fun d st=>aB9 U (k+1) V _ d (st.evO 0 rfl rfl M.symm (Na (st.le aB))) M.symm aA) ?_;unfold Rp.cells;refine bH ?_;refine kG 2 ?_ (bL:=aKl rfl rfl);refine kG 4 ?_ (bL:=aKf rfl rfl);refine bU 5 ?_;refine Ob 178 rfl (fun _=>?_) (fun h=>absurd s1 h);refine aXk 6 ?_;refine lJ 7 ?_;refine Ap 7 10 rfl rfl aJ ?_ ?_
 .refine nK rfl rfl ?_;refine jL [] (aGj (Px (aM.take (k+1)))) (fun d st=>aIs U (k+1) V (aM.take (k+1)) d (st.evO 0 rfl rfl M.symm (Na (st.le aB))) M.symm aA) ?_;rintro _ w2 q5 ⟨Ao,co,rfl,I⟩ hf _ _
  have I:=I.le hf
  rw[s2] at I|-;refine bH ?_;refine aR 10 ?_;refine nK rfl rfl ?_;refine eX fun g3=>?_;refine bH ?_;refine aR 11 ?_;refine nK rfl rfl ?_;refine cM (fun d st=>aHz Ao (some ⟨g3,0,none⟩) co 1 x.task d (I.le (st.le aB)) (st.wP (i:=0) rfl rfl)) ?_;refine bH ?_;refine kG 12 ?_;refine kG 13 ?_;refine kA ?_;exact dP
 .refine nK rfl rfl ?_;refine eX fun g3=>?_;refine bH ?_;refine aR 7 ?_;refine nK rfl rfl ?_;refine jL [] (aGj (Px (aM.take (k+1)))) (fun d st=>aIs U (k+1) V (aM.take (k+1)) d (st.evO 1 rfl rfl M.symm (Na (st.le aB))) M.symm aA) ?_;rintro _ w2 q5 ⟨Ao,co,rfl,I⟩ hf _ _
  have I:=I.le hf
  rw[s2] at I|-;refine bH ?_;refine aR 11 ?_;refine nK rfl rfl ?_;refine cM (fun d st=>aHz Ao (some ⟨g3,0,none⟩) co 1 x.task d (I.le (st.le aB)) (st.wP (i:=0) rfl rfl)) ?_;refine bH ?_;refine kG 12 ?_;refine kG 13 ?_;refine kA ?_;exact dP
section
variable{H:Type}{enc:TypeId×Value->H}{fuel:Nat}{cs:List Value}{x:DataW H×List MemPlace}
def Bt{α:Type}{l:List α}{n i:Nat}(h:l.length=n)(hi:i < n):∃y,l[i]? =some y:=⟨l[i]' aA,cX _⟩
def aVT{a:Int}(h:(Lit.int .u32 a).wf=true):0<=a/\a < 4294967296:=by
 simp[Lit.wf,IntKind.min,IntKind.max,IntKind.signed,IntKind.bits] at h;omega
def aLh:Tryz.prog.cellsOf 100=12:=by kernel_rfl
def aLk:Tryz.prog.cellsOf 98=6:=by kernel_rfl
def aLj:Tryz.prog.cellsOf 3=1:=by kernel_rfl
def aLi:Tryz.prog.cellsOf 36=1:=by kernel_rfl
def aN8{l:List Value}(h:l.length=12):∃a b c d e f g i j k m n,l=[a,b,c,d,e,f,g,i,j,k,m,n]:=by
 match l,h with
 | [a,b,c,d,e,f,g,i,j,k,m,n],_=>exact⟨a,b,c,d,e,f,g,i,j,k,m,n,rfl⟩
def aNZ{l:List Value}(h:l.length=6):∃a b c d e f,l=[a,b,c,d,e,f]:=by
 match l,h with
 | [a,b,c,d,e,f],_=>exact⟨a,b,c,d,e,f,rfl⟩
def aVZ(h:DataW.trod enc Tryz.prog w 0 (fun _=>true) true fuel 98 cs=some x):
  ∃a b c d e f:Int,cs=[iv a,iv b,iv c,iv d,iv e,iv f]/\(-9223372036854775808<=b/\b<=9223372036854775807)/\(-9223372036854775808<=c/\c<=9223372036854775807)/\(-9223372036854775808<=d/\d<=9223372036854775807)/\(-9223372036854775808<=e/\e<=9223372036854775807)/\(-9223372036854775808<=f/\f<=9223372036854775807):=by
 obtain⟨xs,n,rfl,_,B,j,k⟩:=DataW.trod_struct Tryz.underlying98 h;rw[aLk] at B;obtain⟨a,b,c,d,e,f,rfl⟩:=aNZ B
 have t:=k 0 _ rfl
 have o:=k 1 _ rfl
 have m:=k 2 _ rfl
 have p:=k 3 _ rfl
 have l:=k 4 _ rfl
 have r:=k 5 _ rfl
 simp only[List.getElem_toArray,List.getElem_cons_zero,List.getElem_cons_succ,Mn,List.drop_zero,aLj,aLi,Fe,Po] at t o m p l r;obtain⟨Y,I⟩:=Bt j (i:=0) aB;obtain⟨R,M⟩:=Bt j (i:=1) aB;obtain⟨X,F⟩:=Bt j (i:=2) aB;obtain⟨y3,N⟩:=Bt j (i:=3) aB;obtain⟨V,O⟩:=Bt j (i:=4) aB;obtain⟨y5,J⟩:=Bt j (i:=5) aB;rw[I] at t;rw[M] at o;rw[F] at m;rw[N] at p;rw[O] at l;rw[J] at r;obtain⟨z0,g0,_,_⟩:=DataW.trod_int Tryz.underlying3 t;obtain⟨T,D,_,H⟩:=DataW.trod_int Tryz.underlying3 o;obtain⟨z2,z,_,E⟩:=DataW.trod_int Tryz.underlying3 m;obtain⟨Z,A,_,G⟩:=DataW.trod_int Tryz.underlying3 p;obtain⟨U,y,_,L⟩:=DataW.trod_int Tryz.underlying3 l;obtain⟨z5,C,_,K⟩:=DataW.trod_int Tryz.underlying3 r;simp at g0 D z A y C;subst g0;subst D;subst z;subst A;subst y;subst C;exact⟨_,_,_,_,_,_,rfl,Dz H,Dz E,Dz G,Dz L,Dz K⟩
def aWA(h:DataW.trod enc Tryz.prog w 0 (fun _=>true) true fuel 100 cs=some x):∃v:fQ,cs=v.cells/\v.ok:=by
 obtain⟨xs,n,rfl,_,F,l,o⟩:=DataW.trod_struct Tryz.underlying100 h;rw[aLh] at F;obtain⟨a,b,c,d,e,f,g,i,j,k,m,n',rfl⟩:=aN8 F
 have B:=o 0 _ rfl
 have t:=o 1 _ rfl
 have r:=o 2 _ rfl
 have y:=o 3 _ rfl
 have p:=o 4 _ rfl
 have z:=o 5 _ rfl
 have A:=o 6 _ rfl
 simp only[List.getElem_toArray,List.getElem_cons_zero,List.getElem_cons_succ,Mn,List.drop_zero,aLj,aLi,aLk,Fe,Po] at B t r y p z A;obtain⟨y0,U⟩:=Bt l (i:=0) aB;obtain⟨y1,e1⟩:=Bt l (i:=1) aB;obtain⟨y2,N⟩:=Bt l (i:=2) aB;obtain⟨y3,e3⟩:=Bt l (i:=3) aB;obtain⟨y4,e4⟩:=Bt l (i:=4) aB;obtain⟨y5,V⟩:=Bt l (i:=5) aB;obtain⟨y6,L⟩:=Bt l (i:=6) aB;rw[U] at B;rw[e1] at t;rw[N] at r;rw[e3] at y;rw[e4] at p;rw[V] at z;rw[L] at A;obtain⟨z0,g0,_,w0⟩:=DataW.trod_int Tryz.underlying3 B;obtain⟨J,I,_,R⟩:=DataW.trod_int Tryz.underlying3 t;obtain⟨z2,D,_,M⟩:=DataW.trod_int Tryz.underlying3 r;obtain⟨z3,E,_,O⟩:=DataW.trod_int Tryz.underlying3 y;obtain⟨K,C,_,w4⟩:=DataW.trod_int Tryz.underlying3 p;obtain⟨z5,H,_,Z⟩:=DataW.trod_int Tryz.underlying36 z;obtain⟨q0,q1,q2,q3,q4,q5,G,T,Y,X,u4,u5⟩:=aVZ A;simp at g0 I D E C H G;obtain⟨rfl,rfl,rfl,rfl,rfl,rfl⟩:=G;subst g0;subst I;subst D;subst E;subst C;subst H;exact⟨⟨z0,J,z2,z3,K,z5,q0,q1,q2,q3,q4,q5⟩,rfl,Dz w0,Dz R,Dz M,Dz O,Dz w4,aVT Z,T,Y,X,u4,u5⟩
open Go.ChangeShapes Go.WideShapes Go.ChangeAt in
set_option maxRecDepth 100000 in
def aQz{v:Value}{d:DataW H}{ps:List MemPlace}{base:Nat}(hval:Value.okWide Tryz.prog w .any base 39 v)(h:DataW.Trod enc Tryz.prog w 0 (fun _=>true) true 39 v d ps):
    ∃(A:Option Addr) (n c:Nat) (cK:List fQ),v=.slice A n c/\Sl w w.heap.size 12 A n (cK.flatMap fQ.cells)/\(∀a∈cK,a.ok)/\n=cK.length/\n<=9223372036854775807:=by
  obtain⟨a0,len,cap,rfl⟩:=okWide_slice Tryz.underlying39 hval;obtain⟨fuel,hf⟩:=h;obtain⟨A,n,c,ys,hcs,hsl,hn,hm,hR⟩:=aNY fQ.cells fQ.ok Tryz.underlying39 aLh (by omega) fQ.len (fun _ _ _ h=>aWA h) hf;simp[Value.cells] at hcs;obtain⟨rfl,rfl,rfl⟩:=hcs;subst hn;exact⟨_,_,_,ys,rfl,hsl,hR,rfl,hm⟩
end
section
def aVK{H:Type}(d:DataW H):1<=Rows.uptoBulk d:=by
 cases d with
 | lit l=>cases l<;>simp[Rows.uptoBulk]
 | _=>simp[Rows.uptoBulk]
def aVJ{H:Type}{d:DataW H}{l:List (DataW H)}(h:d∈l):Rows.uptoBulk d<=Rows.uptoBulkAll l:=by
 induction l with
 | nil=>cases h
 | cons x r ih =>
  simp only[Rows.uptoBulkAll];rcases fT.1 h with rfl | h
  .omega
  .have:=ih h
   omega
def aVL{H:Type}(l:List (DataW H)):l.length<=Rows.uptoBulkAll l:=by
 induction l with
 | nil=>exact rE _
 | cons x r ih=>
  have:=aVK x
  simp only[Rows.uptoBulkAll,mK];omega
open Go.ChangeShapes Go.WideShapes Go.ChangeAt in
def aVI{H:Type}{enc:TypeId×Value->H}{w:World}{t e:TypeId}{A:Option Addr}{n c:Nat}{d:DataW H}{ps:List MemPlace}(ht:Tryz.prog.underlying t=some (.slice e))(h:DataW.Trod enc Tryz.prog w 0 (fun _=>true) true t (.slice A n c) d ps):n<=Rows.uptoBulk d:=by
  obtain⟨fuel,hf⟩:=h;rcases DataW.trod_slice ht hf with⟨h0,_⟩ | ⟨a,len,cap,elems,rest,k,_,hcs,hx,_,_,_,hlen,_⟩
  · simp[Value.cells] at h0
    omega
  · simp[Value.cells] at hcs
    cases hx
    have:=aVL (elems.map (·.1))
    rw[Jv] at this;simp only[Rows.uptoBulk];omega
def aVM{H:Type}{l:List (DataW H)}{d:DataW H}{n:Nat}(hk:Rows.uptoSmall H l=true)(hd:d∈l)(e:n<=Rows.uptoBulk d):n<=1048576:=by
 have c:Rows.uptoBulkAll l<=1048576:=eV hk
 have:=aVJ hd
 omega
end
end Go.Proofs.YtmpkkaknjkffpaaGreatDoor
