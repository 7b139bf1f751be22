/- Iterators: their contract, a call of yield, a range over one. -/
import Derived.KernelRfl
import Derived.Laws.Cover3
import Derived.Recover
import Derived.Test.YtmpkkaknjkffpaaGreatDoorProg
import Derived.WalkSmall
import Derived.Test.YtmpkkaknjkffpaaGreatDoorAuditSeesK1
namespace Go.Proofs.YtmpkkaknjkffpaaGreatDoor
set_option linter.all false
set_option maxHeartbeats 4000000
set_option maxRecDepth 20000
open Go.RowKit Go.Proofs.Tryz
variable{w0 w:World}{R R' R0:List Piece}{P:Program}{nn d m fuel t j i:Nat}{e e':Env}{Q:Exit->Act->World->Prop}{ops:Array Oper}{rest:List Oper}{r:Option Nat}{L Z:List Nat}{N:cQ}{ty:TypeId}{pos:String}{aN:Array Edge}{K K':Act->World->Prop}{listed:Array Bool}{v:Value}{op:Op}{want:Bool}{f:FuncId}{x:Operand}{args:List Operand}{vs:List Value}{tys:Array TypeId}
def nt(W:World)(F:Nat->Prop):Piece:=⟨W,fun b=>b < W.heap.size/\¬F b⟩
structure yV(w w':World):Prop where
 os:w'.os=w.os
 tape:w'.tape=w.tape
 output:w'.output=w.output
 size:w.heap.size<=w'.heap.size
def yV.refl(w:World):yV w w:=⟨rfl,rfl,rfl,gE _⟩
def yV.trans{a b c:World}(h:yV a b)(k:yV b c):yV a c:=⟨k.os.trans h.os,k.tape.trans h.tape,k.output.trans h.output,oL h.size k.size⟩
def jG.same{w w':World}{F c:Nat->Prop}(h:jG w w' F c):yV w w':=⟨h.os,h.tape,h.output,h.size⟩
structure aGu(w0 W:World)(R:List Piece)(F:Nat->Prop):Prop where
 same:yV w0 W
 ro:∀p∈R,∀b,p.Z b->b < W.heap.size/\¬F b/\W.heap[b]? =p.w.heap[b]?
section
variable{W W1:World}{H:List HP}{F F1:Nat->Prop}
def St.join(st:St w0 R H w):∃F,(HP.many H).sat F w/\(∀b,F b->b < w.heap.size)/\aGu w0 w R F:=by
 obtain⟨Z,F,m,e,l,k,hd⟩:=st.ex;refine⟨fun b=>∃i,F i b,⟨F,l,fun i b h=>⟨i,h⟩,fun i j b c h=>hd i j b c h⟩,fun b ⟨i,h⟩=>(k i b h).2,⟨⟨st.os,st.tape,st.output,st.size⟩,fun p d b f=>⟨m b (e p d b f).1,fun⟨i,h⟩=>(k i b h).1 (e p d b f).1,(e p d b f).2⟩⟩⟩
def St.split(k:aGu w0 W R F)(e:jG W W1 F F1)(hs:(HP.many H).sat F1 W1):St w0 R H W1:=by
 obtain⟨G,t,o,r⟩:=hs
 have h:=k.same.trans e.same
 refine⟨h.os,h.tape,h.output,h.size,fun b=>∃p∈R,p.Z b,G,fun b ⟨p,c,d⟩=>jC (k.ro p c b d).1 e.size,fun p c b d=>⟨⟨p,c,d⟩,?_⟩,t,fun i b f=>⟨?_,(e.new b (o i b f)).2⟩,fun i j b l f=>r i j b l f⟩
 .obtain⟨n,m,w⟩:=k.ro p c b d;exact(e.old b n m).trans w
 .rintro⟨p,c,d⟩;obtain⟨n,m,_⟩:=k.ro p c b d;rcases(e.new b (o i b f)).1 with h | h
  .exact m h
  .omega
def aXv(r:aGu w0 W R F)(f:jG W W1 F F1)(hlt:∀b,F1 b->b < W1.heap.size)(hs:(HP.many H).sat F1 W1):St W1 (R++[nt W1 F1]) H W1:=by
 obtain⟨G,t,m,o⟩:=hs;refine⟨rfl,rfl,rfl,gE _,fun b=>b < W1.heap.size/\¬F1 b,G,fun b h=>h.1,fun p c b n=>?_,t,fun i b d=>⟨fun h=>h.2 (m i b d),hlt b (m i b d)⟩,fun i j b e d=>o i j b e d⟩;simp only[oM,mL] at c;rcases c with c | rfl
 .obtain⟨l,k,w⟩:=r.ro p c b n;refine⟨⟨jC l f.size,fun h=>?_⟩,(f.old b l k).trans w⟩;rcases(f.new b h).1 with h | h
  .exact k h
  .omega
 .exact⟨n,rfl⟩
def aLP(st:St w0 R H w)(i:nt w0 F∈R):∃c,(HP.many H).sat c w/\(∀b,c b->b < w.heap.size)/\jG w0 w F c:=by
 obtain⟨c,k,f,j⟩:=st.join;refine⟨c,k,f,st.os,st.tape,st.output,st.size,fun b h=>⟨?_,f b h⟩,fun b h d=>(j.ro _ i b ⟨h,d⟩).2.2⟩;rcases dI b w0.heap.size with e | e
 .exact .inl (nO fun d=>(j.ro _ i b ⟨e,d⟩).2.1 h)
 .exact .inr e
end
def sC(L:List Nat):HP:=⟨fun F w=>L.Nodup/\∀D∈L,F D/\w.heap[D]? =some (.deferred (some [])),fun _ _ _ h d=>⟨h.1,fun D c=>⟨(h.2 D c).1,(d D (h.2 D c).1).trans (h.2 D c).2⟩⟩⟩
def Ep(l:Nat)(L:List Nat)(e:Loop):HP:=⟨fun F w=>(F l/\w.heap[l]? =some (.loop e))/\(sC L).sat F w,fun F w d h c=>⟨⟨h.1.1,(c l h.1.1).trans h.1.2⟩,(sC L).loc F w d h.2 c⟩⟩
def aMu{l:Nat}{L:List Nat}{k rc':Loop}{F:Nat->Prop}{w:World}(h:(Ep l L k).sat F w):(Ep l L rc').sat F (w.putObj l (.loop rc')):=by
 obtain⟨⟨i,f⟩,j,c⟩:=h;refine⟨⟨i,World.putObj_heap_same (Mq.1 f).1⟩,j,fun D d=>⟨(c D d).1,?_⟩⟩;refine(World.putObj_heap_other (fun e=>?_)).trans (c D d).2;subst e
 have:=(c D d).2
 rw[f] at this;cases this
section
variable{H:List HP}
def Uq{Hs:List HP}{p:HP}:(Hs++[p])[Hs.length]? =some p:=by simp
def aBC{Hs:List HP}{p q:HP}:(Hs++[p]).set Hs.length q=Hs++[q]:=by simp
def St.aEu{Hs:List HP}{l:Nat}{j rc':Loop}(st:St w0 R (Hs++[Ep l L j]) w):St w0 R (Hs++[Ep l L rc']) (w.putObj l (.loop rc')):=by
 have:=st.yZ (q:=Ep l L rc') (w':=w.putObj l (.loop rc')) (i:=Hs.length) Uq aB rfl rfl rfl (fun F f c=>⟨F,aMu f,fun b d=>⟨.inl d,by simpa using c b d⟩,fun b d h=>World.putObj_heap_other (fun e=>h (e▸f.1.1))⟩)
 rwa [aBC] at this
def St.Ul{Hs:List HP}{l:Nat}{c:Loop}(st:St w0 R (Hs++[Ep l L c]) w):w.heap[l]? =some (.loop c):=(st.sat (i:=Hs.length) Uq).choose_spec.1.2
def St.aII{Hs:List HP}{l:Nat}{j rc':Loop}(st:St w0 R (Hs++[Ep l L j]) w):St w0 R (Hs++[sC L]) (w.putObj l (.loop rc')):=by
 have:=st.yZ (q:=sC L) (w':=w.putObj l (.loop rc')) (i:=Hs.length) Uq aB rfl rfl rfl (fun F f c=>⟨F,(aMu (rc':=rc') f).2,fun b d=>⟨.inl d,by simpa using c b d⟩,fun b d h=>World.putObj_heap_other (fun e=>h (e▸f.1.1))⟩)
 rwa [aBC] at this
def St.aR3{Hs:List HP}{c:Loop}(st:St w0 R (Hs++[sC L]) w):St w0 R (Hs++[Ep (w.heap.size+1) (w.heap.size::L) c]) ((w.alloc (.deferred (some []))).alloc (.loop c)):=by
 have f:Below w.heap.size w ((w.alloc (.deferred (some []))).alloc (.loop c)):=((Below.refl _ w).alloc (gE _) _).alloc aB _
 have l:((w.alloc (.deferred (some []))).alloc (.loop c)).heap[w.heap.size+1]? =some (.loop c):=by
  have:=World.alloc_heap_new (w.alloc (.deferred (some []))) (.loop c)
  rwa [World.size_alloc] at this
 have k:((w.alloc (.deferred (some []))).alloc (.loop c)).heap[w.heap.size]? =some (.deferred (some [])):=
  (Below.heap_alloc _ _ _ aB).trans (World.alloc_heap_new w _)
 have p:((w.alloc (.deferred (some []))).alloc (.loop c)).heap.size=w.heap.size+1+1:=by simp
 have:=st.yZ (q:=Ep (w.heap.size+1) (w.heap.size::L) c) (i:=Hs.length) Uq f.size f.os f.tape f.output (fun F m d=>by
  refine⟨fun b=>F b\/(w.heap.size<=b/\b < w.heap.size+1+1),⟨⟨.inr ⟨aA,aA⟩,l⟩,?_,?_⟩,fun b e=>?_,fun b e _=>f.block b e⟩
  .rw[Bm];refine⟨fun r=>?_,m.1⟩
   have:=d _ (m.2 _ r).1
   omega
  .intro D j;rcases fT.1 j with rfl | j
   .exact⟨.inr ⟨aA,aA⟩,k⟩
   .obtain⟨n,o⟩:=m.2 D j;exact⟨.inl n,(f.block D (d D n)).trans o⟩
  .rcases e with h | h
   .exact⟨.inl h,by have:=d b h;omega⟩
   .exact⟨.inr h.1,aA⟩)
 rwa [aBC] at this
def aFJ(W1:World)(F1:Nat->Prop)(q e:HP):Ending->World->Prop:=fun y d=>(y=.returned (.bool true)/\∃c,q.sat c d/\jG W1 d F1 c)\/(y=.returned (.bool false)/\∃c,e.sat c d/\jG W1 d F1 c)
def jG.st{A:World}{B:Nat->Prop}{q:HP}{Z:Nat->Prop}{F:Nat->Nat->Prop}{i:Nat}(f:w.os=w0.os/\w.tape=w0.tape/\w.output=w0.output/\w0.heap.size<=w.heap.size)(D:∀b,Z b->b < w.heap.size)
  (m:∀p∈R,∀b,p.Z b->Z b/\w.heap[b]? =p.w.heap[b]?) (hs:∀(i:Nat) (p:HP),H[i]? =some p->p.sat (F i) w) (c:∀i b,F i b->¬Z b/\b < w.heap.size) (l:∀i j b,i≠j->F i b->¬F j b)
  (hlt:i < H.length) (z:q.sat B A) (d:jG w A (F i) B):St w0 R (H.set i q) A:=by
 refine⟨d.os.trans f.1,d.tape.trans f.2.1,d.output.trans f.2.2.1,oL f.2.2.2 d.size,Z,fun j=>if j=i then B else F j,fun b h=>jC (D b h) d.size,fun p x b h=>?_,fun j r o=>?_,fun j b h=>?_,fun j k b y h=>?_⟩
 .exact⟨(m p x b h).1,(d.old b (D b (m p x b h).1) (fun C=>(c i b C).1 (m p x b h).1)).trans (m p x b h).2⟩
 .rw[gX] at o;split at o
  .rename_i e;subst e
   first | (rw[aH hlt] at o;cases o) | cases o
   simpa using z
  .rename_i e
   simp only[aC (fN e)];exact r.loc _ _ _ (hs j r o) (fun b E=>d.old b (c j b E).2 (l j i b (fN e) E))
 .dsimp only at h;split at h
  .refine⟨fun t=>?_,(d.new b h).2⟩;rcases(d.new b h).1 with h | h
   .exact(c i b h).1 t
   .have:=D b t;omega
  .exact⟨(c j b h).1,jC (c j b h).2 d.size⟩
 .dsimp only at h|-;split at h<;>split
  .rename_i K J;omega
  .rename_i G I
   intro n;rcases(d.new b h).1 with h | h
   .exact l i k b aA h n
   .have:=(c k b n).2;omega
  .rename_i G I
   intro n;rcases(d.new b n).1 with n | n
   .exact l j i b aA h n
   .have:=(c j b h).2;omega
  .exact l j k b y h
def Wq(i:Nat){B:World}{X:Nat->Prop}{d l:Nat}{ty:TypeId}{pos:String}{aN:Array Edge}{x:Operand}{args:List Operand}{vs:List Value}{tys:Array TypeId}{p q T:HP}
  (hx:e.ev x=some (.func (.yield l) #[] #[])) (ha:e.aM args=some vs) (hd:d < nn) (G:nt B X∈R) (N:yV B w0) (hi:H[i]? =some p)
  (hy:∀W1 F1,p.sat F1 W1->(∀b,F1 b->b < W1.heap.size)->jG B W1 X F1->YieldAt Fence.wide 9 P l vs.toArray W1 (aFJ W1 F1 q T))
  (k1:XK ⟨nn,[]⟩ w0 (KI r L P ops Q rest) ((d,.bool true)::e) R (H.set i q)) (k2:XK ⟨nn,[]⟩ w0 (KI r L P ops Q rest) ((d,.bool false)::e) R (H.set i T)):
  XK ⟨nn,[]⟩ w0 (KI r L P ops Q (⟨some d,.call {callee:=.value x,args:=args.toArray,argTypes:=tys},ty,pos,aN,none⟩::rest)) e R H:=fun a w I st=>by
 obtain⟨Z,F,V,n,M,m,E⟩:=st.ex
 have D:i < H.length:=by
  rcases dI i H.length with h | h
  .exact h
  .rw[eW h] at hi;cases hi
 have o:yV B w:=N.trans ⟨st.os,st.tape,st.output,st.size⟩
 obtain⟨fn,t,f,z,C,j⟩:=hy w (F i) (M i p hi) (fun b A=>(m i b A).2) ⟨o.os,o.tape,o.output,o.size,fun b A=>⟨by
  rcases dI b B.heap.size with h | h
  .exact .inl (nO fun O=>(m i b A).1 (n _ G b ⟨h,O⟩).1)
  .exact .inr h,(m i b A).2⟩,fun b A O=>(n _ G b ⟨A,O⟩).2⟩
 refine wpListIn_plain rfl fun K U=>?_;refine⟨fun _ _=>trivial,?_⟩;rw[aHs r _ rfl,aB4]
 have J:(execOp a.eval (⟨some d,.call {callee:=.value x,args:=args.toArray,argTypes:=tys},ty,pos,aN,none⟩:Oper)).run P w=.ok (.round l fn t f z) w:=by
  simp[execOp,resolve,I.ev hx,Deferred.ofValue,invoke,I.aM ha,C]
 rw[J];refine⟨fun _=>by omega,?_⟩
 have k:RoundIn (Fr r) 8 P l fn t f z w (aFJ w (F i) q T):=⟨j.1,fun c Y _=>j.2 c Y (room_wide _)⟩
 refine k.mono ?_;rintro y W' (⟨rfl,F',hq,ht⟩ | ⟨rfl,F',hq,ht⟩)
 .refine U _ _ ?_;rw[Ht];exact k1 _ _ (I.put hd _) (jG.st ⟨st.os,st.tape,st.output,st.size⟩ V n M m E D hq ht)
 .refine U _ _ ?_;rw[Ht];exact k2 _ _ (I.put hd _) (jG.st ⟨st.os,st.tape,st.output,st.size⟩ V n M m E D hq ht)
def Iter(P:Program)(g:FuncId)(lb:List Value)(encs:List (List Value))(p:Piece):Prop:=
 ∀(l:Nat) (J h:Nat->HP) (W:World) (F:Nat->Prop),p.Le (all W)->(∀b,p.Z b->¬F b)->(J 0).sat F W->(∀b,F b->b < W.heap.size)->
  (∀(k:Nat) (i:List Value) (c:World) (d:Nat->Prop),encs[k]? =some i->(J k).sat d c->(∀b,d b->b < c.heap.size)->jG W c F d->YieldAt Fence.wide 9 P l i.toArray c (aFJ c d (J (k+1)) (h (k+1))))->
  Calls P g (Value.func (.yield l) #[] #[]::lb).toArray W fun y e=>(∃v,y=.returned v)/\∃f,jG W e F f/\((J encs.length).sat f e\/∃k,k < encs.length/\(h (k+1)).sat f e)
def It:List Nat->List Value->Env->Env
 | p::ps,v::vs,e=>It ps vs ((p,v)::e)
 | _,_,e=>e
def eT.bind:∀{ps:List Nat} {vs:List Value} {e:Env} {a:Act},eT ⟨nn,[]⟩ e a->(∀p∈ps,p < nn)->eT ⟨nn,[]⟩ (It ps vs e) {tmps:=(ps.zip vs).foldl (fun t (p,v)=>t.setIfInBounds p v) a.tmps,defers:=a.defers}
 | [],vs,e,a,h,_=>h
 | p::ps,[],e,a,h,_=>h
 | p::ps,v::vs,e,a,h,hp=>eT.bind (a:=a.put (some p) v) (h.put (hp p aB) v) (fun q c=>hp q (by simp[c]))
def Ln{gf:FuncId}{lb:List Value}{encs:List (List Value)}{p:Piece}{g:Operand}{ps:List Nat}{assign body:Code}(hg:e.ev g=some (.func (.func gf) #[] lb.toArray))(hf:fW P gf=true)(hit:Iter P gf lb encs p)(hp:p∈R)
  (hps:∀vs∈encs,vs.length=ps.length) (hpN:∀q∈ps,q < nn) (Hs Hx:Nat->List HP) (Mid:Nat->List Value->Env->List HP->Prop) (h0:H=Hs 0++[sC L])
  (hassign:∀(l k:Nat) (vs:List Value) (W1:World) (q:Piece) (X:HP),encs[k]? =some vs->yV w0 W1->XK ⟨nn,[]⟩ W1 (KC (some l) [] P assign (Fx fun a w=>∃e1 H1,Mid k vs e1 H1/\eT ⟨nn,[]⟩ e1 a/\St W1 (R++[q]) (H1++[X]) w)) (It ps vs e) (R++[q]) (Hs k++[X]))
  (hbody:∀(l k:Nat) (vs:List Value) (W1:World) (q:Piece) (X:HP) (e1:Env) (H1:List HP),encs[k]? =some vs->yV w0 W1->Mid k vs e1 H1->
   XK ⟨nn,[]⟩ W1 (KC (some l) [] P body (fun x _ w=>(x=.normal/\St W1 (R++[q]) (Hs (k+1)++[X]) w)\/(x=.ret/\St W1 (R++[q]) (Hx (k+1)++[X]) w))) e1 (R++[q]) (H1++[X]))
  (hdone:∀D,XK ⟨nn,[]⟩ w0 (KQ (D::L) Q .normal) e R (Hs encs.length++[sC (D::L)])) (aRP:∀D k,k < encs.length->XK ⟨nn,[]⟩ w0 (KC none (D::L) P .ret Q) e R (Hx (k+1)++[sC (D::L)])):
  XK ⟨nn,[]⟩ w0 (KC none L P (Code.rangeFunc g ps.toArray assign body) Q) e R H:=fun a w hr st=>by
 subst h0;unfold fW at hf;cases hq:P.funcs[gf]? with
 | none=>simp[hq] at hf
 | some fnn=>
 simp[hq] at hf;obtain⟨hf1,Ko⟩:=hf
 have eg:∀args w,(callFunc gf args).run P w=.ok (.enter gf args) w:=fun args w=>by
  cases hb:fnn.body with
  | none=>simp[hb] at Ko
  | some c=>simp[callFunc,hq,hf1,hb]
 refine wpIn_rangeFunc (F:=Fence.wide) fun fn hfn=>?_
 let zF:LoopState->Option Code->Loop:=fun s pe=>{state:=s,pending:=pe,fn,tmps:=a.tmps,params:=ps.toArray,assign,body,defers:=w.heap.size}
 have st1:St w0 R (Hs 0++[Ep (w.heap.size+1) (w.heap.size::L) (zF .ready none)]) ((w.alloc (.deferred (some []))).alloc (.loop (zF .ready none))):=st.aR3
 obtain⟨W1,hW1⟩:∃W1,(w.alloc (.deferred (some []))).alloc (.loop (zF .ready none))=W1:=⟨_,rfl⟩
 rw[hW1] at st1;obtain⟨F,aRO,hlt,hbase⟩:=st1.join
 refine⟨w.heap.size+1,[aEq w.heap.size],W1,{target:=.fn (.func gf) lb.toArray,args:=#[.func (.yield (w.heap.size+1)) #[] #[]]},W1,gf,#[.func (.yield (w.heap.size+1)) #[] #[]]++lb.toArray,W1,
  by rw[<-hW1];exact run_enterLoop_outer _ _ _ _ _,?_,fun _ _=>trivial,by simp[invoke,go_sem,eg],fun h=>by simp[Fence.wide] at h,?_⟩
 .have:=hr.ev hg
  rw[aB4];simp only[resolve,this];simp[go_sem]
 refine callsIn_wide.2 ?_
 have aEK:=hit (w.heap.size+1) (fun k=>HP.many (Hs k++[Ep (w.heap.size+1) (w.heap.size::L) (zF .ready none)])) (fun k=>HP.many (Hx k++[Ep (w.heap.size+1) (w.heap.size::L) (zF .done (some .ret))])) W1 F
  (fun b hb=>⟨(hbase.ro p hp b hb).1,(hbase.ro p hp b hb).2.2⟩) (fun b hb=>(hbase.ro p hp b hb).2.1) aRO hlt ?_
 .rw[show(#[Value.func (.yield (w.heap.size+1)) #[] #[]]++lb.toArray)=(Value.func (.yield (w.heap.size+1)) #[] #[]::lb).toArray by simp];refine aEK.mono ?_;rintro y W2 ⟨⟨v,rfl⟩,F2,ht,h | ⟨k,hk,h⟩⟩
  .have Ew:=St.split hbase ht h
   refine⟨none,_,run_endLoop Ew.Ul (by simp[zF]),?_⟩
   have:=hdone w.heap.size a _ hr (Ew.aII (rc':={zF .ready none with state:=.exhausted}))
   unfold KQ mk at this;rw[hr.defers] at this;unfold mk;rw[hr.defers];exact this
  .have Ew:=St.split hbase ht h
   refine⟨some .ret,_,run_endLoop Ew.Ul (by simp[zF]),?_⟩
   have:=aRP w.heap.size k hk a _ hr (Ew.aII (rc':={zF .done (some .ret) with state:=.exhausted}))
   unfold KC mk at this;rw[hr.defers] at this;unfold mk;rw[hr.defers];exact this
 .intro k vs W2 F2 hvs yM aJg ht2
  have Ew:=St.split hbase ht2 yM
  have hl2:=Ew.Ul
  have hvl:=hps vs (dJ hvs)
  refine⟨fn,_,assign,body,run_yield hl2 (by simp[zF,hvl]),roundIn_of_wpIn (F:=Fence.wide) hfn ?_⟩
  have stR:=aXv hbase ht2 aJg yM
  have hsame:yV w0 W2:=hbase.same.trans ht2.same
  have aJb:eT ⟨nn,[]⟩ (It ps vs e) {tmps:=(ps.zip vs).foldl (fun t (p,v)=>t.setIfInBounds p v) a.tmps,defers:=a.defers}:=eT.bind hr hpN
  rw[hr.defers] at aJb
  have h1:=hassign (w.heap.size+1) k vs W2 (nt W2 F2) _ hvs hsame _ _ aJb stR
  unfold KC at h1;rw[aB3] at h1;simp only[zF,List.zip_toArray,List.foldl_toArray',List.size_toArray];refine wpIn_mono h1 ?_;rintro x a1 W3 hx;cases x with
  | normal =>
   obtain⟨e1,H1,hmid,Nb,st3⟩:=hx;refine⟨_,run_beginRound st3.Ul rfl,?_⟩
   have st4:=st3.aEu (rc':=zF .busy none)
   have h2:=hbody (w.heap.size+1) k vs W2 (nt W2 F2) _ e1 H1 hvs hsame hmid a1 _ Nb st4
   unfold KC at h2;rw[aB3] at h2;refine wpIn_mono h2 ?_;rintro x a4 W4 (⟨rfl,Pa⟩ | ⟨rfl,Pa⟩)
   .refine⟨_,_,run_endRound none Pa.Ul,.inl ⟨rfl,?_⟩⟩;obtain⟨F',h3,_,h4⟩:=aLP (Pa.aEu (rc':=zF .ready none)) (by simp:nt W2 F2∈R++[nt W2 F2]);exact⟨F',h3,h4⟩
   .refine⟨_,_,run_endRound (some .ret) Pa.Ul,.inr ⟨rfl,?_⟩⟩;obtain⟨F',h3,_,h4⟩:=aLP (Pa.aEu (rc':=zF .done (some .ret))) (by simp:nt W2 F2∈R++[nt W2 F2]);exact⟨F',h3,h4⟩
  | _=>exact hx.elim
def Gg{f:FuncId}{fn:Func}{c:Code}{vs:List Value}{w:World}{d:Ending->World->Prop}(hf:P.funcs[f]? =some fn)(A:fn.body=some c)(C:fn.ntmps=nn)(hl:vs.length<=nn){R:List Piece}{H:List HP}(st:St w R H w)
  (h:XK ⟨nn,[]⟩ w (KC none [] P c (bodyPostM Fence.wide 9 P fn d)) (Eb 0 vs) R (H++[sC []])):Calls P f vs.toArray w d:=by
 refine(callsIn_wide (n:=9)).1 (callsIn_of_wp_marks hf A trivial ?_ rfl)
 have:=h {tmps:=vs.toArray++Array.replicate (fn.ntmps - vs.toArray.size) undef,defers:=[]} w ⟨?_,rfl,fun t v z=>?_⟩ ?_
 .unfold KC at this;rw[aB3] at this;exact this
 .simp;omega
 .obtain⟨_,l⟩:=aAj vs 0 t v z;rw[Nat.sub_zero] at l
  have o:t < vs.length:=by
   rcases dI t vs.length with h | h
   .exact h
   .rw[eW h] at l;cases l
  rw[aBn (by simpa using o)]
  simpa using l
 .obtain⟨Z,F,B,x,y,hf,hd⟩:=st.ex;refine⟨st.os,st.tape,st.output,st.size,Z,fun i b=>i < H.length/\F i b,B,x,fun i p e=>?_,fun i b h=>hf i b h.2,fun i j b m h k=>hd i j b m h.2 k.2⟩;rcases dI i H.length with h | h
  .rw[pL h] at e
   have:=y i p e
   show p.sat (fun b=>i < H.length/\F i b) w
   rwa [show(fun b=>i < H.length/\F i b)=F i by funext b;simp[h]]
  .rw[nA h] at e
   have:i - H.length=0:=by
    rcases zI (i - H.length) with h | h
    .exact h
    .rw[eW (by simp;omega)] at e;cases e
   rw[this] at e;simp at e;subst e;exact⟨List.nodup_nil,fun D r=>by cases r⟩
def Uo{fn:Func}{tmps:Array Value}{Post:Ending->World->Prop}{v:Value}:∀(L:List Nat) (Hs:List HP) (w:World),St w0 R (Hs++[sC L]) w->(∀w,St w0 R Hs w->(results fn tmps).run P w=.ok v w/\Post (.returned v) w)->
  LeavesInM Fence.wide 9 P fn tmps Post (L.map aEq) .returning w
 | [], Hs, w, st, h => ⟨v, h w (st.weak (fun _ hp => hp) id (fun _ _ _ _ h => h) (fun i p hi => by
   have:i < Hs.length:=by
    rcases dI i Hs.length with h | h
    .exact h
    .rw[eW h] at hi;cases hi
   show(Hs++[sC []])[i]? =some p
   rw[pL this];exact hi))⟩
 | D::L,Hs,w,st,h=>by
  obtain⟨F,hF⟩:=st.sat (i:=Hs.length) Uq
  have hD:=(hF.2 D aB).2
  refine⟨aB,.inl ⟨D,_,rfl,run_takeDeferred hD,Uo L Hs _ ?_ h⟩⟩
  have:=st.yZ (q:=sC L) (w':=w.putObj D (.deferred none)) (i:=Hs.length) Uq aB rfl rfl rfl (fun F hF hlt=>⟨F,⟨(Bm.1 hF.1).2,fun D' hD'=>⟨(hF.2 D' (by simp[hD'])).1,(World.putObj_heap_other (fun e:D'=D=>(Bm.1 hF.1).1 (e▸hD'))).trans (hF.2 D' (by simp[hD'])).2⟩⟩,fun b hb=>⟨.inl hb,by simpa using hlt b hb⟩,fun b hb hn=>World.putObj_heap_other (fun e=>hn (e▸(hF.2 D aB).1))⟩)
  rwa [aBC] at this
def Iw{fn:Func}{c:Ending->World->Prop}{x:Exit}{Hs:List HP}(hx:x=.ret\/x=.normal)(f:fn.results=#[])(h:∀w,St w0 R Hs w->c (.returned (.tuple #[])) w):XK ⟨nn,[]⟩ w0 (KQ L (bodyPostM Fence.wide 9 P fn c) x) e R (Hs++[sC L]):=fun a w d st=>by
 have:=Uo (P:=P) (fn:=fn) (tmps:=a.tmps) (v:=.tuple #[]) L Hs w st (fun w st=>⟨results_none f _ _ _,h w st⟩)
 rcases hx with rfl | rfl
 .unfold KQ mk;rw[d.defers];exact this
 .unfold KQ mk;rw[d.defers];exact this
def aL8{fn:Func}{c:Ending->World->Prop}{Hs:List HP}{t:Nat}{v:Value}(f:fn.results=#[.tmp t])(i:e.get t=some v)(h:∀w,St w0 R Hs w->c (.returned v) w):XK ⟨nn,[]⟩ w0 (KQ L (bodyPostM Fence.wide 9 P fn c) .ret) e R (Hs++[sC L]):=fun a w d st=>by
 have:=Uo (P:=P) (fn:=fn) (tmps:=a.tmps) (v:=v) L Hs w st (fun w st=>⟨by rw[results_tmp f,Tk,d.get t v i];rfl,h w st⟩)
 unfold KQ mk;rw[d.defers];exact this
def aWX{K:Act->World->Prop}(h:XK ⟨nn,[]⟩ w0 K e R H):XK ⟨nn,[]⟩ w0 (Fx K .normal) e R H:=h
def Lp{M:Env->List HP->Prop}{H1:List HP}{X:HP}(hm:M e H1):XK ⟨nn,[]⟩ w0 (KQ [] (Fx fun a w=>∃e1 H1,M e1 H1/\eT ⟨nn,[]⟩ e1 a/\St w0 R (H1++[X]) w) .normal) e R (H1++[X]):=fun a w c st=>⟨e,H1,hm,by rw[aB3];exact c,st⟩
def oX{H2:List HP}:XK ⟨nn,[]⟩ w0 (KQ L (fun x _ w=>(x=.normal/\St w0 R H w)\/(x=.ret/\St w0 R H2 w)) .normal) e R H:=fun a w c st=>.inl ⟨rfl,st⟩
def Iy{H2:List HP}:XK ⟨nn,[]⟩ w0 (KQ L (fun x _ w=>(x=.normal/\St w0 R H2 w)\/(x=.ret/\St w0 R H w)) .ret) e R H:=fun a w c st=>.inr ⟨rfl,st⟩
def aA4{W:World}{F:Nat->Prop}{p:Piece}{J:HP}(hp:p.Le (all W))(hd:∀b,p.Z b->¬F b)(hs:J.sat F W)(hF:∀b,F b->b < W.heap.size):St W [p,nt W F] [J] W:=by
 have st:=aGd hs hF
 obtain⟨Z,G,i,e,hs,h,d⟩:=st.ex;refine⟨st.os,st.tape,st.output,st.size,Z,G,i,fun q f b c=>?_,hs,h,d⟩;simp only[fT,pY,or_false] at f;rcases f with rfl | rfl
 .exact⟨(e (nt W F) (by simp[nt]) b ⟨(hp b c).1,hd b c⟩).1,(hp b c).2⟩
 .exact e (nt W F) (by simp[nt]) b c
end
def Nl(ops:Array Oper):Bool:=(List.range ops.size).all fun j=>match ops[j]? with
 | some o=>o.after.toList.all fun x=> !(Region.binds .any x)||decide (x.on < j)
 | none=>true
def Zp(l:List Oper)(m:Nat):Bool:=(l.take m).all fun o=>match o.guard with
 | some (j,_)=>decide (j < m)
 | none=>true
def aBZ{ops:Array Oper}(h:Nl ops=true){j:Nat}{o:Oper}(ho:ops[j]? =some o):∀x∈o.after,Region.binds .any x=true->x.on < j:=fun x d c=>by
 have e:=(Mq.1 ho).1
 unfold Nl at h;simp only[mJ,mI] at h
 have:=h j e
 rw[ho] at this;simp only[mJ] at this
 have:=this x (by simpa using d)
 simpa[c] using this
def Qq{l:Array Bool}{i:Nat}(h:i < l.size):l.getD i true=l.getD i false:=by simp[h]
def Rs(k:Nat)(listed:Array Bool):Prop:=(∀i,i < k->listed.getD i false=true)/\∀i,k<=i->listed.getD i false=false
def aP6{ops:Array Oper}{k:Nat}{listed:Array Bool}(l:Nl ops=true)(hd:Down ops listed)(hk:k < ops.size)(r:∀j,k<=j->j < ops.size->Oy ops j=true)(m:listed.size=ops.size)(c:Rs k listed):k∈Region.ready .any ops listed/\∀i∈Region.ready .any ops listed,i=k:=by
 constructor
 .refine mem_ready.2 ⟨?_,_,Yb hk,fun x p n=>c.1 _ (aBZ l (Yb hk) x p n)⟩;rw[Qq aA];exact c.2 k (gE _)
 .intro i f;obtain⟨e,o,t,w⟩:=mem_ready.1 f
  have d:=(Mq.1 t).1
  rw[Qq aA] at e;rcases Nat.lt_trichotomy i k with h | h | h
  .rw[c.1 i h] at e;cases e
  .exact h
  .have:=aD1 hd f (r i aA d) h
   rw[c.2 k (gE _)] at this;cases this
def Rs.next{k:Nat}{listed:Array Bool}(h:Rs k listed)(hk:k < listed.size):Rs (k+1) (listed.setIfInBounds k true):=by
 refine⟨fun i c=>?_,fun i c=>?_⟩
 .by_cases e:k=i
  .subst e;simp[hk]
  .rw[getD_set_ne false e];exact h.1 i aA
 .rw[getD_set_ne false aA];exact h.2 i aA
section
variable{H:List HP}
def aNN{ops:Array Oper}(hE:Nl ops=true):∀(fuel k:Nat) (listed:Array Bool) (a:Act) (w:World),k<=ops.size->ops.size<=k+fuel->Down ops listed->(∀j,k<=j->j < ops.size->Oy ops j=true)->listed.size=ops.size->Rs k listed->
  wpListIn (Fr r) 9 P ops Q (ops.toList.drop k) a w->wpAnyIn (Fr r) 9 P .any ops Q fuel listed a w:=by
 have none:∀(k:Nat) (listed:Array Bool),k=ops.size->listed.size=ops.size->Rs k listed->Region.ready .any ops listed=[]:=by
  intro k listed hk hsz hu;cases hr:Region.ready .any ops listed with
  | nil=>rfl
  | cons i is=>
   exfalso;obtain⟨h1,o,ho,_⟩:=mem_ready.1 (by rw[hr];simp:i∈Region.ready .any ops listed)
   have hlt:=(Mq.1 ho).1
   rw[Qq aA,hu.1 i aA] at h1;cases h1
 intro fuel
 induction fuel with
 | zero=>
  intro k listed a w hk hk2 hd ht hsz hu h;rw[Ti (by simp;omega)] at h;exact⟨none k listed aA hsz hu,h⟩
 | succ fuel ih =>
  intro k listed a w hk hk2 hd ht hsz hu h
  by_cases hkn:k < ops.size
  .obtain⟨h1,h2⟩:=aP6 hE hd hkn ht hsz hu;refine⟨fun hn=>absurd h1 (by rw[hn];simp),fun i hi=>?_⟩
   have:=h2 i hi
   subst this
   have aRX:ops[i]? =some (ops[i]'hkn):=Yb hkn
   have aSf:ops.toList.drop i=ops[i]'hkn::ops.toList.drop (i+1):=by
    rw[<-List.getElem_cons_drop (by simpa using hkn)];simp
   rw[aSf] at h;unfold wpListIn at h;unfold wpOpIn;rw[aRX]
   have key:∀a w,wpListIn (Fr r) 9 P ops Q (ops.toList.drop (i+1)) a w->wpAnyIn (Fr r) 9 P .any ops Q fuel (listed.setIfInBounds i true) a w:=fun a w h=>ih (i+1) _ a w aA aA (hd.lZ hi) (fun j hj=>ht j aA) (by simpa using hsz) (hu.next aA) h
   dsimp only;split
   .rename_i hw
    rw[aH hw] at h;exact Oper.wpIn_mono key h
   .rename_i hw
    rw[aC hw] at h;exact⟨h.1,key _ _ h.2⟩
  .rw[Ti (by simp;omega)] at h
   have hn:=none k listed aA hsz hu
   exact⟨fun _=>h,fun i hi=>by rw[hn] at hi;cases hi⟩
structure Rel(ops:Array Oper)(m:Nat)(listed l':Array Bool):Prop where
 lo:∀i,i < m->listed.getD i false=l'.getD i false
 hi:∀i,m<=i->listed.getD i false=false
 s1:listed.size=ops.size
 s2:l'.size=m
 le:m<=ops.size
def Rel.lZ{ops:Array Oper}{m i:Nat}{listed d:Array Bool}(h:Rel ops m listed d)(hi:i < m):Rel ops m (listed.setIfInBounds i true) (d.setIfInBounds i true):=by
 have l:=h.le
 have o:=h.s1
 have n:=h.s2
 refine⟨fun j c=>?_,fun j c=>?_,by simpa using h.s1,by simpa using h.s2,h.le⟩
 .by_cases e:i=j
  .subst e
   have k:i < d.size:=by omega
   have f:i < listed.size:=by omega
   simp[k,f]
  .rw[getD_set_ne false e,getD_set_ne false e];exact h.lo j c
 .rw[getD_set_ne false aA];exact h.hi j c
def aMX{o:Oper}{a:Act}{w:World}{K K1 K2:Act->World->Prop}(h:o.wp P a w K (Fx K1)):o.wp P a w K (Fx K2):=by
 unfold Oper.wp at h|-;generalize (execOp a.eval o).run P w=res at h|-;cases res with
 | ok n w'=>cases n<;>first | exact h | exact Calls.mono h (fun x e c=>by cases x<;>first | exact c | exact c.elim | (obtain⟨_,_,d⟩:=c;exact d.elim))
 | halt x w'=>cases x<;>exact h
def aKT{l:List Oper}{m:Nat}(hm:m<=l.length)(V:Nl l.toArray=true)(Z:Bd l.toArray m=true)(hG:Zp l m=true)(hp:(l.take m).all zL=true):
  ∀(fuel:Nat) (listed d:Array Bool) (a:Act) (w:World),Rel l.toArray m listed d->Down l.toArray listed->wpAny P .any (l.take m).toArray (Fx (KI r L P l.toArray Q (l.drop m))) fuel d a w->
   wpAnyIn (Fr r) 9 P .any l.toArray Q (fuel+(l.length - m)) listed (mk L a) w:=by
 have n:∀i,i < m->(l.take m).toArray[i]? =l.toArray[i]? :=fun i p=>by simp[Ka,p]
 have e:∀{listed d:Array Bool},Rel l.toArray m listed d->∀i,i < m->(i∈Region.ready .any l.toArray listed↔i∈Region.ready .any (l.take m).toArray d):=by
  intro listed d c i p
  have K:=c.s1
  have yM:=c.s2
  have X:=c.le
  rw[mem_ready,mem_ready,Qq (l:=listed) aA,Qq (l:=d) aA,c.lo i p,n i p];constructor
  .rintro⟨R,o,k,f⟩;exact⟨R,o,k,fun x A C=>by have:=aBZ V k x A C;rw[<-c.lo _ aA];exact f x A C⟩
  .rintro⟨R,o,k,f⟩;exact⟨R,o,k,fun x A C=>by have:=aBZ V k x A C;rw[c.lo _ aA];exact f x A C⟩
 have J:∀j,m<=j->j < l.toArray.size->Oy l.toArray j=true:=fun j hj z=>by
  unfold Bd at Z;simp only[mJ,mI,yD,decide_eq_true_eq] at Z;exact(Z j z).resolve_left aA
 have E:∀{listed d:Array Bool},Rel l.toArray m listed d->Region.ready .any (l.take m).toArray d=[]->Rs m listed:=by
  intro listed d c N;refine⟨fun i=>?_,c.hi⟩
  induction i using Nat.strongRecOn with
  | _ i ih =>
   intro p;cases C:listed.getD i false with
   | true=>rfl
   | false =>
    exfalso
    have K:=c.s1
    have X:=c.le
    have M:i < l.toArray.size:=by omega
    have:i∈Region.ready .any l.toArray listed:=mem_ready.2 ⟨by rw[Qq aA];exact C,_,Yb M,fun x A Y=>by
     have:=aBZ V (Yb M) x A Y
     exact ih x.on this aA⟩
    rw[e c i p,N] at this;cases this
 have fin:∀{fuel:Nat} {listed d:Array Bool} {a:Act} {w:World},Rel l.toArray m listed d->Down l.toArray listed->Region.ready .any (l.take m).toArray d=[]->KI r L P l.toArray Q (l.drop m) a w->wpAnyIn (Fr r) 9 P .any l.toArray Q (fuel+(l.length - m)) listed (mk L a) w:=by
  intro fuel listed d a w c hd N hk;refine aNN V _ m listed _ w (by simpa using hm) (by simp;omega) hd J c.s1 (E c N) ?_;unfold KI at hk
  simpa using hk
 intro fuel
 induction fuel with
 | zero=>
  intro listed d a w c hd h;exact fin c hd h.1 h.2
 | succ fuel ih =>
  intro listed d a w c hd h;cases F:Region.ready .any (l.take m).toArray d with
  | nil=>exact fin c hd F (h.1 F)
  | cons i0 is =>
   have I:i0∈Region.ready .any (l.take m).toArray d:=by rw[F];simp
   have H:i0 < m:=by
    obtain⟨_,o,k,_⟩:=mem_ready.1 I
    have:=(Mq.1 k).1
    simp at this;omega
   have y:=(e c i0 H).2 I
   rw[show fuel+1+(l.length - m)=(fuel+(l.length - m))+1 by omega];refine⟨fun N=>absurd y (by rw[N];simp),fun i p=>?_⟩;obtain⟨R,o,k,_⟩:=mem_ready.1 p
   have z:=(Mq.1 k).1
   by_cases t:i < m
   .have hi':=(e c i t).1 p
    have f:=h.2 i hi'
    unfold wpOp at f;unfold wpOpIn;rw[n i t,k] at f;rw[k];dsimp only at f|-
    have B:Region.wanted o (yielded l.toArray (mk L a).tmps)=Region.wanted o (yielded (l.take m).toArray a.tmps):=by
     show Region.wanted o (yielded l.toArray a.tmps)=_
     cases D:o.guard with
     | none=>simp[Region.wanted,D]
     | some g =>
      obtain⟨j,b⟩:=g
      have hj:j < m:=by
       unfold Zp at hG;simp only[mJ] at hG
       have G:o∈l.take m:=by
        have:(l.take m)[i]? =some o:=by simpa[Ka,t] using k
        exact dJ this
       have:=hG o G
       rw[D] at this
       simpa using this
      simp only[Region.wanted,D,yielded,n j hj]
    rw[B]
    have hpo:zL o=true:=by
     simp only[mJ] at hp
     have:(l.take m)[i]? =some o:=by simpa[Ka,t] using k
     exact hp o (dJ this)
    have O:∀T U,wpAny P .any (l.take m).toArray (Fx (KI r L P l.toArray Q (l.drop m))) fuel (d.setIfInBounds i true) T U->wpAnyIn (Fr r) 9 P .any l.toArray Q (fuel+(l.length - m)) (listed.setIfInBounds i true) (mk L T) U:=fun T U hh=>ih _ _ T U (c.lZ t) (hd.lZ p) hh
    split
    .rename_i hw
     rw[aH hw] at f;rcases f with f | ⟨_,_,_,f⟩
     .exact aDY hpo O (aMX f)
     .exact f.elim
    .rename_i hw
     rw[aC hw] at f;refine⟨fun _ _=>trivial,?_⟩;rw[Ht];exact O _ _ f
   .exfalso
    have:=aD1 hd p (J i aA z) (show i0 < i by omega)
    obtain⟨h3,_⟩:=mem_ready.1 y
    have K:=c.s1
    rw[Qq aA,this] at h3;cases h3
def aFX(m:Nat){id:Nat}{l:List Oper}(hm:P.follows .mixedOrders=true)(f:(Region.noSelect (l.take m).toArray&&Nl l.toArray&&Bd l.toArray m&&Bd (l.take m).toArray m&&Zp l m&&(l.take m).all zL&&decide (m<=l.length))=true)
  (h:XA P ⟨nn,[]⟩ w0 (l.take m).toArray (Fx (KI r L P l.toArray Q (l.drop m))) R H m m (Array.replicate m false) e R H):XK ⟨nn,[]⟩ w0 (KC r L P (Code.region id l.toArray true) Q) e R H:=fun a w k st=>by
 simp only[jY,decide_eq_true_eq] at f;obtain⟨⟨⟨⟨⟨⟨y,c2⟩,n⟩,o⟩,p⟩,t⟩,c⟩:=f
 have x:=h ⟨Down.start _ _,y,o⟩ a w.drew k st.drew
 have j:=aKT (r:=r) (L:=L) (Q:=Q) c c2 n p t m (Array.replicate l.length false) _ a w.drew ⟨fun i d=>by simp[d,jC d c],fun i d=>by simp[Array.getElem?_replicate];split<;>rfl,aB,aB,by simpa using c⟩ (Down.start _ _) (Xp _ _ _ _ x)
 unfold KC;refine wpIn_region_any hm ?_;rw[show m+(l.length - m)=l.length by omega] at j
 simpa using j
end
section
variable{H:List HP}
def Xk{x:Operand}{t el u:TypeId}{A:Option Addr}{n c:Nat}(i:P.underlying t=some (.slice el))(hx:e.ev x=some (.slice A n c))(hd:d < N.n)
  (k:XK N w0 (wpList P ops Q rest) ((d,.bool A.isNone)::e) R H):XK N w0 (wpList P ops Q (⟨some d,.binOp .eql t x (.const (.slice none 0 0)) u,ty,pos,aN,none⟩::rest)) e R H:=
 pS hd (fun a w f=>by
  have h:=f.ev hx
  have j:=f.ev (show e.ev (.const (.slice none 0 0))=some (.slice none 0 0) from rfl)
  simp[execOp,h,j,eqGuard,binOp,run_equal_slice_nil _ t el A n c i]) k
def Ot{t el:TypeId}{sz:Nat}(h:P.underlying t=some (.slice el))(c:(P.info? el).map (·.size)=some sz)(hd:d < N.n)
  (k:∀g,XK N w0 (wpList P ops Q rest) ((d,.slice (some ⟨g,0,none⟩) 0 0)::e) R (HP.aK g el []::H)):XK N w0 (wpList P ops Q (⟨some d,.buildSlice t 0 #[],ty,pos,aN,none⟩::rest)) e R H:=
 aG9 (ps:=[]) (vs:=[]) rfl (fun w=>by
  obtain⟨i,f,j⟩:=kS.1 c;simp[Instr.buildSlice,Sem.run_bind,run_underlying h,Result.andThen_ok,sizeOf,typeInfo,f,newRow,Instr.fill]
  congr 2
  exact Array.eq_empty_of_size_eq_zero aB) hd k
def St.bare{w:World}(h:St w0 R H w):St w0 [] [] w:=h.weak (fun _ d=>by cases d) id (fun _ _ _ _ h=>h) (fun i p c=>by simp at c)
def aWU(m:Nat){id:Nat}{l:List Oper}(hm:P.follows .mixedOrders=true)(c:(Region.noSelect l.toArray&&Bd l.toArray m)=true)(h:XA P N w0 l.toArray Q [] [] m l.length (Array.replicate l.length false) e R H):XK N w0 ((Code.region id l.toArray true).wp P Q) e R H:=fun a w d st=>by
 simp only[jY] at c
 have:=h ⟨Down.start _ _,c.1,c.2⟩ a w.drew d st.drew
 refine wp_region_any hm (Xp (S:=St w0 [] []) (m:=m) _ _ _ _ ?_)
 simpa using this
def Iv(i:Nat){K:Act->World->Prop}{g n c sz:Nat}{el:TypeId}{xs:List Value}(hi:H[i]? =some (HP.own el sz (.slice (some ⟨g,0,none⟩) n c) n xs))
  (h:∀cs:List Value,cs.length=c*sz->cs.take (n*sz)=xs->n<=c->c<=maxLen->XK N w0 K e R (H.set i (HP.aK g el cs))):XK N w0 K e R H:=fun a w r st=>by
 obtain⟨_,j⟩:=st.own hi;rcases j with⟨j,_⟩ | ⟨A,o,l,x,_,t,y,p,k,d⟩
 .cases j
 .cases x;refine h l.toList (by simpa using k) d y p a w r (st.yZ hi (gE _) rfl rfl rfl fun F z f=>⟨F,⟨z.1 g rfl,by simpa[vE] using t⟩,fun b m=>⟨.inl m,f b m⟩,fun _ _ _=>rfl⟩)
def Aj(i:Nat){K:Act->World->Prop}{g n c sz:Nat}{el:TypeId}{cs xs:List Value}(hi:H[i]? =some (HP.aK g el cs))(l:cs.length=c*sz)(j:cs.take (n*sz)=xs)(m:n<=c)(hm:c<=maxLen)
  (h:XK N w0 K e R (H.set i (HP.own el sz (.slice (some ⟨g,0,none⟩) n c) n xs))):XK N w0 K e R H:=fun a w p st=>
 h a w p (st.yZ hi (gE _) rfl rfl rfl fun F o f=>⟨F,⟨fun r d=>by simp[Value.ownBlock] at d;exact d▸o.1,by rw[<-j,pX,l];exact Tm (Mo _ m),.inr ⟨g,c,cs.toArray,rfl,rE _,o.2,m,hm,by simpa using l,by simpa using j⟩⟩,fun b k=>⟨.inl k,f b k⟩,fun _ _ _=>rfl⟩)
end
def Og(xs:List Value)(k:Nat)(l:List Value):Prop:=l.length=xs.length/\∀t,t < xs.length->l[t]? =if t < k\/xs.length - k<=t then xs[xs.length - 1 - t]? else xs[t]?
def Og.zero(xs:List Value):Og xs 0 xs:=⟨rfl,fun t c=>by rw[aC aA]⟩
def Og.all{xs l:List Value}{k:Nat}(h:Og xs k l)(hk:xs.length<=2*k+1):l=xs.reverse:=by
 apply qR;intro t;rcases dI t xs.length with c | c
 .rw[h.2 t c,List.getElem?_reverse c];split
  .rfl
  .congr 1;omega
 .rw[eW (by rw[h.1];exact c),eW (by simpa using c)]
def Og.next{xs l:List Value}{k:Nat}{u v:Value}(h:Og xs k l)(hk:2*k+1 < xs.length)(j:l[xs.length - 1 - k]? =some u)(n:l[k]? =some v):Og xs (k+1) ((l.set k u).set (xs.length - 1 - k) v):=by
 have i:=h.2 k aA
 have e:=h.2 (xs.length - 1 - k) aA
 rw[aC aA,n] at i;rw[aC aA,j] at e;refine⟨by simpa using h.1,fun t m=>?_⟩
 have o:=h.1
 rw[gX,gX]
 by_cases f:xs.length - 1 - k=t
 .rw[aH f,aH (by simp;omega),aH aA,show xs.length - 1 - t=k by omega];exact i
 .rw[aC f]
  by_cases c:k=t
  .rw[aH c,aH aA,aH aA,<-c];exact e
  .rw[aC c,h.2 t m]
   by_cases d:t < k\/xs.length - k<=t
   .rw[aH d,aH aA]
   .rw[aC d,aC aA]
def take_set{cs l:List Value}{n k:Nat}{u:Value}(h:cs.take n=l):(cs.set k u).take n=l.set k u:=by rw[<-h,List.take_set]
def aGZ{cs l:List Value}{n k:Nat}{u:Value}(h:cs.take n=l)(c:l[k]? =some u):cs[k]? =some u:=by
 rw[<-h,Ka] at c;split at c
 .exact c
 .cases c
def Sa(p0:Piece)(w0:World)(q:Piece):Prop:=∀b,q.Z b->p0.Z b\/w0.heap.size<=b
section
variable{H H':List HP}
def St.piece{p:Piece}(st:St w0 R H w)(i:all w0∈R)(hp:p.Le (all w0)):St w0 (p::R) H w:=by
 obtain⟨Z,F,k,f,j,h,hd⟩:=st.ex;refine⟨st.os,st.tape,st.output,st.size,Z,F,k,fun q c b d=>?_,j,h,hd⟩;simp only[fT] at c;rcases c with rfl | c
 .have e:=f _ i b (hp b d).1
  exact⟨e.1,e.2.trans (hp b d).2⟩
 .exact f q c b d
def Eg(p:Piece)(c:all w0∈R)(hp:p.Le (all w0))(h:XK N w0 K e (p::R) H):XK N w0 K e R H:=fun a w d st=>h a w d (st.piece c hp)
def aQK{p0 c d:Piece}{w1:World}(st:St w0 R H w1)(j:c∈R)(l:Sa p0 w0 c)(m:p0.Le c)(k:p0.Le d)(n:(fresh w0 w1).Le d):c.Le d:=fun b i=>by
 rcases l b i with h | h
 .obtain⟨f,e⟩:=k b h;exact⟨f,e.trans (m b h).2.symm⟩
 .obtain⟨f,e⟩:=n b ⟨h,st.Xy j i⟩;exact⟨f,e.trans (st.ro j i)⟩
def aMS(p m:Piece){f:FuncId}{x:Operand}{args:List Operand}{fi ca vs:List Value}{tys:Array TypeId}(hf:fW P f=true)(hx:e.ev x=some (.func (.func f) fi.toArray ca.toArray))(G:e.aM args=some vs)(hd:d < N.n)(j:m∈R)(F:Sa p w0 m)
  (R':Value->World->World->Prop) (E:∀w,St w0 R H w->Calls P f (fi++vs++ca).toArray w fun y w'=>(∃v,y=.returned v/\R' v w w')/\Below w.heap.size w w')
  (k:∀v w q,R' v w q.w->(fresh w q.w).Le q->m.Le q->Sa p w0 q->XK N w0 (wpList P ops Q rest) ((d,v)::e) (q::R) H):
  XK N w0 (wpList P ops Q (⟨some d,.call {callee:=.value x,args:=args.toArray,argTypes:=tys},ty,pos,aN,none⟩::rest)) e R H:=fun a w o st=>wpList_plain rfl fun K A=>by
 unfold fW at hf;cases t:P.funcs[f]? with
 | none=>simp[t] at hf
 | some fn =>
  simp[t] at hf;obtain⟨z,r⟩:=hf
  have l:(execOp a.eval (⟨some d,.call {callee:=.value x,args:=args.toArray,argTypes:=tys},ty,pos,aN,none⟩:Oper)).run P w=.ok (.enter f (fi++vs++ca).toArray) w:=by
   cases i:fn.body with
   | none=>simp[i] at r
   | some c=>
    simp[execOp,resolve,o.ev hx,Deferred.ofValue,invoke,callFunc,t,z,i,o.aM G]
  unfold Oper.wp;rw[l];refine(E w st).mono fun y w' ⟨⟨v,D,C⟩,i⟩=>?_;subst D;refine A _ _ (k v w ⟨w',fun b=>(fresh w w').Z b\/m.Z b⟩ C (fun b h=>⟨.inl h,rfl⟩) (fun b h=>⟨.inr h,?_⟩) (fun b i=>?_) _ _ (o.put hd v) (st.seen i (fun b h=>h.imp id fun B=>⟨m,j,B⟩)))
  .exact(i.block b (st.Xy j h)).trans (st.ro j h)
  .rcases i with i | i
   .exact .inr (oL st.size i.1)
   .exact F b i
def aLr(p n:Piece)(y d:List Nat)(t:n∈R)(M:all w0∈R)(O:Sa p w0 n)(E:zB d H=some H')(C:d.Nodup)(hf:∀i∈y,i∉d)
  (h:∀q:Piece,(∀(i:Nat) (p:HP),i∈y->H[i]? =some p->∃F,p.sat F q.w/\∀b,F b->q.Z b)->n.Le q->Sa p w0 q->XK N w0 K e (q::R) H'):XK N w0 K e R H:=fun a w L st=>by
 obtain⟨Z,F,J,f,I,k,hd⟩:=st.ex
 have G:=Xu E
 have r:=aEd C
 have o:=aBb E
 refine h ⟨w,fun b=>n.Z b\/∃i,i∈y/\F i b⟩ (fun i p m l=>⟨F i,I i p l,fun b c=>.inr ⟨i,m,c⟩⟩) (fun b c=>⟨.inl c,(f n t b c).2⟩) (fun b c=>?_) a w L
  ⟨st.os,st.tape,st.output,st.size,fun b=>Z b\/∃i,i∈y/\F i b,fun i b=>i < H'.length/\F (d.getD i 0) b,?_,?_,?_,?_,?_⟩
 .rcases c with c | ⟨i,m,c⟩
  .exact O b c
  .refine .inr ?_;rcases dI b w0.heap.size with h | h
   .exact absurd (f _ M b h).1 (k i b c).1
   .exact h
 .rintro b (h | ⟨i,_,h⟩)
  .exact J b h
  .exact(k i b h).2
 .intro p l b c;simp only[fT] at l;rcases l with rfl | l
  .refine⟨?_,rfl⟩;rcases c with c | c
   .exact .inl (f n t b c).1
   .exact .inr c
  .exact⟨.inl (f p l b c).1,(f p l b c).2⟩
 .intro i p m
  have z:i < H'.length:=by
   rcases dI i H'.length with h | h
   .exact h
   .rw[eW h] at m;cases m
  show p.sat (fun b=>i < H'.length/\F (d.getD i 0) b) w
  rw[show(fun b=>i < H'.length/\F (d.getD i 0) b)=F (d.getD i 0) by funext b;simp[z]];exact I _ p (o i p m)
 .rintro i b ⟨m,h⟩;refine⟨?_,(k _ b h).2⟩;rintro(uD | ⟨j,B,hjb⟩)
  .exact(k _ b h).1 uD
  .have A:i < d.length:=aA
   have x:d.getD i 0∈d:=by simp[mZ,cX A]
   exact hd (d.getD i 0) j b (fun e=>hf j B (e▸x)) h hjb
 .exact fun i j b D h B=>hd (d.getD i 0) (d.getD j 0) b (fun e=>D (r i j aA aA e)) h.2 B.2
end
def yP(M:Option Nat)(d:Nat)(e:Env):Env:=match M with
 | none=>e
 | some g=>(d,.pointer (some ⟨g,0,none⟩))::e
def Bx(M:Option Nat)(t:TypeId)(cs:List Value)(H:List HP):List HP:=match M with
 | none=>H
 | some g=>HP.aK g t cs::H
def Dm(M:Option Nat)(j:Nat)(l:Array Bool):Array Bool:=match M with
 | none=>l
 | some _=>l.setIfInBounds j true
def Ie(M:Option Nat)(f:Nat):Nat:=match M with
 | none=>f+1
 | some _=>f
def neB(d:Nat):Operand->Bool
 | .tmp t=> !(Nat.beq d t)
 | _=>true
def aSF(M:Option Nat){d t:Nat}{e:Env}{v:Value}(h:e.get t=some v)(c:Nat.beq d t=false):(yP M d e).get t=some v:=by
 cases M with
 | none=>exact h
 | some g=>
  show Env.get ((d,_)::e) t=some v
  unfold Env.get;rw[c];exact h
def Vk(M:Option Nat){d:Nat}{e:Env}{x:Operand}{v:Value}(h:e.ev x=some v)(c:neB d x=true):(yP M d e).ev x=some v:=by
 cases x with
 | tmp t=>exact aSF M h (by simpa[neB] using c)
 | _=>exact h
def Vj(M:Option Nat){d:Nat}{e:Env}:∀{xs:List Operand} {vs:List Value},e.aM xs=some vs->xs.all (neB d)=true->(yP M d e).aM xs=some vs
 | [],vs,h,_=>by cases h;rfl
 | x :: xs, vs, h, hn => by
  simp only[List.all_cons,jY] at hn;unfold Env.aM at h|-;split at h
  .rename_i v r f c
   cases h;rw[Vk M f hn.1,Vj M c hn.2]
  .cases h
section
variable{H H0:List HP}
variable{dA:Nat}{t:TypeId}{cs:List Value}
def Ee(d:∀p∈R',p∈R)(h:XK N w0 K e R' H):XK N w0 K e R H:=fun a w c st=>h a w c (st.weak d id (fun _ _ _ _ h=>h) (fun _ _ h=>h))
def St.unM{M:Option Nat}(h:St w0 R (Bx M t cs H) w):St w0 R H w:=by
 cases M with
 | none=>exact h
 | some g=>exact h.tail
def eT.aPO{M:Option Nat}{a:Act}(h:eT N ((d,v)::yP M dA e) a)(hd:Nat.beq d dA=false):eT N (yP M dA ((d,v)::e)) a:=by
 cases M with
 | none=>exact h
 | some g =>
  refine⟨h.size,h.defers,fun u x c=>h.get u x ?_⟩
  show Env.get ((d,v)::(dA,_)::e) u=some x
  have c:Env.get ((dA,.pointer (some ⟨g,0,none⟩))::(d,v)::e) u=some x:=c
  unfold Env.get at c|-;cases i:Nat.beq d u with
  | true =>
   have:=Kb i
   subst this
   rw[show Nat.beq dA d=false from(by rw[<-hd];cases f:Nat.beq dA d with
    | true=>have:=Kb f;subst this;rw[Nat.beq_refl] at hd;cases hd
    | false=>exact hd.symm)] at c
   unfold Env.get at c;rw[i] at c;exact c
  | false =>
   dsimp only;unfold Env.get;cases f:Nat.beq dA u with
   | true=>rw[f] at c;exact c
   | false=>
    rw[f] at c;unfold Env.get at c;rw[i] at c;exact c
def Wt(i j:Nat){f:Oper}{M:Option Nat}(hi:ops[i]? =some f)(hj:ops[j]? =some ⟨some dA,.alloc t,ty,pos,aN,none⟩)(k:Gw P t cs)(hd:dA < N.n)
  (d:Region.ready .any ops listed=[i,j]) (c:Region.ready .any ops (listed.setIfInBounds j true)=[i]) (hS:∀w,St w0 R H w->St w0 R0 H0 w)
  (step:∀M,XK N w0 (wpList P ops (Exit.then (wG P w0 ops Q R0 H0 m (Ie M fuel) (Dm M j listed) i) Q) [f]) (yP M dA e) R (Bx M t cs H)):
  XA P N w0 ops Q R0 H0 m (Ie M (fuel+1)) (Dm M j listed) (yP M dA e) R (Bx M t cs H):=by
 cases M with
 | some g=>exact aGb i hi c (step (some g))
 | none=>exact Od i j hi hj d (step none) (aGA k hd fun g=>jA (iU (mF (fun w h=>hS w h.tail) (aGb i hi c (step (some g))))))
def aLG{j:Nat}(dA:Nat)(t:TypeId)(cs:List Value)(h:∀M:Option Nat,XA P N w0 ops Q R0 H0 m (Ie M fuel) (Dm M j listed) (yP M dA e) R (Bx M t cs H)):XA P N w0 ops Q R0 H0 m (fuel+1) listed e R H:=h none
def aA1{i j:Nat}{M:Option Nat}(c:i≠j)(hd:Nat.beq d dA=false)(hS:∀w,St w0 R H w->St w0 R0 H0 w)
  (h:XA P N w0 ops Q R0 H0 m (Ie M fuel) (Dm M j (listed.setIfInBounds i true)) (yP M dA ((d,v)::e)) R (Bx M t cs H)):XK N w0 (wG P w0 ops Q R0 H0 m (Ie M fuel) (Dm M j listed) i) ((d,v)::yP M dA e) R (Bx M t cs H):=by
 refine mF (fun w h=>hS w h.unM) ?_
 have k:(Dm M j listed).setIfInBounds i true=Dm M j (listed.setIfInBounds i true):=by
  cases M with
  | none=>rfl
  | some g=>exact Yg _ _ (fN c)
 rw[k];exact fun up a w f st=>h up a w (f.aPO hd) st
def aC7{M:Option Nat}{p:HP}(h:XK N w0 K e R (Bx M t cs (p::H))):XK N w0 K e R (p::Bx M t cs H):=by
 cases M with
 | none=>exact h
 | some g => exact fun a w hr st => h a w hr (st.weak (fun _ hp => hp) (fun i => match i with | 0 => 1 | 1 => 0 | i + 2 => i + 2) (fun i j _ _ he => by
   match i,j with
   | 0,0=>rfl
   | 0,1=>cases he
   | 0,j+2=>simp at he
   | 1,0=>cases he
   | 1,1=>rfl
   | 1,j+2=>simp at he
   | i+2,0=>simp at he
   | i+2,1=>simp at he
   | i+2,j+2=>simpa using he) (fun i q hq=>by
   match i,hq with
   | 0,hq=>exact hq
   | 1,hq=>exact hq
   | i+2,hq=>exact hq))
def Zq{p q:Prop}[Decidable p][Decidable q]{u:Nat}(h:e.get u=some (.bool (decide p)))(c:p↔q):e.get u=some (.bool (decide q)):=by
 rw[h,decide_eq_decide.2 c]
def aER{q:Prop}[Decidable q]{u:Nat}(h:e.get u=some (.bool false))(c:¬q):e.get u=some (.bool (decide q)):=by rw[h,gW c]
def aSD{q:Prop}[Decidable q]{u:Nat}(h:e.get u=some (.bool true))(c:q):e.get u=some (.bool (decide q)):=by rw[h,eM c]
def aSE{q:Prop}[Decidable q]{u:Nat}{b:Bool}(h:e.get u=some (.bool b))(d:b=true↔q):e.get u=some (.bool (decide q)):=by
 rw[h]
 congr 2
 by_cases c:q
 .rw[eM c,d.2 c]
 .rw[gW c];cases b
  .rfl
  .exact absurd (d.1 rfl) c
def eT.aHa{e0:Env}{a:Act}{u:Nat}{x:Value}(h:eT N e a)(hs:e0.Sub e)(c:e.get u=some x):eT N ((u,x)::e0) a:=h.sub (e':=(u,x)::e0) ⟨c,hs⟩
def Rn{x y:Code}{Q:Exit->Act->World->Prop}(u:Nat)(p:Prop)[Decidable p](h:XK N w0 (x.wp P (Exit.then (fun c w'=>eT N ((u,.bool (decide p))::e) c/\St w0 R H w') Q)) e R H)
  (hy:XK N w0 (y.wp P Q) ((u,.bool (decide p))::e) R H):XK N w0 ((Code.seq x y).wp P Q) e R H:=fun a w f st=>by
 refine wp_seq (wp_mono (h a w f st) fun x c w' d=>?_);cases x with
 | normal=>exact hy c w' d.1 d.2
 | _=>exact d
def Wk{e0:Env}{u:Nat}{p:Prop}[Decidable p](hs:e0.Sub e)(d:e.get u=some (.bool (decide p))):XK N w0 (fun c w'=>eT N ((u,.bool (decide p))::e0) c/\St w0 R H w') e R H:=fun _ _ f st=>⟨f.aHa hs d,st⟩
def aJv{u:Nat}{p:Prop}[Decidable p](d:e.get u=some (.bool (decide p)):=by first | (refine Zq rfl ?_;omega) | (refine Zq rfl ?_;simp_all;done) | (refine aER rfl ?_;first | omega | (simp_all;done)) | (refine aSD rfl ?_;first | omega | (simp_all;done)) | (refine aSE rfl ?_;simp_all;done) | (refine Zq rfl ⟨fun c=>?_,fun c=>?_⟩<;>first | omega | (simp_all;done) | (simp_all;omega)) | (exfalso;omega)):e.get u=some (.bool (decide p)):=d
def Gd{e0:Env}{u:Nat}{p:Prop}[Decidable p](hs:e0.Sub e:=by repeat (first | exact trivial | refine⟨rfl,?_⟩))(c:e.get u=some (.bool (decide p)):=by exact aJv):XK N w0 (fun d w'=>eT N ((u,.bool (decide p))::e0) d/\St w0 R H w') e R H:=Wk hs c
def aC9(i:Nat){el:TypeId}{sz n c:Nat}{A:Option Addr}{xs:List Value}(hi:H[i]? =some (HP.own el sz (.slice A n c) n xs))(m:0 < n)(h:∀g,A=some ⟨g,0,none⟩->XK N w0 K e R H):XK N w0 K e R H:=fun a w f st=>by
 have k:=st.own hi
 rcases k.2 with⟨_,o⟩ | ⟨g,d,l,j,_⟩
 .omega
 .injection j with hA
  exact h g hA a w f st
end
def HP.ex{α:Type}(f:α->HP):HP:=⟨fun F w=>∃a,(f a).sat F w,fun F w c ⟨a,h⟩ d=>⟨a,(f a).loc F w c h d⟩⟩
section
variable{H:List HP}
def aCA(i:Nat){α:Type}{f:α->HP}(hi:H[i]? =some (HP.ex f))(h:∀a,XK N w0 K e R (H.set i (f a))):XK N w0 K e R H:=fun a w o st=>by
 obtain⟨Z,F,t,k,n,m,l⟩:=st.ex;obtain⟨x,r⟩:=n i _ hi
 have d:i < H.length:=by
  rcases dI i H.length with h | h
  .exact h
  .rw[eW h] at hi;cases hi
 refine h x a w o ⟨st.os,st.tape,st.output,st.size,Z,F,t,k,fun j p c=>?_,m,l⟩;rw[gX] at c;split at c
 .rename_i e;subst e
  first | (rw[aH d] at c;cases c) | cases c
  exact r
 .exact n j p c
def wB(i:Nat){α:Type}{f:α->HP}(x:α)(hi:H[i]? =some (f x))(h:XK N w0 K e R (H.set i (HP.ex f))):XK N w0 K e R H:=fun a w j st=>
 h a w j (st.yZ hi (gE _) rfl rfl rfl fun F k c=>⟨F,⟨x,k⟩,fun b d=>⟨.inl d,c b d⟩,fun _ _ _=>rfl⟩)
def oP{p q : HP}(h : XK N w0 K e R (HP.many [p, q] :: H)) : XK N w0 K e R (p :: q :: H) := fun a w hr st => by
  obtain⟨Z,F,hz,xD,hs,Nd,tE⟩:=st.ex;refine h a w hr ⟨st.os,st.tape,st.output,st.size,Z,fun j=>match j with | 0=>fun b=>F 0 b\/F 1 b | j+1=>F (j+2),hz,xD,fun j r hj=>?_,fun j b hb=>?_,fun j k b Zf hj hk=>?_⟩
  · cases j with
    | zero =>
      simp at hj;subst hj;refine⟨fun i b=>i < 2/\F i b,fun i r hi=>?_,fun i b hb=>?_,fun i k b hik h1 h2=>tE i k b hik h1.2 h2.2⟩
      · have key:∀k,k < 2->(fun b=>k < 2/\F k b)=F k:=fun k hk=>by funext b;simp[hk]
        match i,hi with
        | 0,hi=>simp at hi;subst hi;show p.sat (fun b=>0 < 2/\F 0 b) w;rw[key 0 aA];exact hs 0 _ rfl
        | 1,hi=>simp at hi;subst hi;show q.sat (fun b=>1 < 2/\F 1 b) w;rw[key 1 aA];exact hs 1 _ rfl
        | i+2,hi=>simp at hi
      · obtain⟨hlt,hb⟩:=hb
        match i,hlt,hb with
        | 0,_,hb=>exact .inl hb
        | 1,_,hb=>exact .inr hb
    | succ j=>exact hs (j+2) r (by simpa using hj)
  · cases j with
    | zero=>rcases hb with hb | hb<;>exact Nd _ b hb
    | succ j=>exact Nd _ b hb
  · cases j with
    | zero => cases k with
      | zero=>exact Zf rfl
      | succ k => rcases hj with hj | hj
                  · exact tE 0 (k+2) b aA hj hk
                  · exact tE 1 (k+2) b aA hj hk
    | succ j => cases k with
      | zero => rcases hk with hk | hk
                · exact tE 0 (j+2) b aA hk hj
                · exact tE 1 (j+2) b aA hk hj
      | succ k=>exact tE (j+2) (k+2) b aA hj hk
end
variable{H H0 H':List HP}
section
variable{t kt et:TypeId}{r:Nat}{l:List (Int×Value)}
def aDe(i:Nat){dst:Option Nat}{e':Env}{f:FuncId}{x:Operand}{args:List Operand}{fi ca vs:List Value}{tys:Array TypeId}{p:HP}{v:Value}(q:HP)(hf:fW P f=true)(hx:e.ev x=some (.func (.func f) fi.toArray ca.toArray))(ha:e.aM args=some vs)(hi:H[i]? =some p)
  (hd:match dst with | some d=>d < N.n/\e'=(d,v)::e | none=>e'=e)
  (hc:∀w F,St w0 R H w->p.sat F w->(∀b,F b->b < w.heap.size)->(∀q∈R,q.Le ⟨w,fun b=>b < w.heap.size/\¬F b⟩)->Calls P f (fi++vs++ca).toArray w fun y w'=>y=.returned v/\∃J,q.sat J w'/\jG w w' F J)
  (k:XK N w0 (wpList P ops Q rest) e' R (H.set i q)):XK N w0 (wpList P ops Q (⟨dst,.call {callee:=.value x,args:=args.toArray,argTypes:=tys},ty,pos,aN,none⟩::rest)) e R H:=fun a w O st=>wpList_plain rfl fun K hK=>by
 unfold fW at hf;cases X:P.funcs[f]? with
 | none=>simp[X] at hf
 | some fn =>
  simp[X] at hf;obtain⟨Y,Ko⟩:=hf
  have G:(execOp a.eval (⟨dst,.call {callee:=.value x,args:=args.toArray,argTypes:=tys},ty,pos,aN,none⟩:Oper)).run P w=.ok (.enter f (fi++vs++ca).toArray) w:=by
   cases t:fn.body with
   | none=>simp[t] at Ko
   | some c=>simp[execOp,resolve,O.ev hx,Deferred.ofValue,invoke,callFunc,X,Y,t,O.aM ha]
  obtain⟨Z,F,L,m,hs,l,z⟩:=st.ex;unfold Oper.wp;rw[G];refine(hc w (F i) st (hs i p hi) (fun b t=>(l i b t).2) (fun q C b t=>⟨⟨L b (m q C b t).1,fun B=>(l i b B).1 (m q C b t).1⟩,(m q C b t).2⟩)).mono fun y w' ⟨hy,J,U,o⟩=>?_;subst hy
  have E:St w0 R (H.set i q) w':=by
   have V:i < H.length:=by
    rcases dI i H.length with h | h
    .exact h
    .rw[eW h] at hi;cases hi
   refine⟨o.os.trans st.os,o.tape.trans st.tape,o.output.trans st.output,oL st.size o.size,Z,fun j=>if j=i then J else F j,fun b h=>jC (L b h) o.size,fun p M b h=>?_,fun j r D=>?_,fun j b h=>?_,fun j k b T h=>?_⟩
   .exact⟨(m p M b h).1,(o.old b (L b (m p M b h).1) (fun B=>(l i b B).1 (m p M b h).1)).trans (m p M b h).2⟩
   .rw[gX] at D;split at D
    .rename_i e;subst e
     first | (rw[aH V] at D;cases D) | cases D
     simpa using U
    .rename_i e
     simp only[aC (fN e)];exact r.loc _ _ _ (hs j r D) (fun b t=>o.old b (l j b t).2 (z j i b (fN e) t))
   .dsimp only at h;split at h
    .refine⟨fun I=>?_,(o.new b h).2⟩;rcases(o.new b h).1 with h | h
     .exact(l i b h).1 I
     .have:=L b I;omega
    .exact⟨(l j b h).1,jC (l j b h).2 o.size⟩
   .dsimp only at h|-;split at h<;>split
    .rename_i h1 h2;omega
    .rename_i e1 e2
     intro A;rcases(o.new b h).1 with h | h
     .exact z i k b aA h A
     .have:=(l k b A).2;omega
    .rename_i e1 e2
     intro A;rcases(o.new b A).1 with A | A
     .exact z j i b aA h A
     .have:=(l j b h).2;omega
    .exact z j k b T h
  cases dst with
  | none=>dsimp only at hd;subst hd;exact hK _ _ (k _ _ O E)
  | some d=>dsimp only at hd;obtain⟨hd,rfl⟩:=hd;exact hK _ _ (k _ _ (O.put hd v) E)
end
def qJ(p:Prop):HP:=⟨fun _ _=>p,fun _ _ _ h _=>h⟩
section
variable{e0:Env}
def Eh(i:Nat){p:Prop}(hi:H[i]? =some (qJ p))(h:p->XK ⟨nn,[]⟩ w0 K e R H):XK ⟨nn,[]⟩ w0 K e R H:=fun a w c st=>by
 obtain⟨F,d⟩:=st.sat hi;exact h d a w c st
def Wi(i:Nat){p q:Prop}(hi:H[i]? =some (qJ p))(j:q)(h:XK ⟨nn,[]⟩ w0 K e R (H.set i (qJ q))):XK ⟨nn,[]⟩ w0 K e R H:=fun a w f st=>
 h a w f (st.yZ hi (gE _) rfl rfl rfl fun F _ c=>⟨F,j,fun b d=>⟨.inl d,c b d⟩,fun _ _ _=>rfl⟩)
def aFR{q:Prop}(d:q)(h:XK ⟨nn,[]⟩ w0 K e R (qJ q::H)):XK ⟨nn,[]⟩ w0 K e R H:=fun a w c st=>
 h a w c (st.new (w':=w) (Below.refl _ _) d)
def aLD{x y:Code}(u:Nat)(p:Prop)[Decidable p](h:XK ⟨nn,[]⟩ w0 (KC r L P x (Exit.then (fun c w'=>∃b,c=mk L b/\eT ⟨nn,[]⟩ ((u,.bool (decide p))::e) b/\St w0 R H w') Q)) e R H)
  (hy:XK ⟨nn,[]⟩ w0 (KC r L P y Q) ((u,.bool (decide p))::e) R H):XK ⟨nn,[]⟩ w0 (KC r L P (Code.seq x y) Q) e R H:=fun a w i st=>by
 refine wpIn_seq (wpIn_mono (h a w i st) fun x c w' d=>?_);cases x with
 | normal=>
  obtain⟨b,rfl,f,j⟩:=d;exact hy b w' f j
 | _=>exact d
def aXf{u:Nat}{p:Prop}[Decidable p](hs:e0.Sub e)(d:e.get u=some (.bool (decide p))):XK ⟨nn,[]⟩ w0 (KQ L (Exit.then (fun c w'=>∃b,c=mk L b/\eT ⟨nn,[]⟩ ((u,.bool (decide p))::e0) b/\St w0 R H w') Q) .normal) e R H:=fun a _ f st=>⟨a,rfl,f.aHa hs d,st⟩
def aXh(R0:List Piece)(H0:List HP)(m:Nat){id:Nat}{l:List Oper}(hm:P.follows .mixedOrders=true)(f:(Region.noSelect (l.take m).toArray&&Nl l.toArray&&Bd l.toArray m&&Bd (l.take m).toArray m&&Zp l m&&(l.take m).all zL&&decide (m<=l.length))=true)
  (h:XA P ⟨nn,[]⟩ w0 (l.take m).toArray (Fx (KI r L P l.toArray Q (l.drop m))) R0 H0 m m (Array.replicate m false) e R H):XK ⟨nn,[]⟩ w0 (KC r L P (Code.region id l.toArray true) Q) e R H:=fun a w k st=>by
 simp only[jY,decide_eq_true_eq] at f;obtain⟨⟨⟨⟨⟨⟨y,c2⟩,n⟩,o⟩,p⟩,t⟩,c⟩:=f
 have x:=h ⟨Down.start _ _,y,o⟩ a w.drew k st.drew
 have j:=aKT (r:=r) (L:=L) (Q:=Q) c c2 n p t m (Array.replicate l.length false) _ a w.drew ⟨fun i d=>by simp[d,jC d c],fun i d=>by simp[Array.getElem?_replicate];split<;>rfl,aB,aB,by simpa using c⟩ (Down.start _ _) (Xp _ _ _ _ x)
 unfold KC;refine wpIn_region_any hm ?_;rw[show m+(l.length - m)=l.length by omega] at j
 simpa using j
def aL7{fn:Func}{c:Ending->World->Prop}{Hs:List HP}{i m r p:Nat}{o x:TypeId}{f j:Value}(y:fn.results=#[.cell i o,.cell m x])(B:tC P o=true)(A:tC P x=true)(k:e.get i=some (.pointer (some ⟨r,0,none⟩)))(l:e.get m=some (.pointer (some ⟨p,0,none⟩)))
  (r1:Rd w0 R Hs r 0 f) (r2:Rd w0 R Hs p 0 j) (h:∀w,St w0 R Hs w->c (.returned (.tuple #[f,j])) w):XK ⟨nn,[]⟩ w0 (KQ L (bodyPostM Fence.wide 9 P fn c) .ret) e R (Hs++[sC L]):=fun a w d st=>by
 have:=Uo (P:=P) (fn:=fn) (tmps:=a.tmps) (v:=.tuple #[f,j]) L Hs w st (fun w st=>⟨by
  have t:=Xv (P:=P) B (r1 w st)
  have n:=Xv (P:=P) A (r2 w st)
  have C:=d.get i _ k
  have z:=d.get m _ l
  simp only[Instr.loadAt,Instr.sureAddr,Sem.run_bind,Sem.run_pure,Result.andThen_ok] at t n;simp only[results,y]
  simp[C,z,asAddr,t,n],h w st⟩)
 unfold KQ mk;rw[d.defers];exact this
end
def Nu(f:FuncId)(fi ca:List Value):Deferred:={target:=.fn (.func f) ca.toArray,args:=fi.toArray}
def aAG{x:Operand}{tys:Array TypeId}{f:FuncId}{fi ca:List Value}(hx:e.ev x=some (.func (.func f) fi.toArray ca.toArray))(k:XK ⟨N.n,Nu f fi ca::N.D⟩ w0 (wpList P ops Q rest) e R H):
  XK N w0 (wpList P ops Q (⟨none,.defer {callee:=.value x,args:=#[],argTypes:=tys},ty,pos,aN,none⟩::rest)) e R H:=fun a w d st=>wpList_plain rfl fun K h=>by
 have c:(execOp a.eval (⟨none,.defer {callee:=.value x,args:=#[],argTypes:=tys},ty,pos,aN,none⟩:Oper)).run P w=.ok (.defer (Nu f fi ca)) w:=by
  simp[execOp,resolve,d.ev hx,Deferred.ofValue,Nu]
 unfold Oper.wp;rw[c];exact h _ _ (k {a with defers:=Nu f fi ca::a.defers} w ⟨d.size,by show _::_=_::_;rw[d.defers],d.get⟩ st)
def aRG{f:FuncId}{fi ca:List Value}(hf:fW P f=true)(w:World):(invoke (.fn (.func f) ca.toArray) fi.toArray).run P w=.ok (.enter f (fi++ca).toArray) w:=by
 unfold fW at hf;cases d:P.funcs[f]? with
 | none=>simp[d] at hf
 | some fn=>
  simp[d] at hf;obtain⟨e,h⟩:=hf;cases i:fn.body with
  | none=>simp[i] at h
  | some c=>simp[invoke,callFunc,d,e,i]
def aWM{nn:Nat}{f:FuncId}{fi ca:List Value}{fn:Func}{c:Ending->World->Prop}(hf:fW P f=true)
  (i:∀w,St w0 R H w->CallsD P f (fi++ca).toArray .returning w fun y k w'=>(∃v,y=.returned v)/\k=.returning/\St w0 R H' w')
  (d:∀a w,eT ⟨nn,[Nu f fi ca]⟩ e a->St w0 R H' w->∃v,(results fn a.tmps).run P w=.ok v w/\c (.returned v) w):
  XK ⟨nn,[Nu f fi ca]⟩ w0 (bodyPostD P fn c .ret) e R H:=fun a w j st=>by
 show Leaves P fn a.tmps c a.defers .returning w
 rw[j.defers];refine leaves_cons aB (aRG hf w) ((i w st).mono ?_);rintro y k w' ⟨⟨v,rfl⟩,rfl,h⟩;obtain⟨l,n,m⟩:=d a w' j h;exact⟨l,n,m⟩
def HP.cO(Φ:Piece->Prop)(hm:∀p q:Piece,p.Le q->Φ p->Φ q):HP:=⟨fun F w=>Φ ⟨w,F⟩,fun F w d h e=>hm ⟨w,F⟩ ⟨d,F⟩ (fun b c=>⟨c,e b c⟩) h⟩
def By{α:Type}{H:List α}{i:Nat}{p:α}(hi:H[i]? =some p):i < H.length:=(cE.1 hi).1
def St.chunk(st:St w0 R H w){i:Nat}{p:HP}(hi:H[i]? =some p):∃F,p.sat F w/\(∀b,F b->b < w.heap.size)/\(∀q∈R,q.Le ⟨w,fun b=>b < w.heap.size/\¬F b⟩)/\∀w' z q,q.sat z w'->jG w w' F z->St w0 R (H.set i q) w':=by
 obtain⟨Z,F,A,d,G,c,l⟩:=st.ex;refine⟨F i,G i p hi,(fun b m=>(c i b m).2),(fun q t b m=>⟨⟨A b (d q t b m).1,fun o=>(c i b o).1 (d q t b m).1⟩,(d q t b m).2⟩),fun w' z q D f=>?_⟩
 have E:=By hi
 refine⟨f.os.trans st.os,f.tape.trans st.tape,f.output.trans st.output,oL st.size f.size,Z,fun j=>if j=i then z else F j,fun b h=>jC (A b h) f.size,fun p B b h=>?_,fun j r x=>?_,fun j b h=>?_,fun j k b C h=>?_⟩
 .exact⟨(d p B b h).1,(f.old b (A b (d p B b h).1) (fun o=>(c i b o).1 (d p B b h).1)).trans (d p B b h).2⟩
 .rw[gX] at x;split at x
  .rename_i e;subst e
   first | (rw[aH E] at x;cases x) | cases x
   simpa using D
  .rename_i e
   simp only[aC (fN e)];exact r.loc _ _ _ (G j r x) (fun b m=>f.old b (c j b m).2 (l j i b (fN e) m))
 .dsimp only at h;split at h
  .refine⟨fun y=>?_,(f.new b h).2⟩;rcases(f.new b h).1 with h | h
   .exact(c i b h).1 y
   .have:=A b y;omega
  .exact⟨(c j b h).1,jC (c j b h).2 f.size⟩
 .dsimp only at h|-;split at h<;>split
  .rename_i L K;omega
  .rename_i J I
   intro n;rcases(f.new b h).1 with h | h
   .exact l i k b aA h n
   .have:=(c k b n).2;omega
  .rename_i J I
   intro n;rcases(f.new b n).1 with n | n
   .exact l j i b aA h n
   .have:=(c j b h).2;omega
  .exact l j k b C h
def tH(i:Nat){p q:HP}(hi:H[i]? =some p)(l:∀F w,p.sat F w->q.sat F w)(h:XK N w0 K e R (H.set i q)):XK N w0 K e R H:=fun a w j st=>by
 obtain⟨F,f,c,_,k⟩:=st.chunk hi;exact h a w j (k w F q (l F w f) ⟨rfl,rfl,rfl,gE _,fun b d=>⟨.inl d,c b d⟩,fun _ _ _=>rfl⟩)
def Ch(i:Nat){el:TypeId}{sz n c:Nat}{A:Option Addr}{xs:List Value}{Φ:Piece->Prop}{hm:∀p q:Piece,p.Le q->Φ p->Φ q}(hi:H[i]? =some (HP.own el sz (.slice A n c) n xs))(d:∀p,aO p sz A n xs->Φ p)(h:XK N w0 K e R (H.set i (HP.cO Φ hm))):XK N w0 K e R H:=
 tH i hi (fun F w f=>d _ (aO.own (q:=⟨w,F⟩) ⟨F,f,fun _ h=>h⟩)) h
def Ny{Φ Ψ X : Piece -> Prop}{h1 : ∀ p q : Piece, p.Le q -> Φ p -> Φ q}{h2 : ∀ p q : Piece, p.Le q -> Ψ p -> Ψ q}{h3 : ∀ p q : Piece, p.Le q -> X p -> X q}(hX : ∀ p, Φ p -> Ψ p -> X p)(h : XK N w0 K e R (HP.cO X h3 :: H)) : XK N w0 K e R (HP.cO Φ h1 :: HP.cO Ψ h2 :: H) := fun a w hr st => by
  obtain⟨Z,F,hz,xD,hs,Nd,tE⟩:=st.ex;refine h a w hr ⟨st.os,st.tape,st.output,st.size,Z,fun j=>match j with | 0=>fun b=>F 0 b\/F 1 b | j+1=>F (j+2),hz,xD,fun j r hj=>?_,fun j b hb=>?_,fun j k b Zf hj hk=>?_⟩
  · cases j with
    | zero =>
      simp at hj;subst hj;exact hX _ (h1 ⟨w,F 0⟩ _ (fun b hb=>⟨.inl hb,rfl⟩) (hs 0 _ rfl)) (h2 ⟨w,F 1⟩ _ (fun b hb=>⟨.inr hb,rfl⟩) (hs 1 _ rfl))
    | succ j=>exact hs (j+2) r (by simpa using hj)
  · cases j with
    | zero=>rcases hb with hb | hb<;>exact Nd _ b hb
    | succ j=>exact Nd _ b hb
  · cases j with
    | zero => cases k with
      | zero=>exact Zf rfl
      | succ k => rcases hj with hj | hj
                  · exact tE 0 (k+2) b aA hj hk
                  · exact tE 1 (k+2) b aA hj hk
    | succ j => cases k with
      | zero => rcases hk with hk | hk
                · exact tE 0 (j+2) b aA hk hj
                · exact tE 1 (j+2) b aA hk hj
      | succ k=>exact tE (j+2) (k+2) b aA hj hk
def Nx{q:Piece}{Φ:Piece->Prop}{hm:∀p q:Piece,p.Le q->Φ p->Φ q}(hf:tP w0 q)(C:∀p∈R,∀b,p.Z b->b < w0.heap.size)(D:Φ q)(h:XK N w0 K e R (HP.cO Φ hm::H)):XK N w0 K e (q::R) H:=fun a w A st=>by
 obtain⟨Z,F,z,i,B,d,x⟩:=st.ex
 have l:=i q aB
 refine h a w A ⟨st.os,st.tape,st.output,st.size,fun b=>Z b/\¬q.Z b,fun j=>match j with | 0=>q.Z | j+1=>F j,fun b c=>z b c.1,fun p n b c=>?_,fun j r f=>?_,fun j b c=>?_,fun j k b m f o=>?_⟩
 .refine⟨⟨(i p (by simp[n]) b c).1,fun y=>?_⟩,(i p (by simp[n]) b c).2⟩
  have G:=C p n b c
  have E:=hf b y
  omega
 .cases j with
  | zero=>
   simp at f;subst f;exact hm q _ (fun b c=>⟨c,(l b c).2⟩) D
  | succ j=>exact B j r (by simpa using f)
 .cases j with
  | zero=>exact⟨fun t=>t.2 c,z b (l b c).1⟩
  | succ j=>exact⟨fun t=>(d j b c).1 t.1,(d j b c).2⟩
 .cases j with
  | zero=>cases k with
   | zero=>exact m rfl
   | succ k=>exact(d k b o).1 (l b f).1
  | succ j=>cases k with
   | zero=>exact(d j b f).1 (l b o).1
   | succ k=>exact x j k b aA f o
def St.cO{w0 w:World}{R:List Piece}{H:List HP}{Φ:Piece->Prop}{hm:∀p q:Piece,p.Le q->Φ p->Φ q}(t:St w0 R H w)(i:Nat)(hi:H[i]? =some (HP.cO Φ hm)):Φ (all w):=by
 obtain⟨F,d,c,_⟩:=t.chunk hi;exact hm ⟨w,F⟩ (all w) (fun b e=>⟨c b e,rfl⟩) d
def get_some{α:Type}{l:List α}{i:Nat}(h:i < l.length):∃x,l[i]? =some x:=⟨l[i],cX h⟩
def Sub.set{cs r:List Value}{o:Nat}(h:Sub cs o r)(k:Nat)(v:Value)(hk:k < r.length)(hl:o+k < cs.length):Sub (cs.set (o+k) v) o (r.set k v):=fun j c=>by
 rw[pJ] at c;rw[gX,gX]
 by_cases d:k=j
 .subst d;simp[hk,hl]
 .rw[aC aA,aC d];exact h j c
def xQ(cs c:List Value)(o m:Nat):Prop:=c.length=cs.length/\∀j,(j < o\/o+m<=j)->c[j]? =cs[j]?
def xQ.refl(cs:List Value)(o m:Nat):xQ cs cs o m:=⟨rfl,fun _ _=>rfl⟩
def xQ.set{cs c:List Value}{o m:Nat}(h:xQ cs c o m)(k:Nat)(v:Value)(hk:k < m):xQ cs (c.set (o+k) v) o m:=
 ⟨by simpa using h.1,fun j d=>by rw[gX,aC aA];exact h.2 j d⟩
def aX1{w0:World}{R:List Piece}{H:List HP}{ps:List HP}{g o:Nat}{t:TypeId}{cs:List Value}{v:Value}(i j:Nat)(hi:H[i]? =some (HP.many ps))(hj:ps[j]? =some (HP.aK g t cs))(c:cs[o]? =some v):Rd w0 R H g o v:=fun w st=>by
 obtain⟨F,G,d,_⟩:=st.sat hi
 have:=(d j _ hj).2
 rw[this.cell]
 simpa using c
def Ve{sz:Nat}(rows:List (List Value))(hl:∀r∈rows,r.length=sz)(k f:Nat)(r:List Value)(hk:rows[k]? =some r)(hf:f < sz):rows.flatten[k*sz+f]? =r[f]? :=by
 have:=Nh (fun x=>x) sz rows hl k f r hk hf
 rwa [List.flatMap_id'] at this
def Pe{sz:Nat}:∀(rows:List (List Value)),(∀r∈rows,r.length=sz)->rows.flatten.length=rows.length*sz
 | [],_=>by simp
 | r::rs,h=>by rw[Pp,rF,Pe rs (fun x hx=>h x (by simp[hx])),h r aB,mK,Kc,Nat.add_comm]
def Fs{sz n i:Nat}{cs e r':List Value}{rows:List (List Value)}(E:cs.take (n*sz)=rows.flatten)(G:rows.length=n)(A:∀r∈rows,r.length=sz)(hi:i < n)(hl:n*sz<=cs.length)(z:r'.length=sz)(hs:Sub e (i*sz) r')(B:xQ cs e (i*sz) sz):e.take (n*sz)=(rows.set i r').flatten:=by
 have d:∀r∈rows.set i r',r.length=sz:=fun r x=>by
  rcases Bq x with h | h
  .exact A r h
  .rw[h];exact z
 refine qR fun j=>?_;rcases dI j (n*sz) with k | k
 .have m:0 < sz:=by
   rcases zI sz with w | w
   .rw[w,Nat.mul_zero] at k;omega
   .exact w
  have f:j / sz*sz+j % sz=j:=by rw[Nat.mul_comm];exact Nat.div_add_mod j sz
  have c:j % sz < sz:=Nat.mod_lt _ m
  have H:j / sz < n:=Nat.div_lt_of_lt_mul (by rw[Nat.mul_comm];exact k)
  have D:=B.1
  rw[wV k]
  by_cases C:j / sz=i
  .have y:(rows.set i r')[j / sz]? =some r':=by rw[C,kR aA]
   have t:=Ve (rows.set i r') d (j / sz) (j % sz) r' y c
   rw[f] at t;rw[t]
   have p:=hs (j % sz) aA
   rw[<-C,f] at p;exact p
  .obtain⟨r,o⟩:=get_some (l:=rows) (i:=j / sz) aA
   have y:(rows.set i r')[j / sz]? =some r:=by rw[pZ aA];exact o
   have t:=Ve (rows.set i r') d (j / sz) (j % sz) r y c
   have p:=Ve rows A (j / sz) (j % sz) r o c
   rw[f] at t p;rw[t,<-p,<-E,wV k];refine B.2 j ?_;rcases dI (j / sz) i with F | hge
   .left
    have:=Mo sz (show j / sz+1<=i by omega)
    rw[Nat.add_mul,Nat.one_mul] at this;omega
   .right
    have:=Mo sz (show i+1<=j / sz by omega)
    rw[Nat.add_mul,Nat.one_mul] at this;omega
 .rw[eW (by rw[pX];omega),eW (by rw[Pe _ d,pJ,G];exact k)]
def Ig{sz n i:Nat}{cs r:List Value}{rows:List (List Value)}(d:cs.take (n*sz)=rows.flatten)(h:rows.length=n)(c:∀r∈rows,r.length=sz)(hi:rows[i]? =some r):Sub cs (i*sz) r:=fun k m=>by
 have f:i < n:=by rw[<-h];exact(cE.1 hi).1
 have j:r.length=sz:=c r (dJ hi)
 have e:=Ve rows c i k r hi aA
 have l:i*sz+k < n*sz:=by
  have:=Mo sz (show i+1<=n by omega)
  rw[Nat.add_mul,Nat.one_mul] at this;omega
 rw[<-e,<-d,wV l]
def Rx(T el:TypeId)(sz t:Nat)(A:Option Addr)(n c:Nat)(rows:List (List Value)):HP:=HP.many [HP.aK t T [.slice A n c],HP.own el sz (.slice A n c) n rows.flatten]
structure Gj(w:World)(sz t:Nat)(A:Option Addr)(n c:Nat)(rows:List (List Value)):Prop where
 r0:iD w t 0 (.slice A n c)
 row:aO (all w) sz A n rows.flatten
section
variable{T el:TypeId}{sz n c:Nat}{A:Option Addr}{rows Ez:List (List Value)}
def aMd{F:Nat->Prop}(h:(Rx T el sz t A n c rows).sat F w)(hF:∀b,F b->b < w.heap.size):Gj w sz t A n c rows:=by
 obtain⟨G,e,i,_⟩:=h
 have f:=e 0 _ rfl
 have j:=e 1 _ rfl
 obtain⟨m,o,d,k⟩:=Em (Y:=fun b=>b < w.heap.size) j (fun b l=>hF b (i 1 b l))
 injection d with d
 subst d;exact⟨⟨f.2.lt,by rw[f.2.cell];rfl⟩,k⟩
def St.aDH(st:St w0 R H w)(i:Nat)(hi:H[i]? =some (Rx T el sz t A n c rows)):Gj w sz t A n c rows:=by
 obtain⟨F,d,e,_⟩:=st.chunk hi;exact aMd d e
def Rd.row(i:Nat)(hi:H[i]? =some (Rx T el sz t A n c rows)):Rd w0 R H t 0 (.slice A n c):=fun w st=>(st.aDH i hi).r0.2
def Gj.at_(h:Gj w sz t A n c rows)(e:∀r∈rows,r.length=sz){i:Nat}{r:List Value}(hi:rows[i]? =some r)(d:i < n):∃b off,A=some ⟨b,off,none⟩/\eL w b (off+i*sz) r:=aO.row h.row e hi d
def Gj.below{w':World}(h:Gj w sz t A n c rows)(d:Below w.heap.size w w'):Gj w' sz t A n c rows:=
 ⟨⟨jC h.r0.1 d.size,(d.cell (p:=⟨_,0,none⟩) h.r0.1).trans h.r0.2⟩,h.row.le (nF d)⟩
def aFP(i:Nat)(hi:H[i]? =some (Rx T el sz t A n c rows))(l:0 < n)(h:∀g cs,A=some ⟨g,0,none⟩->cs.length=c*sz->cs.take (n*sz)=rows.flatten->n<=c->c<=maxLen->
  XK N w0 K e R (HP.aK g el cs::HP.aK t T [.slice (some ⟨g,0,none⟩) n c]::H.set i (HP.many [cS,cS]))):XK N w0 K e R H:=by
 have d:=By hi
 refine uX i 0 hi rfl ?_;refine uX (i+1) 1 (by rw[tX,kR d]) rfl ?_;refine aC9 0 rfl l fun g f=>?_;rw[f];refine Iv 0 rfl fun cs j o m k=>?_
 have:=h g cs f j o m k
 simpa[Tq,sX] using this
def Lm(i:Nat){g:Nat}{cs:List Value}(j:A=some ⟨g,0,none⟩)(f:cs.length=c*sz)(l:cs.take (n*sz)=Ez.flatten)(h3:n<=c)(k:c<=maxLen)(hi:H[i]? =some (HP.many [cS,cS]))
  (h:XK N w0 K e R (H.set i (Rx T el sz t A n c Ez))):XK N w0 K e R (HP.aK g el cs::HP.aK t T [.slice (some ⟨g,0,none⟩) n c]::H):=by
 have d:=By hi
 subst j;refine Aj 0 (n:=n) (c:=c) (sz:=sz) rfl f l h3 k ?_;dsimp only[List.set];refine uZ (i+1) 1 (by rw[tX];exact hi) rfl ?_;dsimp only[List.set];refine uZ i 0 (by rw[kR d]) rfl ?_
 simpa[sX,Rx] using h
end
def aUr{x:Operand}{t kt et:TypeId}{r:Nat}{l:List (Int×Value)}(n:Tryz.prog.underlying t=some (.map kt et))(hx:e.ev x=some (.map (some r)))(hm:∀w,St w0 R H w->Az w r l):bY Tryz.prog N w0 e R H ⟨some d,.call {callee:=.builtin .len,args:=#[x],argTypes:=#[t]},ty,pos,aN,none⟩ (.int .i64 l.length):=fun a w k st=>by
 obtain⟨f,c,i,h⟩:=hm w st
 have j:f.size=l.length:=by have:=congrArg List.length h;simpa using this
 have m:(execOp a.eval ⟨some d,.call {callee:=.builtin .len,args:=#[x],argTypes:=#[t]},ty,pos,aN,none⟩).run Tryz.prog w=.ok (.value (.int .i64 f.size)) w:=by
  simp[execOp,resolve,invoke,builtin,k.ev hx,Builtin.len_,run_underlying n,run_getObj_map i,goInt]
 rw[m,j]
def aBE(i:Nat){f:FuncId}{x:Operand}{args:List Operand}{fi ca vs:List Value}{tys:Array TypeId}{p:HP}(q:HP)
  (h:∀w F,St w0 R H w->p.sat F w->(∀b,F b->b < w.heap.size)->(∀q∈R,q.Le ⟨w,fun b=>b < w.heap.size/\¬F b⟩)->Calls Tryz.prog f (fi++vs++ca).toArray w fun y w'=>y=.returned v/\∃c,q.sat c w'/\jG w w' F c)
  (k:XK N w0 (wpList Tryz.prog ops Q rest) ((d,v)::e) R (H.set i q)) (hi:H[i]? =some p:=by rfl) (hx:e.ev x=some (.func (.func f) fi.toArray ca.toArray):=by rfl) (j:e.aM args=some vs:=by rfl) (hf:fW Tryz.prog f=true:=by kernel_rfl) (hd:d < N.n:=by decide):
  XK N w0 (wpList Tryz.prog ops Q (⟨some d,.call {callee:=.value x,args:=args.toArray,argTypes:=tys},ty,pos,aN,none⟩::rest)) e R H:=aDe (dst:=some d) (e':=(d,v)::e) i q hf hx j hi ⟨hd,rfl⟩ h k
def aBF(i:Nat){f:FuncId}{x:Operand}{args:List Operand}{vs:List Value}{tys:Array TypeId}{p:HP}(q:HP)
  (h:∀w F,St w0 R H w->p.sat F w->(∀b,F b->b < w.heap.size)->(∀q∈R,q.Le ⟨w,fun b=>b < w.heap.size/\¬F b⟩)->Calls Tryz.prog f vs.toArray w fun y w'=>y=.returned v/\∃c,q.sat c w'/\jG w w' F c)
  (k:XK N w0 (wpList Tryz.prog ops Q rest) ((d,v)::e) R (H.set i q)) (hi:H[i]? =some p:=by rfl) (hx:e.ev x=some (.func (.func f) #[] #[]):=by rfl) (o:e.aM args=some vs:=by rfl) (hf:fW Tryz.prog f=true:=by kernel_rfl) (hd:d < N.n:=by decide):
  XK N w0 (wpList Tryz.prog ops Q (⟨some d,.call {callee:=.value x,args:=args.toArray,argTypes:=tys},ty,pos,aN,none⟩::rest)) e R H:=aBE (fi:=[]) (ca:=[]) i q (fun w F t m l j=>by simpa using h w F t m l j) k hi hx o hf hd
section
variable{S:World->Prop}
def Jj(ops:Array Oper)(Z:List Nat)(j:Nat):Bool:=match ops[j]? with
 | some o=>Z.all fun z=>(Vw ops ops.size (Ym o)).testBit z
 | none=>true
def Qa(ops:Array Oper)(j:Nat):Bool:=match ops[j]? with
 | some o=>(match o.op with
  | .move _=>true
  | _=>false)
 | none=>false
def Hf(P:Program)(ops:Array Oper)(Q:Exit->Act->World->Prop)(S:World->Prop)(Z:List Nat):Nat->Array Bool->Act->World->Prop
 | 0,listed,a,w=>Region.ready .any ops listed=[]/\Q .normal a w
 | fuel+1,listed,a,w=>(Region.ready .any ops listed=[]->Q .normal a w)/\
  ∀i∈Region.ready .any ops listed,wpOp P ops Q i (fun c w'=>(Jj ops Z i=false->(S w\/Qa ops i=false)->S w')/\Hf P ops Q S Z fuel (listed.setIfInBounds i true) c w') a w
def aDi:∀(fuel:Nat) (listed:Array Bool) (a:Act) (w:World),Hf P ops Q S Z fuel listed a w->wpAny P .any ops Q fuel listed a w
 | 0,_,_,_,h=>h
 | fuel+1,_,_,_,h=>⟨h.1,fun i hi=>wpOp_mono (fun c w' d=>aDi fuel _ c w' d.2) (h.2 i hi)⟩
def aDj{i:Nat}{A:Oper}{v:Value}(hi:ops[i]? =some A)(p:∀(j:Nat) (o:Oper) cs b,ops[j]? =some o->o.op≠.select cs b)
  (hQ:∀c a w,Q (.panic c) (a.put A.dst v) w->Q (.panic c) a w) (L:i∈Z):
  ∀(fuel:Nat) (listed:Array Bool) (a:Act) (w:World),Down ops listed->
   (∀j B,ops[j]? =some B->j≠i->listed.getD j true=false->(∀e∈B.after,Region.binds .any e=true->e.on≠i)->A.apart ops B=true)->
   i∈Region.ready .any ops listed->YieldsIf P ops S A v a->S w->
   Hf P ops Q S Z fuel (listed.setIfInBounds i true) (a.put A.dst v) w->Hf P ops Q S Z (fuel+1) listed a w:=by
 intro fuel
 induction fuel with
 | zero =>
  intro listed a w z _ t G C H;refine⟨fun h=>(by rw[h] at t;cases t),fun j F=>?_⟩
  by_cases d:j=i
  .subst d;exact G.wpOp hi C ⟨fun _ _=>C,H⟩
  .have:=ready_mono F d
   rw[H.1] at this;cases this
 | succ fuel ih =>
  intro listed a w z f t G C H;refine⟨fun h=>(by rw[h] at t;cases t),fun j F=>?_⟩
  by_cases d:j=i
  .subst d;exact G.wpOp hi C ⟨fun _ _=>C,H⟩
  .have X:=H.2 j (ready_mono F d)
   obtain⟨r,B,n,y⟩:=mem_ready.1 F
   have l:∀k,k∈Region.ready .any ops listed->listed.getD k false=true->False:=fun k K h=>by
    have U:=(mem_ready.1 K).1
    rcases dI k listed.size with T | T
    .simp[T] at U h;rw[U] at h;cases h
    .simp[Pk T] at h
   have O:Jj ops Z j=false:=by
    cases hw:Jj ops Z j with
    | false=>rfl
    | true=>
     exfalso;unfold Jj at hw;rw[n] at hw;exact l i t (aF2 z ops.size _ (aDQ (P:=fun k=>listed.getD k false=true) fun x Y R=>y x Y R) i (mJ.1 hw i L))
   have E:∀e∈B.after,Region.binds .any e=true->e.on≠i:=fun e he R N=>l i t (N▸y e he R)
   have V:=wpOp_putIf n (f j B n d r E) (fun cs b=>p i A cs b hi) (fun cs b=>p j B cs b n) hQ G X
   have m:∀k ok,ops[k]? =some ok->k≠i->(listed.setIfInBounds j true).getD k true=false->
     (∀e∈ok.after,Region.binds .any e=true->e.on≠i)->A.apart ops ok=true:=fun k ok K J l M=>by
    refine f k ok K J ?_ M
    by_cases D:j=k
    .subst D;exact r
    .rw[getD_set_ne true D] at l;exact l
   refine wpOp_mono (fun a' w' I=>⟨I.2.1,ih (listed.setIfInBounds j true) a' w' (z.lZ F) m (ready_mono t (fN d)) I.1 (I.2.1 O (.inl C)) ?_⟩) V;rw[Yg _ _ d];exact I.2.2
def aGE{i:Nat}{x:Oper}{v:Value}(hi:ops[i]? =some x)(B:Qa ops i=true)(n:∀(j:Nat) (o:Oper) cs b,ops[j]? =some o->o.op≠.select cs b)
  (hQ:∀c a w,Q (.panic c) (a.put x.dst v) w->Q (.panic c) a w):
  ∀(fuel:Nat) (listed:Array Bool) (a:Act) (w:World),Down ops listed->
   (∀j y,ops[j]? =some y->j≠i->listed.getD j true=false->(∀e∈y.after,Region.binds .any e=true->e.on≠i)->x.apart ops y=true)->
   i∈Region.ready .any ops listed->YieldsIf P ops (fun _=>True) x v a->
   Hf P ops Q S Z fuel (listed.setIfInBounds i true) (a.put x.dst v) w->Hf P ops Q S Z (fuel+1) listed a w:=by
 intro fuel
 induction fuel with
 | zero =>
  intro listed a w A _ t F H;refine⟨fun h=>(by rw[h] at t;cases t),fun j E=>?_⟩
  by_cases d:j=i
  .subst d;exact F.wpOp hi trivial ⟨fun _ hw=>hw.resolve_right (by rw[B];decide),H⟩
  .have:=ready_mono E d
   rw[H.1] at this;cases this
 | succ fuel ih =>
  intro listed a w A f t F H;refine⟨fun h=>(by rw[h] at t;cases t),fun j E=>?_⟩
  by_cases d:j=i
  .subst d;exact F.wpOp hi trivial ⟨fun _ hw=>hw.resolve_right (by rw[B];decide),H⟩
  .have R:=H.2 j (ready_mono E d)
   obtain⟨p,y,r,C⟩:=mem_ready.1 E
   have l:∀k,k∈Region.ready .any ops listed->listed.getD k false=true->False:=fun k I h=>by
    have N:=(mem_ready.1 I).1
    rcases dI k listed.size with M | M
    .simp[M] at N h;rw[N] at h;cases h
    .simp[Pk M] at h
   have D:∀e∈y.after,Region.binds .any e=true->e.on≠i:=fun e U X K=>l i t (K▸C e U X)
   have O:=wpOp_putIf r (f j y r d p D) (fun cs b=>n i x cs b hi) (fun cs b=>n j y cs b r) hQ F R
   have m:∀k ok,ops[k]? =some ok->k≠i->(listed.setIfInBounds j true).getD k true=false->
     (∀e∈ok.after,Region.binds .any e=true->e.on≠i)->x.apart ops ok=true:=fun k ok I G l J=>by
    refine f k ok I G ?_ J
    by_cases z:j=k
    .subst z;exact p
    .rw[getD_set_ne true z] at l;exact l
   refine wpOp_mono (fun T V L=>⟨L.2.1,ih (listed.setIfInBounds j true) T V (A.lZ E) m (ready_mono t (fN d)) L.1 ?_⟩) O;rw[Yg _ _ d];exact L.2.2
end
structure Up2(ops:Array Oper)(listed:Array Bool):Prop where
 down:Down ops listed
 gD:Region.noSelect ops=true
def Up2.lZ{i:Nat}(h:Up2 ops listed)(hi:i∈Region.ready .any ops listed):Up2 ops (listed.setIfInBounds i true):=⟨h.down.lZ hi,h.gD⟩
def XB(P:Program)(N:cQ)(w0:World)(ops:Array Oper)(Q:Exit->Act->World->Prop)(R0:List Piece)(H0:List HP)(Z:List Nat)(fuel:Nat)(listed:Array Bool)(e:Env)(R:List Piece)(H:List HP):Prop:=
 Up2 ops listed->XK N w0 (Hf P ops Q (St w0 R0 H0) Z fuel listed) e R H
def Oc(P:Program)(w0:World)(ops:Array Oper)(Q:Exit->Act->World->Prop)(R0:List Piece)(H0:List HP)(Z:List Nat)(fuel:Nat)(listed:Array Bool)(i:Nat):Act->World->Prop:=
 fun d c=>(Jj ops Z i=false->St w0 R0 H0 c)/\(Up2 ops (listed.setIfInBounds i true)->Hf P ops Q (St w0 R0 H0) Z fuel (listed.setIfInBounds i true) d c)
def kO(Z:List Nat){id:Nat}{l:List Oper}(h:XB P N w0 l.toArray Q R H Z l.length (Array.replicate l.length false) e R H)(hm:P.follows .mixedOrders=true:=by kernel_rfl)(c:Region.noSelect l.toArray=true:=by kernel_rfl):XK N w0 ((Code.region id l.toArray true).wp P Q) e R H:=fun a w d st=>by
 have:=h ⟨Down.start _ _,c⟩ a w.drew d st.drew
 refine wp_region_any hm (aDi (S:=St w0 R H) (Z:=Z) _ _ _ _ ?_)
 simpa using this
def aGa(i:Nat){f:Oper}{v:Value}{d:Nat}(hi:ops[i]? =some f)(h:f.dst=some d)(hg:f.guard=none)(hd:d < N.n)(bL:bY P N w0 e R0 H0 f v)
  (m:(Region.free .any ops listed i&&(Region.ready .any ops listed).contains i&&Z.contains i)=true) (hQ:∀c a w,Q (.panic c) (a.put f.dst v) w->Q (.panic c) a w)
  (j:∀w,St w0 R H w->St w0 R0 H0 w)
  (k:XB P N w0 ops Q R0 H0 Z fuel (listed.setIfInBounds i true) ((d,v)::e) R H):XB P N w0 ops Q R0 H0 Z (fuel+1) listed e R H:=by
 simp only[jY] at m;obtain⟨⟨y,p⟩,x⟩:=m;intro up a w o st
 have t:=k (up.lZ (by simpa using p)) (a.put f.dst v) w (by rw[h];exact o.put hd v) st
 refine aDj hi (Region.noSelect_spec up.gD) hQ (by simpa using x) fuel listed a w up.down (Region.free_spec hi y) (by simpa using p) (.inl ⟨by simp[Region.wanted,hg],fun r l=>?_⟩) (j w st) t;exact bL a r o l
def aLE(i:Nat)(j:Qa ops i=true){f:Oper}{v:Value}{d:Nat}(hi:ops[i]? =some f)(h:f.dst=some d)(hg:f.guard=none)(hd:d < N.n)(bL:∀a w,eT N e a->(execOp a.eval f).run P w=.ok (.value v) w)
  (l:(Region.free .any ops listed i&&(Region.ready .any ops listed).contains i)=true) (hQ:∀c a w,Q (.panic c) (a.put f.dst v) w->Q (.panic c) a w)
  (k:XB P N w0 ops Q R0 H0 Z fuel (listed.setIfInBounds i true) ((d,v)::e) R H):XB P N w0 ops Q R0 H0 Z (fuel+1) listed e R H:=by
 simp only[jY] at l;obtain⟨t,o⟩:=l;intro up a w m st
 have r:=k (up.lZ (by simpa using o)) (a.put f.dst v) w (by rw[h];exact m.put hd v) st
 refine aGE hi j (Region.noSelect_spec up.gD) hQ fuel listed a w up.down (Region.free_spec hi t) (by simpa using o) (.inl ⟨by simp[Region.wanted,hg],fun p _=>?_⟩) r;exact bL a p m
def aXj(i:Nat){l:Oper}(hi:ops[i]? =some l)(c:Region.ready .any ops listed=[i])(k:XK N w0 (wpList P ops (Exit.then (Oc P w0 ops Q R0 H0 Z fuel listed i) Q) [l]) e R H):XB P N w0 ops Q R0 H0 Z (fuel+1) listed e R H:=by
 intro up a w f st;refine⟨fun h=>(by rw[c] at h;cases h),fun j d=>?_⟩;rw[c] at d;simp at d;subst d;exact He hi (fun a w h=>⟨fun hw _=>h.1 hw,h.2 (up.lZ (by rw[c];simp))⟩) (k a w f st)
def Ap(i j:Nat){l m:Oper}(hi:ops[i]? =some l)(hj:ops[j]? =some m)(k:Region.ready .any ops listed=[i,j])
  (k1:XK N w0 (wpList P ops (Exit.then (Oc P w0 ops Q R0 H0 Z fuel listed i) Q) [l]) e R H) (k2:XK N w0 (wpList P ops (Exit.then (Oc P w0 ops Q R0 H0 Z fuel listed j) Q) [m]) e R H):XB P N w0 ops Q R0 H0 Z (fuel+1) listed e R H:=by
 intro up a w d st;refine⟨fun h=>(by rw[k] at h;cases h),fun q f=>?_⟩
 have c:=f
 rw[k] at f;simp at f;rcases f with rfl | rfl
 .exact He hi (fun a w h=>⟨fun hw _=>h.1 hw,h.2 (up.lZ c)⟩) (k1 a w d st)
 .exact He hj (fun a w h=>⟨fun hw _=>h.1 hw,h.2 (up.lZ c)⟩) (k2 a w d st)
def aXo{i:Nat}(hS:∀w,St w0 R H w->St w0 R0 H0 w)(h:XB P N w0 ops Q R0 H0 Z fuel (listed.setIfInBounds i true) e R H):XK N w0 (Oc P w0 ops Q R0 H0 Z fuel listed i) e R H:=fun a w c st=>⟨fun _=>hS w st,fun up=>h up a w c st⟩
def aXl(d:Region.ready .any ops listed=[])(h:XK N w0 (Q .normal) e R H):XB P N w0 ops Q R0 H0 Z fuel listed e R H:=by
 intro up a w c st;cases fuel with
 | zero=>exact⟨d,h a w c st⟩
 | succ fuel=>exact⟨fun _=>h a w c st,by rw[d];simp⟩
def aXn{i:Nat}(h:XB P N w0 ops Q R0 H0 Z fuel (listed.setIfInBounds i true) e R H)(hl:Jj ops Z i=true:=by kernel_rfl):XK N w0 (Oc P w0 ops Q R0 H0 Z fuel listed i) e R H:=fun a w d st=>⟨(fun c=>by rw[hl] at c;cases c),fun up=>h up a w d st⟩
def cT{i:Nat}(h:XB P N w0 ops Q R0 H0 Z fuel (listed.setIfInBounds i true) e R H)(hl:Jj ops Z i=true:=by kernel_rfl):XK N w0 (wpList P ops (Exit.then (Oc P w0 ops Q R0 H0 Z fuel listed i) Q) []) e R H:=jA (iU (aXn h hl))
def bH{i:Nat}(h:XB P N w0 ops Q R0 H0 Z fuel (listed.setIfInBounds i true) e R H)(hS:∀w,St w0 R H w->St w0 R0 H0 w:=by exact Eu):XK N w0 (wpList P ops (Exit.then (Oc P w0 ops Q R0 H0 Z fuel listed i) Q) []) e R H:=jA (iU (aXo hS h))
def aQ(i:Nat)(k:XB Tryz.prog N w0 ops Q R0 H0 Z fuel (listed.setIfInBounds i true) ((d,v)::e) R H)(hi:ops[i]? =some ⟨some d,op,ty,pos,aN,none⟩:=by rfl)(bL:bY Tryz.prog N w0 e R0 H0 ⟨some d,op,ty,pos,aN,none⟩ v:=by exact Vp)(hd:d < N.n:=by decide)
  (j:(Region.free .any ops listed i&&(Region.ready .any ops listed).contains i&&Z.contains i)=true:=by kernel_rfl) (hQ:∀c a w,Q (.panic c) (a.put (some d) v) w->Q (.panic c) a w:=by exact fun _ _ _ h=>h)
  (f:∀w,St w0 R H w->St w0 R0 H0 w:=by exact Eu):XB Tryz.prog N w0 ops Q R0 H0 Z (fuel+1) listed e R H:=aGa i hi rfl rfl hd bL j hQ f k
def bU(i:Nat){y:Operand}(k:XB Tryz.prog N w0 ops Q R0 H0 Z fuel (listed.setIfInBounds i true) ((d,v)::e) R H)(hi:ops[i]? =some ⟨some d,.move y,ty,pos,aN,none⟩:=by rfl)(hx:e.ev y=some v:=by rfl)(hd:d < N.n:=by decide)
  (j:(Region.free .any ops listed i&&(Region.ready .any ops listed).contains i)=true:=by kernel_rfl) (hQ:∀c a w,Q (.panic c) (a.put (some d) v) w->Q (.panic c) a w:=by exact fun _ _ _ h=>h)
  (f:∀w,St w0 R H w->St w0 R0 H0 w:=by exact Eu):XB Tryz.prog N w0 ops Q R0 H0 Z (fuel+1) listed e R H:=aLE i (by simp[Qa,hi]) hi rfl rfl hd (fun a w l=>by simp[execOp,l.ev hx]) j hQ k
def aLF(i:Nat){v:Value}(hi:ops[i]? =some ⟨some d,op,ty,pos,aN,some (j,want)⟩)(hj:(ops[j]?).bind (·.dst)=some t)(z:e.get t=some (.bool want))(hd:d < N.n)(bL:bY P N w0 e R0 H0 ⟨some d,op,ty,pos,aN,none⟩ v)
  (m:(Region.free .any ops listed i&&(Region.ready .any ops listed).contains i&&Z.contains i)=true) (hQ:∀c a w,Q (.panic c) (a.put (some d) v) w->Q (.panic c) a w)
  (f:∀w,St w0 R H w->St w0 R0 H0 w)
  (k:XB P N w0 ops Q R0 H0 Z fuel (listed.setIfInBounds i true) ((d,v)::e) R H):XB P N w0 ops Q R0 H0 Z (fuel+1) listed e R H:=by
 simp only[jY] at m;obtain⟨⟨y,o⟩,x⟩:=m;intro up a w h st
 have r:=k (up.lZ (by simpa using o)) (a.put (some d) v) w (h.put hd v) st
 refine aDj hi (Region.noSelect_spec up.gD) hQ (by simpa using x) fuel listed a w up.down (Region.free_spec hi y) (by simpa using o) (.inl ⟨?_,fun p l=>?_⟩) (f w st) r
 .simp only[Region.wanted,yielded,hj,Bo,h.get t _ z];simp
 .exact bL a p h l
def aXi(i:Nat)(k:XB Tryz.prog N w0 ops Q R0 H0 Z fuel (listed.setIfInBounds i true) ((d,v)::e) R H)(hi:ops[i]? =some ⟨some d,op,ty,pos,aN,some (j,want)⟩:=by rfl)(hj:(ops[j]?).bind (·.dst)=some t:=by rfl)(m:e.get t=some (.bool want):=by rfl)(bL:bY Tryz.prog N w0 e R0 H0 ⟨some d,op,ty,pos,aN,none⟩ v:=by exact Vp)(hd:d < N.n:=by decide)
  (l:(Region.free .any ops listed i&&(Region.ready .any ops listed).contains i&&Z.contains i)=true:=by kernel_rfl) (hQ:∀c a w,Q (.panic c) (a.put (some d) v) w->Q (.panic c) a w:=by exact fun _ _ _ h=>h)
  (f:∀w,St w0 R H w->St w0 R0 H0 w:=by exact Eu):XB Tryz.prog N w0 ops Q R0 H0 Z (fuel+1) listed e R H:=aLF i hi hj m hd bL l hQ f k
class eZ(t:TypeId)(zs:outParam (List Value)):Prop where
 h:Gw Tryz.prog t zs:=by exact sD (by kernel_rfl)
class jT(t:TypeId)(L:outParam (List (Nat×Nat))):Prop where
 h:aBB Tryz.prog t=some L:=by kernel_rfl
class Gv(t:TypeId)(sz bytes:outParam Nat):Prop where
 h:(Tryz.prog.info? t).map (fun i=>(i.zero.map (fun z=>z.cells.size),i.size,i.bytes))=some (some sz,sz,bytes):=by kernel_rfl
class NuT(t:TypeId)(k:outParam IntKind):Prop where
 h:Tryz.prog.underlying t=some (.int k):=by kernel_rfl
def aBo:Op->Bool
 | .assign _ | .pick .. | .load .. | .nilCheck _ | .binOp .. | .unOp .. | .convert .. | .fieldAddr .. | .field .. | .indexAddr .. | .index .. | .extract .. | .build .. | .makeFunc .. =>true
 | .call c=>match c.callee with
  | .builtin .len=>true
  | _=>false
 | _=>false
def aHg(op:Op):Bool:=aBo op||match op with
 | .move _=>true
 | _=>false
def aWv:Op->Bool
 | .alloc _ | .box .. | .buildSlice .. | .makeSlice .. =>true
 | _=>false
def Sg(ops:Array Oper):List Nat:=(List.range ops.size).filter fun i=>match ops[i]? with
 | some o=>aBo o.op&&(List.range ops.size).all fun j=> !((Vw ops ops.size (Ym o)).testBit j)||match ops[j]? with
  | some p=>aHg p.op||aWv p.op
  | none=>true
 | none=>false
def nU(c:List Nat)(H H':List HP):Prop:=∃d:List Nat,zB d H=some H'/\d.Nodup/\∀i∈d,i∉c
def nU.nil{c:List Nat}{H:List HP}:nU c H []:=⟨[],rfl,List.nodup_nil,fun _ h=>by cases h⟩
def nU.cons(i:Nat){c:List Nat}{H r:List HP}{p:HP}(l:i∉c)(hi:H[i]? =some p)(h:nU (i::c) H r):nU c H (p::r):=by
 obtain⟨m,k,n,f⟩:=h;refine⟨i::m,?_,Bm.2 ⟨fun d=>f i d aB,n⟩,fun j e=>?_⟩
 .unfold zB;rw[hi,k]
 .rcases fT.1 e with rfl | e
  .exact l
  .exact fun d=>f j e (by simp[d])
def aA5{H H':List HP}(h:nU [] H H':=by
  repeat (first | exact nU.nil | refine nU.cons 0 aE rfl ?_ | refine nU.cons 1 aE rfl ?_ | refine nU.cons 2 aE rfl ?_ | refine nU.cons 3 aE rfl ?_ | refine nU.cons 4 aE rfl ?_ | refine nU.cons 5 aE rfl ?_ | refine nU.cons 6 aE rfl ?_ | refine nU.cons 7 aE rfl ?_ | refine nU.cons 8 aE rfl ?_ | refine nU.cons 9 aE rfl ?_ | refine nU.cons 10 aE rfl ?_ | refine nU.cons 11 aE rfl ?_ | refine nU.cons 12 aE rfl ?_ | refine nU.cons 13 aE rfl ?_ | refine nU.cons 14 aE rfl ?_ | refine nU.cons 15 aE rfl ?_)):nU [] H H':=h
section
variable{α:Type}
def LpK(N:cQ)(w0:World)(n:Nat)(E:Nat->α->Env)(R:List Piece)(C:Nat->α->List HP)(G:Nat->α->Prop)(i:Nat):Act->World->Prop:=fun a w=>∃x,i < n/\G (i+1) x/\eT N (E (i+1) x) a/\St w0 R (C (i+1) x) w
def wD{c:Code}(E:Nat->α->Env)(C:Nat->α->List HP)(G:Nat->α->Prop)(n:Nat)(d:α)(M:G 0 d)(F:∀i x,i<=n->G i x->XK N w0 (c.wp P (Exit.then (LpK N w0 n E R C G i) Q)) (E i x) R (C i x))
  (J:(E 0 d).Sub e:=by repeat (first | exact trivial | refine⟨rfl,?_⟩)) (t:nU [] H (C 0 d):=by exact aA5):XK N w0 ((Code.loop c).wp P Q) e R H:=by
 obtain⟨I,B,z,_⟩:=t;refine Wm (E 0 d) J (xL I B z (fun _ h=>h) ?_);refine gA (fun m e r p=>∃i x,i<=n/\m=n - i/\G i x/\e=E i x/\r=R/\p=C i x) n ⟨0,d,aA,rfl,M,rfl,rfl,rfl⟩ fun m e r p D=>?_;obtain⟨i,x,A,rfl,K,rfl,rfl,rfl⟩:=D;intro a w l st;refine wp_mono (F i x A K a w l st) fun y O U o=>?_;cases y with
 | normal=>
  obtain⟨L,T,f,k,j⟩:=o;exact⟨n - (i+1),_,_,_,⟨aA,i+1,L,aA,rfl,f,rfl,rfl,rfl⟩,k,j⟩
 | _=>exact o
def oG{n i:Nat}{E:Nat->α->Env}{C:Nat->α->List HP}{G:Nat->α->Prop}(x:α)(f:(E (i+1) x).Sub e:=by repeat (first | exact trivial | refine⟨rfl,?_⟩))(hs:nU [] H (C (i+1) x):=by exact aA5)(l:∀p∈R',p∈R:=by first | exact fun _ h=>h | simp)(hi:i < n:=by omega)(hg:G (i+1) x:=by first | trivial | omega | assumption | (simp;done)):XK N w0 (LpK N w0 n E R' C G i) e R H:=by
 obtain⟨d,k,j,_⟩:=hs;exact Wm _ f (xL d k j l fun a w c st=>⟨x,hi,hg,c,st⟩)
def CtK(N:cQ)(w0:World)(E:α->Env)(R:List Piece)(C:α->List HP)(G:α->Prop):Act->World->Prop:=fun a w=>∃x,G x/\eT N (E x) a/\St w0 R (C x) w
def Ll{x y:Code}(E:α->Env)(C:α->List HP)(G:α->Prop)(h:XK N w0 (x.wp P (Exit.then (CtK N w0 E R C G) Q)) e R H)(hy:∀z,G z->XK N w0 (y.wp P Q) (E z) R (C z)):XK N w0 ((Code.seq x y).wp P Q) e R H:=fun a w k st=>by
 refine wp_seq (wp_mono (h a w k st) fun j m i f=>?_);cases j with
 | normal=>
  obtain⟨z,l,d,c⟩:=f;exact hy z l m i d c
 | _=>exact f
def Ro{x:Code}{K:Act->World->Prop}(E:α->Env)(C:α->List HP)(G:α->Prop)(h:XK N w0 (x.wp P (Exit.then (CtK N w0 E R C G) Q)) e R H)(hy:∀z,G z->XK N w0 K (E z) R (C z)):XK N w0 (x.wp P (Exit.then K Q)) e R H:=fun a w k st=>by
 refine wp_mono (h a w k st) fun j m i f=>?_;cases j with
 | normal=>
  obtain⟨z,l,d,c⟩:=f;exact hy z l m i d c
 | _=>exact f
def xO{id:Nat}{x:Code}{K:Act->World->Prop}(E:α->Env)(C:α->List HP)(G:α->Prop)(h:XK N w0 (x.wp P (Exit.inBlock id (Exit.then (CtK N w0 E R C G) Q))) e R H)(hy:∀z,G z->XK N w0 K (E z) R (C z)):XK N w0 (x.wp P (Exit.inBlock id (Exit.then K Q))) e R H:=fun a w p st=>by
 have d:∀ex k i,Exit.then (CtK N w0 E R C G) Q ex k i->Exit.then K Q ex k i:=fun ex k i f=>by
  cases ex with
  | normal=>
   obtain⟨z,r,n,m⟩:=f;exact hy z r k i n m
  | _=>exact f
 refine wp_mono (h a w p st) fun ex k i f=>?_;cases ex with
 | exit j =>
  by_cases o:j=id
  .simp only[Exit.inBlock,aH o] at f|-;exact d _ _ _ f
  .simp only[Exit.inBlock,aC o] at f|-;exact d _ _ _ f
 | normal=>exact d .normal k i f
 | goto l=>exact d (.goto l) k i f
 | ret=>exact d .ret k i f
 | panic c=>exact d (.panic c) k i f
 | outgrown=>exact d .outgrown k i f
def eF{E:α->Env}{C:α->List HP}{G:α->Prop}(x:α)(j:(E x).Sub e:=by repeat (first | exact trivial | refine⟨rfl,?_⟩))(hs:nU [] H (C x):=by exact aA5)(f:∀p∈R',p∈R:=by first | exact fun _ h=>h | simp)(hg:G x:=by first | trivial | omega | assumption | (simp;done)):XK N w0 (CtK N w0 E R' C G) e R H:=by
 obtain⟨i,c,k,_⟩:=hs;exact Wm _ j (xL i c k f fun a w d st=>⟨x,hg,d,st⟩)
end
section
variable{R0':List Piece}{fuel':Nat}{Um:Array Bool}
variable{o:Oper}
def fI{t:TypeId}{ps:List (Nat×Operand)}{vs:List (Nat×Value)}{zs cs:List Value}{L:List (Nat×Nat)}[hZ:eZ t zs][hL:jT t L](hp:e.parts ps=some vs)(hf:mR L zs vs=some cs:=by first | (simp[mR,qQ,Value.cells];done) | (simp[mR,qQ,Value.cells];rfl) | rfl):
  bY Tryz.prog N w0 e R H ⟨some d,.build t ps.toArray,ty,pos,aN,none⟩ (.agg cs.toArray):=Im hZ.h hL.h hp hf
def aUt{x f:Operand}{t el:TypeId}{b off n c sz o:Nat}{kd:IntKind}{j:Int}[hT:nI t el sz](hx:e.ev x=some (.slice (some ⟨b,off,none⟩) n c))(hi:e.ev f=some (.int kd j))(hlt:0<=j/\j < (n:Int):=by omega)
  (ho:off+j.toNat*sz=o:=by first | (simp only[dL,Int.reduceToNat,zG,mA,Nat.reduceMul,Nat.reduceAdd];rfl) | rfl):bY Tryz.prog N w0 e R H ⟨some d,.indexAddr t x f,ty,pos,aN,none⟩ (.pointer (some ⟨b,o,none⟩)):=dat j.toNat o hx hi aA aA ho
def aKh{x c:Operand}{t el:TypeId}{b off n sz o:Nat}{kd:IntKind}{j:Int}[hT:Ba t n el sz](hx:e.ev x=some (.pointer (some ⟨b,off,none⟩)))(hi:e.ev c=some (.int kd j))(hlt:0<=j/\j < (n:Int):=by omega)
  (ho:off+j.toNat*sz=o:=by first | (simp only[dL,Int.reduceToNat,zG,mA,Nat.reduceMul,Nat.reduceAdd];rfl) | rfl):bY Tryz.prog N w0 e R H ⟨some d,.indexAddr t x c,ty,pos,aN,none⟩ (.pointer (some ⟨b,o,none⟩)):=iA j.toNat o hx hi aA aA ho
def aUz{x:Operand}{kd f:IntKind}{i c:Int}{src dst:TypeId}[hs:NuT src f][ht:NuT dst kd](hx:e.ev x=some (.int f i))(hw:kd.wrap i=c:=by first | exact qM aA | exact wrap_u64 aA | exact wrap_u32 aA | rfl):bY Tryz.prog N w0 e R H ⟨some d,.convert src dst x,ty,pos,aN,none⟩ (.int kd c):=Nt hs.h ht.h hx hw
def aOm{t:TypeId}{x:Array (Nat×Operand)}(h:bY Tryz.prog N w0 e R H ⟨some d,.build t x,ty,pos,aN,none⟩ v):bY Tryz.prog N w0 e R H ⟨some d,.build t x,ty,pos,aN,none⟩ v:=h
def aOg{x y:Operand}{t:TypeId}(h:bY Tryz.prog N w0 e R H ⟨some d,.indexAddr t x y,ty,pos,aN,none⟩ v):bY Tryz.prog N w0 e R H ⟨some d,.indexAddr t x y,ty,pos,aN,none⟩ v:=h
def aOl{x:Operand}{s t:TypeId}(h:bY Tryz.prog N w0 e R H ⟨some d,.convert s t x,ty,pos,aN,none⟩ v):bY Tryz.prog N w0 e R H ⟨some d,.convert s t x,ty,pos,aN,none⟩ v:=h
def aX2{b o:Nat}{ds:List Int}(hd:Cp ds)(ho:o < 120)(hi:∃(i:Nat) (t:TypeId),H[i]? =some (HP.aK b t (aU ds)):=by
  first | exact⟨0,_,rfl⟩ | exact⟨1,_,rfl⟩ | exact⟨2,_,rfl⟩ | exact⟨3,_,rfl⟩ | exact⟨4,_,rfl⟩ | exact⟨5,_,rfl⟩ | exact⟨6,_,rfl⟩ | exact⟨7,_,rfl⟩ | exact⟨8,_,rfl⟩ | exact⟨9,_,rfl⟩ | exact⟨10,_,rfl⟩ | exact⟨11,_,rfl⟩ | exact⟨12,_,rfl⟩):Rd w0 R H b o (.int .i64 (dv ds o % 1000000)):=by
 rw[Int.emod_eq_of_lt (hd.bd o).1 (hd.bd o).2];exact aX3 (hd.at_ o ho) hi
def aU1{x c:Operand}{t:TypeId}{s:ByteArray}{kd:IntKind}{i:Nat}{j:Int}{b:UInt8}(hx:e.ev x=some (.string s))(hi:e.ev c=some (.int kd j))(h:s[i]? =some b)(f:Tryz.prog.underlying t=some .string:=by kernel_rfl)(hj:j=(i:Int):=by omega):bY Tryz.prog N w0 e R H ⟨some d,.index t x c,ty,pos,aN,none⟩ (.int .u8 b.toNat):=aU0 i f hx hi hj h
def aOh{x y:Operand}{t:TypeId}(h:bY Tryz.prog N w0 e R H ⟨some d,.index t x y,ty,pos,aN,none⟩ v):bY Tryz.prog N w0 e R H ⟨some d,.index t x y,ty,pos,aN,none⟩ v:=h
def dz(h:bY Tryz.prog N w0 e R H o v:=by
  first
  | exact Vp
  | ((with_reducible apply aHi);(first | exact bT rfl (Rd.own 0 rfl (by assumption)) | exact bT rfl (Rd.own 1 rfl (by assumption)) | exact bT rfl (Rd.own 2 rfl (by assumption)) | exact bT rfl (Rd.own 3 rfl (by assumption)) | exact bT rfl (Rd.own 4 rfl (by assumption)) | exact bT rfl (Rd.aK 9 rfl rfl) | exact bT rfl (Rd.aK 10 rfl rfl) | exact bT rfl (Rd.aK 11 rfl rfl) | exact bT rfl (aX2 (by assumption) aA)))
  | ((with_reducible apply aOg);(first | exact aUt rfl rfl | exact aKh rfl rfl))
  | ((with_reducible apply aHj);(first | exact aUo rfl rfl (qM aA) | exact aKc rfl rfl aA (rem_in aA) | exact aKd rfl rfl aA (aPG aA aA aA) | exact aKd rfl rfl aA (qM (by assumption)) | exact aYc rfl | exact aYd aJ rfl rfl | exact aUx aJ rfl rfl))
  | ((with_reducible apply aHh);exact aUn rfl (qM aA))
  | ((with_reducible apply aOm);exact fI rfl)
  | ((with_reducible apply aOl);exact aUz rfl)
  | ((with_reducible apply aOh);exact aU1 rfl rfl (by assumption))
  | ((with_reducible apply aXC);exact aKi rfl rfl)):bY Tryz.prog N w0 e R H o v:=h
def kz(k:XK N w0 (wpList Tryz.prog ops Q rest) ((d,v)::e) R H)(h:bY Tryz.prog N w0 e R H ⟨some d,op,ty,pos,aN,none⟩ v:=by exact dz)(hd:d < N.n:=by decide):XK N w0 (wpList Tryz.prog ops Q (⟨some d,op,ty,pos,aN,none⟩::rest)) e R H:=kd h k hd
def eE{t:TypeId}{cs:List Value}[hZ:eZ t cs](k:∀g,XK N w0 (wpList Tryz.prog ops Q rest) ((d,.pointer (some ⟨g,0,none⟩))::e) R (HP.aK g t cs::H))(hd:d < N.n:=by decide):XK N w0 (wpList Tryz.prog ops Q (⟨some d,.alloc t,ty,pos,aN,none⟩::rest)) e R H:=aGA hZ.h hd k
def eI{x:Operand}{t:TypeId}{cs:List Value}(k:∀g,XK N w0 (wpList Tryz.prog ops Q rest) ((d,.pointer (some ⟨g,0,none⟩))::e) R (HP.aK g t cs::H))(hx:e.ev x=some v:=by rfl)(c:v.cells.toList=cs:=by first | (simp only[Value.cells,List.toList_toArray];rfl) | rfl)(hd:d < N.n:=by decide):XK N w0 (wpList Tryz.prog ops Q (⟨some d,.box t x,ty,pos,aN,none⟩::rest)) e R H:=by
 subst c;exact aMT hx hd k
def eX{t el:TypeId}{n sz:Nat}{ps:List (Nat×Operand)}{vs:List (Nat×Value)}{zs cs:List Value}[hT:nI t el sz][hZ:eZ el zs](k:∀g,XK N w0 (wpList Tryz.prog ops Q rest) ((d,.slice (some ⟨g,0,none⟩) n n)::e) R (HP.aK g el cs::H))(hp:e.parts ps=some vs:=by rfl)(j:zs.length=sz:=by rfl)(c:0 < n*sz:=by decide)(f:n*sz<=16777216:=by decide)
  (hf:mR ((List.range n).map fun i=>(i*sz,sz)) ((List.range (n*sz)).map fun i=>zs.getD (i % sz) undef) vs=some cs:=by first | (simp[mR,qQ,Value.cells,zH,List.set];done) | (simp[mR,qQ,Value.cells,zH,List.set];rfl) | rfl) (hd:d < N.n:=by decide):XK N w0 (wpList Tryz.prog ops Q (⟨some d,.buildSlice t n ps.toArray,ty,pos,aN,none⟩::rest)) e R H:=
 aG0 hT.h hZ.h hT.s j c f hp hf hd k
def Kk(i:Nat){x y:Operand}{t el:TypeId}{sz c n m p g:Nat}{v:Value}{xs f:List Value}[hT:nI t el sz][hB:Gv el sz c](k:∀A' o,XK N w0 (wpList Tryz.prog ops Q rest) ((d,.slice A' (n+m) o)::e) R (H.set i (HP.own el sz (.slice A' (n+m) o) (n+m) (xs++f))))(hi:H[i]? =some (HP.own el sz v n xs):=by rfl)(hx:e.ev x=some v:=by rfl)(hy:e.ev y=some (.slice (some ⟨g,0,none⟩) m p):=by rfl)
  (hs:H[0]? =some (HP.aK g el f):=by rfl) (hl:f.length=m*sz:=by rfl) (w:∀u∈f,u.oneCell'=true:=by simp[Value.oneCell']) (l:n+m<=1000000:=by omega) (r:c<=1000:=by decide) (j:0 < sz:=by decide) (hd:d < N.n:=by decide):
  XK N w0 (wpList Tryz.prog ops Q (⟨some d,.call {callee:=.builtin .append,args:=#[x,y],argTypes:=#[t,t]},ty,pos,aN,none⟩::rest)) e R H:=
 jU i sz c m hT.h hB.h j hi hx hy (tU 0 hs hl) w rfl aA (by have:=Nat.mul_le_mul l r;omega) hd k
def aXm(i:Nat){b:Bool}(hi:ops[i]? =some ⟨some d,op,ty,pos,aN,some (j,want)⟩)(hj:(ops[j]?).bind (·.dst)=some t)(y:e.get t=some (.bool b))(r:b= !want)(hd:d < N.n)
  (h:(Region.free .any ops listed i&&(Region.ready .any ops listed).contains i&&Z.contains i)=true) (hQ:∀c a w,Q (.panic c) (a.put (some d) undef) w->Q (.panic c) a w) (f:∀w,St w0 R H w->St w0 R0 H0 w)
  (k:XB Tryz.prog N w0 ops Q R0 H0 Z fuel (listed.setIfInBounds i true) ((d,undef)::e) R H):XB Tryz.prog N w0 ops Q R0 H0 Z (fuel+1) listed e R H:=by
 simp only[jY] at h;obtain⟨⟨x,m⟩,p⟩:=h;intro up a w l st
 have o:=k (up.lZ (by simpa using m)) (a.put (some d) undef) w (l.put hd undef) st
 refine aDj hi (Region.noSelect_spec up.gD) hQ (by simpa using p) fuel listed a w up.down (Region.free_spec hi x) (by simpa using m) (.inr ⟨?_,rfl⟩) (f w st) o;simp only[Region.wanted,yielded,hj,Bo,l.get t _ y,r];simp
def XL(i:Nat)(N:cQ)(w0:World)(ops:Array Oper)(Q:Exit->Act->World->Prop)(R0:List Piece)(H0:List HP)(Z:List Nat)(fuel:Nat)(listed:Array Bool)(e:Env)(R:List Piece)(H:List HP):Prop:=XB Tryz.prog N w0 ops Q R0 H0 Z fuel listed e R H
def aAq(k:XL (i+1) N w0 ops Q R0 H0 Z fuel (listed.setIfInBounds i true) ((d,v)::e) R H)(l:(Z.contains i&&(Region.ready .any ops listed).contains i)=true:=by decide+kernel)(hi:ops[i]? =some ⟨some d,op,ty,pos,aN,none⟩:=by rfl)(bL:bY Tryz.prog N w0 e R0 H0 ⟨some d,op,ty,pos,aN,none⟩ v:=by exact dz)(hd:d < N.n:=by decide)
  (j:(Region.free .any ops listed i&&(Region.ready .any ops listed).contains i&&Z.contains i)=true:=by kernel_rfl) (hQ:∀c a w,Q (.panic c) (a.put (some d) v) w->Q (.panic c) a w:=by first | exact fun _ _ _ h=>h | exact fun _ _ _ h=>oN rfl h)
  (f:∀w,St w0 R H w->St w0 R0 H0 w:=by exact Eu):XL i N w0 ops Q R0 H0 Z (fuel+1) listed e R H:=aGa i hi rfl rfl hd bL j hQ f k
def aAo(k:XL (i+1) N w0 ops Q R0 H0 Z fuel (listed.setIfInBounds i true) ((d,v)::e) R H)(o:(Z.contains i&&(Region.ready .any ops listed).contains i)=true:=by decide+kernel)(hi:ops[i]? =some ⟨some d,op,ty,pos,aN,some (j,want)⟩:=by rfl)(hj:(ops[j]?).bind (·.dst)=some t:=by rfl)(m:e.get t=some (.bool want):=by rfl)(bL:bY Tryz.prog N w0 e R0 H0 ⟨some d,op,ty,pos,aN,none⟩ v:=by exact dz)(hd:d < N.n:=by decide)
  (l:(Region.free .any ops listed i&&(Region.ready .any ops listed).contains i&&Z.contains i)=true:=by kernel_rfl) (hQ:∀c a w,Q (.panic c) (a.put (some d) v) w->Q (.panic c) a w:=by first | exact fun _ _ _ h=>h | exact fun _ _ _ h=>oN rfl h)
  (f:∀w,St w0 R H w->St w0 R0 H0 w:=by exact Eu):XL i N w0 ops Q R0 H0 Z (fuel+1) listed e R H:=aLF i hi hj m hd bL l hQ f k
def aAp{b:Bool}(k:XL (i+1) N w0 ops Q R0 H0 Z fuel (listed.setIfInBounds i true) ((d,undef)::e) R H)(p:(Z.contains i&&(Region.ready .any ops listed).contains i)=true:=by decide+kernel)(hi:ops[i]? =some ⟨some d,op,ty,pos,aN,some (j,want)⟩:=by rfl)(hj:(ops[j]?).bind (·.dst)=some t:=by rfl)(m:e.get t=some (.bool b):=by rfl)(o:b= !want:=by rfl)(hd:d < N.n:=by decide)
  (l:(Region.free .any ops listed i&&(Region.ready .any ops listed).contains i&&Z.contains i)=true:=by kernel_rfl) (hQ:∀c a w,Q (.panic c) (a.put (some d) undef) w->Q (.panic c) a w:=by first | exact fun _ _ _ h=>h | exact fun _ _ _ h=>oN rfl h)
  (f:∀w,St w0 R H w->St w0 R0 H0 w:=by exact Eu):XL i N w0 ops Q R0 H0 Z (fuel+1) listed e R H:=aXm i hi hj m o hd l hQ f k
def aAr{y:Operand}(k:XL (i+1) N w0 ops Q R0 H0 Z fuel (listed.setIfInBounds i true) ((d,v)::e) R H)(hi:ops[i]? =some ⟨some d,.move y,ty,pos,aN,none⟩:=by rfl)(hx:e.ev y=some v:=by rfl)(hd:d < N.n:=by decide)
  (f:(Region.free .any ops listed i&&(Region.ready .any ops listed).contains i)=true:=by kernel_rfl) (hQ:∀c a w,Q (.panic c) (a.put (some d) v) w->Q (.panic c) a w:=by first | exact fun _ _ _ h=>h | exact fun _ _ _ h=>oN rfl h):XL i N w0 ops Q R0 H0 Z (fuel+1) listed e R H:=aLE i (by simp[Qa,hi]) hi rfl rfl hd (fun a w j=>by simp[execOp,j.ev hx]) f hQ k
def aAn(k:XL (i+1) N w0 ops Q R0 H0 Z fuel listed e R H)(hl:decide (i < ops.size)=true:=by rfl):XL i N w0 ops Q R0 H0 Z fuel listed e R H:=k
def aAs(k:XB Tryz.prog N w0 ops Q R0 H0 Z fuel listed e R H)(hl:decide (i < ops.size)=false:=by rfl):XL i N w0 ops Q R0 H0 Z fuel listed e R H:=k
def kG(i:Nat)(k:XB Tryz.prog N w0 ops Q R0 H0 Z fuel (listed.setIfInBounds i true) ((d,v)::e) R H)(hi:ops[i]? =some ⟨some d,op,ty,pos,aN,none⟩:=by rfl)(bL:bY Tryz.prog N w0 e R0 H0 ⟨some d,op,ty,pos,aN,none⟩ v:=by exact dz)(hd:d < N.n:=by decide)
  (j:(Region.free .any ops listed i&&(Region.ready .any ops listed).contains i&&Z.contains i)=true:=by kernel_rfl) (hQ:∀c a w,Q (.panic c) (a.put (some d) v) w->Q (.panic c) a w:=by first | exact fun _ _ _ h=>h | exact fun _ _ _ h=>oN rfl h)
  (f:∀w,St w0 R H w->St w0 R0 H0 w:=by exact Eu):XB Tryz.prog N w0 ops Q R0 H0 Z (fuel+1) listed e R H:=aGa i hi rfl rfl hd bL j hQ f k
def xN{id:Nat}{l:List Oper}(k:XB Tryz.prog N w0 ops Q R0 H0 Z fuel listed e' R' H')(hk:XB Tryz.prog N w0 ops Q R0 H0 Z fuel listed e' R' H'->XL 0 N w0 l.toArray Q R H (Sg l.toArray) l.length (Array.replicate l.length false) e R H:=by
  intro h
  repeat (first | refine aAr ?_ | refine aAq ?_ | refine aAo ?_ | refine aAp ?_ | refine aC4 ?_ | refine aAn ?_ | refine aAs ?_)
  exact h)(hm:Tryz.prog.follows .mixedOrders=true:=by kernel_rfl)(hs:Region.noSelect l.toArray=true:=by kernel_rfl):XK N w0 ((Code.region id l.toArray true).wp Tryz.prog Q) e R H:=kO (Sg l.toArray) (hk k) hm hs
def aAC(ops:Array Oper):List Nat:=(List.range ops.size).filter fun i=>match ops[i]? with
 | some o=>aBo o.op
 | none=>false
def aFT{id:Nat}{l:List Oper}(k:XB Tryz.prog N w0 l.toArray Q R H (aAC l.toArray) fuel listed e' R' H')(hk:XB Tryz.prog N w0 l.toArray Q R H (aAC l.toArray) fuel listed e' R' H'->XL 0 N w0 l.toArray Q R H (aAC l.toArray) l.length (Array.replicate l.length false) e R H:=by
  intro h
  repeat (first | refine aAr ?_ | refine aAq ?_ | refine aAo ?_ | refine aAp ?_ | refine aC4 ?_ | refine aAn ?_ | refine aAs ?_)
  exact h)(hm:Tryz.prog.follows .mixedOrders=true:=by kernel_rfl)(hs:Region.noSelect l.toArray=true:=by kernel_rfl):XK N w0 ((Code.region id l.toArray true).wp Tryz.prog Q) e R H:=kO (aAC l.toArray) (hk k) hm hs
def lJ(i:Nat){fuel':Nat}{Um:Array Bool}(k:XB Tryz.prog N w0 ops Q R0 H0 Z fuel' Um e' R' H')(hk:XB Tryz.prog N w0 ops Q R0 H0 Z fuel' Um e' R' H'->XL i N w0 ops Q R0 H0 Z fuel listed e R H:=by
  intro h
  repeat (first | refine aAr ?_ | refine aAq ?_ | refine aAo ?_ | refine aAp ?_ | refine aC4 ?_ | refine aAn ?_ | refine aAs ?_)
  exact h):XB Tryz.prog N w0 ops Q R0 H0 Z fuel listed e R H:=hk k
def aR(i:Nat){c:Oper}(k:XK N w0 (wpList Tryz.prog ops (Exit.then (Oc Tryz.prog w0 ops Q R0 H0 Z fuel listed i) Q) [c]) e R H)(d:Region.ready .any ops listed=[i]:=by decide+kernel)(hi:ops[i]? =some c:=by rfl):XB Tryz.prog N w0 ops Q R0 H0 Z (fuel+1) listed e R H:=aXj i hi d k
def lW(k:XK N w0 (Q .normal) e R H)(c:Region.ready .any ops listed=[]:=by decide+kernel):XB Tryz.prog N w0 ops Q R0 H0 Z fuel listed e R H:=aXl c k
def Re(ops:Array Oper)(Z:List Nat):List Nat->Nat->Array Bool->Bool
 | [],_,listed=>(Region.ready .any ops listed).isEmpty
 | i::is,f+1,listed=>decide (Region.ready .any ops listed=[i])&&Jj ops Z i&&Re ops Z is f (listed.setIfInBounds i true)
 | _::_,0,_=>false
def Fb(ops:Array Oper)(c:List Nat):List Oper:=c.filterMap fun i=>ops[i]?
def aHK{P:Program}{S:World->Prop}:∀(e:List Nat) (f:Nat) (listed:Array Bool) (a:Act) (w:World),Re ops Z e f listed=true->wpList P ops Q (Fb ops e) a w->Hf P ops Q S Z f listed a w
 | [],0,listed,a,w,c,h=>⟨by simpa[Re] using c,h⟩
 | [],f+1,listed,a,w,c,h=>by
  have l:Region.ready .any ops listed=[]:=by simpa[Re] using c
  exact⟨fun _=>h,fun i p=>by rw[l] at p;cases p⟩
 | i :: e, f + 1, listed, a, w, c, h => by
  unfold Re at c;simp only[jY,decide_eq_true_eq] at c;obtain⟨⟨l,hw⟩,c⟩:=c;refine⟨(fun k=>by rw[l] at k;cases k),fun j n=>?_⟩;rw[l] at n;simp only[mL] at n;subst n
  have t:∀m d,wpList P ops Q (Fb ops e) m d->(Jj ops Z j=false->(S w\/Qa ops j=false)->S d)/\Hf P ops Q S Z f (listed.setIfInBounds j true) m d:=fun m d x=>⟨(fun k=>by rw[hw] at k;cases k),aHK e f _ m d c x⟩
  refine wpOp_mono t ?_;unfold wpOp;unfold Fb at h;cases r:ops[j]? with
  | none=>
   rw[List.filterMap_cons,r] at h;exact h
  | some o=>
   rw[List.filterMap_cons,r] at h;exact h
def wF(c:List Nat)(k:XK N w0 (wpList Tryz.prog ops Q (Fb ops c)) e R H)(d:Re ops Z c fuel listed=true:=by kernel_rfl):XB Tryz.prog N w0 ops Q R0 H0 Z fuel listed e R H:=fun _ a w f st=>aHK _ _ _ _ _ d (k a w f st)
def aE3{i:Nat}{d c:List Nat}{ds:Option Nat}{f:Option (Nat×Bool)}(k:XK N w0 (wpList Tryz.prog ops Q (⟨ds,op,ty,pos,aN,f⟩::Fb ops c)) e R H)(hs:d=i::c:=by rfl)(hi:ops[i]? =some ⟨ds,op,ty,pos,aN,f⟩:=by rfl):XK N w0 (wpList Tryz.prog ops Q (Fb ops d)) e R H:=by
 subst hs;unfold Fb;rw[List.filterMap_cons,hi];exact k
def aIN{c:List Nat}(k:XK N w0 (Q .normal) e R H)(hs:c=[]:=by rfl):XK N w0 (wpList Tryz.prog ops Q (Fb ops c)) e R H:=by
 subst hs;exact jA k
def aRD{c:List Nat}(k:XK N w0 (wpList Tryz.prog ops Q (Fb ops c)) e R H):XK N w0 (wpList Tryz.prog ops Q (Fb ops c)) e R H:=k
def Rm(c:List Nat){id:Nat}{l:List Oper}(k:XK N w0 (wpList Tryz.prog l.toArray Q (Fb l.toArray c)) e' R' H')(hk:XB Tryz.prog N w0 l.toArray Q R H (Sg l.toArray) fuel listed e' R' H'->XL 0 N w0 l.toArray Q R H (Sg l.toArray) l.length (Array.replicate l.length false) e R H:=by
  intro h
  repeat (first | refine aAr ?_ | refine aAq ?_ | refine aAo ?_ | refine aAp ?_ | refine aC4 ?_ | refine aAn ?_ | refine aAs ?_)
  exact h)(d:Re l.toArray (Sg l.toArray) c fuel listed=true:=by kernel_rfl)(hm:Tryz.prog.follows .mixedOrders=true:=by kernel_rfl)(hs:Region.noSelect l.toArray=true:=by kernel_rfl):XK N w0 ((Code.region id l.toArray true).wp Tryz.prog Q) e R H:=kO (Sg l.toArray) (hk (wF c k d)) hm hs
def aF(k:XK N w0 K' e' R' H')(hk:XK N w0 K' e' R' H'->XK N w0 K e R H:=by
    intro h
    repeat' (first
      | ((with_reducible refine kop ?_)
         first
         | refine kz ?_
         | refine nK rfl rfl ?_
         | refine qL rfl rfl rfl aE ?_
         | refine aDd rfl rfl aE ?_
         | ((with_reducible refine aE1 ?_);first | (refine jD rfl rfl ?_;dsimp only[List.set]) | (refine jD rfl rfl ?_ (hs:=dR.mk 9 rfl dK.h rfl aB);dsimp only[List.set]) | (refine jD rfl rfl ?_ (hs:=dR.mk 10 rfl dK.h rfl aB);dsimp only[List.set]) | (refine jD rfl rfl ?_ (hs:=dR.mk 11 rfl dK.h rfl aB);dsimp only[List.set]) | (refine mO 0 rfl ?_;dsimp only[List.set]) | (refine mO 1 rfl ?_;dsimp only[List.set]) | (refine mO 2 rfl ?_;dsimp only[List.set]) | (refine mO 3 rfl ?_;dsimp only[List.set])))
      | with_reducible refine jA ?_
      | ((with_reducible refine aRD ?_);first | refine aE3 ?_ | refine aIN ?_)
      | with_reducible refine iU ?_
      | with_reducible refine aC6 ?_
      | with_reducible refine aC5 ?_
      | with_reducible refine aCC ?_
      | with_reducible refine aCE ?_
      | with_reducible refine aCB ?_
      | ((with_reducible refine aCD ?_ ?_);rfl)
      | with_reducible refine fO ?_
      | with_reducible refine jS ?_
      | with_reducible refine sQ ?_
      | with_reducible refine aFS ?_
      | with_reducible refine Rl ?_
      | with_reducible refine Gf ?_
      | ((with_reducible refine aIO ?_)
         first
         | (refine tI (b:=true) rfl (fun _=>?_) (fun h=>by cases h))
         | (refine tI (b:=false) rfl (fun h=>by cases h) (fun _=>?_))))
    exact h):XK N w0 K e R H:=hk k
end
def bB(j i:Nat){ps:List HP}{p:HP}(h:XK N w0 K e R H')(hj:H[j]? =some (HP.many ps):=by rfl)(hi:ps[i]? =some p:=by rfl)(c:p::H.set j (HP.many (ps.set i cS))=H':=by dsimp only[List.set];try rfl):XK N w0 K e R H:=uX j i hj hi (c▸h)
def aP(j i:Nat){ps:List HP}{p:HP}(h:XK N w0 K e R H')(hj:H[j]? =some (HP.many ps):=by rfl)(hi:ps[i]? =some cS:=by rfl)(c:H.set j (HP.many (ps.set i p))=H':=by dsimp only[List.set];try rfl):XK N w0 K e R (p::H):=uZ j i hj hi (c▸h)
def kF(i:Nat){α:Type}{f:α->HP}{H':α->List HP}(h:∀a,XK N w0 K e R (H' a))(hi:H[i]? =some (HP.ex f):=by rfl)(c:∀a,H.set i (f a)=H' a:=by intro a;dsimp only[List.set];try rfl):XK N w0 K e R H:=aCA i hi fun a=>c a▸h a
def dN(i:Nat){α:Type}(f:α->HP)(x:α)(h:XK N w0 K e R H')(hi:H[i]? =some (f x):=by rfl)(c:H.set i (HP.ex f)=H':=by dsimp only[List.set];try rfl):XK N w0 K e R H:=wB i x hi (c▸h)
def cJ(i:Nat){nn t:Nat}{fn:Func}{v:Value}{p:HP}{F:Nat->Prop}(hF:∀b,F b->b < w0.heap.size)(d:fn.results=#[.tmp t]:=by rfl)(f:e.get t=some v:=by rfl)(hi:H[i]? =some p:=by rfl)(h:⟨w0,fun b=>b < w0.heap.size/\¬F b⟩∈R:=by simp):XK ⟨nn,[]⟩ w0 (bodyPost P fn (fun y w'=>y=.returned v/\∃c,p.sat c w'/\jG w0 w' F c) .ret) e R H:=xM d f fun _ t=>⟨rfl,t.turns hF h hi⟩
def gF(i:Nat){nn:Nat}{fn:Func}{p:HP}{F:Nat->Prop}{x:Exit}(hF:∀b,F b->b < w0.heap.size)(hx:x=.ret\/x=.normal:=by first | exact .inr rfl | exact .inl rfl)(d:fn.results=#[]:=by rfl)(hi:H[i]? =some p:=by rfl)(f:⟨w0,fun b=>b < w0.heap.size/\¬F b⟩∈R:=by simp):XK ⟨nn,[]⟩ w0 (bodyPost P fn (fun y w'=>y=.returned (.tuple #[])/\∃c,p.sat c w'/\jG w0 w' F c) x) e R H:=aWH hx d fun _ t=>⟨rfl,t.turns hF f hi⟩
def gZ{v0:Value}(c:∀w,St w0 R H w->Calls P f vs.toArray w (Rt v0 w))(k:XK N w0 (wpList P ops Q rest) ((d,v0)::e) R H)(hx:e.ev x=some (.func (.func f) #[] #[]):=by rfl)(h:e.aM args=some vs:=by rfl)(hf:fW P f=true:=by kernel_rfl)(hd:d < N.n:=by decide):
  XK N w0 (wpList P ops Q (⟨some d,.call {callee:=.value x,args:=args.toArray,argTypes:=tys},ty,pos,aN,none⟩::rest)) e R H:=Ct (fi:=[]) (ca:=[]) hf hx h hd (fun w st=>by simpa using c w st) k
def kcV(R':Value->Prop)(c:∀w,St w0 R H w->Calls P f vs.toArray w fun y w'=>(∃v,y=.returned v/\R' v)/\Below w.heap.size w w')(k:∀v,R' v->XK N w0 (wpList P ops Q rest) ((d,v)::e) R H)(hx:e.ev x=some (.func (.func f) #[] #[]):=by rfl)(h:e.aM args=some vs:=by rfl)(hf:fW P f=true:=by kernel_rfl)(hd:d < N.n:=by decide):
  XK N w0 (wpList P ops Q (⟨some d,.call {callee:=.value x,args:=args.toArray,argTypes:=tys},ty,pos,aN,none⟩::rest)) e R H:=aG7 (fi:=[]) (ca:=[]) hf hx h hd R' (fun w st=>by simpa using c w st) k
def gN(c:Value->List HP->Piece->Prop)(h:∀w,St w0 R H w->Calls P f vs.toArray w fun y w'=>(∃v hs q,y=.returned v/\q.w=w'/\c v hs q/\iV w hs q)/\Below w.heap.size w w')
  (k:∀v hs q,c v hs q->tP w0 q->XK N w0 (wpList P ops Q rest) ((d,v)::e) (q::R) (hs++H)) (hx:e.ev x=some (.func (.func f) #[] #[]):=by rfl) (i:e.aM args=some vs:=by rfl) (hf:fW P f=true:=by kernel_rfl) (hd:d < N.n:=by decide):
  XK N w0 (wpList P ops Q (⟨some d,.call {callee:=.value x,args:=args.toArray,argTypes:=tys},ty,pos,aN,none⟩::rest)) e R H:=Xl (fi:=[]) (ca:=[]) hf hx i hd c (fun w st=>by simpa using h w st) k
def jL(ps:List Piece)(R':Value->World->World->Prop)(h:∀w,St w0 R H w->Calls P f vs.toArray w fun y w'=>(∃v,y=.returned v/\R' v w w')/\Below w.heap.size w w')
  (k:∀v w q,R' v w q.w->(fresh w q.w).Le q->(∀p∈ps,p.Le q)->((∀p∈ps,tP w0 p)->tP w0 q)->XK N w0 (wpList P ops Q rest) ((d,v)::e) (q::R) H) (c:∀p∈ps,p∈R:=by simp) (hx:e.ev x=some (.func (.func f) #[] #[]):=by rfl) (i:e.aM args=some vs:=by rfl) (hf:fW P f=true:=by kernel_rfl) (hd:d < N.n:=by decide):
  XK N w0 (wpList P ops Q (⟨some d,.call {callee:=.value x,args:=args.toArray,argTypes:=tys},ty,pos,aN,none⟩::rest)) e R H:=aG8 (fi:=[]) (ca:=[]) ps hf hx i hd c R' (fun w st=>by simpa using h w st) k
def vS(p c:Piece)(R':Value->World->World->Prop)(i:∀w,St w0 R H w->Calls P f vs.toArray w fun y w'=>(∃v,y=.returned v/\R' v w w')/\Below w.heap.size w w')
  (k:∀v w q,R' v w q.w->(fresh w q.w).Le q->c.Le q->Sa p w0 q->XK N w0 (wpList P ops Q rest) ((d,v)::e) (q::R) H) (j:Sa p w0 c:=by assumption) (h:c∈R:=by simp) (hx:e.ev x=some (.func (.func f) #[] #[]):=by first | rfl | exact Vk _ rfl rfl) (l:e.aM args=some vs:=by first | rfl | exact Vj _ rfl rfl) (hf:fW P f=true:=by kernel_rfl) (hd:d < N.n:=by decide):
  XK N w0 (wpList P ops Q (⟨some d,.call {callee:=.value x,args:=args.toArray,argTypes:=tys},ty,pos,aN,none⟩::rest)) e R H:=aMS p c (fi:=[]) (ca:=[]) hf hx l hd h j R' (fun w st=>by simpa using i w st) k
abbrev Cz:FuncId->Array Value->World->(Ending->World->Prop)->Prop:=Calls Tryz.prog
abbrev Wr(v:Value)(q:HP)(w:World)(F:Nat->Prop):Ending->World->Prop:=fun y w'=>y=.returned v/\∃F',q.sat F' w'/\jG w w' F F'
def dB(i:Nat){c:Oper}(k:XK N w0 (wpList P ops (Exit.then (wG P w0 ops Q R0 H0 m fuel listed i) Q) [c]) e R H)(d:Region.ready .any ops listed=[i]:=by decide+kernel)(hi:ops[i]? =some c:=by rfl):XA P N w0 ops Q R0 H0 m (fuel+1) listed e R H:=aGb i hi d k
def kV(k:XK N w0 (Q .normal) e R H)(c:Region.ready .any ops listed=[]:=by decide+kernel):XA P N w0 ops Q R0 H0 m fuel listed e R H:=aXs c k
def gM(i:Nat){f:FuncId}{x:Operand}{args:List Operand}{vs:List Value}{tys:Array TypeId}{p:HP}(q:HP)
  (h:∀w F,St w0 R H w->p.sat F w->(∀b,F b->b < w.heap.size)->(∀q∈R,q.Le ⟨w,fun b=>b < w.heap.size/\¬F b⟩)->Calls Tryz.prog f vs.toArray w fun y w'=>y=.returned v/\∃c,q.sat c w'/\jG w w' F c)
  (k:XK N w0 (wpList Tryz.prog ops Q rest) ((d,v)::e) R H') (hi:H[i]? =some p:=by rfl) (j:H.set i q=H':=by dsimp only[List.set];try rfl) (hx:e.ev x=some (.func (.func f) #[] #[]):=by rfl) (l:e.aM args=some vs:=by rfl) (hf:fW Tryz.prog f=true:=by kernel_rfl) (hd:d < N.n:=by decide):
  XK N w0 (wpList Tryz.prog ops Q (⟨some d,.call {callee:=.value x,args:=args.toArray,argTypes:=tys},ty,pos,aN,none⟩::rest)) e R H:=aBF i q h (j▸k) hi hx l hf hd
def fX{I:Nat->Env->List Piece->List HP->Prop}{n:Nat}(m:Nat)(c:I m e' R' H')(hm:m < n:=by omega)(f:e'.Sub e:=by repeat (first | exact trivial | refine⟨rfl,?_⟩))(hs:nU [] H H':=by exact aA5)(l:∀p∈R',p∈R:=by first | exact fun _ h=>h | simp):
  XK N w0 (fun k w'=>∃m e' R' H',(m < n/\I m e' R' H')/\eT N e' k/\St w0 R' H' w') e R H:=by
 obtain⟨d,j,i,_⟩:=hs;exact Wm _ f (xL d j i l (iZ m hm c))
def rK{M:Env->List Piece->List HP->Prop}(c:M e' R' H')(k:e'.Sub e:=by repeat (first | exact trivial | refine⟨rfl,?_⟩))(hs:nU [] H H':=by exact aA5)(i:∀p∈R',p∈R:=by first | exact fun _ h=>h | simp):
  XK N w0 (fun f w'=>∃e' R' H',M e' R' H'/\eT N e' f/\St w0 R' H' w') e R H:=by
 obtain⟨j,d,l,_⟩:=hs;exact Wm _ k (xL j d l i (aAy c))
def dP{nn:Nat}{fn:Func}{t:Nat}{v c:Value}{w:World}(i:v=c:=by rfl)(h:all w∈R:=by simp)(d:fn.results=#[.tmp t]:=by rfl)(f:e.get t=some v:=by rfl):XK ⟨nn,[]⟩ w (bodyPost Tryz.prog fn (Rt c w) .ret) e R H:=lD h i d f
def bK{nn:Nat}{fn:Func}{t:Nat}{v:Value}{w:World}{A:Ending->World->Prop}(c:fn.results=#[.tmp t]:=by rfl)(d:e.get t=some v:=by rfl)(h:∀w1,St w R H w1->A (.returned v) w1)(f:all w∈R:=by simp):XK ⟨nn,[]⟩ w (bodyPost Tryz.prog fn (fun y w'=>A y w'/\Below w.heap.size w w') .ret) e R H:=xM c d fun w1 st=>⟨h w1 st,st.below f⟩
section
variable{K1 K2:Act->World->Prop}{e1 e2:Env}{R1 R2:List Piece}{H1 H2:List HP}
def aZ(c:List Nat)(h:XK N w0 K e R' H')(i:zB c H=some H':=by rfl)(f:c.Nodup:=by decide)(d:∀p∈R',p∈R:=by first | exact fun _ h=>h | simp):XK N w0 K e R H:=xL c i f d h
def dX(ps:List Piece)(f c:List Nat)(h:∀q:Piece,(∀(i:Nat) (p:HP),i∈f->H[i]? =some p->∃F,p.sat F q.w/\∀b,F b->q.Z b)->(∀p∈ps,p.Le q)->(all w0∈R->(∀p∈ps,tP w0 p)->tP w0 q)->XK N w0 K e (q::R) H')(d:∀p∈ps,p∈R:=by simp)(k:zB c H=some H':=by rfl)(j:c.Nodup:=by decide)(hf:∀i∈f,i∉c:=by decide):XK N w0 K e R H:=aFL ps f c d k j hf h
def Ai{nn:Nat}{fn:Func}{c:Ending->World->Prop}{t:Nat}(h:∀w,St w0 R H w->c (.returned v) w)(f:fn.results=#[.tmp t]:=by rfl)(d:e.get t=some v:=by rfl):XK ⟨nn,[]⟩ w0 (bodyPost Tryz.prog fn c .ret) e R H:=xM f d h
def kN{nn:Nat}{fn:Func}{c:Ending->World->Prop}{t u:Nat}{d:Value}(h:∀w,St w0 R H w->c (.returned (.tuple #[v,d])) w)(i:fn.results=#[.tmp t,.tmp u]:=by rfl)(j:e.get t=some v:=by rfl)(f:e.get u=some d:=by rfl):XK ⟨nn,[]⟩ w0 (bodyPost Tryz.prog fn c .ret) e R H:=Gc i j f h
def iF{x:Operand}{t:TypeId}{b o:Nat}(c:Rd w0 R H b o v)(k:XK N w0 (wpList Tryz.prog ops Q rest) ((d,v)::e) R H)(hx:e.ev x=some (.pointer (some ⟨b,o,none⟩)):=by rfl)(f:tC Tryz.prog t=true:=by kernel_rfl)(hd:d < N.n:=by decide):XK N w0 (wpList Tryz.prog ops Q (⟨some d,.load t x,ty,pos,aN,none⟩::rest)) e R H:=Jh f hx c hd k
def aCF{c:Operand}{x y:Code}{p:Prop}[Decidable p](d:e.ev c=some (.bool (decide p)))(k1:p->XK N w0 K1 e1 R1 H1)(k2:¬p->XK N w0 K2 e2 R2 H2)(i:XK N w0 K1 e1 R1 H1->XK N w0 (x.wp Tryz.prog Q) e R H:=by exact fun h=>aF h)(f:XK N w0 K2 e2 R2 H2->XK N w0 (y.wp Tryz.prog Q) e R H:=by exact fun h=>aF h):XK N w0 ((Code.cond c x y).wp Tryz.prog Q) e R H:=dD d (fun h=>i (k1 h)) (fun h=>f (k2 h))
def bP{c:Operand}{x y:Code}{p:Prop}[Decidable p](d:p->XK N w0 (x.wp Tryz.prog Q) e R H)(hf:¬p->XK N w0 (y.wp Tryz.prog Q) e R H)(f:e.ev c=some (.bool (decide p)):=by rfl):XK N w0 ((Code.cond c x y).wp Tryz.prog Q) e R H:=dD f d hf
def eG{c:Operand}{x y:Code}{p:Prop}[Decidable p](k1:p->XK N w0 K1 e1 R1 H1)(k2:¬p->XK N w0 K2 e2 R2 H2)(d:e.ev c=some (.bool (decide p)):=by rfl)(i:XK N w0 K1 e1 R1 H1->XK N w0 (x.wp Tryz.prog Q) e R H:=by exact fun h=>aF h)(f:XK N w0 K2 e2 R2 H2->XK N w0 (y.wp Tryz.prog Q) e R H:=by exact fun h=>aF h):XK N w0 ((Code.cond c x y).wp Tryz.prog Q) e R H:=aCF d k1 k2 i f
def Kj{x y:Operand}{s:TypeId}{g o:Nat}(k:XK N w0 (wpList Tryz.prog ops Q rest) e R H1)(hx:e.ev x=some (.pointer (some ⟨g,o,none⟩)):=by rfl)(hy:e.ev y=some v:=by rfl)(d:(Tryz.prog.info? s).any (·.size==v.cells.size)=true:=by kernel_rfl)(hs:qI H g o v H':=by
  first | exact qI.a 0 | exact qI.a 1 | exact qI.a 2 | exact qI.a 3 | exact qI.a 4 | exact qI.a 5 | exact qI.a 6 | exact qI.a 7 | exact qI.a 8)(c:H'=H1:=by simp only[jR,Value.cells,List.set,List.take,List.drop,sI,nZ,mK,Bl,sZ,Nat.reduceAdd];try rfl):XK N w0 (wpList Tryz.prog ops Q (⟨none,.store s x y,ty,pos,aN,none⟩::rest)) e R H:=Jg hx hy (c▸k) d hs
def bQ{nn:Nat}{f:FuncId}{fn:Func}{c:Code}{vs:List Value}{w:World}{d:Ending->World->Prop}(hf:Tryz.prog.funcs[f]? =some fn)(e:fn.ntmps=nn)(h:XK ⟨nn,[]⟩ w K' e' R' H')(i:fn.body=some c:=by rfl)(hl:vs.length<=nn:=by simp)(g:XK ⟨nn,[]⟩ w K' e' R' H'->XK ⟨nn,[]⟩ w (c.wp Tryz.prog (bodyPost Tryz.prog fn d)) (Eb 0 vs) [all w] []:=by exact fun h=>aF h):Calls Tryz.prog f vs.toArray w d:=fP hf e (g h) i hl
def oQ{nn:Nat}{F:Nat->Prop}{p:HP}{f:FuncId}{fn:Func}{c:Code}{vs:List Value}{w:World}{d:Ending->World->Prop}(hf:Tryz.prog.funcs[f]? =some fn)(i:fn.ntmps=nn)(hp:p.sat F w)(hF:∀b,F b->b < w.heap.size)(h:XK ⟨nn,[]⟩ w K' e' R' H')(e:fn.body=some c:=by rfl)(hl:vs.length<=nn:=by simp)(g:XK ⟨nn,[]⟩ w K' e' R' H'->XK ⟨nn,[]⟩ w (c.wp Tryz.prog (bodyPost Tryz.prog fn d)) (Eb 0 vs) [⟨w,fun b=>b < w.heap.size/\¬F b⟩] [p]:=by exact fun h=>aF h):Calls Tryz.prog f vs.toArray w d:=fS hf i hp hF (g h) e hl
def wC(e1:Env)(h:XK N w0 K' e' R' H')(hs:e1.Sub e:=by repeat (first | exact trivial | refine⟨rfl,?_⟩))(g:XK N w0 K' e' R' H'->XK N w0 K e1 R H:=by exact fun h=>aF h):XK N w0 K e R H:=cF e1 (g h) hs
def cG(h:bY Tryz.prog N w0 e R H ⟨some d,op,ty,pos,aN,none⟩ v)(k:XK N w0 K' e' R' H')(hd:d < N.n:=by decide)(g:XK N w0 K' e' R' H'->XK N w0 (wpList Tryz.prog ops Q rest) ((d,v)::e) R H:=by exact fun h=>aF h):XK N w0 (wpList Tryz.prog ops Q (⟨some d,op,ty,pos,aN,none⟩::rest)) e R H:=kd h (g k) hd
def kK{t:TypeId}{cs:List Value}{K':Nat->Act->World->Prop}{e':Nat->Env}{R':Nat->List Piece}{H':Nat->List HP}[hZ:eZ t cs](k:∀g,XK N w0 (K' g) (e' g) (R' g) (H' g))(hd:d < N.n:=by decide)(g:∀g,XK N w0 (K' g) (e' g) (R' g) (H' g)->XK N w0 (wpList Tryz.prog ops Q rest) ((d,.pointer (some ⟨g,0,none⟩))::e) R (HP.aK g t cs::H):=by exact fun g h=>aF h):XK N w0 (wpList Tryz.prog ops Q (⟨some d,.alloc t,ty,pos,aN,none⟩::rest)) e R H:=eE (fun a=>g a (k a)) hd
def iG{x:Operand}{t:TypeId}{cs:List Value}{K':Nat->Act->World->Prop}{e':Nat->Env}{R':Nat->List Piece}{H':Nat->List HP}(k:∀g,XK N w0 (K' g) (e' g) (R' g) (H' g))(hx:e.ev x=some v:=by rfl)(c:v.cells.toList=cs:=by first | (simp only[Value.cells,List.toList_toArray];rfl) | rfl)(hd:d < N.n:=by decide)(g:∀g,XK N w0 (K' g) (e' g) (R' g) (H' g)->XK N w0 (wpList Tryz.prog ops Q rest) ((d,.pointer (some ⟨g,0,none⟩))::e) R (HP.aK g t cs::H):=by exact fun g h=>aF h):XK N w0 (wpList Tryz.prog ops Q (⟨some d,.box t x,ty,pos,aN,none⟩::rest)) e R H:=eI (fun a=>g a (k a)) hx c hd
def cR{v0:Value}(c:∀w,St w0 R H w->Calls Tryz.prog f vs.toArray w (Rt v0 w))(k:XK N w0 K' e' R' H')(hx:e.ev x=some (.func (.func f) #[] #[]):=by rfl)(i:e.aM args=some vs:=by rfl)(hf:fW Tryz.prog f=true:=by kernel_rfl)(hd:d < N.n:=by decide)(g:XK N w0 K' e' R' H'->XK N w0 (wpList Tryz.prog ops Q rest) ((d,v0)::e) R H:=by exact fun h=>aF h):
  XK N w0 (wpList Tryz.prog ops Q (⟨some d,.call {callee:=.value x,args:=args.toArray,argTypes:=tys},ty,pos,aN,none⟩::rest)) e R H:=gZ c (g k) hx i hf hd
def gH(i:Nat){p:HP}(q:HP)
  (j:∀w F,St w0 R H w->p.sat F w->(∀b,F b->b < w.heap.size)->(∀q∈R,q.Le ⟨w,fun b=>b < w.heap.size/\¬F b⟩)->Calls Tryz.prog f vs.toArray w fun y w'=>y=.returned v/\∃c,q.sat c w'/\jG w w' F c)
  (k:XK N w0 K' e' R' H1) (hi:H[i]? =some p:=by rfl) (l:H.set i q=H':=by dsimp only[List.set];try rfl) (hx:e.ev x=some (.func (.func f) #[] #[]):=by rfl) (m:e.aM args=some vs:=by rfl) (hf:fW Tryz.prog f=true:=by kernel_rfl) (hd:d < N.n:=by decide) (g:XK N w0 K' e' R' H1->XK N w0 (wpList Tryz.prog ops Q rest) ((d,v)::e) R H':=by exact fun h=>aF h):
  XK N w0 (wpList Tryz.prog ops Q (⟨some d,.call {callee:=.value x,args:=args.toArray,argTypes:=tys},ty,pos,aN,none⟩::rest)) e R H:=gM i q j (g k) hi l hx m hf hd
def vR{x y:Operand}{s:TypeId}{g o:Nat}[hT:dK s](k:XK N w0 (wpList Tryz.prog ops Q rest) e R H1)(hx:e.ev x=some (.pointer (some ⟨g,o,none⟩)):=by rfl)(hy:e.ev y=some v:=by rfl)(hs:dR Tryz.prog H s g o v H':=by
  first | exact dR.b 0 | exact dR.b 1 | exact dR.b 2 | exact dR.b 3 | exact dR.b 4 | exact dR.b 5 | exact dR.b 6 | exact dR.b 7 | exact dR.b 8)(c:H'=H1:=by dsimp only[List.set];try rfl):XK N w0 (wpList Tryz.prog ops Q (⟨none,.store s x y,ty,pos,aN,none⟩::rest)) e R H:=jD hx hy (c▸k) hs
def Qh(i:Nat){x y:Operand}{t el:TypeId}{sz f n m o g:Nat}{xs c:List Value}{H':Option Addr->Nat->List HP}[hT:nI t el sz][hB:Gv el sz f](k:∀A' h,XK N w0 (wpList Tryz.prog ops Q rest) ((d,.slice A' (n+m) h)::e) R (H' A' h))(hi:H[i]? =some (HP.own el sz v n xs):=by rfl)(hx:e.ev x=some v:=by rfl)(hy:e.ev y=some (.slice (some ⟨g,0,none⟩) m o):=by rfl)
  (hs:H[0]? =some (HP.aK g el c):=by rfl) (hl:c.length=m*sz:=by rfl) (r:∀u∈c,u.oneCell'=true:=by simp[Value.oneCell']) (l:n+m<=1000000:=by omega) (p:f<=1000:=by decide) (j:0 < sz:=by decide) (hd:d < N.n:=by decide) (w:∀A' h,H.set i (HP.own el sz (.slice A' (n+m) h) (n+m) (xs++c))=H' A' h:=by intro _ _;dsimp only[List.set];try rfl):
  XK N w0 (wpList Tryz.prog ops Q (⟨some d,.call {callee:=.builtin .append,args:=#[x,y],argTypes:=#[t,t]},ty,pos,aN,none⟩::rest)) e R H:=Kk i (fun A h=>w A h▸k A h) hi hx hy hs hl r l p j hd
end
def kA(k:XK N w0 K' e' R' H')(c:Region.ready .any ops listed=[]:=by decide+kernel)(g:XK N w0 K' e' R' H'->XK N w0 (Q .normal) e R H:=by exact fun h=>aF h):XB Tryz.prog N w0 ops Q R0 H0 Z fuel listed e R H:=lW (g k) c
def zMv(ops:Array Oper):List Nat:=(List.range ops.size).filter fun i=>match ops[i]? with
 | some o=>aBo o.op||(o.guard.isSome&&aHg o.op)
 | none=>false
def Nz{id:Nat}{l:List Oper}(k:XB Tryz.prog N w0 l.toArray Q R H (zMv l.toArray) fuel listed e' R' H')(hk:XB Tryz.prog N w0 l.toArray Q R H (zMv l.toArray) fuel listed e' R' H'->XL 0 N w0 l.toArray Q R H (zMv l.toArray) l.length (Array.replicate l.length false) e R H:=by
  intro h
  repeat (first | refine aAr ?_ | refine aAq ?_ | refine aAo ?_ | refine aAp ?_ | refine aC4 ?_ | refine aAn ?_ | refine aAs ?_)
  exact h)(hm:Tryz.prog.follows .mixedOrders=true:=by kernel_rfl)(hs:Region.noSelect l.toArray=true:=by kernel_rfl):XK N w0 ((Code.region id l.toArray true).wp Tryz.prog Q) e R H:=kO (zMv l.toArray) (hk k) hm hs
def Ob{ops:Array Oper}{Z:List Nat}{p:Prop}[Decidable p](t:Nat)(d:e.get t=some (.bool (decide p)))(h:p->XB Tryz.prog N w0 ops Q R0 H0 Z fuel listed ((t,.bool true)::e) R H)(i:¬p->XB Tryz.prog N w0 ops Q R0 H0 Z fuel listed ((t,.bool false)::e) R H):XB Tryz.prog N w0 ops Q R0 H0 Z fuel listed e R H:=by
 intro up a w f st
 by_cases c:p
 .rw[eM c] at d;exact h c up a w (f.as d) st
 .rw[gW c] at d;exact i c up a w (f.as d) st
def Iz{ops:Array Oper}{Z:List Nat}{d j t:Nat}{op:Op}{ty:TypeId}{pos:String}{aN:Array Edge}{want b:Bool}(i:Nat)(k:XB Tryz.prog N w0 ops Q R0 H0 Z fuel (listed.setIfInBounds i true) ((d,undef)::e) R H)(c:Region.ready .any ops listed=[i]:=by decide+kernel)(hi:ops[i]? =some ⟨some d,op,ty,pos,aN,some (j,want)⟩:=by rfl)(hj:(ops[j]?).bind (·.dst)=some t:=by rfl)(l:e.get t=some (.bool b):=by rfl)(f:b= !want:=by rfl)(hd:d < N.n:=by decide)(hS:∀w,St w0 R H w->St w0 R0 H0 w:=by exact fun _ h=>h):XB Tryz.prog N w0 ops Q R0 H0 Z (fuel+1) listed e R H:=
 aR i (qL hj l f hd (bH k hS)) c hi
def Pz(o:Oper):Bool:=match o.op with
 | .call c=>(match c.callee with | .value (.tmp _)=>false | _=>true)
 | .defer _=>false
 | _=>true
def Pz.pl{o:Oper}(h:Pz o=true):zL o=true:=by
 unfold Pz at h;unfold zL;split<;>simp_all
def aWY{o:Oper}(h:XK ⟨nn,[]⟩ w0 (wpList P ops (Fx (KI r L P ops Q rest)) [o]) e R H)(hp:Pz o=true:=by decide+kernel):XK ⟨nn,[]⟩ w0 (KI r L P ops Q (o::rest)) e R H:=aLz (Pz.pl hp) h
def aXc{id:Nat}{l:List Oper}(h:XK ⟨nn,[]⟩ w0 (wpList P l.toArray (Fx (KQ L Q .normal)) l) e R H)(hp:l.all Pz=true:=by decide+kernel):XK ⟨nn,[]⟩ w0 (KC r L P (Code.region id l.toArray false) Q) e R H:=rL (mJ.2 fun o c=>Pz.pl (mJ.1 hp o c)) h
def aXa{d j t:Nat}{op:Op}{ty:TypeId}{pos:String}{aN:Array Edge}{want b:Bool}(k:XK ⟨nn,[]⟩ w0 (KI r L Tryz.prog ops Q rest) ((d,undef)::e) R H)(hj:(ops[j]?).bind (·.dst)=some t:=by rfl)(c:e.get t=some (.bool b):=by rfl)(f:b= !want:=by rfl)(hd:d < nn:=by decide)(hp:zL ⟨some d,op,ty,pos,aN,some (j,want)⟩=true:=by rfl):
  XK ⟨nn,[]⟩ w0 (KI r L Tryz.prog ops Q (⟨some d,op,ty,pos,aN,some (j,want)⟩::rest)) e R H:=aLz hp (qL hj c f hd (aXb k))
def kcC{c:Operand}{x y:Code}(k:XK ⟨nn,[]⟩ w0 (KC r L P (Code.cond c x y) Q) e R H):XK ⟨nn,[]⟩ w0 (KC r L P (Code.cond c x y) Q) e R H:=k
def aW(k:XK ⟨nn,[]⟩ w0 K' e' R' H')(hk:XK ⟨nn,[]⟩ w0 K' e' R' H'->XK ⟨nn,[]⟩ w0 K e R H:=by
    intro h
    try dsimp only[dW,dG]
    repeat' (first
      | ((with_reducible refine kop ?_)
         first
         | refine kz ?_
         | refine nK rfl rfl ?_
         | refine qL rfl rfl rfl aE ?_
         | refine aDd rfl rfl aE ?_
         | ((with_reducible refine aE1 ?_);first | (refine jD rfl rfl ?_;dsimp only[List.set]) | (refine jD rfl rfl ?_ (hs:=dR.mk 9 rfl dK.h rfl aB);dsimp only[List.set]) | (refine jD rfl rfl ?_ (hs:=dR.mk 10 rfl dK.h rfl aB);dsimp only[List.set]) | (refine jD rfl rfl ?_ (hs:=dR.mk 11 rfl dK.h rfl aB);dsimp only[List.set]) | (refine mO 0 rfl ?_;dsimp only[List.set]) | (refine mO 1 rfl ?_;dsimp only[List.set]) | (refine mO 2 rfl ?_;dsimp only[List.set]) | (refine mO 3 rfl ?_;dsimp only[List.set])))
      | ((with_reducible refine kcC ?_)
         first
         | (refine aFZ (b:=true) rfl (fun _=>?_) (fun h=>by cases h))
         | (refine aFZ (b:=false) rfl (fun h=>by cases h) (fun _=>?_)))
      | with_reducible refine lV ?_
      | with_reducible refine aWZ ?_
      | refine aWY ?_
      | refine aXa ?_
      | with_reducible refine qX ?_
      | with_reducible refine aFV ?_
      | with_reducible refine Lo ?_
      | with_reducible refine aLC ?_
      | with_reducible refine aFW ?_
      | with_reducible refine aXc ?_
      | with_reducible refine aXe ?_
      | with_reducible refine aWX ?_
      | with_reducible refine aL5 ?_
      | with_reducible refine aL6 ?_
      | with_reducible refine aL4 ?_
      | with_reducible refine aLA ?_
      | with_reducible refine aLB ?_
      | with_reducible refine aL9 ?_
      | ((with_reducible refine aXg ?_ ?_);rfl))
    exact h):XK ⟨nn,[]⟩ w0 K e R H:=hk k
def XD(i:Nat)(N:cQ)(w0:World)(ops:Array Oper)(Q:Exit->Act->World->Prop)(R0:List Piece)(H0:List HP)(m fuel:Nat)(listed:Array Bool)(e:Env)(R:List Piece)(H:List HP):Prop:=XA Tryz.prog N w0 ops Q R0 H0 m fuel listed e R H
abbrev rdB(ops:Array Oper)(listed:Array Bool)(m i:Nat):Bool:=Region.free .any ops listed i&&(Region.ready .any ops listed).contains i&&decide (i < m)
def aL2(k:XD (i+1) N w0 ops Q R0 H0 m fuel (listed.setIfInBounds i true) ((d,v)::e) R H)(j:rdB ops listed m i=true:=by decide+kernel)(hi:ops[i]? =some ⟨some d,op,ty,pos,aN,none⟩:=by rfl)(bL:bY Tryz.prog N w0 e R0 H0 ⟨some d,op,ty,pos,aN,none⟩ v:=by exact dz)(hd:d < N.n:=by decide)
  (hQ:∀c a w,Q (.panic c) (a.put (some d) v) w->Q (.panic c) a w:=by exact fun _ _ _ h=>h) (f:∀w,St w0 R H w->St w0 R0 H0 w:=by exact fun _ h=>h):XD i N w0 ops Q R0 H0 m (fuel+1) listed e R H:=nG i hi rfl rfl hd bL j hQ f k
def aL0(k:XD (i+1) N w0 ops Q R0 H0 m fuel (listed.setIfInBounds i true) ((d,v)::e) R H)(o:rdB ops listed m i=true:=by decide+kernel)(hi:ops[i]? =some ⟨some d,op,ty,pos,aN,some (j,want)⟩:=by rfl)(hj:(ops[j]?).bind (·.dst)=some t:=by rfl)(l:e.get t=some (.bool want):=by rfl)(bL:bY Tryz.prog N w0 e R0 H0 ⟨some d,op,ty,pos,aN,none⟩ v:=by exact dz)(hd:d < N.n:=by decide)
  (hQ:∀c a w,Q (.panic c) (a.put (some d) v) w->Q (.panic c) a w:=by exact fun _ _ _ h=>h) (f:∀w,St w0 R H w->St w0 R0 H0 w:=by exact fun _ h=>h):XD i N w0 ops Q R0 H0 m (fuel+1) listed e R H:=aLH i hi hj l hd bL o hQ f k
def aL1{b:Bool}(k:XD (i+1) N w0 ops Q R0 H0 m fuel (listed.setIfInBounds i true) ((d,undef)::e) R H)(o:rdB ops listed m i=true:=by decide+kernel)(hi:ops[i]? =some ⟨some d,op,ty,pos,aN,some (j,want)⟩:=by rfl)(hj:(ops[j]?).bind (·.dst)=some t:=by rfl)(l:e.get t=some (.bool b):=by rfl)(p:b= !want:=by rfl)(hd:d < N.n:=by decide)
  (hQ:∀c a w,Q (.panic c) (a.put (some d) undef) w->Q (.panic c) a w:=by exact fun _ _ _ h=>h) (f:∀w,St w0 R H w->St w0 R0 H0 w:=by exact fun _ h=>h):XD i N w0 ops Q R0 H0 m (fuel+1) listed e R H:=aXt i hi hj l p hd o hQ f k
def XD.s(k:XD (i+1) N w0 ops Q R0 H0 m fuel listed e R H)(hl:decide (i < m)=true:=by rfl):XD i N w0 ops Q R0 H0 m fuel listed e R H:=k
def aL3(k:XA Tryz.prog N w0 ops Q R0 H0 m fuel listed e R H)(hl:decide (i < m)=false:=by rfl):XD i N w0 ops Q R0 H0 m fuel listed e R H:=k
def XD.lo(i:Nat){fuel':Nat}{Um:Array Bool}(k:XA Tryz.prog N w0 ops Q R0 H0 m fuel' Um e' R' H')(hk:XA Tryz.prog N w0 ops Q R0 H0 m fuel' Um e' R' H'->XD i N w0 ops Q R0 H0 m fuel listed e R H:=by
  intro h
  repeat (first | refine aL2 ?_ | refine aL0 ?_ | refine aL1 ?_ | refine XD.s ?_ | refine aL3 ?_)
  exact h):XA Tryz.prog N w0 ops Q R0 H0 m fuel listed e R H:=hk k
def aCI(i:Nat)(k:XA Tryz.prog N w0 ops Q R0 H0 m fuel (listed.setIfInBounds i true) ((d,v)::e) R H)(o:rdB ops listed m i=true:=by decide+kernel)(hi:ops[i]? =some ⟨some d,op,ty,pos,aN,some (j,want)⟩:=by rfl)(hj:(ops[j]?).bind (·.dst)=some t:=by rfl)(l:e.get t=some (.bool want):=by rfl)(bL:bY Tryz.prog N w0 e R0 H0 ⟨some d,op,ty,pos,aN,none⟩ v:=by exact dz)(hd:d < N.n:=by decide)
  (hQ:∀c a w,Q (.panic c) (a.put (some d) v) w->Q (.panic c) a w:=by exact fun _ _ _ h=>h) (f:∀w,St w0 R H w->St w0 R0 H0 w:=by exact fun _ h=>h):XA Tryz.prog N w0 ops Q R0 H0 m (fuel+1) listed e R H:=aLH i hi hj l hd bL o hQ f k
def aFY(m:Nat){r:Option Nat}{L:List Nat}{id:Nat}{l:List Oper}{Q:Exit->Act->World->Prop}(k:XA Tryz.prog ⟨nn,[]⟩ w0 (l.take m).toArray (Fx (KI r L Tryz.prog l.toArray Q (l.drop m))) R H m fuel listed e' R' H')
  (hk:XA Tryz.prog ⟨nn,[]⟩ w0 (l.take m).toArray (Fx (KI r L Tryz.prog l.toArray Q (l.drop m))) R H m fuel listed e' R' H'->XD 0 ⟨nn,[]⟩ w0 (l.take m).toArray (Fx (KI r L Tryz.prog l.toArray Q (l.drop m))) R H m m (Array.replicate m false) e R H:=by
  intro h
  repeat (first | refine aL2 ?_ | refine aL0 ?_ | refine aL1 ?_ | refine XD.s ?_ | refine aL3 ?_)
  exact h) (hm:Tryz.prog.follows .mixedOrders=true:=by kernel_rfl)
  (c:(Region.noSelect (l.take m).toArray&&Nl l.toArray&&Bd l.toArray m&&Bd (l.take m).toArray m&&Zp l m&&(l.take m).all zL&&decide (m<=l.length))=true:=by decide+kernel):XK ⟨nn,[]⟩ w0 (KC r L Tryz.prog (Code.region id l.toArray true) Q) e R H:=aFX m hm c (hk k)
instance:eZ 3 [iv 0]:={}
instance:Gv 3 1 8:={}
instance:NuT 3 .i64:={}
instance:eZ 4 [.bool false]:={}
instance:eZ 5 [.int .u8 0]:={}
instance:eZ 36 [.int .u32 0]:={}
instance:Gv 36 1 4:={}
instance:NuT 36 .u32:={}
instance:eZ 30 [sn,sn,sn,sn]:={}
instance:jT 30 [(0,1),(1,1),(2,1),(3,1)]:={}
instance:eZ 80 [iv 0,iv 0,iv 0,.int .u32 0,sn,sn]:={}
instance:Gv 80 6 80:={}
instance:jT 80 [(0,1),(1,1),(2,1),(3,1),(4,1),(5,1)]:={}
instance:eZ 45 [iv 0]:={}
instance:eZ 47 [iv 0,.int .u32 0]:={}
instance:jT 47 [(0,1),(1,1)]:={}
instance:eZ 44 [.int .u8 0,iv 0,iv 0,.int .u32 0]:={}
instance:jT 44 [(0,1),(1,1),(2,1),(3,1)]:={}
instance:eZ 82 [.int .u32 0,.bool false]:={}
instance:Gv 82 2 8:={}
instance:jT 82 [(0,1),(1,1)]:={}
instance:eZ 75 [iv 0,iv 0,.bool false]:={}
instance:Gv 75 3 24:={}
instance:jT 75 [(0,1),(1,1),(2,1)]:={}
instance:eZ 95 [.nilFunc]:={}
instance:eZ 162 [.nilFunc]:={}
instance:eZ 49 [iv 0,iv 0,.bool false,.int .u32 0]:={}
instance:Gv 49 4 24:={}
instance:jT 49 [(0,1),(1,1),(2,1),(3,1)]:={}
instance:eZ 52 [.int .u8 0,iv 0,.int .u8 0,iv 0,iv 0,.int .u32 0,iv 0,.int .u32 0,iv 0,iv 0,.bool false,.int .u32 0,.bool false,sn]:={}
instance:jT 52 [(0,1),(1,1),(2,4),(6,2),(8,4),(12,1),(13,1)]:={}
instance:eZ 150 [.int .u8 0,iv 0]:={}
instance:jT 150 [(0,1),(1,1)]:={}
instance:eZ 138 [sn,sn,sn]:={}
instance:jT 138 [(0,1),(1,1),(2,1)]:={}
instance:eZ 145 [sn,sn,sn,sn,sn,sn]:={}
instance:eZ 70 [.int .u8 0,iv 0,.int .u8 0,iv 0,iv 0,.int .u32 0,.int .u32 0,sn]:={}
instance:jT 70 [(0,1),(1,1),(2,4),(6,1),(7,1)]:={}
instance:eZ 55 [iv 0,iv 0,iv 0,iv 0,iv 0,iv 0,iv 0]:={}
instance:NuT 71 .u64:={}
instance:eZ 73 [.int .u8 0,sn,.int .u64 0,iv 0,iv 0,iv 0]:={}
instance:Gv 73 6 64:={}
instance:jT 73 [(0,1),(1,1),(2,1),(3,1),(4,1),(5,1)]:={}
instance:eZ 77 [iv 0]:={}
instance:Gv 77 1 8:={}
instance:jT 77 [(0,1)]:={}
instance:eZ 182 [iv 0,iv 0,iv 0,.int .u32 0,.pointer none,.pointer none]:={}
instance:Gv 182 6 48:={}
instance:jT 182 [(0,1),(1,1),(2,1),(3,1),(4,1),(5,1)]:={}
instance:eZ 175 [.pointer none,.pointer none,.pointer none,.pointer none,sn]:={}
instance:jT 175 [(0,1),(1,1),(2,1),(3,1),(4,1)]:={}
instance:eZ 140 [sn]:={}
instance:eZ 142 [.pointer none,.pointer none,sn,sn,sn,sn,.pointer none,sn,sn,sn,iv 0,.int .u8 0,iv 0,iv 0,.int .u32 0,iv 0,.int .u32 0,iv 0,iv 0,iv 0,iv 0,iv 0,iv 0,iv 0,.int .u8 0,iv 0,iv 0,.int .u32 0,iv 0,.int .u32 0,iv 0,iv 0,iv 0,iv 0,iv 0,iv 0,iv 0,.int .u8 0,iv 0,iv 0,.int .u32 0,iv 0,.int .u32 0,iv 0,iv 0,iv 0,iv 0,iv 0,iv 0,iv 0,sn,.bool false,.bool false,iv 0,iv 0]:={}
instance:jT 142 [(0,1),(1,1),(2,4),(6,1),(7,3),(10,39),(49,1),(50,1),(51,1),(52,1),(53,1),(54,1)]:={}
instance:eZ 147 [iv 0,sn]:={}
instance:jT 147 [(0,1),(1,1)]:={}
instance:eZ 152 [.pointer none,sn,sn,sn,sn,sn,sn,sn,sn,sn,sn,iv 0,sn,iv 0,sn,iv 0,iv 0,.int .u8 0,iv 0]:={}
instance:jT 152 [(0,1),(1,4),(5,6),(11,4),(15,1),(16,1),(17,2)]:={}
instance:eZ 258 [.int .u8 0,iv 0]:={}
instance:jT 258 [(0,1),(1,1)]:={}
instance:eZ 159 [sn,.map none,.bool false]:={}
instance:jT 159 [(0,1),(1,1),(2,1)]:={}
instance:eZ 67 [iv 0,iv 0,iv 0,iv 0]:={}
instance:jT 67 [(0,1),(1,1),(2,1),(3,1)]:={}
instance:eZ 94 [.pointer none,.pointer none,.pointer none,iv 0,iv 0,.int .u8 0,iv 0,iv 0,.int .u32 0,.int .u8 0,iv 0,iv 0,.int .u32 0,.int .u8 0,iv 0,iv 0,.int .u32 0,.bool false,.bool false,.bool false,sn]:={}
instance:jT 94 [(0,1),(1,1),(2,1),(3,1),(4,1),(5,12),(17,3),(20,1)]:={}
instance:eZ 100 [iv 0,iv 0,iv 0,iv 0,iv 0,.int .u32 0,iv 0,iv 0,iv 0,iv 0,iv 0,iv 0]:={}
instance:eZ 115 [sn,.pointer none,iv 0,iv 0,iv 0,iv 0,iv 0,iv 0,iv 0,iv 0,iv 0,iv 0,iv 0,iv 0,iv 0,iv 0,iv 0,iv 0,iv 0,iv 0]:={}
instance:jT 115 [(0,1),(1,1),(2,18)]:={}
instance:eZ 116 [iv 0,iv 0,iv 0]:={}
instance:eZ 118 [iv 0,iv 0,iv 0]:={}
instance:eZ 214 [.int .u8 0,sn,.int .u64 0,iv 0,iv 0,iv 0,.bool false,iv 0,iv 0,iv 0,iv 0]:={}
instance:jT 214 [(0,6),(6,1),(7,1),(8,1),(9,1),(10,1)]:={}
instance:eZ 212 [sn]:={}
instance:jT 212 [(0,1)]:={}
instance:eZ 219 [iv 0,iv 0,.bool false,.int .u8 0,iv 0,.bool false,.bool false]:={}
instance:eZ 224 [iv 0,iv 0,.bool false,.bool false]:={}
instance:eZ 274 []:={}
instance:jT 274 []:={}
instance:eZ 275 []:={}
instance:jT 275 []:={}
instance:eZ 277 [.bool false]:={}
instance:jT 277 [(0,1)]:={}
instance:eZ 278 []:={}
instance:jT 278 []:={}
instance:eZ 279 []:={}
instance:jT 279 []:={}
instance:eZ 283 [iv 0,iv 0,.int .u32 0,.int .u32 0]:={}
instance:eZ 307 [iv 0,.bool false,iv 0,.int .u32 0]:={}
instance:jT 307 [(0,1),(1,1),(2,1),(3,1)]:={}
instance:eZ 229 [iv 0,iv 0]:={}
instance:jT 229 [(0,1),(1,1)]:={}
instance:eZ 232 [sn,sn,iv 0]:={}
instance:jT 232 [(0,1),(1,1),(2,1)]:={}
instance:eZ 217 [sn]:={}
instance:jT 217 [(0,1)]:={}
instance:eZ 222 [.map none]:={}
instance:jT 222 [(0,1)]:={}
instance:eZ 320 [iv 0,iv 0,.int .u8 0,.int .u8 0,.int .u8 0]:={}
instance:jT 320 [(0,1),(1,1),(2,3)]:={}
instance:eZ 325 [iv 0,iv 0]:={}
instance:jT 325 [(0,1),(1,1)]:={}
instance:eZ 227 [sn,sn,sn,.bool false]:={}
instance:jT 227 [(0,1),(1,1),(2,1),(3,1)]:={}
instance:eZ 299 [.nilFunc]:={}
instance:eZ 359 [.nilFunc]:={}
instance:eZ 368 [sn]:={}
def Iu(g:List (List Int)):Bool:=g.any fun l=>l.any fun u=>decide (u < 0)||decide ((g.length:Int)<=u)
def uA(g:List (List Int)):Int:=if 100 < g.length then 1 else if Iu g then 4 else 0
def hstep(v:Nat)(s:List Int×List (List Int)×List Int)(u:Int):List Int×List (List Int)×List Int:=
 if s.2.2.contains u then s else(s.1.set v (s.1[v]?.getD 0+1),s.2.1.set u.toNat (s.2.1[u.toNat]?.getD []++[(v:Int)]),s.2.2++[u])
def hrow(v:Nat)(s:List Int×List (List Int))(l:List Int):List Int×List (List Int)×List Int:=l.foldl (hstep v) (s.1,s.2,[])
def iN(g:List (List Int)):Nat->List Int×List (List Int)
 | 0=>(List.replicate g.length 0,List.replicate g.length [])
 | k+1=>let r:=hrow k (iN g k) (g[k]?.getD []);(r.1,r.2.1)
def Mx(g:List (List Int))(M:List Nat):Option Nat:=(List.range g.length).find? fun v=> !(M.contains v)&&(g[v]?.getD []).all fun u=>M.contains u.toNat
def wX(g:List (List Int)):Nat->List Nat->Option (List Nat)
 | 0,M=>some M
 | k+1,M=>match Mx g M with
  | none=>none
  | some v=>wX g k (M++[v])
def Ky(l:List Int):List Int:=l.foldl (fun a u=>if a.contains u then a else a++[u]) []
def aKN{g:List (List Int)}{k j:Nat}{l:List Int}{u:Int}(hk:g[k]? =some l)(hj:l[j]? =some u)(c:u < 0\/(g.length:Int)<=u):Iu g=true:=by
 unfold Iu;simp only[Mt,yD,decide_eq_true_eq];exact⟨l,dJ hk,u,dJ hj,c⟩
def aKO{g:List (List Int)}(h:∀(k:Nat) (l:List Int),g[k]? =some l->∀(j:Nat) (u:Int),l[j]? =some u->0<=u/\u < g.length):Iu g=false:=by
 cases c:Iu g with
 | false=>rfl
 | true=>
  unfold Iu at c;simp only[Mt,yD,decide_eq_true_eq] at c;obtain⟨l,m,u,e,d⟩:=c;obtain⟨k,f⟩:=lA m;obtain⟨j,i⟩:=lA e
  have:=h k l f j u i
  omega
def Cm(g:List (List Int)):Prop:=∀l∈g,∀u∈l,0<=u/\u < g.length
def Cm.of{g:List (List Int)}(h:Iu g=false):Cm g:=by
 intro l e u f
 by_cases d:u < 0\/(g.length:Int)<=u
 .have c:Iu g=true:=by
   unfold Iu;simp only[Mt,yD,decide_eq_true_eq];exact⟨l,e,u,f,d⟩
  rw[h] at c;cases c
 .omega
def aE7(v:Nat)(s:List Int×List (List Int)×List Int)(u:Int):(hstep v s u).1.length=s.1.length/\(hstep v s u).2.1.length=s.2.1.length:=by
 unfold hstep;split<;>simp
def aEA(v:Nat):∀(l:List Int) (s:List Int×List (List Int)×List Int),(l.foldl (hstep v) s).1.length=s.1.length/\(l.foldl (hstep v) s).2.1.length=s.2.1.length
 | [],s=>⟨rfl,rfl⟩
 | u::l,s=>by rw[pW];have c:=aEA v l (hstep v s u);have d:=aE7 v s u;exact⟨c.1.trans d.1,c.2.trans d.2⟩
def Va(g:List (List Int)):∀k,(iN g k).1.length=g.length/\(iN g k).2.length=g.length
 | 0=>by simp[iN]
 | k+1=>by
  have h:=Va g k
  have c:=aEA k (g[k]?.getD []) ((iN g k).1,(iN g k).2,[])
  exact⟨c.1.trans h.1,c.2.trans h.2⟩
def aIX(v:Nat)(s:List Int×List (List Int)×List Int)(u:Int):(hstep v s u).2.2=if s.2.2.contains u then s.2.2 else s.2.2++[u]:=by unfold hstep;split<;>rfl
def aJa(v:Nat):∀(l:List Int) (s:List Int×List (List Int)×List Int),(l.foldl (hstep v) s).2.2=l.foldl (fun a u=>if a.contains u then a else a++[u]) s.2.2
 | [],s=>rfl
 | u::l,s=>by rw[pW,pW,aJa v l,aIX]
def aE9(v:Nat):∀(l:List Int) (s:List Int×List (List Int)×List Int),v < s.1.length->s.1[v]? =some (s.2.2.length:Int)->(l.foldl (hstep v) s).1[v]? =some ((l.foldl (hstep v) s).2.2.length:Int)
 | [],s,_,h=>h
 | u :: l, s, hv, h => by
  rw[pW];refine aE9 v l _ (by rw[(aE7 v s u).1];exact hv) ?_;unfold hstep;split
  .exact h
  .simp only[h,tV];rw[kR hv];simp
def aIY(v:Nat):∀(l:List Int) (s:List Int×List (List Int)×List Int) (x:Nat),x≠v->(l.foldl (hstep v) s).1[x]? =s.1[x]?
 | [],s,x,_=>rfl
 | u::l,s,x,hx=>by
  rw[pW,aIY v l _ x hx];unfold hstep;split
  .rfl
  .exact pZ (fN hx)
def aE8(v:Nat):∀(l:List Int) (s:List Int×List (List Int)×List Int) (x:Nat),(∀u∈l,0<=u/\u < s.2.1.length)->x < s.2.1.length->
  (l.foldl (hstep v) s).2.1[x]? =some (s.2.1[x]?.getD []++if(x:Int)∈l/\(x:Int)∉s.2.2 then[(v:Int)] else[])
 | [],s,x,_,hx=>by simp[cX hx]
 | u :: l, s, x, hl, hx => by
  have k:=hl u aB
  have d:=(aE7 v s u).2
  rw[pW,aE8 v l (hstep v s u) x (fun y j=>by rw[d];exact hl y (by simp[j])) (by rw[d];exact hx)];unfold hstep
  by_cases h:s.2.2.contains u=true
  .have f:u∈s.2.2:=by simpa using h
   simp only[h,if_true,fT]
   congr 2
   by_cases c:(x:Int)=u
   .rw[c];simp[f]
   .simp[c]
  .have f:u∉s.2.2:=by simpa using h
   simp only[h,Pt,if_false,fT,oM,mL,pY,or_false]
   by_cases c:(x:Int)=u
   .subst c
    have e:((x:Int)).toNat=x:=by simp
    rw[e,kR hx];simp[f]
   .have i:u.toNat≠x:=aA
    rw[pZ i];simp[c]
def Zl{g:List (List Int)}(hg:Cm g):∀k,k<=g.length->(∀v,v < g.length->(iN g k).1[v]? =some (if v < k then((Ky (g[v]?.getD [])).length:Int) else 0))/\
  ∀u,u < g.length->(iN g k).2[u]? =some (((List.range k).filter fun v=>(g[v]?.getD []).contains (u:Int)).map Int.ofNat)
 | 0,_=>by
  refine⟨fun v d=>?_,fun u c=>?_⟩
  .simp[iN,d]
  .simp[iN,c]
 | k + 1, hk => by
  obtain⟨j,l⟩:=Zl hg k aA
  have i:=Va g k
  have f:∀u∈g[k]?.getD [],0<=u/\u < (iN g k).2.length:=fun u c=>by
   rw[i.2]
   have:g[k]? =some (g[k]' aA):=cX _
   rw[this] at c;exact hg _ (Mu _) u c
  refine⟨fun v d=>?_,fun u c=>?_⟩
  .show(((g[k]?.getD []).foldl (hstep k) ((iN g k).1,(iN g k).2,[])).1)[v]? =_
   by_cases e:v=k
   .subst e
    have:=aE9 v (g[v]?.getD []) ((iN g v).1,(iN g v).2,[]) (by rw[i.1];exact d) (by rw[j v d];simp)
    rw[this,aJa];simp[Ky]
   .rw[aIY k _ _ v e,j v d]
    congr 1
    by_cases h:v < k
    .rw[aH h,aH aA]
    .rw[aC h,aC aA]
  .show(((g[k]?.getD []).foldl (hstep k) ((iN g k).1,(iN g k).2,[])).2.1)[u]? =_
   rw[aE8 k _ _ u f (by rw[i.2];exact c),l u c,zH,Pr,Jw];simp only[tV,pY,not_false_eq_true,and_true]
   congr 2
   by_cases h:(u:Int)∈g[k]?.getD []
   .simp[h]
   .simp[h]
def aS3{g:List (List Int)}(hg:Cm g){k u:Nat}(hk:k<=g.length){l:List Int}(c:(iN g k).2[u]? =some l):l.length<=k:=by
 have d:u < g.length:=by
  rw[<-(Va g k).2];rcases dI u (iN g k).2.length with h | h
  .exact h
  .rw[eW h] at c;cases c
 rw[(Zl hg k hk).2 u d] at c;cases c;rw[Jv]
 have:=Pj (fun v=>(g[v]?.getD []).contains (u:Int)) (List.range k)
 simpa using this
instance:eZ 273 []:={}
instance:jT 273 []:={}
def nM(c:List Int):List (Int×Value):=c.map fun k=>(k,.agg #[])
def aEn:∀(c:List Int) (k:Int),pM (nM c) k=if c.contains k then some (.agg #[]) else none
 | [],k=>by simp[nM,pM]
 | a::c,k=>by
  rw[nM,vJ,Ue]
  have:=aEn c k
  rw[nM] at this;rw[this]
  by_cases h:a=k
  .subst h;simp
  .simp[h,fN h]
def aI4:∀(c:List Int) (k:Int),rH (nM c) k (.agg #[])=nM (if c.contains k then c else c++[k])
 | [],k=>by simp[nM,rH]
 | a :: c, k => by
  have ih:=aI4 c k
  rw[nM,vJ,rH];rw[nM] at ih
  by_cases h:a=k
  .subst h;simp[nM]
  .rw[aC h,ih]
   have i:¬k=a:=fun e=>h e.symm
   by_cases d:c.contains k=true
   .have:(a::c).contains k=true:=by simp at d|-;exact .inr d
    rw[aH d,aH this];rfl
   .have f:k∉c:=by simpa using d
    have:¬(a::c).contains k=true:=by simp[i,f]
    rw[aC d,aC this];rfl
def aCy{p:Nat->Prop}{k:Nat}(h:∀i,i < k->p i)(hk:p k):∀i,i < k+1->p i:=fun i d=>by
 rcases dI i k with c | c
 .exact h i c
 .have:i=k:=aA
  exact this▸hk
def aOw(c:List Int)(k:Int):(pM (nM c) k).isSome=c.contains k:=by rw[aEn];split<;>simp_all
def aOv(c:List Int)(k:Int):(pM (nM c) k).getD (.agg #[])=.agg #[]:=by rw[aEn];split<;>rfl
def aB5(r:Nat)(v:Int)(c:List Int)(w:World)(hm:Az w r (nM c)):
  Cz 229 #[.map (some r),iv v] w (Rt (.bool (c.contains v)) w):=by
 refine bQ func229 ntmps229 ?_;refine aAD (kt:=3) (et:=273) (kd:=.i64) (z:=.agg #[]) (l:=nM c) true aJ aJ aJ rfl rfl (fun d st=>hm.below (st.started aB)) aE ?_;rw[aOw,aOv];refine aF ?_;refine eE fun e=>?_;refine Kj ?_;refine aF ?_;exact bK (h:=fun _ _=>rfl)
def aB6(r:Nat)(v:Int)(c:List Int)(w:World)(F:Nat->Prop)(hp:(HP.map r (nM c)).sat F w)(hF:∀b,F b->b < w.heap.size):
  Cz 230 #[.map (some r),iv v] w (Wr (.tuple #[]) (HP.map r (nM (if c.contains v then c else c++[v]))) w F):=by
 refine oQ func230 ntmps230 hp hF ?_;refine Lz (kt:=3) (et:=273) (kd:=.i64) (l:=nM c) 0 aJ aJ rfl rfl rfl rfl ?_;rw[aI4];refine aF ?_;exact gF 0 hF
def aQA(A:Option Addr)(n c:Nat)(g:List (List Int))(w:World)(hg:qK (all w) A n g)(D:n=g.length)(O:(n:Int)<=9223372036854775806)(y:∀l∈g,(l.length:Int)<=9223372036854775806):
  Cz 227 #[.slice A n c] w (Rt (iv (uA g)) w):=by
 refine bQ func227 ntmps227 ?_;refine eG (fun h=>?_) (fun h=>?_)
 .
  exact bK (h:=fun _ _=>by simp[uA,<-D];omega)
 .
  refine wC [(12,iv 0),(11,iv n),(10,.slice A n c),(0,.slice A n c)] ?_;refine gA (fun m e R H=>∃k:Nat,k<=n/\m=n - k/\(∀(i:Nat),i < k->∀l:List Int,g[i]? =some l->∀(j:Nat) (u:Int),l[j]? =some u->0<=u/\u < g.length)/\e=[(12,iv k),(11,iv n),(10,.slice A n c),(0,.slice A n c)]/\R=[all w]/\H=[]) n ⟨0,aA,rfl,(fun i h=>absurd h aA),rfl,rfl,rfl⟩ fun m e R H G=>?_;obtain⟨k,T,rfl,f,rfl,rfl,rfl⟩:=G;refine aF ?_;refine eG (fun h=>?_) (fun h=>?_)
  .
   have K:k < n:=by omega
   obtain⟨l,r⟩:∃l,g[k]? =some l:=⟨g[k]' aA,cX _⟩
   obtain⟨b,off,B,c2,rfl,X,E⟩:=hg.row r
   have L:=y l (dJ r)
   refine aF ?_;refine wC [(18,iv 0),(17,iv l.length),(16,.slice B l.length c2),(12,iv k),(11,iv n),(10,.slice (some ⟨b,off,none⟩) n c),(0,.slice (some ⟨b,off,none⟩) n c)] ?_;refine gA (fun m e R H=>∃j:Nat,j<=l.length/\m=l.length - j/\(∀(i:Nat),i < j->∀u:Int,l[i]? =some u->0<=u/\u < g.length)/\e=[(18,iv j),(17,iv l.length),(16,.slice B l.length c2),(12,iv k),(11,iv n),(10,.slice (some ⟨b,off,none⟩) n c),(0,.slice (some ⟨b,off,none⟩) n c)]/\R=[all w]/\H=[]) l.length ⟨0,aA,rfl,(fun i h=>absurd h aA),rfl,rfl,rfl⟩ fun m e R H G=>?_;obtain⟨j,V,rfl,d,rfl,rfl,rfl⟩:=G;refine aF ?_;refine eG (fun h=>?_) (fun h=>?_)
   .
    have M:j < l.length:=by omega
    obtain⟨N,o,rfl,F,I⟩:=E.2 aA;obtain⟨u,C⟩:∃u,l[j]? =some u:=⟨l[j]' aA,cX _⟩
    have U:iD w N (o+j) (iv u):=⟨F,I j _ (by simp[aU,C])⟩
    refine aF ?_;refine cH (t:=24) rfl (fun hg=>?_) (fun hg=>?_)
    .
     refine aF ?_;exact bK (h:=fun _ _=>by rw[show uA g=4 by simp[uA,<-D,aKN r C aA];omega])
    .
     refine aF ?_;refine eG (fun h=>?_) (fun h=>?_)
     .
      exact bK (h:=fun _ _=>by rw[show uA g=4 by simp[uA,<-D,aKN r C aA];omega])
     .
      exact fX (l.length - (j+1)) ⟨j+1,aA,rfl,aCy d (fun x p=>by rw[C] at p;cases p;omega),rfl,rfl,rfl⟩
   .
    exact fX (n - (k+1)) ⟨k+1,aA,rfl,aCy f (fun x p j u z=>by rw[r] at p;cases p;exact d j (by have:=(cE.1 z).1;omega) u z),rfl,rfl,rfl⟩
  .
   exact bK (h:=fun _ _=>by rw[show uA g=0 by simp[uA,<-D,aKO (fun i l J=>f i (by have:=(cE.1 J).1;omega) l J)];omega])
def HU(c:List Value)(U:List (List Int)):List HP:=List.zipWith (fun v l=>HP.own 3 1 v l.length (aU l)) c U
def aMt{c:List Value}{U:List (List Int)}{i:Nat}{v:Value}{l:List Int}(d:c[i]? =some v)(hl:U[i]? =some l):(HU c U)[i]? =some (HP.own 3 1 v l.length (aU l)):=by
 simp[HU,lP,d,hl]
def aMs:∀(c:List Value) (U:List (List Int)) (i:Nat) (v:Value) (l:List Int),(HU c U).set i (HP.own 3 1 v l.length (aU l))=HU (c.set i v) (U.set i l)
 | [],U,i,v,l=>by cases U<;>simp[HU]
 | a::c,[],i,v,l=>by cases i<;>simp[HU]
 | a::c,b::U,0,v,l=>by simp[HU]
 | a::c,b::U,i+1,v,l=>by
  have:=aMs c U i v l
  simpa[HU] using this
def aX7(n:Nat):HU (List.replicate n (sn)) (List.replicate n [])=List.replicate n (HP.own 3 1 (sn) 0 []):=by
 simp[HU,aU]
def aBH(W:List Int)(i:Nat)(v:Int):(aU W).set i (iv v)=aU (W.set i v):=by simp[aU,Fi]
def aBI{W:List Int}{i:Nat}{v:Int}(h:W[i]? =some v):(aU W)[i]? =some (iv v):=by simp[aU,h]
def aRH(n:Nat):List.replicate n (Value.int .i64 0)=aU (List.replicate n 0):=by simp[aU]
def aIQ(W:List Int)(v:Int):aU W++[iv v]=aU (W++[v]):=by simp[aU]
def qK.of{q:Piece}{gU n:Nat}{d:List Value}{U:List (List Int)}(f:∃F,(HP.aK gU 22 d).sat F q.w/\∀b,F b->q.Z b)(e:∃F,(HP.many (HU d U)).sat F q.w/\∀b,F b->q.Z b)(m:d.length=n)(p:U.length=n):qK q (some ⟨gU,0,none⟩) n U:=by
 obtain⟨C,o,x⟩:=f;obtain⟨D,⟨G,r,B,_⟩,t⟩:=e;refine⟨d.map fun v=>[v],?_,p.symm,?_⟩
 .have j:∀(d:List Value) (U:List (List Int)),d.length=U.length->(∀(i:Nat) (v:Value) (l:List Int),d[i]? =some v->U[i]? =some l->xU (gB q) l [v])->Rows (xU (gB q)) 1 U (d.map fun v=>[v]):=by
   intro d
   induction d with
   | nil=>intro U h _;cases U with
    | nil=>trivial
    | cons=>simp at h
   | cons v d ih=>intro U h k;cases U with
    | nil=>simp at h
    | cons l U=>exact⟨rfl,k 0 v l rfl rfl,ih U (by simpa using h) (fun i v l f e=>k (i+1) v l (by simpa using f) (by simpa using e))⟩
  refine j d U (m.trans p.symm) fun i v l f e=>?_;obtain⟨A,c,rfl,y⟩:=Em (Y:=q.Z) (r i _ (aMt f e)) (fun b z=>t b (B i b z));exact⟨A,l.length,c,rfl,rfl,y⟩
 .rw[show(d.map fun v=>[v]).flatten=d by clear o r m;induction d<;>simp_all];exact uH (c:=0) o x aA
def aIZ(v:Nat):∀(l:List Int) (s:List Int×List (List Int)×List Int),(l.foldl (hstep v) s).2.2.length<=s.2.2.length+l.length
 | [],s=>by simp
 | u::l,s=>by
  have:=aIZ v l (hstep v s u)
  have c:(hstep v s u).2.2.length<=s.2.2.length+1:=by rw[aIX];split<;>simp
  simp only[pW,mK];omega
def aS4{g:List (List Int)}(hg:Cm g){k j:Nat}{l:List Int}(hl:g[k]? =some l){s:List Int×List (List Int)×List Int}(hs:s=(l.take j).foldl (hstep k) ((iN g k).1,(iN g k).2,[])):
  s.1.length=g.length/\s.2.1.length=g.length/\s.1[k]? =some (s.2.2.length:Int)/\s.2.2.length<=j/\∀(u:Nat) x,s.2.1[u]? =some x->x.length<=k+1:=by
 have h:k < g.length:=(cE.1 hl).1
 have e:=aEA k (l.take j) ((iN g k).1,(iN g k).2,[])
 have c:=Va g k
 have p:=Zl hg k aA
 have d:∀u∈l,0<=u/\u < g.length:=hg l (dJ hl)
 subst hs;refine⟨e.1.trans c.1,e.2.trans c.2,?_,?_,fun u x f=>?_⟩
 .exact aE9 k _ _ (by rw[c.1];exact h) (by rw[p.1 k h];simp)
 .have:=aIZ k (l.take j) ((iN g k).1,(iN g k).2,[])
  simp only[Bl,pX] at this;omega
 .have i:u < g.length:=by
   have:=(cE.1 f).1
   rw[e.2,c.2] at this;exact this
  have o:=aE8 k (l.take j) ((iN g k).1,(iN g k).2,[]) u (fun y n=>by rw[c.2];exact d y (Dg n)) (by rw[c.2];exact i)
  rw[o] at f;cases f;obtain⟨z,m⟩:∃z,(iN g k).2[u]? =some z:=⟨_,cX (by rw[c.2];exact i)⟩
  have r:=aS3 hg (by omega:k<=g.length) m
  simp only[m,tV,rF];split<;>simp<;>omega
def aS1{g:List (List Int)}{k j:Nat}{l:List Int}{u:Int}(d:l[j]? =some u)(c:List Int×List (List Int)×List Int):(l.take (j+1)).foldl (hstep k) c=hstep k ((l.take j).foldl (hstep k) c) u:=by
 rw[vK,d,Jz,pK];rfl
def aS0{g:List (List Int)}{k:Nat}{l:List Int}(hl:g[k]? =some l):iN g (k+1)=(((l.take l.length).foldl (hstep k) ((iN g k).1,(iN g k).2,[])).1,((l.take l.length).foldl (hstep k) ((iN g k).1,(iN g k).2,[])).2.1):=by
 rw[Bn,iN,hl];rfl
def aMr(g:List (List Int))(n:Nat)(v:Value)(hs:List HP)(q:Piece):Prop:=∃c gU:Nat,v=.tuple #[.slice (some ⟨c,0,none⟩) n n,.slice (some ⟨gU,0,none⟩) n n]/\hs=[HP.aK c 3 (aU (iN g n).1)]/\qK q (some ⟨gU,0,none⟩) n (iN g n).2
def aS2(A:Option Addr)(n c:Nat)(g:List (List Int))(w:World)(hg:qK (all w) A n g)(hn:n=g.length)(hn2:n<=100)(G:Cm g)(J:∀l∈g,(l.length:Int)<=9223372036854775806):
  Cz 228 #[.slice A n c] w (fun y w'=>(∃v hs q,y=.returned v/\q.w=w'/\aMr g n v hs q/\iV w hs q)/\Below w.heap.size w w'):=by
 refine bQ func228 ntmps228 ?_;refine oZ 8 (el:=3) (z:=iv 0) aJ aJ rfl rfl rfl aA aA aE fun p=>?_;refine aF ?_;refine oZ 24 (el:=22) (z:=sn) aJ aJ rfl rfl rfl aA aA aE fun gU=>?_;refine aF ?_;refine cF [(17,iv 0),(16,iv n),(15,.slice A n c),(3,.slice (some ⟨gU,0,none⟩) n n),(2,.slice (some ⟨p,0,none⟩) n n)] ?_;refine aWK n 3 1 ?_;refine aF ?_;refine gA (fun m e R H=>∃(k:Nat) (d:List Value),k<=n/\m=n - k/\d.length=n/\e=[(17,iv k),(16,iv n),(15,.slice A n c),(3,.slice (some ⟨gU,0,none⟩) n n),(2,.slice (some ⟨p,0,none⟩) n n)]/\R=[all w]/\H=[HP.many (HU d (iN g k).2),HP.aK gU 22 d,HP.aK p 3 (aU (iN g k).1)]) n ⟨0,List.replicate n (sn),aA,rfl,aB,rfl,rfl,by rw[iN,<-hn,aX7,<-aRH]⟩ fun m e R H hI=>?_;obtain⟨k,d,hk,rfl,D,rfl,rfl,rfl⟩:=hI;refine aF ?_;refine aCF rfl (fun h=>?_) (fun h=>?_)
 .
  have hkn:k < n:=by omega
  obtain⟨l,I⟩:∃l,g[k]? =some l:=⟨g[k]' aA,cX _⟩
  obtain⟨b,off,B,c2,rfl,c1,X⟩:=hg.row I
  have Qo:=J l (dJ I)
  have L:=G l (dJ I)
  refine aF ?_;refine Xj aE fun r=>?_;refine aF ?_;refine wC [(25,iv 0),(24,iv l.length),(23,.slice B l.length c2),(6,.map (some r)),(4,iv k),(17,iv k),(16,iv n),(15,.slice (some ⟨b,off,none⟩) n c),(3,.slice (some ⟨gU,0,none⟩) n n),(2,.slice (some ⟨p,0,none⟩) n n)] ?_;refine gA (fun m e R H=>∃(j:Nat) (d:List Value) (s:List Int×List (List Int)×List Int),j<=l.length/\m=l.length - j/\d.length=n/\s=(l.take j).foldl (hstep k) ((iN g k).1,(iN g k).2,[])/\e=[(25,iv j),(24,iv l.length),(23,.slice B l.length c2),(6,.map (some r)),(4,iv k),(17,iv k),(16,iv n),(15,.slice (some ⟨b,off,none⟩) n c),(3,.slice (some ⟨gU,0,none⟩) n n),(2,.slice (some ⟨p,0,none⟩) n n)]/\R=[all w]/\H=[HP.map r (nM s.2.2),HP.many (HU d s.2.1),HP.aK gU 22 d,HP.aK p 3 (aU s.1)]) l.length ⟨0,d,_,aA,rfl,D,rfl,rfl,rfl,rfl⟩ fun m e R H hI=>?_;obtain⟨j,d,s,hj,rfl,D,hs,rfl,rfl,rfl⟩:=hI;refine aF ?_;refine aCF rfl (fun h=>?_) (fun h=>?_)
  .
   have hjl:j < l.length:=by omega
   obtain⟨V,o,rfl,U,hc2⟩:=X.2 aA;obtain⟨u,hu⟩:∃u,l[j]? =some u:=⟨l[j]' aA,cX _⟩
   have c3:iD w V (o+j) (iv u):=⟨U,hc2 j _ (by simp[aU,hu])⟩
   obtain⟨hW,hU,N,hM,K⟩:=aS4 G I hs;obtain⟨hu0,hun⟩:=L u (dJ hu);obtain⟨vu,O⟩:∃v,d[u.toNat]? =some v:=⟨_,cX aA⟩
   obtain⟨T,t⟩:∃x,s.2.1[u.toNat]? =some x:=⟨_,cX aA⟩
   have aXY:=K _ _ t
   have C:=aS1 (g:=g) (k:=k) hu ((iN g k).1,(iN g k).2,[])
   rw[<-hs] at C;refine aF ?_;refine cR (fun M st=>aB5 r u s.2.2 M (st.map (i:=0) rfl)) ?_;refine tI rfl (fun h=>?_) (fun h=>?_)
   .
    refine aF ?_;exact cF [(25,iv (j+1)),(24,iv l.length),(23,.slice (some ⟨V,o,none⟩) l.length c2),(6,.map (some r)),(4,iv k),(17,iv k),(16,iv n),(15,.slice (some ⟨b,off,none⟩) n c),(3,.slice (some ⟨gU,0,none⟩) n n),(2,.slice (some ⟨p,0,none⟩) n n)] (iZ (l.length - (j+1)) aA ⟨j+1,d,_,aA,rfl,D,C.symm,rfl,rfl,by rw[hstep,aH h]⟩)
   .
    refine aF ?_;refine Xm (f:=230) (fi:=[]) (ca:=[]) 0 (HP.map r (nM (if s.2.2.contains u then s.2.2 else s.2.2++[u]))) aJ rfl rfl rfl ⟨aE,rfl⟩ (fun M F st hp hF=>aB6 r u s.2.2 M F hp hF) ?_;dsimp only[List.set];refine aF ?_;refine iF (Rd.aK 3 rfl (aBI N)) ?_;refine aF ?_;refine tR 3 rfl aJ rfl rfl rfl (by simp[aU];omega) ?_;dsimp only[List.set];rw[aBH];refine aF ?_;refine iF (Rd.aK 2 rfl O) ?_;refine uX 1 u.toNat rfl (aMt O t) ?_;dsimp only[List.set];refine aF ?_;refine eX fun g3=>?_;refine jU 1 1 8 1 (n':=T.length+1) (el:=3) aJ aJ aE rfl rfl rfl (tU 0 rfl rfl) (by simp[Value.oneCell']) rfl aA aA aE fun A' k'=>?_;dsimp only[List.set];rw[aIQ];refine kd (dat (u.toNat) (u.toNat)) ?_;refine tR 4 rfl aJ rfl rfl rfl aA ?_;dsimp only[List.set];refine aZ [1,2,3,4,5] ?_;refine uZ 1 u.toNat rfl (by rw[kR (by simp[HU];omega)]) ?_;dsimp only[List.set];rw[sX,show T.length+1=(T++[(k:Int)]).length by simp,aMs];refine aF ?_;exact cF [(25,iv (j+1)),(24,iv l.length),(23,.slice (some ⟨V,o,none⟩) l.length c2),(6,.map (some r)),(4,iv k),(17,iv k),(16,iv n),(15,.slice (some ⟨b,off,none⟩) n c),(3,.slice (some ⟨gU,0,none⟩) n n),(2,.slice (some ⟨p,0,none⟩) n n)] (iZ (l.length - (j+1)) aA ⟨j+1,d.set u.toNat (.slice A' (T++[(k:Int)]).length k'),_,aA,rfl,by simpa using D,C.symm,rfl,rfl,by rw[hstep,aC (by rw[h];decide),aC (by rw[h];decide),N,t];rfl⟩)
  .
   obtain rfl:j=l.length:=by omega
   have E:=aS0 I
   rw[<-hs] at E;refine aF ?_;exact xL [1,2,3] rfl aE aB (cF [(17,iv (k+1)),(16,iv n),(15,.slice (some ⟨b,off,none⟩) n c),(3,.slice (some ⟨gU,0,none⟩) n n),(2,.slice (some ⟨p,0,none⟩) n n)] (iZ (n - (k+1)) aA ⟨k+1,d,aA,rfl,D,rfl,rfl,by rw[E]⟩))
 .
  obtain rfl:k=n:=by omega
  have K:=(Va g k).2
  refine aF ?_;refine dX [] [0,1] [2] fun q hq _ Y=>?_;refine kN fun M st=>⟨⟨_,_,⟨M,q.Z⟩,rfl,rfl,⟨p,gU,rfl,rfl,?_⟩,st.newR aB aB (Y aB aB)⟩,st.below aB⟩
  exact(qK.of (hq 1 _ aB rfl) (hq 0 _ aB rfl) D aA).le fun b hb=>⟨hb,st.ro aB hb⟩
def eD(M:List Nat):List Int:=M.map Int.ofNat
def yG(g:List (List Int))(M:List Nat)(v:Nat):Bool:= !(M.contains v)&&(g[v]?.getD []).all fun u=>M.contains u.toNat
def yY(g:List (List Int))(M:List Nat)(v:Nat):Nat:=((Ky (g[v]?.getD [])).filter fun u=> !(M.contains u.toNat)).length
def Bc(g:List (List Int))(M:List Nat):List Int:=(List.range g.length).map fun v=>(yY g M v:Int)
def vX(W:List Int)(c:List Int):List Int:=c.foldl (fun W u=>W.set u.toNat (W[u.toNat]?.getD 0 - 1)) W
def pG(g:List (List Int))(v:Nat):List Int:=((List.range g.length).filter fun x=>(g[x]?.getD []).contains (v:Int)).map Int.ofNat
def gY(g:List (List Int)):Int×List Nat:=if uA g≠0 then(uA g,[]) else match wX g g.length [] with
 | some M=>(0,M)
 | none=>(5,[])
def aI3(M:List Nat)(v:Nat):(eD M).contains (v:Int)=M.contains v:=by
 rw[Bool.eq_iff_iff];simp only[eD,List.contains_iff_mem,fR];constructor
 .rintro⟨a,h,e⟩
  have:a=v:=Pn e
  exact this▸h
 .exact fun h=>⟨v,h,rfl⟩
def aEh(M:List Nat)(v:Nat):eD (M++[v])=eD M++[(v:Int)]:=by simp[eD]
def Xr{g:List (List Int)}{M:List Nat}{v:Nat}(h:v < g.length):(Bc g M)[v]? =some (yY g M v:Int):=by simp[Bc,h]
def Sn(g:List (List Int))(M:List Nat):(Bc g M).length=g.length:=by simp[Bc]
def aFm(l:List Int):∀(a:List Int),(∀u,u∈l.foldl (fun a u=>if a.contains u then a else a++[u]) a↔u∈a\/u∈l)/\(a.Nodup->(l.foldl (fun a u=>if a.contains u then a else a++[u]) a).Nodup)/\(l.foldl (fun a u=>if a.contains u then a else a++[u]) a).length<=a.length+l.length:=by
 induction l with
 | nil=>intro a;simp
 | cons x l ih =>
  intro a;rw[pW];obtain⟨k,i,m⟩:=ih (if a.contains x then a else a++[x]);refine⟨fun u=>?_,fun d=>i ?_,?_⟩
  .rw [k];split
   .rename_i c
    have:x∈a:=by simpa using c
    constructor
    .rintro(h | h)
     .exact .inl h
     .exact .inr (by simp[h])
    .rintro(h | h)
     .exact .inl h
     .rcases fT.1 h with rfl | h
      .exact .inl this
      .exact .inr h
   .simp[or_assoc]
  .split
   .exact d
   .rename_i c
    have:x∉a:=by simpa using c
    rw[List.nodup_append];refine⟨d,aB,fun y j z f=>?_⟩;simp at f;subst f;exact fun e=>this (e▸j)
  .refine oL m ?_;split<;>simp<;>omega
def aCc(l:List Int)(u:Int):u∈Ky l↔u∈l:=by have:=(aFm l []).1 u;simpa[Ky] using this
def aTP(l:List Int):(Ky l).Nodup:=(aFm l []).2.1 List.nodup_nil
def aTQ(l:List Int):(Ky l).length<=l.length:=by have:=(aFm l []).2.2;simpa[Ky] using this
def aNr(g:List (List Int))(M:List Nat)(v:Nat):yY g M v<=(g[v]?.getD []).length:=oL (Pj _ _) (aTQ _)
def aGL(g:List (List Int))(M:List Nat)(v:Nat):yY g M v=0↔((g[v]?.getD []).all fun u=>M.contains u.toNat)=true:=by
 unfold yY;rw[List.length_eq_zero_iff,List.filter_eq_nil_iff,mJ];constructor
 .intro h u c
  have:=h u ((aCc _ _).2 c)
  simpa using this
 .intro h u c
  have:=h u ((aCc _ _).1 c)
  simpa using this
def aEa{g:List (List Int)}{M:List Nat}{v:Nat}(h:M.contains v=true):yG g M v=false:=by rw[yG,h];rfl
def aQ3{g:List (List Int)}{M:List Nat}{v:Nat}(h:(yY g M v:Int)>0):yG g M v=false:=by
 have:¬yY g M v=0:=by omega
 rw[aGL] at this;rw[yG];simp only[Bool.not_eq_true] at this;rw[this,Bool.and_false]
def aQ4{g:List (List Int)}{M:List Nat}{v:Nat}(h:M.contains v=false)(c:¬(yY g M v:Int)>0):yG g M v=true:=by
 have:yY g M v=0:=by omega
 rw[aGL] at this;rw[yG,h,this];rfl
def aQI{g:List (List Int)}{M:List Nat}(h:∀j,j < g.length->yG g M j=false):Mx g M=none:=by
 unfold Mx;rw[List.find?_eq_none];intro x c
 have:=h x (by simpa using c)
 unfold yG at this;rw[this];simp
def aI1{g:List (List Int)}{M:List Nat}{v:Nat}(d:v < g.length)(h:∀j,j < v->yG g M j=false)(hk:yG g M v=true):Mx g M=some v:=by
 unfold Mx;rw[List.find?_range_eq_some];refine⟨hk,by simpa using d,fun j c=>?_⟩
 have:=h j c
 unfold yG at this;rw[this];rfl
def aQp{g:List (List Int)}{M:List Nat}{v k:Nat}(h:Mx g M=some v):wX g (k+1) M=wX g k (M++[v]):=by rw[wX,h]
def aQo{g:List (List Int)}{M:List Nat}{k:Nat}(h:Mx g M=none):wX g (k+1) M=none:=by rw[wX,h]
def aFy:∀(c W:List Int),(vX W c).length=W.length
 | [],W=>rfl
 | u::c,W=>by rw[vX,pW];have:=aFy c (W.set u.toNat (W[u.toNat]?.getD 0 - 1));rw[vX] at this;rw[this];simp
def aUS{c W:List Int}{j:Nat}{u:Int}(h:c[j]? =some u):vX W (c.take (j+1))=(vX W (c.take j)).set u.toNat ((vX W (c.take j))[u.toNat]?.getD 0 - 1):=by
 rw[vK,h,Jz,vX,pK];rfl
def aFz:∀(c W:List Int) (x:Nat),(∀u∈c,0<=u)->x < W.length->(vX W c)[x]? =some (W[x]?.getD 0 - (c.count (x:Int):Int))
 | [],W,x,_,h=>by simp[vX,h]
 | u :: c, W, x, hu, h => by
  rw[vX,pW]
  have:=aFz c (W.set u.toNat (W[u.toNat]?.getD 0 - 1)) x (fun y f=>hu y (by simp[f])) (by simpa using h)
  rw[vX] at this;rw[this]
  have i:=hu u aB
  congr 1
  by_cases e:u=(x:Int)
  .subst e
   have d:((x:Int)).toNat=x:=by simp
   rw[d,kR h,List.count_cons_self];simp only[tV];omega
  .have d:u.toNat≠x:=aA
   rw[pZ d,List.count_cons_of_ne e]
def aDp{g:List (List Int)}{v:Nat}{u:Int}(h:u∈pG g v):0<=u/\u < g.length:=by
 simp only[pG,fR,sY,mI] at h;obtain⟨a,⟨c,_⟩,rfl⟩:=h;simp;omega
def aNx(g:List (List Int))(v:Nat):(pG g v).length<=g.length:=by
 rw[pG,Jv]
 have:=Pj (fun x=>(g[x]?.getD []).contains (v:Int)) (List.range g.length)
 simpa using this
def aNy{g:List (List Int)}{v x:Nat}(hx:x < g.length):(pG g v).count (x:Int)=if(g[x]?.getD []).contains (v:Int) then 1 else 0:=by
 have c:(pG g v).Nodup:=List.Pairwise.map _ (fun a b h e=>h (Pn e)) (List.Pairwise.filter _ List.nodup_range)
 rw[List.Nodup.count c]
 have:((x:Int)∈pG g v)↔(g[x]?.getD []).contains (v:Int)=true:=by
  simp only[pG,fR,sY,mI];constructor
  .rintro⟨a,⟨_,h⟩,e⟩
   have:a=x:=Pn e
   exact this▸h
  .intro h;exact⟨x,⟨hx,h⟩,rfl⟩
 by_cases h:(g[x]?.getD []).contains (v:Int)=true
 .rw[aH (this.2 h),aH h]
 .rw[aC (fun e=>h (this.1 e)),aC h]
def filter_one{l:List Int}(n:l.Nodup){p q:Int->Bool}{a:Int}(o:p a=true)(k:∀u∈l,q u=(p u&&decide (u≠a))):(l.filter p).length=(l.filter q).length+if l.contains a then 1 else 0:=by
 induction l with
 | nil=>simp
 | cons x l ih =>
  have c:=Bm.1 n
  have ih:=ih c.2 (fun u m=>k u (by simp[m]))
  have j:=k x aB
  by_cases e:x=a
  .subst e
   have f:¬l.contains x=true:=by simpa using c.1
   rw[aC f] at ih
   have i:(x::l).contains x=true:=by simp
   rw[aH i,aBl o,List.filter_cons_of_neg (by rw[j];simp),mK,ih]
  .have f:(x::l).contains a=l.contains a:=by
    rw[List.contains_cons]
    have:(a==x)=false:=by simp;exact fun h=>e h.symm
    rw[this,Bool.false_or]
   rw[f]
   by_cases d:p x=true
   .rw[aBl d,aBl (by rw[j,d];simp[e]),mK,mK,ih];omega
   .rw[List.filter_cons_of_neg d,List.filter_cons_of_neg (by rw[j];simp[d]),ih]
def aNq{g:List (List Int)}(hg:Cm g){M:List Nat}{v x:Nat}(k:M.contains v=false)(hx:x < g.length):(yY g M x:Int) - (if(g[x]?.getD []).contains (v:Int) then 1 else 0)=yY g (M++[v]) x:=by
 have f:∀u∈g[x]?.getD [],0<=u:=fun u e=>by
  have j:g[x]? =some (g[x]'hx):=cX _
  rw[j] at e;exact(hg _ (Mu _) u e).1
 have d:=filter_one (aTP (g[x]?.getD [])) (p:=fun u=> !(M.contains u.toNat)) (q:=fun u=> !((M++[v]).contains u.toNat)) (a:=(v:Int)) (by simp only[dL];rw[k];rfl) (fun u e=>by
  have l:=f u ((aCc _ _).1 e)
  have c:(u.toNat=v)↔u=(v:Int):=by omega
  simp only[List.contains_eq_mem,oM,mL,c,Bool.decide_or,Bool.not_or,decide_not])
 have i:(Ky (g[x]?.getD [])).contains (v:Int)=(g[x]?.getD []).contains (v:Int):=by
  rw[Bool.eq_iff_iff];simp only[List.contains_iff_mem];exact aCc _ _
 rw[i] at d;unfold yY;rw[d];split<;>omega
def aNn{g:List (List Int)}(hg:Cm g){M:List Nat}{v:Nat}(e:M.contains v=false):vX (Bc g M) (pG g v)=Bc g (M++[v]):=by
 apply qR;intro x;rcases dI x g.length with c | c
 .rw[aFz _ _ _ (fun u d=>(aDp d).1) (by rw[Sn];exact c),Xr c,Xr c,aNy c]
  congr 1
  have:=aNq hg e c
  simp only[tV];rw[<-this];split<;>rfl
 .rw[eW (by rw[aFy,Sn];exact c),eW (by rw[Sn];exact c)]
def aNm{g:List (List Int)}(hg:Cm g):(iN g g.length).1=Bc g []:=by
 apply qR;intro x;rcases dI x g.length with c | c
 .rw[(Zl hg g.length (gE _)).1 x c,Xr c,aH c]
  congr 2
  unfold yY;rw[List.filter_eq_self.2 aB]
 .rw[eW (by rw[(Va g _).1];exact c),eW (by rw[Sn];exact c)]
def aNw{g:List (List Int)}(hg:Cm g){v:Nat}(c:v < g.length):(iN g g.length).2[v]? =some (pG g v):=(Zl hg g.length (gE _)).2 v c
def aNo(W c:List Int)(j:Nat)(u x:Int)(hj:c[j]? =some u)(hx:(vX W (c.take j))[u.toNat]? =some x):(aU (vX W (c.take j))).set u.toNat (iv (x - 1))=aU (vX W (c.take (j+1))):=by
 rw[aBH,aUS hj,hx];rfl
def aQs{g:List (List Int)}(h:uA g≠0):gY g=(uA g,[]):=by unfold gY;rw[aH h]
def aQr{g:List (List Int)}(c:uA g=0)(h:wX g g.length []=none):gY g=(5,[]):=by unfold gY;rw[aC (by simp[c]),h]
def aQq{g:List (List Int)}{M:List Nat}(c:uA g=0)(h:wX g g.length []=some M):gY g=(0,M):=by unfold gY;rw[aC (by simp[c]),h]
def aQ9{g:List (List Int)}(h:uA g=0):g.length<=100/\Cm g:=by
 unfold uA at h;split at h
 .cases h
 .split at h
  .cases h
  .rename_i d c;exact⟨aA,Cm.of (by simpa using c)⟩
def Rz(w:World)(M:List Nat)(d:Int)(y:Ending)(w':World):Prop:=(∃A m c,y=.returned (.tuple #[.slice A m c,iv d])/\m=M.length/\aO (fresh w w') 1 A m (aU (eD M)))/\Below w.heap.size w w'
def Rz.nil{w w':World}{c:Int}(h:Below w.heap.size w w'):Rz w [] c (.returned (.tuple #[sn,iv c])) w':=⟨⟨none,0,0,rfl,rfl,aO.nil _ 1⟩,h⟩
def aBt(A:Option Addr)(n c:Nat)(g:List (List Int))(w:World)(hg:qK (all w) A n g)(X:n=g.length)(hn2:(n:Int)<=9223372036854775806)(o:∀l∈g,(l.length:Int)<=9223372036854775806):
  Cz 207 #[.slice A n c] w (Rz w (gY g).2 (gY g).1):=by
 refine bQ func207 ntmps207 ?_;refine cR (fun B st=>aQA A n c g B (hg.le (nF (st.started aB))) X hn2 o) ?_;refine bP (fun h=>?_) (fun h=>?_)
 .
  refine aF ?_
  exact kN fun B st=>by
   rw[aQs h];exact Rz.nil (st.below aB)
 .
  have h0:uA g=0:=nO h
  obtain⟨aXL,C⟩:=aQ9 h0;refine aF ?_;refine gN (aMr g n) (fun B st=>aS2 A n c g B (hg.le (nF (st.started aB))) X aA C o) ?_;rintro _ _ q ⟨k,gU,rfl,rfl,hq⟩ hfq;refine aF ?_;refine Xj aE fun r=>?_;refine aF ?_;refine oF 3 1 ?_;refine wC [(8,sn),(7,.map (some r)),(6,.slice (some ⟨gU,0,none⟩) n n),(5,.slice (some ⟨k,0,none⟩) n n),(0,.slice A n c)] ?_;refine gA (fun m e R H=>∃(M:List Nat) (E:Option Addr) (G:Nat),M.length<=n/\m=n - M.length/\wX g (n - M.length) M=wX g g.length []/\e=[(8,.slice E M.length G),(7,.map (some r)),(6,.slice (some ⟨gU,0,none⟩) n n),(5,.slice (some ⟨k,0,none⟩) n n),(0,.slice A n c)]/\R=[q,all w]/\H=[HP.own 3 1 (.slice E M.length G) M.length (aU (eD M)),HP.map r (nM (eD M)),HP.aK k 3 (aU (Bc g M))]) n ⟨[],none,0,aB,rfl,by rw[X];rfl,rfl,rfl,by rw[X,aNm C];rfl⟩ fun m e R H V=>?_;obtain⟨M,E,G,hM,rfl,z,rfl,rfl,rfl⟩:=V;refine aF ?_;refine bP (fun h=>?_) (fun h=>?_)
  .
   refine sQ ?_;refine eR ?_;refine Gf ?_;refine fO ?_;refine jS ?_;refine kC rfl aE ?_;refine iJ ?_;refine Wn (fun e R H=>∃v:Nat,v<=n/\(∀j,j < v->yG g M j=false)/\(v < n->yG g M v=true)/\e=[(9,iv v),(8,.slice E M.length G),(7,.map (some r)),(6,.slice (some ⟨gU,0,none⟩) n n),(5,.slice (some ⟨k,0,none⟩) n n),(0,.slice A n c)]/\R=[q,all w]/\H=[HP.own 3 1 (.slice E M.length G) M.length (aU (eD M)),HP.map r (nM (eD M)),HP.aK k 3 (aU (Bc g M))]) ?_ ?_
   .
    refine wC [(9,iv 0),(8,.slice E M.length G),(7,.map (some r)),(6,.slice (some ⟨gU,0,none⟩) n n),(5,.slice (some ⟨k,0,none⟩) n n),(0,.slice A n c)] ?_;refine gA (fun m e R H=>∃v:Nat,v<=n/\m=n - v/\(∀j,j < v->yG g M j=false)/\e=[(9,iv v),(8,.slice E M.length G),(7,.map (some r)),(6,.slice (some ⟨gU,0,none⟩) n n),(5,.slice (some ⟨k,0,none⟩) n n),(0,.slice A n c)]/\R=[q,all w]/\H=[HP.own 3 1 (.slice E M.length G) M.length (aU (eD M)),HP.map r (nM (eD M)),HP.aK k 3 (aU (Bc g M))]) n ⟨0,aA,rfl,fun j h=>absurd h aA,rfl,rfl,rfl⟩ fun m e R H V=>?_;obtain⟨v,Z,rfl,d,rfl,rfl,rfl⟩:=V;refine aF ?_;refine cH (t:=32) rfl (fun hlt=>?_) (fun hlt=>?_)
    .
     refine aF ?_;refine cR (fun B st=>(aI3 M v)▸aB5 r v (eD M) B (st.map (i:=1) rfl)) ?_;refine Gx (t:=36) rfl (fun hc=>?_) (fun hc=>?_)
     .
      refine aF ?_;exact fX (n - (v+1)) ⟨v+1,aA,rfl,aCy d (aEa hc),rfl,rfl,rfl⟩
     .
      refine aF ?_
      have J:v < g.length:=by omega
      refine aF ?_;refine iF (Rd.aK 2 rfl (aBI (Xr J))) ?_;refine aF ?_;refine eG (fun h=>?_) (fun h=>?_)
      .
       exact fX (n - (v+1)) ⟨v+1,aA,rfl,aCy d (aQ3 h),rfl,rfl,rfl⟩
      .
       exact rK ⟨v,Z,d,fun _=>aQ4 hc h,rfl,rfl,rfl⟩
    .
     refine aF ?_;exact rK ⟨v,Z,d,fun h=>absurd h aA,rfl,rfl,rfl⟩
   rintro _ _ _ ⟨v,Z,d,hok,rfl,rfl,rfl⟩;refine aF ?_;refine bP (fun h=>?_) (fun h=>?_)
   .
    refine aF ?_
    exact kN fun B st=>by
     have L:wX g g.length []=none:=by
      rw[<-z,show n - M.length=(n - M.length - 1)+1 by omega];exact aQo (aQI fun j hj=>d j aA)
     rw[aQr h0 L];exact Rz.nil (st.below aB)
   .
    have J:v < n:=by omega
    have I:=hok J
    have U:M.contains v=false:=by
     cases hb:M.contains v with
     | false=>rfl
     | true=>rw[aEa hb] at I;cases I
    have Ql:=aI1 (by omega:v < g.length) d I
    have hU:=aNw C (by omega:v < g.length)
    rw[<-X] at hU;obtain⟨b1,o1,B1,d1,hA1,hz1,O,hs1⟩:=hq.Dd hU;cases hA1
    have hul:=aNx g v
    refine aF ?_;refine Xm (f:=230) (fi:=[]) (ca:=[]) 1 (HP.map r (nM (if(eD M).contains (v:Int) then eD M else eD M++[(v:Int)]))) aJ rfl rfl rfl ⟨aE,rfl⟩ (fun B F st hp hF=>aB6 r v (eD M) B F hp hF) ?_;dsimp only[List.set];rw[aC (by rw[aI3,U];decide),<-aEh];refine aF ?_;refine eX fun g1=>?_;refine jU 1 1 8 1 (n':=(M++[v]).length) (el:=3) aJ aJ aE rfl rfl rfl (tU 0 rfl rfl) (by simp[Value.oneCell']) aB (by simp;omega) (by simp;omega) aE fun T c2=>?_;dsimp only[List.set];rw[aIQ,<-aEh];refine aF ?_;refine iF (Rd.ro (p:=q) aB hz1 (by simpa using O)) ?_;refine aF ?_;refine aZ [1,2,3] ?_;refine wC [(62,iv 0),(61,iv (pG g v).length),(60,.slice B1 (pG g v).length d1),(8,.slice T (M++[v]).length c2),(7,.map (some r)),(6,.slice (some ⟨gU,0,none⟩) n n),(5,.slice (some ⟨k,0,none⟩) n n),(0,.slice A n c)] ?_;refine gA (fun m e R H=>∃j:Nat,j<=(pG g v).length/\m=(pG g v).length - j/\e=[(62,iv j),(61,iv (pG g v).length),(60,.slice B1 (pG g v).length d1),(8,.slice T (M++[v]).length c2),(7,.map (some r)),(6,.slice (some ⟨gU,0,none⟩) n n),(5,.slice (some ⟨k,0,none⟩) n n),(0,.slice A n c)]/\R=[q,all w]/\H=[HP.own 3 1 (.slice T (M++[v]).length c2) (M++[v]).length (aU (eD (M++[v]))),HP.map r (nM (eD (M++[v]))),HP.aK k 3 (aU (vX (Bc g M) ((pG g v).take j)))]) (pG g v).length ⟨0,aA,rfl,rfl,rfl,rfl⟩ fun m e R H V=>?_;obtain⟨j,hj,rfl,rfl,rfl,rfl⟩:=V;refine aF ?_;refine eG (fun h=>?_) (fun h=>?_)
    .
     have hjl:j < (pG g v).length:=by omega
     obtain⟨b2,off2,rfl,hz2,hc2⟩:=hs1.2 aA;obtain⟨u,hu⟩:∃u,(pG g v)[j]? =some u:=⟨_,cX hjl⟩
     have c3:=hc2 j _ (aBI hu)
     obtain⟨hu0,hun⟩:=aDp (dJ hu)
     have D:u.toNat < g.length:=by omega
     have Y:=aFz ((pG g v).take j) (Bc g M) u.toNat (fun y hy=>(aDp (Dg hy)).1) (by rw[Sn];exact D)
     rw[Xr D] at Y
     have aXT:((pG g v).take j).count ((u.toNat:Nat):Int)<=j:=oL List.count_le_length (by simp;omega)
     obtain⟨x,N⟩:∃x:Int,x=(some (yY g M u.toNat:Int)).getD 0 - (((pG g v).take j).count ((u.toNat:Nat):Int):Int):=⟨_,rfl⟩
     rw[<-N] at Y
     have hwl:=aNr g M u.toNat
     have Uw:((g[u.toNat]?.getD []).length:Int)<=9223372036854775806:=by
      rw[cX D];exact o _ (Mu _)
     simp only[tV] at N;refine aF ?_;refine iF (Rd.ro (p:=q) aB hz2 c3) ?_;refine aF ?_;refine iF (Rd.aK 2 rfl (aBI Y)) ?_;refine aF ?_;refine tR 2 rfl aJ rfl rfl rfl (by rw[show(aU (vX (Bc g M) ((pG g v).take j))).length=g.length by simp[aU,aFy,Sn]];exact D) ?_;dsimp only[List.set];rw[aNo _ _ j u x hu Y];refine aF ?_;exact fX ((pG g v).length - (j+1)) ⟨j+1,aA,rfl,rfl,rfl,rfl⟩
    .
     exact cF [(8,.slice T (M++[v]).length c2),(7,.map (some r)),(6,.slice (some ⟨gU,0,none⟩) n n),(5,.slice (some ⟨k,0,none⟩) n n),(0,.slice A n c)] (iZ (n - (M++[v]).length) (by simp;omega) ⟨M++[v],T,c2,(by simp;omega),rfl,by rw[<-z,show n - M.length=(n - (M++[v]).length)+1 by simp;omega,aQp Ql],rfl,rfl,by rw[show j=(pG g v).length by omega,Bn,aNn C U]⟩)
  .
   refine aF ?_;refine dX [] [0] [] fun p hp _ hfr=>?_;refine kN fun B st=>?_
   have K:wX g g.length []=some M:=by rw[<-z,show n - M.length=0 by omega];rfl
   rw[aQq h0 K];exact⟨⟨_,_,_,rfl,rfl,(aO.own (hp 0 _ aB rfl)).le (st.oA aB (hfr aB aB))⟩,st.below aB⟩
def Sf{es:List Int}{k:Nat}(d:∀j,j < k->es[j]? =some 0)(h:es[k]? =some 0):∀j,j < k+1->es[j]? =some 0:=fun j e=>by
 rcases dI j k with c | c
 .exact d j c
 .have:j=k:=aA
  rw[this];exact h
def yX(b:Bool)(e:Int)(w:World):
  Cz 151 #[.bool b,iv e] w (Rt (iv (kD b e)) w):=by
 refine bQ func151 ntmps151 ?_;refine tI rfl (fun h=>?_) (fun h=>?_)
 .
  refine aF ?_;exact bK (h:=fun _ _=>by simp[kD,h])
 .
  refine aF ?_;exact bK (h:=fun _ _=>by simp[kD,h])
def xZ(n lo hi:Int)(w:World):
  Cz 157 #[iv n,iv lo,iv hi] w (Rt (.bool (jV n lo hi)) w):=by
 refine bQ func157 ntmps157 ?_;refine cH (t:=10) rfl (fun c=>?_) (fun c=>?_)
 .
  refine aF ?_;exact bK (h:=fun _ _=>by simp[jV,c])
 .
  refine aF ?_;exact bK (h:=fun _ _=>by simp[jV,c])
def aBW(A:Option Addr)(n c:Nat)(o:List (FuncId×List Value))(es:List Int)(w:World)(hs:aO (all w) 1 A n (o.map fun f=>.func (.func f.1) #[] f.2.toArray))(G:o.length=n)(hl:es.length=n)(E:(n:Int)<=9223372036854775806)(C:∀f∈o,fW Tryz.prog f.1=true)
  (hf:∀(i:Nat) (f:FuncId×List Value) (e:Int),o[i]? =some f->es[i]? =some e->∀w',Below w.heap.size w w'->Cz f.1 f.2.toArray w' (Rt (iv e) w')):
  Cz 85 #[.slice A n c] w (Rt (iv (mQ es)) w):=by
 refine bQ func85 ntmps85 ?_;refine wC [(8,iv 0),(7,iv n),(6,.slice A n c)] ?_;refine gA (fun m e R H=>∃k:Nat,k<=n/\m=n - k/\(∀j,j < k->es[j]? =some 0)/\e=[(8,iv k),(7,iv n),(6,.slice A n c)]/\R=[all w]/\H=[]) n ⟨0,aA,rfl,fun j x=>absurd x aA,rfl,rfl,rfl⟩ fun m e R H D=>?_;obtain⟨k,F,rfl,p,rfl,rfl,rfl⟩:=D;refine aF ?_;refine eG (fun h=>?_) (fun h=>?_)
 .
  have z:k < n:=by omega
  obtain⟨f,l⟩:∃f,o[k]? =some f:=⟨o[k]' aA,cX _⟩
  obtain⟨y,d⟩:∃e,es[k]? =some e:=⟨es[k]' aA,cX _⟩
  obtain⟨b,off,rfl,r,t⟩:=hs.2 aA
  have I:iD w b (off+k) (.func (.func f.1) #[] f.2.toArray):=⟨r,t k _ (by simp[l])⟩
  refine aF ?_;refine Ct (f:=f.1) (fi:=[]) (ca:=f.2) (C f (dJ l)) rfl rfl aE (fun B st=>by have:=hf k f y l d B (st.started aB);simpa using this) ?_;refine aF ?_;refine eG (fun h=>?_) (fun h=>?_)
  .
   exact bK (h:=fun _ _=>by rw[Qt p d h])
  .
   exact fX (n - (k+1)) ⟨k+1,aA,rfl,(Sf p (by rw[d,show y=0 by omega])),rfl,rfl,rfl⟩
 .
  exact bK (h:=fun _ _=>by rw[Nj (fun j x=>p j aA)])
def aJT(A:Option Addr)(n c:Nat)(id:FuncId)(ca:List Value)(rows:List (List Value))(es:List Int)(w:World)(hs:aO (all w) 1 A n rows.flatten)(y:∀r∈rows,r.length=1)(I:rows.length=n)(hl:es.length=n)(F:(n:Int)<=9223372036854775806)(C:fW Tryz.prog id=true)
  (hf:∀(i:Nat) (r:List Value) (e:Int),rows[i]? =some r->es[i]? =some e->∀w',Below w.heap.size w w'->Cz id (r++ca).toArray w' (Rt (iv e) w')):
  Cz 155 #[.slice A n c,.func (.func id) #[] ca.toArray] w (Rt (iv (mQ es)) w):=by
 refine bQ func155 ntmps155 ?_;refine wC [(10,iv 0),(9,iv n),(8,.slice A n c),(1,.func (.func id) #[] ca.toArray)] ?_;refine gA (fun m e R H=>∃k:Nat,k<=n/\m=n - k/\(∀j,j < k->es[j]? =some 0)/\e=[(10,iv k),(9,iv n),(8,.slice A n c),(1,.func (.func id) #[] ca.toArray)]/\R=[all w]/\H=[]) n ⟨0,aA,rfl,fun j z=>absurd z aA,rfl,rfl,rfl⟩ fun m e R H D=>?_;obtain⟨k,G,rfl,t,rfl,rfl,rfl⟩:=D;refine aD ?_;refine eG (fun h=>?_) (fun h=>?_)
 .
  have p:k < n:=by omega
  obtain⟨r,l⟩:∃r,rows[k]? =some r:=⟨rows[k]' aA,cX _⟩
  obtain⟨x,d⟩:∃e,es[k]? =some e:=⟨es[k]' aA,cX _⟩
  obtain⟨b,off,rfl,E⟩:=hs.row y l p
  have o:=y r (dJ l)
  obtain⟨v,rfl⟩:∃v,r=[v]:=by match r,o with | [v],_=>exact⟨v,rfl⟩
  have c2:=E.at_ (j:=0) rfl
  refine aD ?_;refine cG (dat (k) (off+k*1)) ?_;refine Ct (f:=id) (fi:=[]) (ca:=ca) C rfl rfl aE (fun B st=>by have:=hf k [v] x l d B (st.started aB);simpa using this) ?_;refine aD ?_;refine eG (fun h=>?_) (fun h=>?_)
  .
   exact bK (h:=fun _ _=>by rw[Qt t d h])
  .
   exact fX (n - (k+1)) ⟨k+1,aA,rfl,(Sf t (by rw[d,show x=0 by omega])),rfl,rfl,rfl⟩
 .
  exact bK (h:=fun _ _=>by rw[Nj (fun j z=>t j aA)])
def aTG(A:Option Addr)(n c:Nat)(id:FuncId)(ca:List Value)(rows:List (List Value))(es:List Int)(w:World)(hs:aO (all w) 6 A n rows.flatten)(z:∀r∈rows,r.length=6)(p:∀r∈rows,∀u∈r,u.oneCell'=true)(J:rows.length=n)(hl:es.length=n)(F:(n:Int)<=9223372036854775806)(D:fW Tryz.prog id=true)
  (hf:∀(i:Nat) (r:List Value) (e:Int),rows[i]? =some r->es[i]? =some e->∀w',Below w.heap.size w w'->Cz id ([Value.agg r.toArray]++ca).toArray w' (Rt (iv e) w')):
  Cz 89 #[.slice A n c,.func (.func id) #[] ca.toArray] w (Rt (iv (mQ es)) w):=by
 refine bQ func89 ntmps89 ?_;refine wC [(10,iv 0),(9,iv n),(8,.slice A n c),(1,.func (.func id) #[] ca.toArray)] ?_;refine gA (fun m e R H=>∃k:Nat,k<=n/\m=n - k/\(∀j,j < k->es[j]? =some 0)/\e=[(10,iv k),(9,iv n),(8,.slice A n c),(1,.func (.func id) #[] ca.toArray)]/\R=[all w]/\H=[]) n ⟨0,aA,rfl,fun j B=>absurd B aA,rfl,rfl,rfl⟩ fun m e R H E=>?_;obtain⟨k,I,rfl,x,rfl,rfl,rfl⟩:=E;refine aF ?_;refine bP (fun h=>?_) (fun h=>?_)
 .
  refine sQ ?_;refine eR ?_;refine fO ?_;refine Gf ?_;refine fO ?_
  have t:k < n:=by omega
  obtain⟨r,l⟩:∃r,rows[k]? =some r:=⟨rows[k]' aA,cX _⟩
  obtain⟨y,o⟩:∃e,es[k]? =some e:=⟨es[k]' aA,cX _⟩
  obtain⟨b,off,rfl,G⟩:=hs.row z l t
  have d:=z r (dJ l)
  refine jS ?_;refine kd (dat (k) (off+k*6)) ?_;refine Gy 6 aJ rfl cI.a d aE ?_;refine eE fun K=>?_;refine uJ 0 rfl rfl rfl (by rw[show(Value.agg r.toArray).cells.size=6 by simp[Value.cells,d]];kernel_rfl) (p r (dJ l)) (by simp[Value.cells,d]) ?_;rw[Yk (by simp[Value.cells,d])];dsimp only[List.set,Value.cells];refine iJ ?_;refine fO ?_;refine jS ?_;refine jP rfl aE ?_;refine Gy 6 aJ rfl cI.a d aE ?_;refine Ct (f:=id) (fi:=[]) (ca:=ca) D rfl rfl aE (fun C st=>by have:=hf k r y l o C (st.started aB);simpa using this) ?_;refine aF ?_;refine eG (fun h=>?_) (fun h=>?_)
  .
   exact bK (h:=fun _ _=>by rw[Qt x o h])
  .
   exact fX (n - (k+1)) ⟨k+1,aA,rfl,(Sf x (by rw[o,show y=0 by omega])),rfl,rfl,rfl⟩
 .
  refine aF ?_;exact bK (h:=fun _ _=>by rw[Nj (fun j B=>x j aA)])
def aTF(A:Option Addr)(n c:Nat)(id:FuncId)(ca:List Value)(rows:List (List Value))(es:List Int)(w:World)(hs:aO (all w) 3 A n rows.flatten)(z:∀r∈rows,r.length=3)(p:∀r∈rows,∀u∈r,u.oneCell'=true)(J:rows.length=n)(hl:es.length=n)(F:(n:Int)<=9223372036854775806)(D:fW Tryz.prog id=true)
  (hf:∀(i:Nat) (r:List Value) (e:Int),rows[i]? =some r->es[i]? =some e->∀w',Below w.heap.size w w'->Cz id ([Value.agg r.toArray]++ca).toArray w' (Rt (iv e) w')):
  Cz 96 #[.slice A n c,.func (.func id) #[] ca.toArray] w (Rt (iv (mQ es)) w):=by
 refine bQ func96 ntmps96 ?_;refine wC [(10,iv 0),(9,iv n),(8,.slice A n c),(1,.func (.func id) #[] ca.toArray)] ?_;refine gA (fun m e R H=>∃k:Nat,k<=n/\m=n - k/\(∀j,j < k->es[j]? =some 0)/\e=[(10,iv k),(9,iv n),(8,.slice A n c),(1,.func (.func id) #[] ca.toArray)]/\R=[all w]/\H=[]) n ⟨0,aA,rfl,fun j B=>absurd B aA,rfl,rfl,rfl⟩ fun m e R H E=>?_;obtain⟨k,I,rfl,x,rfl,rfl,rfl⟩:=E;refine aF ?_;refine bP (fun h=>?_) (fun h=>?_)
 .
  refine sQ ?_;refine eR ?_;refine fO ?_;refine Gf ?_;refine fO ?_
  have t:k < n:=by omega
  obtain⟨r,l⟩:∃r,rows[k]? =some r:=⟨rows[k]' aA,cX _⟩
  obtain⟨y,o⟩:∃e,es[k]? =some e:=⟨es[k]' aA,cX _⟩
  obtain⟨b,off,rfl,G⟩:=hs.row z l t
  have d:=z r (dJ l)
  refine jS ?_;refine kd (dat (k) (off+k*3)) ?_;refine Gy 3 aJ rfl cI.a d aE ?_;refine eE fun K=>?_;refine uJ 0 rfl rfl rfl (by rw[show(Value.agg r.toArray).cells.size=3 by simp[Value.cells,d]];kernel_rfl) (p r (dJ l)) (by simp[Value.cells,d]) ?_;rw[Yk (by simp[Value.cells,d])];dsimp only[List.set,Value.cells];refine iJ ?_;refine fO ?_;refine jS ?_;refine jP rfl aE ?_;refine Gy 3 aJ rfl cI.a d aE ?_;refine Ct (f:=id) (fi:=[]) (ca:=ca) D rfl rfl aE (fun C st=>by have:=hf k r y l o C (st.started aB);simpa using this) ?_;refine aF ?_;refine eG (fun h=>?_) (fun h=>?_)
  .
   exact bK (h:=fun _ _=>by rw[Qt x o h])
  .
   exact fX (n - (k+1)) ⟨k+1,aA,rfl,(Sf x (by rw[o,show y=0 by omega])),rfl,rfl,rfl⟩
 .
  refine aF ?_;exact bK (h:=fun _ _=>by rw[Nj (fun j B=>x j aA)])
def aTE(A:Option Addr)(n c:Nat)(id:FuncId)(ca:List Value)(rows:List (List Value))(es:List Int)(w:World)(hs:aO (all w) 1 A n rows.flatten)(z:∀r∈rows,r.length=1)(p:∀r∈rows,∀u∈r,u.oneCell'=true)(J:rows.length=n)(hl:es.length=n)(F:(n:Int)<=9223372036854775806)(D:fW Tryz.prog id=true)
  (hf:∀(i:Nat) (r:List Value) (e:Int),rows[i]? =some r->es[i]? =some e->∀w',Below w.heap.size w w'->Cz id ([Value.agg r.toArray]++ca).toArray w' (Rt (iv e) w')):
  Cz 102 #[.slice A n c,.func (.func id) #[] ca.toArray] w (Rt (iv (mQ es)) w):=by
 refine bQ func102 ntmps102 ?_;refine wC [(10,iv 0),(9,iv n),(8,.slice A n c),(1,.func (.func id) #[] ca.toArray)] ?_;refine gA (fun m e R H=>∃k:Nat,k<=n/\m=n - k/\(∀j,j < k->es[j]? =some 0)/\e=[(10,iv k),(9,iv n),(8,.slice A n c),(1,.func (.func id) #[] ca.toArray)]/\R=[all w]/\H=[]) n ⟨0,aA,rfl,fun j B=>absurd B aA,rfl,rfl,rfl⟩ fun m e R H E=>?_;obtain⟨k,I,rfl,x,rfl,rfl,rfl⟩:=E;refine aF ?_;refine bP (fun h=>?_) (fun h=>?_)
 .
  refine sQ ?_;refine eR ?_;refine fO ?_;refine Gf ?_;refine fO ?_
  have t:k < n:=by omega
  obtain⟨r,l⟩:∃r,rows[k]? =some r:=⟨rows[k]' aA,cX _⟩
  obtain⟨y,o⟩:∃e,es[k]? =some e:=⟨es[k]' aA,cX _⟩
  obtain⟨b,off,rfl,G⟩:=hs.row z l t
  have d:=z r (dJ l)
  refine jS ?_;refine kd (dat (k) (off+k*1)) ?_;refine Gy 1 aJ rfl cI.a d aE ?_;refine eE fun K=>?_;refine uJ 0 rfl rfl rfl (by rw[show(Value.agg r.toArray).cells.size=1 by simp[Value.cells,d]];kernel_rfl) (p r (dJ l)) (by simp[Value.cells,d]) ?_;rw[Yk (by simp[Value.cells,d])];dsimp only[List.set,Value.cells];refine iJ ?_;refine fO ?_;refine jS ?_;refine jP rfl aE ?_;refine Gy 1 aJ rfl cI.a d aE ?_;refine Ct (f:=id) (fi:=[]) (ca:=ca) D rfl rfl aE (fun C st=>by have:=hf k r y l o C (st.started aB);simpa using this) ?_;refine aF ?_;refine eG (fun h=>?_) (fun h=>?_)
  .
   exact bK (h:=fun _ _=>by rw[Qt x o h])
  .
   exact fX (n - (k+1)) ⟨k+1,aA,rfl,(Sf x (by rw[o,show y=0 by omega])),rfl,rfl,rfl⟩
 .
  refine aF ?_;exact bK (h:=fun _ _=>by rw[Nj (fun j B=>x j aA)])
def aJU(A:Option Addr)(n c:Nat)(id:FuncId)(ca:List Value)(rows:List (List Value))(es:List Int)(w:World)(hs:aO (all w) 6 A n rows.flatten)(z:∀r∈rows,r.length=6)(p:∀r∈rows,∀u∈r,u.oneCell'=true)(J:rows.length=n)(hl:es.length=n)(F:(n:Int)<=9223372036854775806)(D:fW Tryz.prog id=true)
  (hf:∀(i:Nat) (r:List Value) (e:Int),rows[i]? =some r->es[i]? =some e->∀w',Below w.heap.size w w'->Cz id ([Value.agg r.toArray]++ca).toArray w' (Rt (iv e) w')):
  Cz 105 #[.slice A n c,.func (.func id) #[] ca.toArray] w (Rt (iv (mQ es)) w):=by
 refine bQ func105 ntmps105 ?_;refine wC [(10,iv 0),(9,iv n),(8,.slice A n c),(1,.func (.func id) #[] ca.toArray)] ?_;refine gA (fun m e R H=>∃k:Nat,k<=n/\m=n - k/\(∀j,j < k->es[j]? =some 0)/\e=[(10,iv k),(9,iv n),(8,.slice A n c),(1,.func (.func id) #[] ca.toArray)]/\R=[all w]/\H=[]) n ⟨0,aA,rfl,fun j B=>absurd B aA,rfl,rfl,rfl⟩ fun m e R H E=>?_;obtain⟨k,I,rfl,x,rfl,rfl,rfl⟩:=E;refine aF ?_;refine bP (fun h=>?_) (fun h=>?_)
 .
  refine sQ ?_;refine eR ?_;refine fO ?_;refine Gf ?_;refine fO ?_
  have t:k < n:=by omega
  obtain⟨r,l⟩:∃r,rows[k]? =some r:=⟨rows[k]' aA,cX _⟩
  obtain⟨y,o⟩:∃e,es[k]? =some e:=⟨es[k]' aA,cX _⟩
  obtain⟨b,off,rfl,G⟩:=hs.row z l t
  have d:=z r (dJ l)
  refine jS ?_;refine kd (dat (k) (off+k*6)) ?_;refine Gy 6 aJ rfl cI.a d aE ?_;refine eE fun K=>?_;refine uJ 0 rfl rfl rfl (by rw[show(Value.agg r.toArray).cells.size=6 by simp[Value.cells,d]];kernel_rfl) (p r (dJ l)) (by simp[Value.cells,d]) ?_;rw[Yk (by simp[Value.cells,d])];dsimp only[List.set,Value.cells];refine iJ ?_;refine fO ?_;refine jS ?_;refine jP rfl aE ?_;refine Gy 6 aJ rfl cI.a d aE ?_;refine Ct (f:=id) (fi:=[]) (ca:=ca) D rfl rfl aE (fun C st=>by have:=hf k r y l o C (st.started aB);simpa using this) ?_;refine aF ?_;refine eG (fun h=>?_) (fun h=>?_)
  .
   exact bK (h:=fun _ _=>by rw[Qt x o h])
  .
   exact fX (n - (k+1)) ⟨k+1,aA,rfl,(Sf x (by rw[o,show y=0 by omega])),rfl,rfl,rfl⟩
 .
  refine aF ?_;exact bK (h:=fun _ _=>by rw[Nj (fun j B=>x j aA)])
end Go.Proofs.YtmpkkaknjkffpaaGreatDoor
