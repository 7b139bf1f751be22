/- Iterators: their contract, a call of yield, a range over one. -/
import Derived.KernelRfl
import Derived.Laws.Cover3
import Derived.Recover
import Derived.Test.YtmpkkaknjkffpaaGreatDoorProg
import Derived.WalkSmall
import Derived.Test.YtmpkkaknjkffpaaGreatDoorWorldEndsK1
namespace Go.Proofs.YtmpkkaknjkffpaaGreatDoor
set_option linter.all false
set_option maxHeartbeats 4000000
set_option maxRecDepth 20000
open Go.RowKit Go.Proofs.Tryz
variable{w0 w:World}{R R' R0:List Piece}{P:Program}{nn d m fuel t j:Nat}{e e':Env}{Q:Exit→Act→World→Prop}{ops:Array Oper}{rest:List Oper}{r:Option Nat}{L Z:List Nat}{N:cO}{ty:TypeId}{pos:String}{aL:Array Edge}{K:Act→World→Prop}{listed:Array Bool}{v:Value}{op:Op}{want:Bool}
def nt(W:World)(F:Nat→Prop):Piece:=⟨W,fun b=>b < W.heap.size∧¬F b⟩
structure vV(w w':World):Prop where
 os:w'.os=w.os
 tape:w'.tape=w.tape
 output:w'.output=w.output
 size:w.heap.size≤w'.heap.size
theorem vV.refl(w:World):vV w w:=⟨rfl,rfl,rfl,Nat.le_refl _⟩
theorem vV.trans{a b c:World}(h:vV a b)(k:vV b c):vV a c:=⟨k.os.trans h.os,k.tape.trans h.tape,k.output.trans h.output,Nat.le_trans h.size k.size⟩
theorem iI.same{w w':World}{F a:Nat→Prop}(h:iI w w' F a):vV w w':=⟨h.os,h.tape,h.output,h.size⟩
structure aDb(w0 W:World)(R:List Piece)(F:Nat→Prop):Prop where
 same:vV w0 W
 ro:∀p∈R,∀b,p.Z b→b < W.heap.size∧¬F b∧W.heap[b]? =p.w.heap[b]?
section
variable{W W1:World}{H:List HP}{F F1:Nat→Prop}
theorem St.join(st:St w0 R H w):∃F,(HP.many H).sat F w∧(∀b,F b→b < w.heap.size)∧aDb w0 w R F:=by
 obtain⟨Z,F,l,e,k,f,hd⟩:=st.ex;refine⟨fun b=>∃i,F i b,⟨F,k,fun i b h=>⟨i,h⟩,fun i j b d h=>hd i j b d h⟩,fun b ⟨i,h⟩=>(f i b h).2,⟨⟨st.os,st.tape,st.output,st.size⟩,fun p a b c=>⟨l b (e p a b c).1,fun⟨i,h⟩=>(f i b h).1 (e p a b c).1,(e p a b c).2⟩⟩⟩
theorem aCI(e:aDb w0 W R F)(d:iI W W1 F F1)(hs:(HP.many H).sat F1 W1):St w0 R H W1:=by
 obtain⟨G,t,n,o⟩:=hs
 have h:=e.same.trans d.same
 refine⟨h.os,h.tape,h.output,h.size,fun b=>∃p∈R,p.Z b,G,fun b ⟨p,c,a⟩=>Nat.lt_of_lt_of_le (e.ro p c b a).1 d.size,fun p c b a=>⟨⟨p,c,a⟩,?_⟩,t,fun i b f=>⟨?_,(d.new b (n i b f)).2⟩,fun i j b l f=>o i j b l f⟩
 ·obtain⟨m,k,r⟩:=e.ro p c b a;exact(d.old b m k).trans r
 ·rintro⟨p,c,a⟩;obtain⟨m,k,_⟩:=e.ro p c b a;rcases(d.new b (n i b f)).1 with h | h
  ·exact k h
  ·omega
theorem aS2(n:aDb w0 W R F)(e:iI W W1 F F1)(hlt:∀b,F1 b→b < W1.heap.size)(hs:(HP.many H).sat F1 W1):St W1 (R++[nt W1 F1]) H W1:=by
 obtain⟨G,t,m,o⟩:=hs;refine⟨rfl,rfl,rfl,Nat.le_refl _,fun b=>b < W1.heap.size∧¬F1 b,G,fun b h=>h.1,fun p c b k=>?_,t,fun i b a=>⟨fun h=>h.2 (m i b a),hlt b (m i b a)⟩,fun i j b d a=>o i j b d a⟩;simp only[List.mem_append,List.mem_singleton] at c;rcases c with c | rfl
 ·obtain⟨l,f,r⟩:=n.ro p c b k;refine⟨⟨Nat.lt_of_lt_of_le l e.size,fun h=>?_⟩,(e.old b l f).trans r⟩;rcases(e.new b h).1 with h | h
  ·exact f h
  ·omega
 ·exact⟨k,rfl⟩
theorem aHD(st:St w0 R H w)(i:nt w0 F∈R):∃a,(HP.many H).sat a w∧(∀b,a b→b < w.heap.size)∧iI w0 w F a:=by
 obtain⟨a,j,f,e⟩:=st.join;refine⟨a,j,f,st.os,st.tape,st.output,st.size,fun b h=>⟨?_,f b h⟩,fun b h c=>(e.ro _ i b ⟨h,c⟩).2.2⟩;rcases Nat.lt_or_ge b w0.heap.size with d | d
 ·exact .inl (Classical.byContradiction fun c=>(e.ro _ i b ⟨d,c⟩).2.1 h)
 ·exact .inr d
end
def sO(L:List Nat):HP:=⟨fun F w=>L.Nodup∧∀D∈L,F D∧w.heap[D]? =some (.deferred (some [])),fun _ _ _ h b=>⟨h.1,fun D a=>⟨(h.2 D a).1,(b D (h.2 D a).1).trans (h.2 D a).2⟩⟩⟩
def yU(l:Nat)(L:List Nat)(b:Loop):HP:=⟨fun F w=>(F l∧w.heap[l]? =some (.loop b))∧(sO L).sat F w,fun F w c h a=>⟨⟨h.1.1,(a l h.1.1).trans h.1.2⟩,(sO L).loc F w c h.2 a⟩⟩
theorem aIe{l:Nat}{L:List Nat}{f rc':Loop}{F:Nat→Prop}{w:World}(h:(yU l L f).sat F w):(yU l L rc').sat F (w.putObj l (.loop rc')):=by
 obtain⟨⟨i,c⟩,d,a⟩:=h;refine⟨⟨i,World.putObj_heap_same (Array.getElem?_eq_some_iff.1 c).1⟩,d,fun D b=>⟨(a D b).1,?_⟩⟩;refine(World.putObj_heap_other (fun e=>?_)).trans (a D b).2;subst e
 have:=(a D b).2
 rw[c] at this;cases this
section
variable{H:List HP}
theorem Lp{Hs:List HP}{p:HP}:(Hs++[p])[Hs.length]? =some p:=by simp
theorem Wc{Hs:List HP}{p q:HP}:(Hs++[p]).set Hs.length q=Hs++[q]:=by simp
theorem St.aBj{Hs:List HP}{l:Nat}{h rc':Loop}(st:St w0 R (Hs++[yU l L h]) w):St w0 R (Hs++[yU l L rc']) (w.putObj l (.loop rc')):=by
 have:=st.wA (q:=yU l L rc') (w':=w.putObj l (.loop rc')) (i:=Hs.length) Lp aD rfl rfl rfl (fun F d c=>⟨F,aIe d,fun b a=>⟨.inl a,by simpa using c b a⟩,fun b a f=>World.putObj_heap_other (fun e=>f (e▸d.1.1))⟩)
 rwa [Wc] at this
theorem St.Ln{Hs:List HP}{l:Nat}{a:Loop}(st:St w0 R (Hs++[yU l L a]) w):w.heap[l]? =some (.loop a):=(st.sat (i:=Hs.length) Lp).choose_spec.1.2
theorem St.aFf{Hs:List HP}{l:Nat}{h rc':Loop}(st:St w0 R (Hs++[yU l L h]) w):St w0 R (Hs++[sO L]) (w.putObj l (.loop rc')):=by
 have:=st.wA (q:=sO L) (w':=w.putObj l (.loop rc')) (i:=Hs.length) Lp aD rfl rfl rfl (fun F d c=>⟨F,(aIe (rc':=rc') d).2,fun b a=>⟨.inl a,by simpa using c b a⟩,fun b a f=>World.putObj_heap_other (fun e=>f (e▸d.1.1))⟩)
 rwa [Wc] at this
theorem St.aMU{Hs:List HP}{a:Loop}(st:St w0 R (Hs++[sO L]) w):St w0 R (Hs++[yU (w.heap.size+1) (w.heap.size::L) a]) ((w.alloc (.deferred (some []))).alloc (.loop a)):=by
 have e:Below w.heap.size w ((w.alloc (.deferred (some []))).alloc (.loop a)):=((Below.refl _ w).alloc (Nat.le_refl _) _).alloc aD _
 have j:((w.alloc (.deferred (some []))).alloc (.loop a)).heap[w.heap.size+1]? =some (.loop a):=by
  have:=World.alloc_heap_new (w.alloc (.deferred (some []))) (.loop a)
  rwa [World.size_alloc] at this
 have k:((w.alloc (.deferred (some []))).alloc (.loop a)).heap[w.heap.size]? =some (.deferred (some [])):=
  (Below.heap_alloc _ _ _ aD).trans (World.alloc_heap_new w _)
 have o:((w.alloc (.deferred (some []))).alloc (.loop a)).heap.size=w.heap.size+1+1:=by simp
 have:=st.wA (q:=yU (w.heap.size+1) (w.heap.size::L) a) (i:=Hs.length) Lp e.size e.os e.tape e.output (fun F l d=>by
  refine⟨fun b=>F b∨(w.heap.size≤b∧b < w.heap.size+1+1),⟨⟨.inr ⟨aA,aA⟩,j⟩,?_,?_⟩,fun b c=>?_,fun b c _=>e.block b c⟩
  ·rw[List.nodup_cons];refine⟨fun n=>?_,l.1⟩
   have:=d _ (l.2 _ n).1
   omega
  ·intro D f;rcases List.mem_cons.1 f with rfl | f
   ·exact⟨.inr ⟨aA,aA⟩,k⟩
   ·obtain⟨m,p⟩:=l.2 D f;exact⟨.inl m,(e.block D (d D m)).trans p⟩
  ·rcases c with h | h
   ·exact⟨.inl h,by have:=d b h;omega⟩
   ·exact⟨.inr h.1,aA⟩)
 rwa [Wc] at this
def aCx(W1:World)(F1:Nat→Prop)(q c:HP):Ending→World→Prop:=fun y b=>(y=.returned (.bool true)∧∃a,q.sat a b∧iI W1 b F1 a)∨(y=.returned (.bool false)∧∃a,c.sat a b∧iI W1 b F1 a)
theorem iI.st{y:World}{u:Nat→Prop}{q:HP}{Z:Nat→Prop}{F:Nat→Nat→Prop}{i:Nat}(d:w.os=w0.os∧w.tape=w0.tape∧w.output=w0.output∧w0.heap.size≤w.heap.size)(x:∀b,Z b→b < w.heap.size)
  (l:∀p∈R,∀b,p.Z b→Z b∧w.heap[b]? =p.w.heap[b]?) (hs:∀(i:Nat) (p:HP),H[i]? =some p→p.sat (F i) w) (a:∀i b,F i b→¬Z b∧b < w.heap.size) (f:∀i j b,i≠j→F i b→¬F j b)
  (hlt:i < H.length) (z:q.sat u y) (c:iI w y (F i) u):St w0 R (H.set i q) y:=by
 refine⟨c.os.trans d.1,c.tape.trans d.2.1,c.output.trans d.2.2.1,Nat.le_trans d.2.2.2 c.size,Z,fun j=>if j=i then u else F j,fun b h=>Nat.lt_of_lt_of_le (x b h) c.size,fun p t b h=>?_,fun j r n=>?_,fun j b h=>?_,fun j k b A h=>?_⟩
 ·exact⟨(l p t b h).1,(c.old b (x b (l p t b h).1) (fun B=>(a i b B).1 (l p t b h).1)).trans (l p t b h).2⟩
 ·rw[List.getElem?_set] at n;split at n
  ·rename_i e;subst e
   first | (rw[if_pos hlt] at n;cases n) | cases n
   simpa using z
  ·rename_i e
   simp only[if_neg (Ne.symm e)];exact r.loc _ _ _ (hs j r n) (fun b C=>c.old b (a j b C).2 (f j i b (Ne.symm e) C))
 ·dsimp only at h;split at h
  ·refine⟨fun o=>?_,(c.new b h).2⟩;rcases(c.new b h).1 with h | h
   ·exact(a i b h).1 o
   ·have:=x b o;omega
  ·exact⟨(a j b h).1,Nat.lt_of_lt_of_le (a j b h).2 c.size⟩
 ·dsimp only at h⊢;split at h<;>split
  ·rename_i G I;omega
  ·rename_i D E
   intro m;rcases(c.new b h).1 with h | h
   ·exact f i k b aA h m
   ·have:=(a k b m).2;omega
  ·rename_i D E
   intro m;rcases(c.new b m).1 with m | m
   ·exact f j i b aA h m
   ·have:=(a j b h).2;omega
  ·exact f j k b A h
theorem aC6(i:Nat){B:World}{V:Nat→Prop}{d l:Nat}{ty:TypeId}{pos:String}{aL:Array Edge}{x:Operand}{args:List Operand}{vs:List Value}{tys:Array TypeId}{p q N:HP}
  (hx:e.ev x=some (.func (.yield l) #[] #[])) (Y:e.fZ args=some vs) (hd:d < nn) (E:nt B V∈R) (I:vV B w0) (hi:H[i]? =some p)
  (hy:∀W1 F1,p.sat F1 W1→(∀b,F1 b→b < W1.heap.size)→iI B W1 V F1→YieldAt Fence.wide 9 P l vs.toArray W1 (aCx W1 F1 q N))
  (k1:XK ⟨nn,[]⟩ w0 (KI r L P ops Q rest) ((d,.bool true)::e) R (H.set i q)) (k2:XK ⟨nn,[]⟩ w0 (KI r L P ops Q rest) ((d,.bool false)::e) R (H.set i N)):
  XK ⟨nn,[]⟩ w0 (KI r L P ops Q (⟨some d,.call {callee:=.value x,args:=args.toArray,argTypes:=tys},ty,pos,aL,none⟩::rest)) e R H:=fun a w G st=>by
 obtain⟨Z,F,U,n,M,k,C⟩:=st.ex
 have A:i < H.length:=by
  rcases Nat.lt_or_ge i H.length with h | h
  ·exact h
  ·rw[List.getElem?_eq_none h] at hi;cases hi
 have o:vV B w:=I.trans ⟨st.os,st.tape,st.output,st.size⟩
 obtain⟨fn,t,f,u,D,j⟩:=hy w (F i) (M i p hi) (fun b z=>(k i b z).2) ⟨o.os,o.tape,o.output,o.size,fun b z=>⟨by
  rcases Nat.lt_or_ge b B.heap.size with h | h
  ·exact .inl (Classical.byContradiction fun J=>(k i b z).1 (n _ E b ⟨h,J⟩).1)
  ·exact .inr h,(k i b z).2⟩,fun b z J=>(n _ E b ⟨z,J⟩).2⟩
 refine wpListIn_plain rfl fun K T=>?_;refine⟨fun _ _=>trivial,?_⟩;rw[aDZ r _ rfl,Vv]
 have O:(execOp a.eval (⟨some d,.call {callee:=.value x,args:=args.toArray,argTypes:=tys},ty,pos,aL,none⟩:Oper)).run P w=.ok (.round l fn t f u) w:=by
  simp[execOp,resolve,G.ev hx,Deferred.ofValue,invoke,G.fZ Y,D]
 rw[O];refine⟨fun _=>by omega,?_⟩
 have m:RoundIn (Fr r) 8 P l fn t f u w (aCx w (F i) q N):=⟨j.1,fun c X _=>j.2 c X (room_wide _)⟩
 refine m.mono ?_;rintro y W' (⟨rfl,F',hq,ht⟩ | ⟨rfl,F',hq,ht⟩)
 ·refine T _ _ ?_;rw[Bj];exact k1 _ _ (G.put hd _) (iI.st ⟨st.os,st.tape,st.output,st.size⟩ U n M k C A hq ht)
 ·refine T _ _ ?_;rw[Bj];exact k2 _ _ (G.put hd _) (iI.st ⟨st.os,st.tape,st.output,st.size⟩ U n M k C A hq ht)
def Iter(P:Program)(g:FuncId)(lb:List Value)(encs:List (List Value))(p:Piece):Prop:=
 ∀(l:Nat) (J f:Nat→HP) (W:World) (F:Nat→Prop),p.Le (all W)→(∀b,p.Z b→¬F b)→(J 0).sat F W→(∀b,F b→b < W.heap.size)→
  (∀(k:Nat) (h:List Value) (a:World) (c:Nat→Prop),encs[k]? =some h→(J k).sat c a→(∀b,c b→b < a.heap.size)→iI W a F c→YieldAt Fence.wide 9 P l h.toArray a (aCx a c (J (k+1)) (f (k+1))))→
  Calls P g (Value.func (.yield l) #[] #[]::lb).toArray W fun y e=>(∃v,y=.returned v)∧∃d,iI W e F d∧((J encs.length).sat d e∨∃k,k < encs.length∧(f (k+1)).sat d e)
def Ye:List Nat→List Value→Env→Env
 | p::ps,v::vs,e=>Ye ps vs ((p,v)::e)
 | _,_,e=>e
theorem eH.bind:∀{ps:List Nat} {vs:List Value} {e:Env} {a:Act},eH ⟨nn,[]⟩ e a→(∀p∈ps,p < nn)→eH ⟨nn,[]⟩ (Ye ps vs e) {tmps:=(ps.zip vs).foldl (fun t (p,v)=>t.setIfInBounds p v) a.tmps,defers:=a.defers}
 | [],vs,e,a,h,_=>h
 | p::ps,[],e,a,h,_=>h
 | p::ps,v::vs,e,a,h,hp=>eH.bind (a:=a.put (some p) v) (h.put (hp p aD) v) (fun q b=>hp q (by simp[b]))
theorem aC7{gf:FuncId}{lb:List Value}{encs:List (List Value)}{p:Piece}{g:Operand}{ps:List Nat}{assign body:Code}(hg:e.ev g=some (.func (.func gf) #[] lb.toArray))(hf:fJ P gf=true)(hit:Iter P gf lb encs p)(hp:p∈R)
  (hps:∀vs∈encs,vs.length=ps.length) (hpN:∀q∈ps,q < nn) (Hs Hx:Nat→List HP) (Mid:Nat→List Value→Env→List HP→Prop) (h0:H=Hs 0++[sO L])
  (hassign:∀(l k:Nat) (vs:List Value) (W1:World) (q:Piece) (X:HP),encs[k]? =some vs→vV w0 W1→XK ⟨nn,[]⟩ W1 (KC (some l) [] P assign (Fx fun a w=>∃e1 H1,Mid k vs e1 H1∧eH ⟨nn,[]⟩ e1 a∧St W1 (R++[q]) (H1++[X]) w)) (Ye ps vs e) (R++[q]) (Hs k++[X]))
  (hbody:∀(l k:Nat) (vs:List Value) (W1:World) (q:Piece) (X:HP) (e1:Env) (H1:List HP),encs[k]? =some vs→vV w0 W1→Mid k vs e1 H1→
   XK ⟨nn,[]⟩ W1 (KC (some l) [] P body (fun x _ w=>(x=.normal∧St W1 (R++[q]) (Hs (k+1)++[X]) w)∨(x=.ret∧St W1 (R++[q]) (Hx (k+1)++[X]) w))) e1 (R++[q]) (H1++[X]))
  (hdone:∀D,XK ⟨nn,[]⟩ w0 (KQ (D::L) Q .normal) e R (Hs encs.length++[sO (D::L)])) (aNp:∀D k,k < encs.length→XK ⟨nn,[]⟩ w0 (KC none (D::L) P .ret Q) e R (Hx (k+1)++[sO (D::L)])):
  XK ⟨nn,[]⟩ w0 (KC none L P (Code.rangeFunc g ps.toArray assign body) Q) e R H:=fun a w hr st=>by
 subst h0;unfold fJ at hf;cases hq:P.funcs[gf]? with
 | none=>simp[hq] at hf
 | some fnn=>
 simp[hq] at hf;obtain⟨hf1,Qq⟩:=hf
 have eg:∀args w,(callFunc gf args).run P w=.ok (.enter gf args) w:=fun args w=>by
  cases hb:fnn.body with
  | none=>simp[hb] at Qq
  | some c=>simp[callFunc,hq,hf1,hb]
 refine wpIn_rangeFunc (F:=Fence.wide) fun fn hfn=>?_
 let vD:LoopState→Option Code→Loop:=fun s pe=>{state:=s,pending:=pe,fn,tmps:=a.tmps,params:=ps.toArray,assign,body,defers:=w.heap.size}
 have Um:St w0 R (Hs 0++[yU (w.heap.size+1) (w.heap.size::L) (vD .ready none)]) ((w.alloc (.deferred (some []))).alloc (.loop (vD .ready none))):=st.aMU
 obtain⟨W1,hW1⟩:∃W1,(w.alloc (.deferred (some []))).alloc (.loop (vD .ready none))=W1:=⟨_,rfl⟩
 rw[hW1] at Um;obtain⟨F,aNo,hlt,hbase⟩:=Um.join
 refine⟨w.heap.size+1,[aBg w.heap.size],W1,{target:=.fn (.func gf) lb.toArray,args:=#[.func (.yield (w.heap.size+1)) #[] #[]]},W1,gf,#[.func (.yield (w.heap.size+1)) #[] #[]]++lb.toArray,W1,
  by rw[←hW1];exact run_enterLoop_outer _ _ _ _ _,?_,fun _ _=>trivial,by simp[invoke,go_sem,eg],fun h=>by simp[Fence.wide] at h,?_⟩
 ·have:=hr.ev hg
  rw[Vv];simp only[resolve,this];simp[go_sem]
 refine callsIn_wide.2 ?_
 have aB7:=hit (w.heap.size+1) (fun k=>HP.many (Hs k++[yU (w.heap.size+1) (w.heap.size::L) (vD .ready none)])) (fun k=>HP.many (Hx k++[yU (w.heap.size+1) (w.heap.size::L) (vD .done (some .ret))])) W1 F
  (fun b hb=>⟨(hbase.ro p hp b hb).1,(hbase.ro p hp b hb).2.2⟩) (fun b hb=>(hbase.ro p hp b hb).2.1) aNo hlt ?_
 ·rw[show(#[Value.func (.yield (w.heap.size+1)) #[] #[]]++lb.toArray)=(Value.func (.yield (w.heap.size+1)) #[] #[]::lb).toArray by simp];refine aB7.mono ?_;rintro y W2 ⟨⟨v,rfl⟩,F2,ht,h | ⟨k,hk,h⟩⟩
  ·have Cy:=aCI hbase ht h
   refine⟨none,_,run_endLoop Cy.Ln (by simp[vD]),?_⟩
   have:=hdone w.heap.size a _ hr (Cy.aFf (rc':={vD .ready none with state:=.exhausted}))
   unfold KQ mk at this;rw[hr.defers] at this;unfold mk;rw[hr.defers];exact this
  ·have Cy:=aCI hbase ht h
   refine⟨some .ret,_,run_endLoop Cy.Ln (by simp[vD]),?_⟩
   have:=aNp w.heap.size k hk a _ hr (Cy.aFf (rc':={vD .done (some .ret) with state:=.exhausted}))
   unfold KC mk at this;rw[hr.defers] at this;unfold mk;rw[hr.defers];exact this
 ·intro k vs W2 F2 hvs Ir aNu ht2
  have Cy:=aCI hbase ht2 Ir
  have hl2:=Cy.Ln
  have hvl:=hps vs (List.mem_of_getElem? hvs)
  refine⟨fn,_,assign,body,run_yield hl2 (by simp[vD,hvl]),roundIn_of_wpIn (F:=Fence.wide) hfn ?_⟩
  have stR:=aS2 hbase ht2 aNu Ir
  have hsame:vV w0 W2:=hbase.same.trans ht2.same
  have aFx:eH ⟨nn,[]⟩ (Ye ps vs e) {tmps:=(ps.zip vs).foldl (fun t (p,v)=>t.setIfInBounds p v) a.tmps,defers:=a.defers}:=eH.bind hr hpN
  rw[hr.defers] at aFx
  have h1:=hassign (w.heap.size+1) k vs W2 (nt W2 F2) _ hvs hsame _ _ aFx stR
  unfold KC at h1;rw[Vu] at h1;simp only[vD,List.zip_toArray,List.foldl_toArray',List.size_toArray];refine wpIn_mono h1 ?_;rintro x a1 W3 hx;cases x with
  | normal =>
   obtain⟨e1,H1,hmid,Fz,yZ⟩:=hx;refine⟨_,run_beginRound yZ.Ln rfl,?_⟩
   have st4:=yZ.aBj (rc':=vD .busy none)
   have h2:=hbody (w.heap.size+1) k vs W2 (nt W2 F2) _ e1 H1 hvs hsame hmid a1 _ Fz st4
   unfold KC at h2;rw[Vu] at h2;refine wpIn_mono h2 ?_;rintro x a4 W4 (⟨rfl,Hu⟩ | ⟨rfl,Hu⟩)
   ·refine⟨_,_,run_endRound none Hu.Ln,.inl ⟨rfl,?_⟩⟩;obtain⟨F',h3,_,h4⟩:=aHD (Hu.aBj (rc':=vD .ready none)) (by simp:nt W2 F2∈R++[nt W2 F2]);exact⟨F',h3,h4⟩
   ·refine⟨_,_,run_endRound (some .ret) Hu.Ln,.inr ⟨rfl,?_⟩⟩;obtain⟨F',h3,_,h4⟩:=aHD (Hu.aBj (rc':=vD .done (some .ret))) (by simp:nt W2 F2∈R++[nt W2 F2]);exact⟨F',h3,h4⟩
  | _=>exact hx.elim
theorem Ze{f:FuncId}{fn:Func}{c:Code}{vs:List Value}{w:World}{a:Ending→World→Prop}(hf:P.funcs[f]? =some fn)(o:fn.body=some c)(A:fn.ntmps=nn)(hl:vs.length≤nn){R:List Piece}{H:List HP}(st:St w R H w)
  (h:XK ⟨nn,[]⟩ w (KC none [] P c (bodyPostM Fence.wide 9 P fn a)) (Cd 0 vs) R (H++[sO []])):Calls P f vs.toArray w a:=by
 refine(callsIn_wide (n:=9)).1 (callsIn_of_wp_marks hf o trivial ?_ rfl)
 have:=h {tmps:=vs.toArray++Array.replicate (fn.ntmps - vs.toArray.size) undef,defers:=[]} w ⟨?_,rfl,fun t v x=>?_⟩ ?_
 ·unfold KC at this;rw[Vu] at this;exact this
 ·simp;omega
 ·obtain⟨_,e⟩:=Sg vs 0 t v x;rw[Nat.sub_zero] at e
  have l:t < vs.length:=by
   rcases Nat.lt_or_ge t vs.length with h | h
   ·exact h
   ·rw[List.getElem?_eq_none h] at e;cases e
  rw[Array.getElem?_append_left (by simpa using l)]
  simpa using e
 ·obtain⟨Z,F,u,z,r,hf,hd⟩:=st.ex;refine⟨st.os,st.tape,st.output,st.size,Z,fun i b=>i < H.length∧F i b,u,z,fun i p d=>?_,fun i b h=>hf i b h.2,fun i j b m h k=>hd i j b m h.2 k.2⟩;rcases Nat.lt_or_ge i H.length with h | h
  ·rw[List.getElem?_append_left h] at d
   have:=r i p d
   show p.sat (fun b=>i < H.length∧F i b) w
   rwa [show(fun b=>i < H.length∧F i b)=F i by funext b;simp[h]]
  ·rw[List.getElem?_append_right h] at d
   have:i - H.length=0:=by
    rcases Nat.eq_zero_or_pos (i - H.length) with h | h
    ·exact h
    ·rw[List.getElem?_eq_none (by simp;omega)] at d;cases d
   rw[this] at d;simp at d;subst d;exact⟨List.nodup_nil,fun D y=>by cases y⟩
theorem aBn{fn:Func}{tmps:Array Value}{Post:Ending→World→Prop}{v:Value}:∀(L:List Nat) (Hs:List HP) (w:World),St w0 R (Hs++[sO L]) w→(∀w,St w0 R Hs w→(results fn tmps).run P w=.ok v w∧Post (.returned v) w)→
  LeavesInM Fence.wide 9 P fn tmps Post (L.map aBg) .returning w
 | [], Hs, w, st, h => ⟨v, h w (st.weak (fun _ hp => hp) id (fun _ _ _ _ h => h) (fun i p hi => by
   have:i < Hs.length:=by
    rcases Nat.lt_or_ge i Hs.length with h | h
    ·exact h
    ·rw[List.getElem?_eq_none h] at hi;cases hi
   show(Hs++[sO []])[i]? =some p
   rw[List.getElem?_append_left this];exact hi))⟩
 | D::L,Hs,w,st,h=>by
  obtain⟨F,hF⟩:=st.sat (i:=Hs.length) Lp
  have hD:=(hF.2 D aD).2
  refine⟨aD,.inl ⟨D,_,rfl,run_takeDeferred hD,aBn L Hs _ ?_ h⟩⟩
  have:=st.wA (q:=sO L) (w':=w.putObj D (.deferred none)) (i:=Hs.length) Lp aD rfl rfl rfl (fun F hF hlt=>⟨F,⟨(List.nodup_cons.1 hF.1).2,fun D' hD'=>⟨(hF.2 D' (by simp[hD'])).1,(World.putObj_heap_other (fun e:D'=D=>(List.nodup_cons.1 hF.1).1 (e▸hD'))).trans (hF.2 D' (by simp[hD'])).2⟩⟩,fun b hb=>⟨.inl hb,by simpa using hlt b hb⟩,fun b hb hn=>World.putObj_heap_other (fun e=>hn (e▸(hF.2 D aD).1))⟩)
  rwa [Wc] at this
theorem Nv{fn:Func}{b:Ending→World→Prop}{x:Exit}{Hs:List HP}(hx:x=.ret∨x=.normal)(d:fn.results=#[])(h:∀w,St w0 R Hs w→b (.returned (.tuple #[])) w):XK ⟨nn,[]⟩ w0 (KQ L (bodyPostM Fence.wide 9 P fn b) x) e R (Hs++[sO L]):=fun a w c st=>by
 have:=aBn (P:=P) (fn:=fn) (tmps:=a.tmps) (v:=.tuple #[]) L Hs w st (fun w st=>⟨results_none d _ _ _,h w st⟩)
 rcases hx with rfl | rfl
 ·unfold KQ mk;rw[c.defers];exact this
 ·unfold KQ mk;rw[c.defers];exact this
theorem aSn{fn:Func}{b:Ending→World→Prop}{Hs:List HP}{t:Nat}{v:Value}(f:fn.results=#[.tmp t])(d:e.get t=some v)(h:∀w,St w0 R Hs w→b (.returned v) w):XK ⟨nn,[]⟩ w0 (KQ L (bodyPostM Fence.wide 9 P fn b) .ret) e R (Hs++[sO L]):=fun a w c st=>by
 have:=aBn (P:=P) (fn:=fn) (tmps:=a.tmps) (v:=v) L Hs w st (fun w st=>⟨by rw[results_tmp f,Array.getD_eq_getD_getElem?,c.get t v d];rfl,h w st⟩)
 unfold KQ mk;rw[c.defers];exact this
theorem aSi{K:Act→World→Prop}(h:XK ⟨nn,[]⟩ w0 K e R H):XK ⟨nn,[]⟩ w0 (Fx K .normal) e R H:=h
theorem aCB{M:Env→List HP→Prop}{H1:List HP}{X:HP}(hm:M e H1):XK ⟨nn,[]⟩ w0 (KQ [] (Fx fun a w=>∃b H1,M b H1∧eH ⟨nn,[]⟩ b a∧St w0 R (H1++[X]) w) .normal) e R (H1++[X]):=fun a w c st=>⟨e,H1,hm,by rw[Vu];exact c,st⟩
theorem aCA{b:List HP}:XK ⟨nn,[]⟩ w0 (KQ L (fun x _ w=>(x=.normal∧St w0 R H w)∨(x=.ret∧St w0 R b w)) .normal) e R H:=fun a w c st=>.inl ⟨rfl,st⟩
theorem aH4{b:List HP}:XK ⟨nn,[]⟩ w0 (KQ L (fun x _ w=>(x=.normal∧St w0 R b w)∨(x=.ret∧St w0 R H w)) .ret) e R H:=fun a w c st=>.inr ⟨rfl,st⟩
theorem aCJ{W:World}{F:Nat→Prop}{p:Piece}{J:HP}(hp:p.Le (all W))(hd:∀b,p.Z b→¬F b)(hs:J.sat F W)(hF:∀b,F b→b < W.heap.size):St W [p,nt W F] [J] W:=by
 have st:=aCH hs hF
 obtain⟨Z,G,f,e,hs,h,c⟩:=st.ex;refine⟨st.os,st.tape,st.output,st.size,Z,G,f,fun q d b a=>?_,hs,h,c⟩;simp only[List.mem_cons,List.not_mem_nil,or_false] at d;rcases d with rfl | rfl
 ·exact⟨(e (nt W F) (by simp[nt]) b ⟨(hp b a).1,hd b a⟩).1,(hp b a).2⟩
 ·exact e (nt W F) (by simp[nt]) b a
end
def Mo(ops:Array Oper):Bool:=(List.range ops.size).all fun j=>match ops[j]? with
 | some o=>o.after.toList.all fun x=> !(Region.binds .any x)||decide (x.on < j)
 | none=>true
def aBC(l:List Oper)(m:Nat):Bool:=(l.take m).all fun o=>match o.guard with
 | some (j,_)=>decide (j < m)
 | none=>true
theorem Xl{ops:Array Oper}(h:Mo ops=true){j:Nat}{o:Oper}(ho:ops[j]? =some o):∀x∈o.after,Region.binds .any x=true→x.on < j:=fun x b a=>by
 have c:=(Array.getElem?_eq_some_iff.1 ho).1
 unfold Mo at h;simp only[List.all_eq_true,List.mem_range] at h
 have:=h j c
 rw[ho] at this;simp only[List.all_eq_true] at this
 have:=this x (by simpa using b)
 simpa[a] using this
theorem Iu{l:Array Bool}{i:Nat}(h:i < l.size):l.getD i true=l.getD i false:=by simp[h]
def Jm(k:Nat)(listed:Array Bool):Prop:=(∀i,i < k→listed.getD i false=true)∧∀i,k≤i→listed.getD i false=false
theorem aKY{ops:Array Oper}{k:Nat}{listed:Array Bool}(f:Mo ops=true)(hd:Down ops listed)(hk:k < ops.size)(l:∀j,k≤j→j < ops.size→Hr ops j=true)(n:listed.size=ops.size)(a:Jm k listed):k∈Region.ready .any ops listed∧∀i∈Region.ready .any ops listed,i=k:=by
 constructor
 ·refine mem_ready.2 ⟨?_,_,Array.getElem?_eq_getElem hk,fun x m e=>a.1 _ (Xl f (Array.getElem?_eq_getElem hk) x m e)⟩;rw[Iu aA];exact a.2 k (Nat.le_refl _)
 ·intro i d;obtain⟨c,o,p,r⟩:=mem_ready.1 d
  have b:=(Array.getElem?_eq_some_iff.1 p).1
  rw[Iu aA] at c;rcases Nat.lt_trichotomy i k with h | h | h
  ·rw[a.1 i h] at c;cases c
  ·exact h
  ·have:=aAu hd d (l i aA b) h
   rw[a.2 k (Nat.le_refl _)] at this;cases this
theorem Jm.next{k:Nat}{listed:Array Bool}(h:Jm k listed)(hk:k < listed.size):Jm (k+1) (listed.setIfInBounds k true):=by
 refine⟨fun i a=>?_,fun i a=>?_⟩
 ·by_cases e:k=i
  ·subst e;simp[hk]
  ·rw[getD_set_ne false e];exact h.1 i aA
 ·rw[getD_set_ne false aA];exact h.2 i aA
section
variable{H:List HP}
theorem aJ2{ops:Array Oper}(hE:Mo ops=true):∀(fuel k:Nat) (listed:Array Bool) (a:Act) (w:World),k≤ops.size→ops.size≤k+fuel→Down ops listed→(∀j,k≤j→j < ops.size→Hr ops j=true)→listed.size=ops.size→Jm k listed→
  wpListIn (Fr r) 9 P ops Q (ops.toList.drop k) a w→wpAnyIn (Fr r) 9 P .any ops Q fuel listed a w:=by
 have none:∀(k:Nat) (listed:Array Bool),k=ops.size→listed.size=ops.size→Jm k listed→Region.ready .any ops listed=[]:=by
  intro k listed hk hsz hu;cases hr:Region.ready .any ops listed with
  | nil=>rfl
  | cons i is=>
   exfalso;obtain⟨h1,o,ho,_⟩:=mem_ready.1 (by rw[hr];simp:i∈Region.ready .any ops listed)
   have hlt:=(Array.getElem?_eq_some_iff.1 ho).1
   rw[Iu aA,hu.1 i aA] at h1;cases h1
 intro fuel
 induction fuel with
 | zero=>
  intro k listed a w hk hk2 hd ht hsz hu h;rw[List.drop_eq_nil_of_le (by simp;omega)] at h;exact⟨none k listed aA hsz hu,h⟩
 | succ fuel ih =>
  intro k listed a w hk hk2 hd ht hsz hu h
  by_cases hkn:k < ops.size
  ·obtain⟨h1,h2⟩:=aKY hE hd hkn ht hsz hu;refine⟨fun hn=>absurd h1 (by rw[hn];simp),fun i hi=>?_⟩
   have:=h2 i hi
   subst this
   have aNw:ops[i]? =some (ops[i]'hkn):=Array.getElem?_eq_getElem hkn
   have aN5:ops.toList.drop i=ops[i]'hkn::ops.toList.drop (i+1):=by
    rw[←List.getElem_cons_drop (by simpa using hkn)];simp
   rw[aN5] at h;unfold wpListIn at h;unfold wpOpIn;rw[aNw]
   have key:∀a w,wpListIn (Fr r) 9 P ops Q (ops.toList.drop (i+1)) a w→wpAnyIn (Fr r) 9 P .any ops Q fuel (listed.setIfInBounds i true) a w:=fun a w h=>ih (i+1) _ a w aA aA (hd.lS hi) (fun j hj=>ht j aA) (by simpa using hsz) (hu.next aA) h
   dsimp only;split
   ·rename_i hw
    rw[if_pos hw] at h;exact Oper.wpIn_mono key h
   ·rename_i hw
    rw[if_neg hw] at h;exact⟨h.1,key _ _ h.2⟩
  ·rw[List.drop_eq_nil_of_le (by simp;omega)] at h
   have hn:=none k listed aA hsz hu
   exact⟨fun _=>h,fun i hi=>by rw[hn] at hi;cases hi⟩
structure Rel(ops:Array Oper)(m:Nat)(listed l':Array Bool):Prop where
 lo:∀i,i < m→listed.getD i false=l'.getD i false
 hi:∀i,m≤i→listed.getD i false=false
 s1:listed.size=ops.size
 s2:l'.size=m
 le:m≤ops.size
theorem Rel.lS{ops:Array Oper}{m i:Nat}{listed a:Array Bool}(h:Rel ops m listed a)(hi:i < m):Rel ops m (listed.setIfInBounds i true) (a.setIfInBounds i true):=by
 have d:=h.le
 have l:=h.s1
 have c:=h.s2
 refine⟨fun j b=>?_,fun j b=>?_,by simpa using h.s1,by simpa using h.s2,h.le⟩
 ·by_cases e:i=j
  ·subst e
   have f:i < a.size:=by omega
   have k:i < listed.size:=by omega
   simp[f,k]
  ·rw[getD_set_ne false e,getD_set_ne false e];exact h.lo j b
 ·rw[getD_set_ne false aA];exact h.hi j b
theorem aIF{o:Oper}{a:Act}{w:World}{K e f:Act→World→Prop}(h:o.wp P a w K (Fx e)):o.wp P a w K (Fx f):=by
 unfold Oper.wp at h⊢;generalize (execOp a.eval o).run P w=res at h⊢;cases res with
 | ok n w'=>cases n<;>first | exact h | exact Calls.mono h (fun x c b=>by cases x<;>first | exact b | exact b.elim | (obtain⟨_,_,d⟩:=b;exact d.elim))
 | halt x w'=>cases x<;>exact h
theorem aRj{l:List Oper}{m:Nat}(hm:m≤l.length)(O:Mo l.toArray=true)(Y:Cv l.toArray m=true)(hG:aBC l m=true)(hp:(l.take m).all Df=true):
  ∀(fuel:Nat) (listed d:Array Bool) (a:Act) (w:World),Rel l.toArray m listed d→Down l.toArray listed→wpAny P .any (l.take m).toArray (Fx (KI r L P l.toArray Q (l.drop m))) fuel d a w→
   wpAnyIn (Fr r) 9 P .any l.toArray Q (fuel+(l.length - m)) listed (mk L a) w:=by
 have t:∀i,i < m→(l.take m).toArray[i]? =l.toArray[i]? :=fun i n=>by simp[List.getElem?_take,n]
 have e:∀{listed d:Array Bool},Rel l.toArray m listed d→∀i,i < m→(i∈Region.ready .any l.toArray listed↔i∈Region.ready .any (l.take m).toArray d):=by
  intro listed d c i n
  have H:=c.s1
  have Ir:=c.s2
  have Z:=c.le
  rw[mem_ready,mem_ready,Iu (l:=listed) aA,Iu (l:=d) aA,c.lo i n,t i n];constructor
  ·rintro⟨U,o,k,f⟩;exact⟨U,o,k,fun x E A=>by have:=Xl O k x E A;rw[←c.lo _ aA];exact f x E A⟩
  ·rintro⟨U,o,k,f⟩;exact⟨U,o,k,fun x E A=>by have:=Xl O k x E A;rw[c.lo _ aA];exact f x E A⟩
 have M:∀j,m≤j→j < l.toArray.size→Hr l.toArray j=true:=fun j hj C=>by
  unfold Cv at Y;simp only[List.all_eq_true,List.mem_range,Bool.or_eq_true,decide_eq_true_eq] at Y;exact(Y j C).resolve_left aA
 have B:∀{listed d:Array Bool},Rel l.toArray m listed d→Region.ready .any (l.take m).toArray d=[]→Jm m listed:=by
  intro listed d c K;refine⟨fun i=>?_,c.hi⟩
  induction i using Nat.strongRecOn with
  | _ i ih =>
   intro n;cases A:listed.getD i false with
   | true=>rfl
   | false =>
    exfalso
    have H:=c.s1
    have Z:=c.le
    have F:i < l.toArray.size:=by omega
    have:i∈Region.ready .any l.toArray listed:=mem_ready.2 ⟨by rw[Iu aA];exact A,_,Array.getElem?_eq_getElem F,fun x E X=>by
     have:=Xl O (Array.getElem?_eq_getElem F) x E X
     exact ih x.on this aA⟩
    rw[e c i n,K] at this;cases this
 have fin:∀{fuel:Nat} {listed d:Array Bool} {a:Act} {w:World},Rel l.toArray m listed d→Down l.toArray listed→Region.ready .any (l.take m).toArray d=[]→KI r L P l.toArray Q (l.drop m) a w→wpAnyIn (Fr r) 9 P .any l.toArray Q (fuel+(l.length - m)) listed (mk L a) w:=by
  intro fuel listed d a w c hd K hk;refine aJ2 O _ m listed _ w (by simpa using hm) (by simp;omega) hd M c.s1 (B c K) ?_;unfold KI at hk
  simpa using hk
 intro fuel
 induction fuel with
 | zero=>
  intro listed d a w c hd h;exact fin c hd h.1 h.2
 | succ fuel ih =>
  intro listed d a w c hd h;cases D:Region.ready .any (l.take m).toArray d with
  | nil=>exact fin c hd D (h.1 D)
  | cons i0 is =>
   have I:i0∈Region.ready .any (l.take m).toArray d:=by rw[D];simp
   have J:i0 < m:=by
    obtain⟨_,o,k,_⟩:=mem_ready.1 I
    have:=(Array.getElem?_eq_some_iff.1 k).1
    simp at this;omega
   have u:=(e c i0 J).2 I
   rw[show fuel+1+(l.length - m)=(fuel+(l.length - m))+1 by omega];refine⟨fun K=>absurd u (by rw[K];simp),fun i n=>?_⟩;obtain⟨U,o,k,_⟩:=mem_ready.1 n
   have C:=(Array.getElem?_eq_some_iff.1 k).1
   by_cases p:i < m
   ·have hi':=(e c i p).1 n
    have f:=h.2 i hi'
    unfold wpOp at f;unfold wpOpIn;rw[t i p,k] at f;rw[k];dsimp only at f⊢
    have z:Region.wanted o (yielded l.toArray (mk L a).tmps)=Region.wanted o (yielded (l.take m).toArray a.tmps):=by
     show Region.wanted o (yielded l.toArray a.tmps)=_
     cases y:o.guard with
     | none=>simp[Region.wanted,y]
     | some g =>
      obtain⟨j,b⟩:=g
      have hj:j < m:=by
       unfold aBC at hG;simp only[List.all_eq_true] at hG
       have N:o∈l.take m:=by
        have:(l.take m)[i]? =some o:=by simpa[List.getElem?_take,p] using k
        exact List.mem_of_getElem? this
       have:=hG o N
       rw[y] at this
       simpa using this
      simp only[Region.wanted,y,yielded,t j hj]
    rw[z]
    have V:Df o=true:=by
     simp only[List.all_eq_true] at hp
     have:(l.take m)[i]? =some o:=by simpa[List.getElem?_take,p] using k
     exact hp o (List.mem_of_getElem? this)
    have G:∀T R,wpAny P .any (l.take m).toArray (Fx (KI r L P l.toArray Q (l.drop m))) fuel (d.setIfInBounds i true) T R→wpAnyIn (Fr r) 9 P .any l.toArray Q (fuel+(l.length - m)) (listed.setIfInBounds i true) (mk L T) R:=fun T R hh=>ih _ _ T R (c.lS p) (hd.lS n) hh
    split
    ·rename_i hw
     rw[if_pos hw] at f;rcases f with f | ⟨_,_,_,f⟩
     ·exact aAO V G (aIF f)
     ·exact f.elim
    ·rename_i hw
     rw[if_neg hw] at f;refine⟨fun _ _=>trivial,?_⟩;rw[Bj];exact G _ _ f
   ·exfalso
    have:=aAu hd n (M i aA C) (show i0 < i by omega)
    obtain⟨h3,_⟩:=mem_ready.1 u
    have H:=c.s1
    rw[Iu aA,this] at h3;cases h3
theorem aSr(m:Nat){id:Nat}{l:List Oper}(hm:P.follows .mixedOrders=true)(d:(Region.noSelect (l.take m).toArray&&Mo l.toArray&&Cv l.toArray m&&Cv (l.take m).toArray m&&aBC l m&&(l.take m).all Df&&decide (m≤l.length))=true)
  (h:XA P ⟨nn,[]⟩ w0 (l.take m).toArray (Fx (KI r L P l.toArray Q (l.drop m))) R H m m (Array.replicate m false) e R H):XK ⟨nn,[]⟩ w0 (KC r L P (Code.region id l.toArray true) Q) e R H:=fun a w u st=>by
 simp only[Bool.and_eq_true,decide_eq_true_eq] at d;obtain⟨⟨⟨⟨⟨⟨j,c2⟩,n⟩,o⟩,k⟩,t⟩,c⟩:=d
 have p:=h ⟨Down.start _ _,j,o⟩ a w.drew u st.drew
 have f:=aRj (r:=r) (L:=L) (Q:=Q) c c2 n k t m (Array.replicate l.length false) _ a w.drew ⟨fun i b=>by simp[b,Nat.lt_of_lt_of_le b c],fun i b=>by simp[Array.getElem?_replicate];split<;>rfl,aD,aD,by simpa using c⟩ (Down.start _ _) (Ty _ _ _ _ p)
 unfold KC;refine wpIn_region_any hm ?_;rw[show m+(l.length - m)=l.length by omega] at f
 simpa using f
end
section
variable{H:List HP}
theorem Oq{x:Operand}{t el u:TypeId}{A:Option Addr}{n c:Nat}(i:P.underlying t=some (.slice el))(hx:e.ev x=some (.slice A n c))(hd:d < N.n)
  (k:XK N w0 (wpList P ops Q rest) ((d,.bool A.isNone)::e) R H):XK N w0 (wpList P ops Q (⟨some d,.binOp .eql t x (.const (.slice none 0 0)) u,ty,pos,aL,none⟩::rest)) e R H:=
 mM hd (fun a w b=>by
  have f:=b.ev hx
  have h:=b.ev (show e.ev (.const (.slice none 0 0))=some (.slice none 0 0) from rfl)
  simp[execOp,f,h,eqGuard,binOp,run_equal_slice_nil _ t el A n c i]) k
theorem On{t el:TypeId}{sz:Nat}(c:P.underlying t=some (.slice el))(a:(P.info? el).map (·.size)=some sz)(hd:d < N.n)
  (k:∀g,XK N w0 (wpList P ops Q rest) ((d,.slice (some ⟨g,0,none⟩) 0 0)::e) R (HP.aI g el []::H)):XK N w0 (wpList P ops Q (⟨some d,.buildSlice t 0 #[],ty,pos,aL,none⟩::rest)) e R H:=
 aDr (ps:=[]) (vs:=[]) rfl (fun w=>by
  obtain⟨i,b,f⟩:=Option.map_eq_some_iff.1 a;simp[Instr.buildSlice,Sem.run_bind,run_underlying c,Result.andThen_ok,sizeOf,typeInfo,b,newRow,Instr.fill]
  congr 2
  exact Array.eq_empty_of_size_eq_zero aD) hd k
theorem St.bare{w:World}(h:St w0 R H w):St w0 [] [] w:=h.weak (fun _ b=>by cases b) id (fun _ _ _ _ h=>h) (fun i p a=>by simp at a)
theorem aSf(m:Nat){id:Nat}{l:List Oper}(hm:P.follows .mixedOrders=true)(b:(Region.noSelect l.toArray&&Cv l.toArray m)=true)(h:XA P N w0 l.toArray Q [] [] m l.length (Array.replicate l.length false) e R H):XK N w0 ((Code.region id l.toArray true).wp P Q) e R H:=fun a w c st=>by
 simp only[Bool.and_eq_true] at b
 have:=h ⟨Down.start _ _,b.1,b.2⟩ a w.drew c st.drew
 refine wp_region_any hm (Ty (S:=St w0 [] []) (m:=m) _ _ _ _ ?_)
 simpa using this
theorem Ej(i:Nat){K:Act→World→Prop}{g n c sz:Nat}{el:TypeId}{xs:List Value}(hi:H[i]? =some (HP.own el sz (.slice (some ⟨g,0,none⟩) n c) n xs))
  (h:∀cs:List Value,cs.length=c*sz→cs.take (n*sz)=xs→n≤c→c≤maxLen→XK N w0 K e R (H.set i (HP.aI g el cs))):XK N w0 K e R H:=fun a w x st=>by
 obtain⟨_,k⟩:=st.own hi;rcases k with⟨k,_⟩ | ⟨z,t,f,u,_,p,o,r,j,l⟩
 ·cases k
 ·cases u;refine h f.toList (by simpa using j) l o r a w x (st.wA hi (Nat.le_refl _) rfl rfl rfl fun F y d=>⟨F,⟨y.1 g rfl,by simpa[tZ] using p⟩,fun b m=>⟨.inl m,d b m⟩,fun _ _ _=>rfl⟩)
theorem Ce(i:Nat){K:Act→World→Prop}{g n c sz:Nat}{el:TypeId}{cs xs:List Value}(hi:H[i]? =some (HP.aI g el cs))(l:cs.length=c*sz)(m:cs.take (n*sz)=xs)(j:n≤c)(hm:c≤maxLen)
  (h:XK N w0 K e R (H.set i (HP.own el sz (.slice (some ⟨g,0,none⟩) n c) n xs))):XK N w0 K e R H:=fun a w p st=>
 h a w p (st.wA hi (Nat.le_refl _) rfl rfl rfl fun F o f=>⟨F,⟨fun r d=>by simp[Value.ownBlock] at d;exact d▸o.1,by rw[←m,List.length_take,l];exact Nat.min_eq_left (Nat.mul_le_mul_right _ j),.inr ⟨g,c,cs.toArray,rfl,Nat.zero_le _,o.2,j,hm,by simpa using l,by simpa using m⟩⟩,fun b k=>⟨.inl k,f b k⟩,fun _ _ _=>rfl⟩)
end
def Gx(xs:List Value)(k:Nat)(l:List Value):Prop:=l.length=xs.length∧∀t,t < xs.length→l[t]? =if t < k∨xs.length - k≤t then xs[xs.length - 1 - t]? else xs[t]?
theorem Gx.zero(xs:List Value):Gx xs 0 xs:=⟨rfl,fun t a=>by rw[if_neg aA]⟩
theorem Gx.all{xs l:List Value}{k:Nat}(h:Gx xs k l)(hk:xs.length≤2*k+1):l=xs.reverse:=by
 apply List.ext_getElem?;intro t;rcases Nat.lt_or_ge t xs.length with a | a
 ·rw[h.2 t a,List.getElem?_reverse a];split
  ·rfl
  ·congr 1;omega
 ·rw[List.getElem?_eq_none (by rw[h.1];exact a),List.getElem?_eq_none (by simpa using a)]
theorem Gx.next{xs l:List Value}{k:Nat}{u v:Value}(h:Gx xs k l)(hk:2*k+1 < xs.length)(j:l[xs.length - 1 - k]? =some u)(f:l[k]? =some v):Gx xs (k+1) ((l.set k u).set (xs.length - 1 - k) v):=by
 have c:=h.2 k aA
 have d:=h.2 (xs.length - 1 - k) aA
 rw[if_neg aA,f] at c;rw[if_neg aA,j] at d;refine⟨by simpa using h.1,fun t i=>?_⟩
 have m:=h.1
 rw[List.getElem?_set,List.getElem?_set]
 by_cases e:xs.length - 1 - k=t
 ·rw[if_pos e,if_pos (by simp;omega),if_pos aA,show xs.length - 1 - t=k by omega];exact c
 ·rw[if_neg e]
  by_cases a:k=t
  ·rw[if_pos a,if_pos aA,if_pos aA,←a];exact d
  ·rw[if_neg a,h.2 t i]
   by_cases b:t < k∨xs.length - k≤t
   ·rw[if_pos b,if_pos aA]
   ·rw[if_neg b,if_neg aA]
theorem take_set{cs l:List Value}{n k:Nat}{u:Value}(h:cs.take n=l):(cs.set k u).take n=l.set k u:=by rw[←h,List.take_set]
theorem aDL{cs l:List Value}{n k:Nat}{u:Value}(h:cs.take n=l)(a:l[k]? =some u):cs[k]? =some u:=by
 rw[←h,List.getElem?_take] at a;split at a
 ·exact a
 ·cases a
def Ju(p0:Piece)(w0:World)(q:Piece):Prop:=∀b,q.Z b→p0.Z b∨w0.heap.size≤b
section
variable{H H':List HP}
theorem St.piece{p:Piece}(st:St w0 R H w)(j:all w0∈R)(hp:p.Le (all w0)):St w0 (p::R) H w:=by
 obtain⟨Z,F,h,e,f,i,hd⟩:=st.ex;refine⟨st.os,st.tape,st.output,st.size,Z,F,h,fun q a b c=>?_,f,i,hd⟩;simp only[List.mem_cons] at a;rcases a with rfl | a
 ·have d:=e _ j b (hp b c).1
  exact⟨d.1,d.2.trans (hp b c).2⟩
 ·exact e q a b c
theorem yJ(p:Piece)(c:all w0∈R)(hp:p.Le (all w0))(h:XK N w0 K e (p::R) H):XK N w0 K e R H:=fun a w b st=>h a w b (st.piece c hp)
theorem aMk{p0 a e:Piece}{w1:World}(st:St w0 R H w1)(i:a∈R)(j:Ju p0 w0 a)(k:p0.Le a)(l:p0.Le e)(m:(fresh w0 w1).Le e):a.Le e:=fun b c=>by
 rcases j b c with h | h
 ·obtain⟨d,f⟩:=l b h;exact⟨d,f.trans (k b h).2.symm⟩
 ·obtain⟨d,f⟩:=m b ⟨h,st.Pt i c⟩;exact⟨d,f.trans (st.ro i c)⟩
theorem aIA(p m:Piece){f:FuncId}{x:Operand}{args:List Operand}{fi ca vs:List Value}{tys:Array TypeId}(hf:fJ P f=true)(hx:e.ev x=some (.func (.func f) fi.toArray ca.toArray))(D:e.fZ args=some vs)(hd:d < N.n)(j:m∈R)(C:Ju p w0 m)
  (R':Value→World→World→Prop) (F:∀w,St w0 R H w→Calls P f (fi++vs++ca).toArray w fun y w'=>(∃v,y=.returned v∧R' v w w')∧Below w.heap.size w w')
  (k:∀v w q,R' v w q.w→(fresh w q.w).Le q→m.Le q→Ju p w0 q→XK N w0 (wpList P ops Q rest) ((d,v)::e) (q::R) H):
  XK N w0 (wpList P ops Q (⟨some d,.call {callee:=.value x,args:=args.toArray,argTypes:=tys},ty,pos,aL,none⟩::rest)) e R H:=fun a w t st=>wpList_plain rfl fun K z=>by
 unfold fJ at hf;cases o:P.funcs[f]? with
 | none=>simp[o] at hf
 | some fn =>
  simp[o] at hf;obtain⟨r,u⟩:=hf
  have l:(execOp a.eval (⟨some d,.call {callee:=.value x,args:=args.toArray,argTypes:=tys},ty,pos,aL,none⟩:Oper)).run P w=.ok (.enter f (fi++vs++ca).toArray) w:=by
   cases i:fn.body with
   | none=>simp[i] at u
   | some c=>
    simp[execOp,resolve,t.ev hx,Deferred.ofValue,invoke,callFunc,o,r,i,t.fZ D]
  unfold Oper.wp;rw[l];refine(F w st).mono fun y w' ⟨⟨v,A,B⟩,i⟩=>?_;subst A;refine z _ _ (k v w ⟨w',fun b=>(fresh w w').Z b∨m.Z b⟩ B (fun b h=>⟨.inl h,rfl⟩) (fun b h=>⟨.inr h,?_⟩) (fun b i=>?_) _ _ (t.put hd v) (st.seen i (fun b h=>h.imp id fun E=>⟨m,j,E⟩)))
  ·exact(i.block b (st.Pt j h)).trans (st.ro j h)
  ·rcases i with i | i
   ·exact .inr (Nat.le_trans st.size i.1)
   ·exact C b i
theorem aHt(p n:Piece)(x d:List Nat)(t:n∈R)(I:all w0∈R)(J:Ju p w0 n)(G:xQ d H=some H')(z:d.Nodup)(hf:∀i∈x,i∉d)
  (h:∀q:Piece,(∀(i:Nat) (p:HP),i∈x→H[i]? =some p→∃F,p.sat F q.w∧∀b,F b→q.Z b)→n.Le q→Ju p w0 q→XK N w0 K e (q::R) H'):XK N w0 K e R H:=fun a w M st=>by
 obtain⟨Z,F,L,f,E,k,hd⟩:=st.ex
 have D:=Po G
 have o:=aAT z
 have u:=Uu G
 refine h ⟨w,fun b=>n.Z b∨∃i,i∈x∧F i b⟩ (fun i p l m=>⟨F i,E i p m,fun b c=>.inr ⟨i,l,c⟩⟩) (fun b c=>⟨.inl c,(f n t b c).2⟩) (fun b c=>?_) a w M
  ⟨st.os,st.tape,st.output,st.size,fun b=>Z b∨∃i,i∈x∧F i b,fun i b=>i < H'.length∧F (d.getD i 0) b,?_,?_,?_,?_,?_⟩
 ·rcases c with c | ⟨i,l,c⟩
  ·exact J b c
  ·refine .inr ?_;rcases Nat.lt_or_ge b w0.heap.size with h | h
   ·exact absurd (f _ I b h).1 (k i b c).1
   ·exact h
 ·rintro b (h | ⟨i,_,h⟩)
  ·exact L b h
  ·exact(k i b h).2
 ·intro p m b c;simp only[List.mem_cons] at m;rcases m with rfl | m
  ·refine⟨?_,rfl⟩;rcases c with c | c
   ·exact .inl (f n t b c).1
   ·exact .inr c
  ·exact⟨.inl (f p m b c).1,(f p m b c).2⟩
 ·intro i p l
  have y:i < H'.length:=by
   rcases Nat.lt_or_ge i H'.length with h | h
   ·exact h
   ·rw[List.getElem?_eq_none h] at l;cases l
  show p.sat (fun b=>i < H'.length∧F (d.getD i 0) b) w
  rw[show(fun b=>i < H'.length∧F (d.getD i 0) b)=F (d.getD i 0) by funext b;simp[y]];exact E _ p (u i p l)
 ·rintro i b ⟨l,h⟩;refine⟨?_,(k _ b h).2⟩;rintro(qK | ⟨j,C,hjb⟩)
  ·exact(k _ b h).1 qK
  ·have B:i < d.length:=aA
   have r:d.getD i 0∈d:=by simp[List.getD_eq_getElem?_getD,List.getElem?_eq_getElem B]
   exact hd (d.getD i 0) j b (fun e=>hf j C (e▸r)) h hjb
 ·exact fun i j b A h C=>hd (d.getD i 0) (d.getD j 0) b (fun e=>A (o i j aA aA e)) h.2 C.2
end
def uN(M:Option Nat)(d:Nat)(e:Env):Env:=match M with
 | none=>e
 | some g=>(d,.pointer (some ⟨g,0,none⟩))::e
def wJ(M:Option Nat)(t:TypeId)(cs:List Value)(H:List HP):List HP:=match M with
 | none=>H
 | some g=>HP.aI g t cs::H
def xW(M:Option Nat)(j:Nat)(l:Array Bool):Array Bool:=match M with
 | none=>l
 | some _=>l.setIfInBounds j true
def Bq(M:Option Nat)(f:Nat):Nat:=match M with
 | none=>f+1
 | some _=>f
def neB(d:Nat):Operand→Bool
 | .tmp t=> !(Nat.beq d t)
 | _=>true
theorem aOf(M:Option Nat){d t:Nat}{e:Env}{v:Value}(h:e.get t=some v)(a:Nat.beq d t=false):(uN M d e).get t=some v:=by
 cases M with
 | none=>exact h
 | some g=>
  show Env.get ((d,_)::e) t=some v
  unfold Env.get;rw[a];exact h
theorem Mj(M:Option Nat){d:Nat}{e:Env}{x:Operand}{v:Value}(h:e.ev x=some v)(a:neB d x=true):(uN M d e).ev x=some v:=by
 cases x with
 | tmp t=>exact aOf M h (by simpa[neB] using a)
 | _=>exact h
theorem Mi(M:Option Nat){d:Nat}{e:Env}:∀{xs:List Operand} {vs:List Value},e.fZ xs=some vs→xs.all (neB d)=true→(uN M d e).fZ xs=some vs
 | [],vs,h,_=>by cases h;rfl
 | x :: xs, vs, h, hn => by
  simp only[List.all_cons,Bool.and_eq_true] at hn;unfold Env.fZ at h⊢;split at h
  ·rename_i v r a b
   cases h;rw[Mj M a hn.1,Mi M b hn.2]
  ·cases h
section
variable{H H0:List HP}
variable{dA:Nat}{t:TypeId}{cs:List Value}
theorem vS(c:∀p∈R',p∈R)(h:XK N w0 K e R' H):XK N w0 K e R H:=fun a w b st=>h a w b (st.weak c id (fun _ _ _ _ h=>h) (fun _ _ h=>h))
theorem St.unM{M:Option Nat}(h:St w0 R (wJ M t cs H) w):St w0 R H w:=by
 cases M with
 | none=>exact h
 | some g=>exact h.tail
theorem eH.aLn{M:Option Nat}{a:Act}(h:eH N ((d,v)::uN M dA e) a)(hd:Nat.beq d dA=false):eH N (uN M dA ((d,v)::e)) a:=by
 cases M with
 | none=>exact h
 | some g =>
  refine⟨h.size,h.defers,fun u x b=>h.get u x ?_⟩
  show Env.get ((d,v)::(dA,_)::e) u=some x
  have b:Env.get ((dA,.pointer (some ⟨g,0,none⟩))::(d,v)::e) u=some x:=b
  unfold Env.get at b⊢;cases f:Nat.beq d u with
  | true =>
   have:=Nat.eq_of_beq_eq_true f
   subst this
   rw[show Nat.beq dA d=false from(by rw[←hd];cases c:Nat.beq dA d with
    | true=>have:=Nat.eq_of_beq_eq_true c;subst this;rw[Nat.beq_refl] at hd;cases hd
    | false=>exact hd.symm)] at b
   unfold Env.get at b;rw[f] at b;exact b
  | false =>
   dsimp only;unfold Env.get;cases c:Nat.beq dA u with
   | true=>rw[c] at b;exact b
   | false=>
    rw[c] at b;unfold Env.get at b;rw[f] at b;exact b
theorem Nw(i j:Nat){c:Oper}{M:Option Nat}(hi:ops[i]? =some c)(hj:ops[j]? =some ⟨some dA,.alloc t,ty,pos,aL,none⟩)(d:Ba P t cs)(hd:dA < N.n)
  (b:Region.ready .any ops listed=[i,j]) (a:Region.ready .any ops (listed.setIfInBounds j true)=[i]) (hS:∀w,St w0 R H w→St w0 R0 H0 w)
  (step:∀M,XK N w0 (wpList P ops (Exit.then (sJ P w0 ops Q R0 H0 m (Bq M fuel) (xW M j listed) i) Q) [c]) (uN M dA e) R (wJ M t cs H)):
  XA P N w0 ops Q R0 H0 m (Bq M (fuel+1)) (xW M j listed) (uN M dA e) R (wJ M t cs H):=by
 cases M with
 | some g=>exact aCE i hi a (step (some g))
 | none=>exact Gv i j hi hj b (step none) (aDt d hd fun g=>iG (iC (lB (fun w h=>hS w h.tail) (aCE i hi a (step (some g))))))
theorem aH6{j:Nat}(dA:Nat)(t:TypeId)(cs:List Value)(h:∀M:Option Nat,XA P N w0 ops Q R0 H0 m (Bq M fuel) (xW M j listed) (uN M dA e) R (wJ M t cs H)):XA P N w0 ops Q R0 H0 m (fuel+1) listed e R H:=h none
theorem Ta{i j:Nat}{M:Option Nat}(b:i≠j)(hd:Nat.beq d dA=false)(hS:∀w,St w0 R H w→St w0 R0 H0 w)
  (h:XA P N w0 ops Q R0 H0 m (Bq M fuel) (xW M j (listed.setIfInBounds i true)) (uN M dA ((d,v)::e)) R (wJ M t cs H)):XK N w0 (sJ P w0 ops Q R0 H0 m (Bq M fuel) (xW M j listed) i) ((d,v)::uN M dA e) R (wJ M t cs H):=by
 refine lB (fun w h=>hS w h.unM) ?_
 have c:(xW M j listed).setIfInBounds i true=xW M j (listed.setIfInBounds i true):=by
  cases M with
  | none=>rfl
  | some g=>exact Array.setIfInBounds_comm _ _ (Ne.symm b)
 rw[c];exact fun up a w f st=>h up a w (f.aLn hd) st
theorem Yq{M:Option Nat}{p:HP}(h:XK N w0 K e R (wJ M t cs (p::H))):XK N w0 K e R (p::wJ M t cs H):=by
 cases M with
 | none=>exact h
 | some g => exact fun a w hr st => h a w hr (st.weak (fun _ hp => hp) (fun i => match i with | 0 => 1 | 1 => 0 | i + 2 => i + 2) (fun i j _ _ he => by
   match i,j with
   | 0,0=>rfl
   | 0,1=>cases he
   | 0,j+2=>simp at he
   | 1,0=>cases he
   | 1,1=>rfl
   | 1,j+2=>simp at he
   | i+2,0=>simp at he
   | i+2,1=>simp at he
   | i+2,j+2=>simpa using he) (fun i q hq=>by
   match i,hq with
   | 0,hq=>exact hq
   | 1,hq=>exact hq
   | i+2,hq=>exact hq))
theorem Xb{p q:Prop}[Decidable p][Decidable q]{u:Nat}(h:e.get u=some (.bool (decide p)))(a:p↔q):e.get u=some (.bool (decide q)):=by
 rw[h,decide_eq_decide.2 a]
theorem aBE{q:Prop}[Decidable q]{u:Nat}(h:e.get u=some (.bool false))(a:¬q):e.get u=some (.bool (decide q)):=by rw[h,decide_eq_false a]
theorem aOd{q:Prop}[Decidable q]{u:Nat}(h:e.get u=some (.bool true))(a:q):e.get u=some (.bool (decide q)):=by rw[h,decide_eq_true a]
theorem aOe{q:Prop}[Decidable q]{u:Nat}{b:Bool}(h:e.get u=some (.bool b))(c:b=true↔q):e.get u=some (.bool (decide q)):=by
 rw[h]
 congr 2
 by_cases a:q
 ·rw[decide_eq_true a,c.2 a]
 ·rw[decide_eq_false a];cases b
  ·rfl
  ·exact absurd (c.1 rfl) a
theorem eH.aJ5{e0:Env}{a:Act}{u:Nat}{x:Value}(h:eH N e a)(hs:e0.Sub e)(b:e.get u=some x):eH N ((u,x)::e0) a:=h.sub (e':=(u,x)::e0) ⟨b,hs⟩
theorem aC5{x y:Code}{Q:Exit→Act→World→Prop}(u:Nat)(p:Prop)[Decidable p](h:XK N w0 (x.wp P (Exit.then (fun c w'=>eH N ((u,.bool (decide p))::e) c∧St w0 R H w') Q)) e R H)
  (hy:XK N w0 (y.wp P Q) ((u,.bool (decide p))::e) R H):XK N w0 ((Code.seq x y).wp P Q) e R H:=fun a w d st=>by
 refine wp_seq (wp_mono (h a w d st) fun x c w' b=>?_);cases x with
 | normal=>exact hy c w' b.1 b.2
 | _=>exact b
theorem Yw{e0:Env}{u:Nat}{p:Prop}[Decidable p](hs:e0.Sub e)(a:e.get u=some (.bool (decide p))):XK N w0 (fun c w'=>eH N ((u,.bool (decide p))::e0) c∧St w0 R H w') e R H:=fun _ _ b st=>⟨b.aJ5 hs a,st⟩
theorem Yv{e0:Env}{u:Nat}{p:Prop}[Decidable p](hs:e0.Sub e:=by repeat (first | exact trivial | refine⟨rfl,?_⟩))(c:e.get u=some (.bool (decide p)):=by first | (refine Xb rfl ?_;omega) | (refine Xb rfl ?_;simp_all;done) | (refine aBE rfl ?_;first | omega | (simp_all;done)) | (refine aOd rfl ?_;first | omega | (simp_all;done)) | (refine aOe rfl ?_;simp_all;done) | (refine Xb rfl ⟨fun a=>?_,fun a=>?_⟩<;>first | omega | (simp_all;done) | (simp_all;omega)) | (exfalso;omega)):XK N w0 (fun b w'=>eH N ((u,.bool (decide p))::e0) b∧St w0 R H w') e R H:=Yw hs c
theorem Ys(i:Nat){el:TypeId}{sz n c:Nat}{A:Option Addr}{xs:List Value}(hi:H[i]? =some (HP.own el sz (.slice A n c) n xs))(l:0 < n)(h:∀g,A=some ⟨g,0,none⟩→XK N w0 K e R H):XK N w0 K e R H:=fun a w j st=>by
 have k:=st.own hi
 rcases k.2 with⟨_,m⟩ | ⟨g,b,f,d,_⟩
 ·omega
 ·injection d with hA
  exact h g hA a w j st
end
def HP.ex{α:Type}(f:α→HP):HP:=⟨fun F w=>∃a,(f a).sat F w,fun F w b ⟨a,h⟩ c=>⟨a,(f a).loc F w b h c⟩⟩
section
variable{H:List HP}
theorem Yu(i:Nat){α:Type}{f:α→HP}(hi:H[i]? =some (HP.ex f))(h:∀a,XK N w0 K e R (H.set i (f a))):XK N w0 K e R H:=fun a w r st=>by
 obtain⟨Z,F,n,l,m,d,k⟩:=st.ex;obtain⟨x,o⟩:=m i _ hi
 have c:i < H.length:=by
  rcases Nat.lt_or_ge i H.length with h | h
  ·exact h
  ·rw[List.getElem?_eq_none h] at hi;cases hi
 refine h x a w r ⟨st.os,st.tape,st.output,st.size,Z,F,n,l,fun j p b=>?_,d,k⟩;rw[List.getElem?_set] at b;split at b
 ·rename_i e;subst e
  first | (rw[if_pos c] at b;cases b) | cases b
  exact o
 ·exact m j p b
theorem uS(i:Nat){α:Type}{f:α→HP}(x:α)(hi:H[i]? =some (f x))(h:XK N w0 K e R (H.set i (HP.ex f))):XK N w0 K e R H:=fun a w k st=>
 h a w k (st.wA hi (Nat.le_refl _) rfl rfl rfl fun F j c=>⟨F,⟨x,j⟩,fun b d=>⟨.inl d,c b d⟩,fun _ _ _=>rfl⟩)
theorem nM{p q : HP}(h : XK N w0 K e R (HP.many [p, q] :: H)) : XK N w0 K e R (p :: q :: H) := fun a w hr st => by
  obtain⟨Z,F,hz,tJ,hs,Gb,pU⟩:=st.ex;refine h a w hr ⟨st.os,st.tape,st.output,st.size,Z,fun j=>match j with | 0=>fun b=>F 0 b∨F 1 b | j+1=>F (j+2),hz,tJ,fun j r hj=>?_,fun j b hb=>?_,fun j k b It hj hk=>?_⟩
  · cases j with
    | zero =>
      simp at hj;subst hj;refine⟨fun i b=>i < 2∧F i b,fun i r hi=>?_,fun i b hb=>?_,fun i k b hik h1 h2=>pU i k b hik h1.2 h2.2⟩
      · have key:∀k,k < 2→(fun b=>k < 2∧F k b)=F k:=fun k hk=>by funext b;simp[hk]
        match i,hi with
        | 0,hi=>simp at hi;subst hi;show p.sat (fun b=>0 < 2∧F 0 b) w;rw[key 0 aA];exact hs 0 _ rfl
        | 1,hi=>simp at hi;subst hi;show q.sat (fun b=>1 < 2∧F 1 b) w;rw[key 1 aA];exact hs 1 _ rfl
        | i+2,hi=>simp at hi
      · obtain⟨hlt,hb⟩:=hb
        match i,hlt,hb with
        | 0,_,hb=>exact .inl hb
        | 1,_,hb=>exact .inr hb
    | succ j=>exact hs (j+2) r (by simpa using hj)
  · cases j with
    | zero=>rcases hb with hb | hb<;>exact Gb _ b hb
    | succ j=>exact Gb _ b hb
  · cases j with
    | zero => cases k with
      | zero=>exact It rfl
      | succ k => rcases hj with hj | hj
                  · exact pU 0 (k+2) b aA hj hk
                  · exact pU 1 (k+2) b aA hj hk
    | succ j => cases k with
      | zero => rcases hk with hk | hk
                · exact pU 0 (j+2) b aA hk hj
                · exact pU 1 (j+2) b aA hk hj
      | succ k=>exact pU (j+2) (k+2) b aA hj hk
end
variable{H H0 H':List HP}
section
variable{t kt et:TypeId}{r:Nat}{l:List (Int×Value)}
theorem aDp(i:Nat){dst:Option Nat}{e':Env}{f:FuncId}{x:Operand}{args:List Operand}{fi ca vs:List Value}{tys:Array TypeId}{p:HP}{v:Value}(q:HP)(hf:fJ P f=true)(hx:e.ev x=some (.func (.func f) fi.toArray ca.toArray))(ha:e.fZ args=some vs)(hi:H[i]? =some p)
  (hd:match dst with | some d=>d < N.n∧e'=(d,v)::e | none=>e'=e)
  (hc:∀w F,St w0 R H w→p.sat F w→(∀b,F b→b < w.heap.size)→(∀q∈R,q.Le ⟨w,fun b=>b < w.heap.size∧¬F b⟩)→Calls P f (fi++vs++ca).toArray w fun y w'=>y=.returned v∧∃I,q.sat I w'∧iI w w' F I)
  (k:XK N w0 (wpList P ops Q rest) e' R (H.set i q)):XK N w0 (wpList P ops Q (⟨dst,.call {callee:=.value x,args:=args.toArray,argTypes:=tys},ty,pos,aL,none⟩::rest)) e R H:=fun a w M st=>wpList_plain rfl fun K hK=>by
 unfold fJ at hf;cases O:P.funcs[f]? with
 | none=>simp[O] at hf
 | some fn =>
  simp[O] at hf;obtain⟨T,U⟩:=hf
  have G:(execOp a.eval (⟨dst,.call {callee:=.value x,args:=args.toArray,argTypes:=tys},ty,pos,aL,none⟩:Oper)).run P w=.ok (.enter f (fi++vs++ca).toArray) w:=by
   cases t:fn.body with
   | none=>simp[t] at U
   | some c=>simp[execOp,resolve,M.ev hx,Deferred.ofValue,invoke,callFunc,O,T,t,M.fZ ha]
  obtain⟨Z,F,J,m,hs,l,u⟩:=st.ex;unfold Oper.wp;rw[G];refine(hc w (F i) st (hs i p hi) (fun b t=>(l i b t).2) (fun q z b t=>⟨⟨J b (m q z b t).1,fun B=>(l i b B).1 (m q z b t).1⟩,(m q z b t).2⟩)).mono fun y w' ⟨hy,I,X,o⟩=>?_;subst hy
  have D:St w0 R (H.set i q) w':=by
   have V:i < H.length:=by
    rcases Nat.lt_or_ge i H.length with h | h
    ·exact h
    ·rw[List.getElem?_eq_none h] at hi;cases hi
   refine⟨o.os.trans st.os,o.tape.trans st.tape,o.output.trans st.output,Nat.le_trans st.size o.size,Z,fun j=>if j=i then I else F j,fun b h=>Nat.lt_of_lt_of_le (J b h) o.size,fun p L b h=>?_,fun j r C=>?_,fun j b h=>?_,fun j k b Y h=>?_⟩
   ·exact⟨(m p L b h).1,(o.old b (J b (m p L b h).1) (fun B=>(l i b B).1 (m p L b h).1)).trans (m p L b h).2⟩
   ·rw[List.getElem?_set] at C;split at C
    ·rename_i e;subst e
     first | (rw[if_pos V] at C;cases C) | cases C
     simpa using X
    ·rename_i e
     simp only[if_neg (Ne.symm e)];exact r.loc _ _ _ (hs j r C) (fun b t=>o.old b (l j b t).2 (u j i b (Ne.symm e) t))
   ·dsimp only at h;split at h
    ·refine⟨fun E=>?_,(o.new b h).2⟩;rcases(o.new b h).1 with h | h
     ·exact(l i b h).1 E
     ·have:=J b E;omega
    ·exact⟨(l j b h).1,Nat.lt_of_lt_of_le (l j b h).2 o.size⟩
   ·dsimp only at h⊢;split at h<;>split
    ·rename_i h1 h2;omega
    ·rename_i e1 e2
     intro A;rcases(o.new b h).1 with h | h
     ·exact u i k b aA h A
     ·have:=(l k b A).2;omega
    ·rename_i e1 e2
     intro A;rcases(o.new b A).1 with A | A
     ·exact u j i b aA h A
     ·have:=(l j b h).2;omega
    ·exact u j k b Y h
  cases dst with
  | none=>dsimp only at hd;subst hd;exact hK _ _ (k _ _ M D)
  | some d=>dsimp only at hd;obtain⟨hd,rfl⟩:=hd;exact hK _ _ (k _ _ (M.put hd v) D)
end
def Jz(p:Prop):HP:=⟨fun _ _=>p,fun _ _ _ h _=>h⟩
section
variable{e0:Env}
theorem aSa(i:Nat){p:Prop}(hi:H[i]? =some (Jz p))(h:p→XK ⟨nn,[]⟩ w0 K e R H):XK ⟨nn,[]⟩ w0 K e R H:=fun a w c st=>by
 obtain⟨F,b⟩:=st.sat hi;exact h b a w c st
end
def Gl(f:FuncId)(fi ca:List Value):Deferred:={target:=.fn (.func f) ca.toArray,args:=fi.toArray}
theorem Tx{x:Operand}{tys:Array TypeId}{f:FuncId}{fi ca:List Value}(hx:e.ev x=some (.func (.func f) fi.toArray ca.toArray))(k:XK ⟨N.n,Gl f fi ca::N.D⟩ w0 (wpList P ops Q rest) e R H):
  XK N w0 (wpList P ops Q (⟨none,.defer {callee:=.value x,args:=#[],argTypes:=tys},ty,pos,aL,none⟩::rest)) e R H:=fun a w c st=>wpList_plain rfl fun K d=>by
 have b:(execOp a.eval (⟨none,.defer {callee:=.value x,args:=#[],argTypes:=tys},ty,pos,aL,none⟩:Oper)).run P w=.ok (.defer (Gl f fi ca)) w:=by
  simp[execOp,resolve,c.ev hx,Deferred.ofValue,Gl]
 unfold Oper.wp;rw[b];exact d _ _ (k {a with defers:=Gl f fi ca::a.defers} w ⟨c.size,by show _::_=_::_;rw[c.defers],c.get⟩ st)
theorem aNf{f:FuncId}{fi ca:List Value}(hf:fJ P f=true)(w:World):(invoke (.fn (.func f) ca.toArray) fi.toArray).run P w=.ok (.enter f (fi++ca).toArray) w:=by
 unfold fJ at hf;cases b:P.funcs[f]? with
 | none=>simp[b] at hf
 | some fn=>
  simp[b] at hf;obtain⟨d,a⟩:=hf;cases e:fn.body with
  | none=>simp[e] at a
  | some c=>simp[invoke,callFunc,b,d,e]
theorem aRW{nn:Nat}{f:FuncId}{fi ca:List Value}{fn:Func}{b:Ending→World→Prop}(hf:fJ P f=true)
  (d:∀w,St w0 R H w→CallsD P f (fi++ca).toArray .returning w fun y i w'=>(∃v,y=.returned v)∧i=.returning∧St w0 R H' w')
  (c:∀a w,eH ⟨nn,[Gl f fi ca]⟩ e a→St w0 R H' w→∃v,(results fn a.tmps).run P w=.ok v w∧b (.returned v) w):
  XK ⟨nn,[Gl f fi ca]⟩ w0 (bodyPostD P fn b .ret) e R H:=fun a w j st=>by
 show Leaves P fn a.tmps b a.defers .returning w
 rw[j.defers];refine leaves_cons aD (aNf hf w) ((d w st).mono ?_);rintro y i w' ⟨⟨v,rfl⟩,rfl,h⟩;obtain⟨l,m,k⟩:=c a w' j h;exact⟨l,m,k⟩
def HP.cI(Φ:Piece→Prop)(hm:∀p q:Piece,p.Le q→Φ p→Φ q):HP:=⟨fun F w=>Φ ⟨w,F⟩,fun F w c h d=>hm ⟨w,F⟩ ⟨c,F⟩ (fun b a=>⟨a,d b a⟩) h⟩
theorem wK{α:Type}{H:List α}{i:Nat}{p:α}(hi:H[i]? =some p):i < H.length:=(List.getElem?_eq_some_iff.1 hi).1
theorem St.chunk(st:St w0 R H w){i:Nat}{p:HP}(hi:H[i]? =some p):∃F,p.sat F w∧(∀b,F b→b < w.heap.size)∧(∀q∈R,q.Le ⟨w,fun b=>b < w.heap.size∧¬F b⟩)∧∀w' x q,q.sat x w'→iI w w' F x→St w0 R (H.set i q) w':=by
 obtain⟨Z,F,y,c,D,a,f⟩:=st.ex;refine⟨F i,D i p hi,(fun b l=>(a i b l).2),(fun q m b l=>⟨⟨y b (c q m b l).1,fun o=>(a i b o).1 (c q m b l).1⟩,(c q m b l).2⟩),fun w' x q B d=>?_⟩
 have A:=wK hi
 refine⟨d.os.trans st.os,d.tape.trans st.tape,d.output.trans st.output,Nat.le_trans st.size d.size,Z,fun j=>if j=i then x else F j,fun b h=>Nat.lt_of_lt_of_le (y b h) d.size,fun p z b h=>?_,fun j r t=>?_,fun j b h=>?_,fun j k b C h=>?_⟩
 ·exact⟨(c p z b h).1,(d.old b (y b (c p z b h).1) (fun o=>(a i b o).1 (c p z b h).1)).trans (c p z b h).2⟩
 ·rw[List.getElem?_set] at t;split at t
  ·rename_i e;subst e
   first | (rw[if_pos A] at t;cases t) | cases t
   simpa using B
  ·rename_i e
   simp only[if_neg (Ne.symm e)];exact r.loc _ _ _ (D j r t) (fun b l=>d.old b (a j b l).2 (f j i b (Ne.symm e) l))
 ·dsimp only at h;split at h
  ·refine⟨fun u=>?_,(d.new b h).2⟩;rcases(d.new b h).1 with h | h
   ·exact(a i b h).1 u
   ·have:=y b u;omega
  ·exact⟨(a j b h).1,Nat.lt_of_lt_of_le (a j b h).2 d.size⟩
 ·dsimp only at h⊢;split at h<;>split
  ·rename_i I J;omega
  ·rename_i E G
   intro n;rcases(d.new b h).1 with h | h
   ·exact f i k b aA h n
   ·have:=(a k b n).2;omega
  ·rename_i E G
   intro n;rcases(d.new b n).1 with n | n
   ·exact f j i b aA h n
   ·have:=(a j b h).2;omega
  ·exact f j k b C h
theorem pY(i:Nat){p q:HP}(hi:H[i]? =some p)(f:∀F w,p.sat F w→q.sat F w)(h:XK N w0 K e R (H.set i q)):XK N w0 K e R H:=fun a w l st=>by
 obtain⟨F,j,c,_,k⟩:=st.chunk hi;exact h a w l (k w F q (f F w j) ⟨rfl,rfl,rfl,Nat.le_refl _,fun b d=>⟨.inl d,c b d⟩,fun _ _ _=>rfl⟩)
theorem wW(i:Nat){el:TypeId}{sz n c:Nat}{A:Option Addr}{xs:List Value}{Φ:Piece→Prop}{hm:∀p q:Piece,p.Le q→Φ p→Φ q}(hi:H[i]? =some (HP.own el sz (.slice A n c) n xs))(b:∀p,aM p sz A n xs→Φ p)(h:XK N w0 K e R (H.set i (HP.cI Φ hm))):XK N w0 K e R H:=
 pY i hi (fun F w a=>b _ (aM.own (q:=⟨w,F⟩) ⟨F,a,fun _ h=>h⟩)) h
theorem Gs{Φ Ψ X : Piece → Prop}{h1 : ∀ p q : Piece, p.Le q → Φ p → Φ q}{h2 : ∀ p q : Piece, p.Le q → Ψ p → Ψ q}{h3 : ∀ p q : Piece, p.Le q → X p → X q}(hX : ∀ p, Φ p → Ψ p → X p)(h : XK N w0 K e R (HP.cI X h3 :: H)) : XK N w0 K e R (HP.cI Φ h1 :: HP.cI Ψ h2 :: H) := fun a w hr st => by
  obtain⟨Z,F,hz,tJ,hs,Gb,pU⟩:=st.ex;refine h a w hr ⟨st.os,st.tape,st.output,st.size,Z,fun j=>match j with | 0=>fun b=>F 0 b∨F 1 b | j+1=>F (j+2),hz,tJ,fun j r hj=>?_,fun j b hb=>?_,fun j k b It hj hk=>?_⟩
  · cases j with
    | zero =>
      simp at hj;subst hj;exact hX _ (h1 ⟨w,F 0⟩ _ (fun b hb=>⟨.inl hb,rfl⟩) (hs 0 _ rfl)) (h2 ⟨w,F 1⟩ _ (fun b hb=>⟨.inr hb,rfl⟩) (hs 1 _ rfl))
    | succ j=>exact hs (j+2) r (by simpa using hj)
  · cases j with
    | zero=>rcases hb with hb | hb<;>exact Gb _ b hb
    | succ j=>exact Gb _ b hb
  · cases j with
    | zero => cases k with
      | zero=>exact It rfl
      | succ k => rcases hj with hj | hj
                  · exact pU 0 (k+2) b aA hj hk
                  · exact pU 1 (k+2) b aA hj hk
    | succ j => cases k with
      | zero => rcases hk with hk | hk
                · exact pU 0 (j+2) b aA hk hj
                · exact pU 1 (j+2) b aA hk hj
      | succ k=>exact pU (j+2) (k+2) b aA hj hk
theorem Gr{q:Piece}{Φ:Piece→Prop}{hm:∀p q:Piece,p.Le q→Φ p→Φ q}(hf:rO w0 q)(B:∀p∈R,∀b,p.Z b→b < w0.heap.size)(A:Φ q)(h:XK N w0 K e R (HP.cI Φ hm::H)):XK N w0 K e (q::R) H:=fun a w C st=>by
 obtain⟨Z,F,y,f,z,d,m⟩:=st.ex
 have l:=f q aD
 refine h a w C ⟨st.os,st.tape,st.output,st.size,fun b=>Z b∧¬q.Z b,fun j=>match j with | 0=>q.Z | j+1=>F j,fun b c=>y b c.1,fun p n b c=>?_,fun j r i=>?_,fun j b c=>?_,fun j k b t i u=>?_⟩
 ·refine⟨⟨(f p (by simp[n]) b c).1,fun o=>?_⟩,(f p (by simp[n]) b c).2⟩
  have D:=B p n b c
  have E:=hf b o
  omega
 ·cases j with
  | zero=>
   simp at i;subst i;exact hm q _ (fun b c=>⟨c,(l b c).2⟩) A
  | succ j=>exact z j r (by simpa using i)
 ·cases j with
  | zero=>exact⟨fun x=>x.2 c,y b (l b c).1⟩
  | succ j=>exact⟨fun x=>(d j b c).1 x.1,(d j b c).2⟩
 ·cases j with
  | zero=>cases k with
   | zero=>exact t rfl
   | succ k=>exact(d k b u).1 (l b i).1
  | succ j=>cases k with
   | zero=>exact(d j b i).1 (l b u).1
   | succ k=>exact m j k b aA i u
theorem St.cI{w0 w:World}{R:List Piece}{H:List HP}{Φ:Piece→Prop}{hm:∀p q:Piece,p.Le q→Φ p→Φ q}(t:St w0 R H w)(i:Nat)(hi:H[i]? =some (HP.cI Φ hm)):Φ (all w):=by
 obtain⟨F,c,d,_⟩:=t.chunk hi;exact hm ⟨w,F⟩ (all w) (fun b a=>⟨d b a,rfl⟩) c
theorem get_some{α:Type}{l:List α}{i:Nat}(h:i < l.length):∃x,l[i]? =some x:=⟨l[i],List.getElem?_eq_getElem h⟩
theorem Sub.set{cs r:List Value}{o:Nat}(h:Sub cs o r)(k:Nat)(v:Value)(hk:k < r.length)(hl:o+k < cs.length):Sub (cs.set (o+k) v) o (r.set k v):=fun j b=>by
 rw[List.length_set] at b;rw[List.getElem?_set,List.getElem?_set]
 by_cases a:k=j
 ·subst a;simp[hk,hl]
 ·rw[if_neg aA,if_neg a];exact h j b
def tQ(cs a:List Value)(o m:Nat):Prop:=a.length=cs.length∧∀j,(j < o∨o+m≤j)→a[j]? =cs[j]?
theorem tQ.refl(cs:List Value)(o m:Nat):tQ cs cs o m:=⟨rfl,fun _ _=>rfl⟩
theorem tQ.set{cs a:List Value}{o m:Nat}(h:tQ cs a o m)(k:Nat)(v:Value)(hk:k < m):tQ cs (a.set (o+k) v) o m:=
 ⟨by simpa using h.1,fun j b=>by rw[List.getElem?_set,if_neg aA];exact h.2 j b⟩
theorem aS7{w0:World}{R:List Piece}{H:List HP}{ps:List HP}{g o:Nat}{t:TypeId}{cs:List Value}{v:Value}(i j:Nat)(hi:H[i]? =some (HP.many ps))(hj:ps[j]? =some (HP.aI g t cs))(a:cs[o]? =some v):Rd w0 R H g o v:=fun w st=>by
 obtain⟨F,G,b,_⟩:=st.sat hi
 have:=(b j _ hj).2
 rw[this.cell]
 simpa using a
theorem Md{sz:Nat}(rows:List (List Value))(hl:∀r∈rows,r.length=sz)(k f:Nat)(r:List Value)(hk:rows[k]? =some r)(hf:f < sz):rows.flatten[k*sz+f]? =r[f]? :=by
 have:=Mc (fun x=>x) sz rows hl k f r hk hf
 rwa [List.flatMap_id'] at this
theorem Hz{sz:Nat}:∀(rows:List (List Value)),(∀r∈rows,r.length=sz)→rows.flatten.length=rows.length*sz
 | [],_=>by simp
 | r::rs,h=>by rw[List.flatten_cons,List.length_append,Hz rs (fun x hx=>h x (by simp[hx])),h r aD,List.length_cons,Nat.succ_mul,Nat.add_comm]
theorem zQ{sz n i:Nat}{cs b r':List Value}{rows:List (List Value)}(D:cs.take (n*sz)=rows.flatten)(B:rows.length=n)(A:∀r∈rows,r.length=sz)(hi:i < n)(hl:n*sz≤cs.length)(t:r'.length=sz)(hs:Sub b (i*sz) r')(z:tQ cs b (i*sz) sz):b.take (n*sz)=(rows.set i r').flatten:=by
 have d:∀r∈rows.set i r',r.length=sz:=fun r u=>by
  rcases List.mem_or_eq_of_mem_set u with h | h
  ·exact A r h
  ·rw[h];exact t
 refine List.ext_getElem? fun j=>?_;rcases Nat.lt_or_ge j (n*sz) with e | e
 ·have m:0 < sz:=by
   rcases Nat.eq_zero_or_pos sz with p | p
   ·rw[p,Nat.mul_zero] at e;omega
   ·exact p
  have c:j / sz*sz+j % sz=j:=by rw[Nat.mul_comm];exact Nat.div_add_mod j sz
  have a:j % sz < sz:=Nat.mod_lt _ m
  have E:j / sz < n:=Nat.div_lt_of_lt_mul (by rw[Nat.mul_comm];exact e)
  have y:=z.1
  rw[List.getElem?_take_of_lt e]
  by_cases x:j / sz=i
  ·have w:(rows.set i r')[j / sz]? =some r':=by rw[x,List.getElem?_set_self aA]
   have k:=Md (rows.set i r') d (j / sz) (j % sz) r' w a
   rw[c] at k;rw[k]
   have f:=hs (j % sz) aA
   rw[←x,c] at f;exact f
  ·obtain⟨r,o⟩:=get_some (l:=rows) (i:=j / sz) aA
   have w:(rows.set i r')[j / sz]? =some r:=by rw[List.getElem?_set_ne aA];exact o
   have k:=Md (rows.set i r') d (j / sz) (j % sz) r w a
   have f:=Md rows A (j / sz) (j % sz) r o a
   rw[c] at k f;rw[k,←f,←D,List.getElem?_take_of_lt e];refine z.2 j ?_;rcases Nat.lt_or_ge (j / sz) i with C | hge
   ·left
    have:=Nat.mul_le_mul_right sz (show j / sz+1≤i by omega)
    rw[Nat.add_mul,Nat.one_mul] at this;omega
   ·right
    have:=Nat.mul_le_mul_right sz (show i+1≤j / sz by omega)
    rw[Nat.add_mul,Nat.one_mul] at this;omega
 ·rw[List.getElem?_eq_none (by rw[List.length_take];omega),List.getElem?_eq_none (by rw[Hz _ d,List.length_set,B];exact e)]
theorem Br{sz n i:Nat}{cs r:List Value}{rows:List (List Value)}(e:cs.take (n*sz)=rows.flatten)(c:rows.length=n)(a:∀r∈rows,r.length=sz)(hi:rows[i]? =some r):Sub cs (i*sz) r:=fun k j=>by
 have d:i < n:=by rw[←c];exact(List.getElem?_eq_some_iff.1 hi).1
 have b:r.length=sz:=a r (List.mem_of_getElem? hi)
 have f:=Md rows a i k r hi aA
 have h:i*sz+k < n*sz:=by
  have:=Nat.mul_le_mul_right sz (show i+1≤n by omega)
  rw[Nat.add_mul,Nat.one_mul] at this;omega
 rw[←f,←e,List.getElem?_take_of_lt h]
def Jr(T el:TypeId)(sz t:Nat)(A:Option Addr)(n c:Nat)(rows:List (List Value)):HP:=HP.many [HP.aI t T [.slice A n c],HP.own el sz (.slice A n c) n rows.flatten]
structure Aj(w:World)(sz t:Nat)(A:Option Addr)(n c:Nat)(rows:List (List Value)):Prop where
 r0:gG w t 0 (.slice A n c)
 row:aM (all w) sz A n rows.flatten
section
variable{T el:TypeId}{sz n c:Nat}{A:Option Addr}{rows zD:List (List Value)}
theorem aHP{F:Nat→Prop}(h:(Jr T el sz t A n c rows).sat F w)(hF:∀b,F b→b < w.heap.size):Aj w sz t A n c rows:=by
 obtain⟨G,d,j,_⟩:=h
 have e:=d 0 _ rfl
 have k:=d 1 _ rfl
 obtain⟨l,m,a,i⟩:=yQ (Y:=fun b=>b < w.heap.size) k (fun b f=>hF b (j 1 b f))
 injection a with a
 subst a;exact⟨⟨e.2.lt,by rw[e.2.cell];rfl⟩,i⟩
theorem St.aAB(st:St w0 R H w)(i:Nat)(hi:H[i]? =some (Jr T el sz t A n c rows)):Aj w sz t A n c rows:=by
 obtain⟨F,a,b,_⟩:=st.chunk hi;exact aHP a b
theorem Rd.row(i:Nat)(hi:H[i]? =some (Jr T el sz t A n c rows)):Rd w0 R H t 0 (.slice A n c):=fun w st=>(st.aAB i hi).r0.2
theorem Aj.at_(h:Aj w sz t A n c rows)(d:∀r∈rows,r.length=sz){i:Nat}{r:List Value}(hi:rows[i]? =some r)(a:i < n):∃b off,A=some ⟨b,off,none⟩∧eA w b (off+i*sz) r:=aM.row h.row d hi a
theorem Aj.below{w':World}(h:Aj w sz t A n c rows)(a:Below w.heap.size w w'):Aj w' sz t A n c rows:=
 ⟨⟨Nat.lt_of_lt_of_le h.r0.1 a.size,(a.cell (p:=⟨_,0,none⟩) h.r0.1).trans h.r0.2⟩,h.row.le (lK a)⟩
theorem aC2(i:Nat)(hi:H[i]? =some (Jr T el sz t A n c rows))(d:0 < n)(h:∀g cs,A=some ⟨g,0,none⟩→cs.length=c*sz→cs.take (n*sz)=rows.flatten→n≤c→c≤maxLen→
  XK N w0 K e R (HP.aI g el cs::HP.aI t T [.slice (some ⟨g,0,none⟩) n c]::H.set i (HP.many [cM,cM]))):XK N w0 K e R H:=by
 have a:=wK hi
 refine rG i 0 hi rfl ?_;refine rG (i+1) 1 (by rw[List.getElem?_cons_succ,List.getElem?_set_self a]) rfl ?_;refine Ys 0 rfl d fun g b=>?_;rw[b];refine Ej 0 rfl fun cs k l f j=>?_
 have:=h g cs b k l f j
 simpa[List.set_cons_succ,List.set_set] using this
theorem Em(i:Nat){g:Nat}{cs:List Value}(j:A=some ⟨g,0,none⟩)(d:cs.length=c*sz)(f:cs.take (n*sz)=zD.flatten)(h3:n≤c)(b:c≤maxLen)(hi:H[i]? =some (HP.many [cM,cM]))
  (h:XK N w0 K e R (H.set i (Jr T el sz t A n c zD))):XK N w0 K e R (HP.aI g el cs::HP.aI t T [.slice (some ⟨g,0,none⟩) n c]::H):=by
 have a:=wK hi
 subst j;refine Ce 0 (n:=n) (c:=c) (sz:=sz) rfl d f h3 b ?_;dsimp only[List.set];refine rJ (i+1) 1 (by rw[List.getElem?_cons_succ];exact hi) rfl ?_;dsimp only[List.set];refine rJ i 0 (by rw[List.getElem?_set_self a]) rfl ?_
 simpa[List.set_set,Jr] using h
end
theorem aP1{x:Operand}{t kt et:TypeId}{r:Nat}{l:List (Int×Value)}(j:Tryz.prog.underlying t=some (.map kt et))(hx:e.ev x=some (.map (some r)))(hm:∀w,St w0 R H w→vW w r l):cF Tryz.prog N w0 e R H ⟨some d,.call {callee:=.builtin .len,args:=#[x],argTypes:=#[t]},ty,pos,aL,none⟩ (.int .i64 l.length):=fun a w i st=>by
 obtain⟨b,c,k,m⟩:=hm w st
 have h:b.size=l.length:=by have:=congrArg List.length m;simpa using this
 have f:(execOp a.eval ⟨some d,.call {callee:=.builtin .len,args:=#[x],argTypes:=#[t]},ty,pos,aL,none⟩).run Tryz.prog w=.ok (.value (.int .i64 b.size)) w:=by
  simp[execOp,resolve,invoke,builtin,i.ev hx,Builtin.len_,run_underlying j,run_getObj_map k,goInt]
 rw[f,h]
theorem Wd(i:Nat){f:FuncId}{x:Operand}{args:List Operand}{fi ca vs:List Value}{tys:Array TypeId}{p:HP}(q:HP)
  (c:∀w F,St w0 R H w→p.sat F w→(∀b,F b→b < w.heap.size)→(∀q∈R,q.Le ⟨w,fun b=>b < w.heap.size∧¬F b⟩)→Calls Tryz.prog f (fi++vs++ca).toArray w fun y w'=>y=.returned v∧∃a,q.sat a w'∧iI w w' F a)
  (k:XK N w0 (wpList Tryz.prog ops Q rest) ((d,v)::e) R (H.set i q)) (hi:H[i]? =some p:=by rfl) (hx:e.ev x=some (.func (.func f) fi.toArray ca.toArray):=by rfl) (h:e.fZ args=some vs:=by rfl) (hf:fJ Tryz.prog f=true:=by kernel_rfl) (hd:d < N.n:=by decide):
  XK N w0 (wpList Tryz.prog ops Q (⟨some d,.call {callee:=.value x,args:=args.toArray,argTypes:=tys},ty,pos,aL,none⟩::rest)) e R H:=aDp (dst:=some d) (e':=(d,v)::e) i q hf hx h hi ⟨hd,rfl⟩ c k
theorem We(i:Nat){f:FuncId}{x:Operand}{args:List Operand}{vs:List Value}{tys:Array TypeId}{p:HP}(q:HP)
  (j:∀w F,St w0 R H w→p.sat F w→(∀b,F b→b < w.heap.size)→(∀q∈R,q.Le ⟨w,fun b=>b < w.heap.size∧¬F b⟩)→Calls Tryz.prog f vs.toArray w fun y w'=>y=.returned v∧∃a,q.sat a w'∧iI w w' F a)
  (k:XK N w0 (wpList Tryz.prog ops Q rest) ((d,v)::e) R (H.set i q)) (hi:H[i]? =some p:=by rfl) (hx:e.ev x=some (.func (.func f) #[] #[]):=by rfl) (m:e.fZ args=some vs:=by rfl) (hf:fJ Tryz.prog f=true:=by kernel_rfl) (hd:d < N.n:=by decide):
  XK N w0 (wpList Tryz.prog ops Q (⟨some d,.call {callee:=.value x,args:=args.toArray,argTypes:=tys},ty,pos,aL,none⟩::rest)) e R H:=Wd (fi:=[]) (ca:=[]) i q (fun w F t l h c=>by simpa using j w F t l h c) k hi hx m hf hd
section
variable{S:World→Prop}
def Cq(ops:Array Oper)(Z:List Nat)(j:Nat):Bool:=match ops[j]? with
 | some o=>Z.all fun z=>(Mv ops ops.size (Pz o)).testBit z
 | none=>true
def Lb(ops:Array Oper)(j:Nat):Bool:=match ops[j]? with
 | some o=>(match o.op with
  | .move _=>true
  | _=>false)
 | none=>false
def Be(P:Program)(ops:Array Oper)(Q:Exit→Act→World→Prop)(S:World→Prop)(Z:List Nat):Nat→Array Bool→Act→World→Prop
 | 0,listed,a,w=>Region.ready .any ops listed=[]∧Q .normal a w
 | fuel+1,listed,a,w=>(Region.ready .any ops listed=[]→Q .normal a w)∧
  ∀i∈Region.ready .any ops listed,wpOp P ops Q i (fun b w'=>(Cq ops Z i=false→(S w∨Lb ops i=false)→S w')∧Be P ops Q S Z fuel (listed.setIfInBounds i true) b w') a w
theorem aAa:∀(fuel:Nat) (listed:Array Bool) (a:Act) (w:World),Be P ops Q S Z fuel listed a w→wpAny P .any ops Q fuel listed a w
 | 0,_,_,_,h=>h
 | fuel+1,_,_,_,h=>⟨h.1,fun i hi=>wpOp_mono (fun c w' b=>aAa fuel _ c w' b.2) (h.2 i hi)⟩
theorem aAb{i:Nat}{z:Oper}{v:Value}(hi:ops[i]? =some z)(u:∀(j:Nat) (o:Oper) cs b,ops[j]? =some o→o.op≠.select cs b)
  (hQ:∀c a w,Q (.panic c) (a.put z.dst v) w→Q (.panic c) a w) (M:i∈Z):
  ∀(fuel:Nat) (listed:Array Bool) (a:Act) (w:World),Down ops listed→
   (∀j A,ops[j]? =some A→j≠i→listed.getD j true=false→(∀e∈A.after,Region.binds .any e=true→e.on≠i)→z.apart ops A=true)→
   i∈Region.ready .any ops listed→YieldsIf P ops S z v a→S w→
   Be P ops Q S Z fuel (listed.setIfInBounds i true) (a.put z.dst v) w→Be P ops Q S Z (fuel+1) listed a w:=by
 intro fuel
 induction fuel with
 | zero =>
  intro listed a w y _ t G B H;refine⟨fun h=>(by rw[h] at t;cases t),fun j C=>?_⟩
  by_cases d:j=i
  ·subst d;exact G.wpOp hi B ⟨fun _ _=>B,H⟩
  ·have:=ready_mono C d
   rw[H.1] at this;cases this
 | succ fuel ih =>
  intro listed a w y l t G B H;refine⟨fun h=>(by rw[h] at t;cases t),fun j C=>?_⟩
  by_cases d:j=i
  ·subst d;exact G.wpOp hi B ⟨fun _ _=>B,H⟩
  ·have h1:=H.2 j (ready_mono C d)
   obtain⟨p,A,n,r⟩:=mem_ready.1 C
   have f:∀k,k∈Region.ready .any ops listed→listed.getD k false=true→False:=fun k R h=>by
    have T:=(mem_ready.1 R).1
    rcases Nat.lt_or_ge k listed.size with O | O
    ·simp[O] at T h;rw[T] at h;cases h
    ·simp[Array.getElem?_eq_none O] at h
   have L:Cq ops Z j=false:=by
    cases hw:Cq ops Z j with
    | false=>rfl
    | true=>
     exfalso;unfold Cq at hw;rw[n] at hw;exact f i t (aCg y ops.size _ (aAH (P:=fun k=>listed.getD k false=true) fun x Y K=>r x Y K) i (List.all_eq_true.1 hw i M))
   have D:∀e∈A.after,Region.binds .any e=true→e.on≠i:=fun e V K I=>f i t (I▸r e V K)
   have h2:=wpOp_putIf n (l j A n d p D) (fun cs b=>u i z cs b hi) (fun cs b=>u j A cs b n) hQ G h1
   have m:∀k ok,ops[k]? =some ok→k≠i→(listed.setIfInBounds j true).getD k true=false→
     (∀e∈ok.after,Region.binds .any e=true→e.on≠i)→z.apart ops ok=true:=fun k ok R N f J=>by
    refine l k ok R N ?_ J
    by_cases E:j=k
    ·subst E;exact p
    ·rw[getD_set_ne true E] at f;exact f
   refine wpOp_mono (fun X U F=>⟨F.2.1,ih (listed.setIfInBounds j true) X U (y.lS C) m (ready_mono t (Ne.symm d)) F.1 (F.2.1 L (.inl B)) ?_⟩) h2;rw[Array.setIfInBounds_comm _ _ d];exact F.2.2
theorem aIG{i:Nat}{t:Oper}{v:Value}(hi:ops[i]? =some t)(C:Lb ops i=true)(p:∀(j:Nat) (o:Oper) cs b,ops[j]? =some o→o.op≠.select cs b)
  (hQ:∀c a w,Q (.panic c) (a.put t.dst v) w→Q (.panic c) a w):
  ∀(fuel:Nat) (listed:Array Bool) (a:Act) (w:World),Down ops listed→
   (∀j x,ops[j]? =some x→j≠i→listed.getD j true=false→(∀e∈x.after,Region.binds .any e=true→e.on≠i)→t.apart ops x=true)→
   i∈Region.ready .any ops listed→YieldsIf P ops (fun _=>True) t v a→
   Be P ops Q S Z fuel (listed.setIfInBounds i true) (a.put t.dst v) w→Be P ops Q S Z (fuel+1) listed a w:=by
 intro fuel
 induction fuel with
 | zero =>
  intro listed a w z _ r E H;refine⟨fun h=>(by rw[h] at r;cases r),fun j y=>?_⟩
  by_cases d:j=i
  ·subst d;exact E.wpOp hi trivial ⟨fun _ hw=>hw.resolve_right (by rw[C];decide),H⟩
  ·have:=ready_mono y d
   rw[H.1] at this;cases this
 | succ fuel ih =>
  intro listed a w z f r E H;refine⟨fun h=>(by rw[h] at r;cases r),fun j y=>?_⟩
  by_cases d:j=i
  ·subst d;exact E.wpOp hi trivial ⟨fun _ hw=>hw.resolve_right (by rw[C];decide),H⟩
  ·have U:=H.2 j (ready_mono y d)
   obtain⟨n,x,u,A⟩:=mem_ready.1 y
   have l:∀k,k∈Region.ready .any ops listed→listed.getD k false=true→False:=fun k L h=>by
    have M:=(mem_ready.1 L).1
    rcases Nat.lt_or_ge k listed.size with K | K
    ·simp[K] at M h;rw[M] at h;cases h
    ·simp[Array.getElem?_eq_none K] at h
   have B:∀e∈x.after,Region.binds .any e=true→e.on≠i:=fun e R N F=>l i r (F▸A e R N)
   have V:=wpOp_putIf u (f j x u d n B) (fun cs b=>p i t cs b hi) (fun cs b=>p j x cs b u) hQ E U
   have m:∀k ok,ops[k]? =some ok→k≠i→(listed.setIfInBounds j true).getD k true=false→
     (∀e∈ok.after,Region.binds .any e=true→e.on≠i)→t.apart ops ok=true:=fun k ok L J l G=>by
    refine f k ok L J ?_ G
    by_cases D:j=k
    ·subst D;exact n
    ·rw[getD_set_ne true D] at l;exact l
   refine wpOp_mono (fun T O I=>⟨I.2.1,ih (listed.setIfInBounds j true) T O (z.lS y) m (ready_mono r (Ne.symm d)) I.1 ?_⟩) V;rw[Array.setIfInBounds_comm _ _ d];exact I.2.2
end
structure Tf(ops:Array Oper)(listed:Array Bool):Prop where
 down:Down ops listed
 Fj:Region.noSelect ops=true
theorem Tf.lS{i:Nat}(h:Tf ops listed)(hi:i∈Region.ready .any ops listed):Tf ops (listed.setIfInBounds i true):=⟨h.down.lS hi,h.Fj⟩
def XB(P:Program)(N:cO)(w0:World)(ops:Array Oper)(Q:Exit→Act→World→Prop)(R0:List Piece)(H0:List HP)(Z:List Nat)(fuel:Nat)(listed:Array Bool)(e:Env)(R:List Piece)(H:List HP):Prop:=
 Tf ops listed→XK N w0 (Be P ops Q (St w0 R0 H0) Z fuel listed) e R H
def Gu(P:Program)(w0:World)(ops:Array Oper)(Q:Exit→Act→World→Prop)(R0:List Piece)(H0:List HP)(Z:List Nat)(fuel:Nat)(listed:Array Bool)(i:Nat):Act→World→Prop:=
 fun b a=>(Cq ops Z i=false→St w0 R0 H0 a)∧(Tf ops (listed.setIfInBounds i true)→Be P ops Q (St w0 R0 H0) Z fuel (listed.setIfInBounds i true) b a)
theorem jG(Z:List Nat){id:Nat}{l:List Oper}(h:XB P N w0 l.toArray Q R H Z l.length (Array.replicate l.length false) e R H)(hm:P.follows .mixedOrders=true:=by kernel_rfl)(b:Region.noSelect l.toArray=true:=by kernel_rfl):XK N w0 ((Code.region id l.toArray true).wp P Q) e R H:=fun a w c st=>by
 have:=h ⟨Down.start _ _,b⟩ a w.drew c st.drew
 refine wp_region_any hm (aAa (S:=St w0 R H) (Z:=Z) _ _ _ _ ?_)
 simpa using this
theorem aCD(i:Nat){b:Oper}{v:Value}{d:Nat}(hi:ops[i]? =some b)(f:b.dst=some d)(hg:b.guard=none)(hd:d < N.n)(dG:cF P N w0 e R0 H0 b v)
  (l:(Region.free .any ops listed i&&(Region.ready .any ops listed).contains i&&Z.contains i)=true) (hQ:∀c a w,Q (.panic c) (a.put b.dst v) w→Q (.panic c) a w)
  (hsub:∀w,St w0 R H w→St w0 R0 H0 w)
  (k:XB P N w0 ops Q R0 H0 Z fuel (listed.setIfInBounds i true) ((d,v)::e) R H):XB P N w0 ops Q R0 H0 Z (fuel+1) listed e R H:=by
 simp only[Bool.and_eq_true] at l;obtain⟨⟨t,j⟩,o⟩:=l;intro up a w m st
 have r:=k (up.lS (by simpa using j)) (a.put b.dst v) w (by rw[f];exact m.put hd v) st
 refine aAb hi (Region.noSelect_spec up.Fj) hQ (by simpa using o) fuel listed a w up.down (Region.free_spec hi t) (by simpa using j) (.inl ⟨by simp[Region.wanted,hg],fun p h=>?_⟩) (hsub w st) r;exact dG a p m h
theorem aH5(i:Nat)(h:Lb ops i=true){b:Oper}{v:Value}{d:Nat}(hi:ops[i]? =some b)(f:b.dst=some d)(hg:b.guard=none)(hd:d < N.n)(dG:∀a w,eH N e a→(execOp a.eval b).run P w=.ok (.value v) w)
  (l:(Region.free .any ops listed i&&(Region.ready .any ops listed).contains i)=true) (hQ:∀c a w,Q (.panic c) (a.put b.dst v) w→Q (.panic c) a w)
  (k:XB P N w0 ops Q R0 H0 Z fuel (listed.setIfInBounds i true) ((d,v)::e) R H):XB P N w0 ops Q R0 H0 Z (fuel+1) listed e R H:=by
 simp only[Bool.and_eq_true] at l;obtain⟨r,j⟩:=l;intro up a w m st
 have p:=k (up.lS (by simpa using j)) (a.put b.dst v) w (by rw[f];exact m.put hd v) st
 refine aIG hi h (Region.noSelect_spec up.Fj) hQ fuel listed a w up.down (Region.free_spec hi r) (by simpa using j) (.inl ⟨by simp[Region.wanted,hg],fun o _=>?_⟩) p;exact dG a o m
theorem aSs(i:Nat){f:Oper}(hi:ops[i]? =some f)(c:Region.ready .any ops listed=[i])(k:XK N w0 (wpList P ops (Exit.then (Gu P w0 ops Q R0 H0 Z fuel listed i) Q) [f]) e R H):XB P N w0 ops Q R0 H0 Z (fuel+1) listed e R H:=by
 intro up a w b st;refine⟨fun h=>(by rw[c] at h;cases h),fun j d=>?_⟩;rw[c] at d;simp at d;subst d;exact Bc hi (fun a w h=>⟨fun hw _=>h.1 hw,h.2 (up.lS (by rw[c];simp))⟩) (k a w b st)
theorem yN(i j:Nat){f k:Oper}(hi:ops[i]? =some f)(hj:ops[j]? =some k)(l:Region.ready .any ops listed=[i,j])
  (k1:XK N w0 (wpList P ops (Exit.then (Gu P w0 ops Q R0 H0 Z fuel listed i) Q) [f]) e R H) (k2:XK N w0 (wpList P ops (Exit.then (Gu P w0 ops Q R0 H0 Z fuel listed j) Q) [k]) e R H):XB P N w0 ops Q R0 H0 Z (fuel+1) listed e R H:=by
 intro up a w b st;refine⟨fun h=>(by rw[l] at h;cases h),fun q d=>?_⟩
 have c:=d
 rw[l] at d;simp at d;rcases d with rfl | rfl
 ·exact Bc hi (fun a w h=>⟨fun hw _=>h.1 hw,h.2 (up.lS c)⟩) (k1 a w b st)
 ·exact Bc hj (fun a w h=>⟨fun hw _=>h.1 hw,h.2 (up.lS c)⟩) (k2 a w b st)
theorem aSx{i:Nat}(hS:∀w,St w0 R H w→St w0 R0 H0 w)(h:XB P N w0 ops Q R0 H0 Z fuel (listed.setIfInBounds i true) e R H):XK N w0 (Gu P w0 ops Q R0 H0 Z fuel listed i) e R H:=fun a w b st=>⟨fun _=>hS w st,fun up=>h up a w b st⟩
theorem aSt(c:Region.ready .any ops listed=[])(h:XK N w0 (Q .normal) e R H):XB P N w0 ops Q R0 H0 Z fuel listed e R H:=by
 intro up a w b st;cases fuel with
 | zero=>exact⟨c,h a w b st⟩
 | succ fuel=>exact⟨fun _=>h a w b st,by rw[c];simp⟩
theorem aSw{i:Nat}(h:XB P N w0 ops Q R0 H0 Z fuel (listed.setIfInBounds i true) e R H)(hl:Cq ops Z i=true:=by kernel_rfl):XK N w0 (Gu P w0 ops Q R0 H0 Z fuel listed i) e R H:=fun a w c st=>⟨(fun b=>by rw[hl] at b;cases b),fun up=>h up a w c st⟩
theorem cS{i:Nat}(h:XB P N w0 ops Q R0 H0 Z fuel (listed.setIfInBounds i true) e R H)(hl:Cq ops Z i=true:=by kernel_rfl):XK N w0 (wpList P ops (Exit.then (Gu P w0 ops Q R0 H0 Z fuel listed i) Q) []) e R H:=iG (iC (aSw h hl))
theorem bH{i:Nat}(h:XB P N w0 ops Q R0 H0 Z fuel (listed.setIfInBounds i true) e R H)(hS:∀w,St w0 R H w→St w0 R0 H0 w:=by first | exact fun _ h=>h | exact fun _ h=>h.tail | exact fun _ h=>h.bG | exact fun _ h=>h.tail.tail | exact fun _ h=>h.bG.tail | exact fun _ h=>h.bG.bG | exact fun _ h=>h.bG.tail.tail | exact fun _ h=>h.tail.tail.tail | exact fun _ h=>h.bG.tail.bG.tail):XK N w0 (wpList P ops (Exit.then (Gu P w0 ops Q R0 H0 Z fuel listed i) Q) []) e R H:=iG (iC (aSx hS h))
theorem aO(i:Nat)(k:XB Tryz.prog N w0 ops Q R0 H0 Z fuel (listed.setIfInBounds i true) ((d,v)::e) R H)(hi:ops[i]? =some ⟨some d,op,ty,pos,aL,none⟩:=by rfl)(dG:cF Tryz.prog N w0 e R0 H0 ⟨some d,op,ty,pos,aL,none⟩ v:=by
  first
  | ((with_reducible apply Pd);exact mG rfl)
  | ((with_reducible apply Pk);exact Sa rfl)
  | ((with_reducible apply Pe);(first | exact bP rfl | exact kO rfl | exact Rv rfl))
  | ((with_reducible apply Pg);exact Ry rfl)
  | ((with_reducible apply Pc);exact Rp rfl)
  | ((with_reducible apply Pb);(first | exact Rj rfl rfl | exact Rk rfl rfl))
  | ((with_reducible apply Pj);(first | exact Rr rfl rfl | exact Ru rfl rfl | exact Rw rfl rfl | exact Rx rfl rfl | exact Rz rfl rfl | exact Rq rfl rfl | exact Jb rfl rfl (iY aA) | exact Iz rfl rfl (iY aA) | exact Rm rfl | exact Rl rfl | exact Mr rfl))
  | ((with_reducible apply Pa);(first | exact Rn rfl | exact Ro rfl))
  | ((with_reducible apply Pf);exact Rs rfl)
  | ((with_reducible apply Ph);exact zV rfl rfl)
  | ((with_reducible apply Uo);exact Xq rfl rfl))(hd:d < N.n:=by decide)
  (b:(Region.free .any ops listed i&&(Region.ready .any ops listed).contains i&&Z.contains i)=true:=by kernel_rfl) (hQ:∀c a w,Q (.panic c) (a.put (some d) v) w→Q (.panic c) a w:=by exact fun _ _ _ h=>h)
  (hsub:∀w,St w0 R H w→St w0 R0 H0 w:=by first | exact fun _ h=>h | exact fun _ h=>h.tail | exact fun _ h=>h.bG | exact fun _ h=>h.tail.tail | exact fun _ h=>h.bG.tail | exact fun _ h=>h.bG.bG):XB Tryz.prog N w0 ops Q R0 H0 Z (fuel+1) listed e R H:=aCD i hi rfl rfl hd dG b hQ hsub k
theorem bQ(i:Nat){y:Operand}(k:XB Tryz.prog N w0 ops Q R0 H0 Z fuel (listed.setIfInBounds i true) ((d,v)::e) R H)(hi:ops[i]? =some ⟨some d,.move y,ty,pos,aL,none⟩:=by rfl)(hx:e.ev y=some v:=by rfl)(hd:d < N.n:=by decide)
  (b:(Region.free .any ops listed i&&(Region.ready .any ops listed).contains i)=true:=by kernel_rfl) (hQ:∀c a w,Q (.panic c) (a.put (some d) v) w→Q (.panic c) a w:=by exact fun _ _ _ h=>h)
  (hsub:∀w,St w0 R H w→St w0 R0 H0 w:=by first | exact fun _ h=>h | exact fun _ h=>h.tail | exact fun _ h=>h.bG | exact fun _ h=>h.tail.tail | exact fun _ h=>h.bG.tail | exact fun _ h=>h.bG.bG | exact fun _ h=>h.bG.tail.tail | exact fun _ h=>h.tail.tail.tail | exact fun _ h=>h.bG.tail.bG.tail):XB Tryz.prog N w0 ops Q R0 H0 Z (fuel+1) listed e R H:=aH5 i (by simp[Lb,hi]) hi rfl rfl hd (fun a w f=>by simp[execOp,f.ev hx]) b hQ k
theorem aSu(i:Nat){v:Value}(hi:ops[i]? =some ⟨some d,op,ty,pos,aL,some (j,want)⟩)(hj:(ops[j]?).bind (·.dst)=some t)(p:e.get t=some (.bool want))(hd:d < N.n)(dG:cF P N w0 e R0 H0 ⟨some d,op,ty,pos,aL,none⟩ v)
  (l:(Region.free .any ops listed i&&(Region.ready .any ops listed).contains i&&Z.contains i)=true) (hQ:∀c a w,Q (.panic c) (a.put (some d) v) w→Q (.panic c) a w)
  (hsub:∀w,St w0 R H w→St w0 R0 H0 w)
  (k:XB P N w0 ops Q R0 H0 Z fuel (listed.setIfInBounds i true) ((d,v)::e) R H):XB P N w0 ops Q R0 H0 Z (fuel+1) listed e R H:=by
 simp only[Bool.and_eq_true] at l;obtain⟨⟨u,h⟩,m⟩:=l;intro up a w f st
 have r:=k (up.lS (by simpa using h)) (a.put (some d) v) w (f.put hd v) st
 refine aAb hi (Region.noSelect_spec up.Fj) hQ (by simpa using m) fuel listed a w up.down (Region.free_spec hi u) (by simpa using h) (.inl ⟨?_,fun o b=>?_⟩) (hsub w st) r
 ·simp only[Region.wanted,yielded,hj,Option.bind_some,f.get t _ p];simp
 ·exact dG a o f b
class fF(t:TypeId)(zs:outParam (List Value)):Prop where
 h:Ba Tryz.prog t zs:=by exact iH (by kernel_rfl)
class jI(t:TypeId)(L:outParam (List (Nat×Nat))):Prop where
 h:Wb Tryz.prog t=some L:=by kernel_rfl
class Kb(t:TypeId)(sz bytes:outParam Nat):Prop where
 h:(Tryz.prog.info? t).map (fun i=>(i.zero.map (fun z=>z.cells.size),i.size,i.bytes))=some (some sz,sz,bytes):=by kernel_rfl
class Tj(t:TypeId)(k:outParam IntKind):Prop where
 h:Tryz.prog.underlying t=some (.int k):=by kernel_rfl
def Ve:Op→Bool
 | .assign _ | .pick .. | .load .. | .nilCheck _ | .binOp .. | .unOp .. | .convert .. | .fieldAddr .. | .field .. | .indexAddr .. | .index .. | .extract .. | .build .. | .makeFunc .. =>true
 | .call c=>match c.callee with
  | .builtin .len=>true
  | _=>false
 | _=>false
def aDP(op:Op):Bool:=Ve op||match op with
 | .move _=>true
 | _=>false
def aR5:Op→Bool
 | .alloc _ | .box .. | .buildSlice .. | .makeSlice .. =>true
 | _=>false
def Ke(ops:Array Oper):List Nat:=(List.range ops.size).filter fun i=>match ops[i]? with
 | some o=>Ve o.op&&(List.range ops.size).all fun j=> !((Mv ops ops.size (Pz o)).testBit j)||match ops[j]? with
  | some p=>aDP p.op||aR5 p.op
  | none=>true
 | none=>false
def lX(a:List Nat)(H H':List HP):Prop:=∃b:List Nat,xQ b H=some H'∧b.Nodup∧∀i∈b,i∉a
theorem lX.nil{a:List Nat}{H:List HP}:lX a H []:=⟨[],rfl,List.nodup_nil,fun _ h=>by cases h⟩
theorem lX.cons(i:Nat){a:List Nat}{H r:List HP}{p:HP}(l:i∉a)(hi:H[i]? =some p)(h:lX (i::a) H r):lX a H (p::r):=by
 obtain⟨e,f,k,d⟩:=h;refine⟨i::e,?_,List.nodup_cons.2 ⟨fun b=>d i b aD,k⟩,fun j c=>?_⟩
 ·unfold xQ;rw[hi,f]
 ·rcases List.mem_cons.1 c with rfl | c
  ·exact l
  ·exact fun b=>d j c (by simp[b])
theorem Tg{H H':List HP}(h:lX [] H H':=by
  repeat (first | exact lX.nil | refine lX.cons 0 aC rfl ?_ | refine lX.cons 1 aC rfl ?_ | refine lX.cons 2 aC rfl ?_ | refine lX.cons 3 aC rfl ?_ | refine lX.cons 4 aC rfl ?_ | refine lX.cons 5 aC rfl ?_ | refine lX.cons 6 aC rfl ?_ | refine lX.cons 7 aC rfl ?_ | refine lX.cons 8 aC rfl ?_ | refine lX.cons 9 aC rfl ?_ | refine lX.cons 10 aC rfl ?_ | refine lX.cons 11 aC rfl ?_ | refine lX.cons 12 aC rfl ?_ | refine lX.cons 13 aC rfl ?_ | refine lX.cons 14 aC rfl ?_ | refine lX.cons 15 aC rfl ?_)):lX [] H H':=h
section
variable{α:Type}
def LpK(N:cO)(w0:World)(n:Nat)(E:Nat→α→Env)(R:List Piece)(C:Nat→α→List HP)(G:Nat→α→Prop)(i:Nat):Act→World→Prop:=fun a w=>∃x,i < n∧G (i+1) x∧eH N (E (i+1) x) a∧St w0 R (C (i+1) x) w
theorem rI{c:Code}(E:Nat→α→Env)(C:Nat→α→List HP)(G:Nat→α→Prop)(n:Nat)(b:α)(z:G 0 b)(D:∀i x,i≤n→G i x→XK N w0 (c.wp P (Exit.then (LpK N w0 n E R C G i) Q)) (E i x) R (C i x))
  (r:(E 0 b).Sub e:=by repeat (first | exact trivial | refine⟨rfl,?_⟩)) (I:lX [] H (C 0 b):=by exact Tg):XK N w0 ((Code.loop c).wp P Q) e R H:=by
 obtain⟨K,J,t,_⟩:=I;refine Np (E 0 b) r (aY K J t (fun _ h=>h) ?_);refine fG (fun m e p o=>∃i x,i≤n∧m=n - i∧G i x∧e=E i x∧p=R∧o=C i x) n ⟨0,b,aA,rfl,z,rfl,rfl,rfl⟩ fun m e p o A=>?_;obtain⟨i,x,u,rfl,F,rfl,rfl,rfl⟩:=A;intro a w d st;refine wp_mono (D i x u F a w d st) fun y O L l=>?_;cases y with
 | normal=>
  obtain⟨B,M,k,f,j⟩:=l;exact⟨n - (i+1),_,_,_,⟨aA,i+1,B,aA,rfl,k,rfl,rfl,rfl⟩,f,j⟩
 | _=>exact l
theorem lM{n i:Nat}{E:Nat→α→Env}{C:Nat→α→List HP}{G:Nat→α→Prop}(x:α)(b:(E (i+1) x).Sub e:=by repeat (first | exact trivial | refine⟨rfl,?_⟩))(hs:lX [] H (C (i+1) x):=by exact Tg)(d:∀p∈R',p∈R:=by first | exact fun _ h=>h | simp)(hi:i < n:=by omega)(hg:G (i+1) x:=by first | trivial | omega | assumption | (simp;done)):XK N w0 (LpK N w0 n E R' C G i) e R H:=by
 obtain⟨c,f,j,_⟩:=hs;exact Np _ b (aY c f j d fun a w k st=>⟨x,hi,hg,k,st⟩)
def Tn(N:cO)(w0:World)(E:α→Env)(R:List Piece)(C:α→List HP)(G:α→Prop):Act→World→Prop:=fun a w=>∃x,G x∧eH N (E x) a∧St w0 R (C x) w
theorem El{x y:Code}(E:α→Env)(C:α→List HP)(G:α→Prop)(h:XK N w0 (x.wp P (Exit.then (Tn N w0 E R C G) Q)) e R H)(hy:∀z,G z→XK N w0 (y.wp P Q) (E z) R (C z)):XK N w0 ((Code.seq x y).wp P Q) e R H:=fun a w l st=>by
 refine wp_seq (wp_mono (h a w l st) fun j k i d=>?_);cases j with
 | normal=>
  obtain⟨z,f,c,b⟩:=d;exact hy z f k i c b
 | _=>exact d
theorem Nr{x:Code}{K:Act→World→Prop}(E:α→Env)(C:α→List HP)(G:α→Prop)(h:XK N w0 (x.wp P (Exit.then (Tn N w0 E R C G) Q)) e R H)(hy:∀z,G z→XK N w0 K (E z) R (C z)):XK N w0 (x.wp P (Exit.then K Q)) e R H:=fun a w l st=>by
 refine wp_mono (h a w l st) fun j k i d=>?_;cases j with
 | normal=>
  obtain⟨z,f,c,b⟩:=d;exact hy z f k i c b
 | _=>exact d
theorem sH{id:Nat}{x:Code}{K:Act→World→Prop}(E:α→Env)(C:α→List HP)(G:α→Prop)(h:XK N w0 (x.wp P (Exit.inBlock id (Exit.then (Tn N w0 E R C G) Q))) e R H)(hy:∀z,G z→XK N w0 K (E z) R (C z)):XK N w0 (x.wp P (Exit.inBlock id (Exit.then K Q))) e R H:=fun a w p st=>by
 have b:∀ex i f,Exit.then (Tn N w0 E R C G) Q ex i f→Exit.then K Q ex i f:=fun ex i f d=>by
  cases ex with
  | normal=>
   obtain⟨z,o,m,k⟩:=d;exact hy z o i f m k
  | _=>exact d
 refine wp_mono (h a w p st) fun ex i f d=>?_;cases ex with
 | exit j =>
  by_cases n:j=id
  ·simp only[Exit.inBlock,if_pos n] at d⊢;exact b _ _ _ d
  ·simp only[Exit.inBlock,if_neg n] at d⊢;exact b _ _ _ d
 | normal=>exact b .normal i f d
 | goto l=>exact b (.goto l) i f d
 | ret=>exact b .ret i f d
 | panic c=>exact b (.panic c) i f d
 | outgrown=>exact b .outgrown i f d
theorem dO{E:α→Env}{C:α→List HP}{G:α→Prop}(x:α)(b:(E x).Sub e:=by repeat (first | exact trivial | refine⟨rfl,?_⟩))(hs:lX [] H (C x):=by exact Tg)(j:∀p∈R',p∈R:=by first | exact fun _ h=>h | simp)(hg:G x:=by first | trivial | omega | assumption | (simp;done)):XK N w0 (Tn N w0 E R' C G) e R H:=by
 obtain⟨c,d,f,_⟩:=hs;exact Np _ b (aY c d f j fun a w i st=>⟨x,hg,i,st⟩)
end
section
variable{R0':List Piece}{fuel' i:Nat}{aBk:Array Bool}{K':Act→World→Prop}
variable{o:Oper}
theorem iU{t:TypeId}{ps:List (Nat×Operand)}{vs:List (Nat×Value)}{zs cs:List Value}{L:List (Nat×Nat)}[hZ:fF t zs][hL:jI t L](hp:e.parts ps=some vs)(hf:fL L zs vs=some cs:=by first | (simp[fL,gR,Value.cells];done) | (simp[fL,gR,Value.cells];rfl) | rfl):
  cF Tryz.prog N w0 e R H ⟨some d,.build t ps.toArray,ty,pos,aL,none⟩ (.agg cs.toArray):=lI hZ.h hL.h hp hf
theorem aP2{x a:Operand}{t el:TypeId}{b off n c sz o:Nat}{kd:IntKind}{j:Int}[hT:lW t el sz](hx:e.ev x=some (.slice (some ⟨b,off,none⟩) n c))(hi:e.ev a=some (.int kd j))(hlt:0≤j∧j < (n:Int):=by omega)
  (ho:off+j.toNat*sz=o:=by first | (simp only[Int.toNat_natCast,Int.reduceToNat,Nat.mul_one,Nat.zero_add,Nat.reduceMul,Nat.reduceAdd];rfl) | rfl):cF Tryz.prog N w0 e R H ⟨some d,.indexAddr t x a,ty,pos,aL,none⟩ (.pointer (some ⟨b,o,none⟩)):=dat j.toNat o hx hi aA aA ho
theorem aP3{x a:Operand}{t el:TypeId}{b off n sz o:Nat}{kd:IntKind}{j:Int}[hT:Cj t n el sz](hx:e.ev x=some (.pointer (some ⟨b,off,none⟩)))(hi:e.ev a=some (.int kd j))(hlt:0≤j∧j < (n:Int):=by omega)
  (ho:off+j.toNat*sz=o:=by first | (simp only[Int.toNat_natCast,Int.reduceToNat,Nat.mul_one,Nat.zero_add,Nat.reduceMul,Nat.reduceAdd];rfl) | rfl):cF Tryz.prog N w0 e R H ⟨some d,.indexAddr t x a,ty,pos,aL,none⟩ (.pointer (some ⟨b,o,none⟩)):=fQ j.toNat o hx hi aA aA ho
theorem aP6{x:Operand}{kd a:IntKind}{i c:Int}{src dst:TypeId}[hs:Tj src a][ht:Tj dst kd](hx:e.ev x=some (.int a i))(hw:kd.wrap i=c:=by first | exact iY aA | exact wrap_u64 aA | exact wrap_u32 aA | rfl):cF Tryz.prog N w0 e R H ⟨some d,.convert src dst x,ty,pos,aL,none⟩ (.int kd c):=Gk hs.h ht.h hx hw
theorem aJU{t:TypeId}{x:Array (Nat×Operand)}(h:cF Tryz.prog N w0 e R H ⟨some d,.build t x,ty,pos,aL,none⟩ v):cF Tryz.prog N w0 e R H ⟨some d,.build t x,ty,pos,aL,none⟩ v:=h
theorem aJO{x y:Operand}{t:TypeId}(h:cF Tryz.prog N w0 e R H ⟨some d,.indexAddr t x y,ty,pos,aL,none⟩ v):cF Tryz.prog N w0 e R H ⟨some d,.indexAddr t x y,ty,pos,aL,none⟩ v:=h
theorem aJT{x:Operand}{s t:TypeId}(h:cF Tryz.prog N w0 e R H ⟨some d,.convert s t x,ty,pos,aL,none⟩ v):cF Tryz.prog N w0 e R H ⟨some d,.convert s t x,ty,pos,aL,none⟩ v:=h
theorem aS8{b o:Nat}{ds:List Int}(hd:xF ds)(ho:o < 120)(hi:∃(i:Nat) (t:TypeId),H[i]? =some (HP.aI b t (aR ds)):=by
  first | exact⟨0,_,rfl⟩ | exact⟨1,_,rfl⟩ | exact⟨2,_,rfl⟩ | exact⟨3,_,rfl⟩ | exact⟨4,_,rfl⟩ | exact⟨5,_,rfl⟩ | exact⟨6,_,rfl⟩ | exact⟨7,_,rfl⟩ | exact⟨8,_,rfl⟩ | exact⟨9,_,rfl⟩ | exact⟨10,_,rfl⟩ | exact⟨11,_,rfl⟩ | exact⟨12,_,rfl⟩):Rd w0 R H b o (.int .i64 (dv ds o % 1000000)):=by
 rw[Int.emod_eq_of_lt (hd.bd o).1 (hd.bd o).2];exact aS9 (hd.at_ o ho) hi
theorem aP8{x a:Operand}{t:TypeId}{s:ByteArray}{kd:IntKind}{i:Nat}{j:Int}{b:UInt8}(hx:e.ev x=some (.string s))(hi:e.ev a=some (.int kd j))(c:s[i]? =some b)(f:Tryz.prog.underlying t=some .string:=by kernel_rfl)(hj:j=(i:Int):=by omega):cF Tryz.prog N w0 e R H ⟨some d,.index t x a,ty,pos,aL,none⟩ (.int .u8 b.toNat):=aP7 i f hx hi hj c
theorem aJP{x y:Operand}{t:TypeId}(h:cF Tryz.prog N w0 e R H ⟨some d,.index t x y,ty,pos,aL,none⟩ v):cF Tryz.prog N w0 e R H ⟨some d,.index t x y,ty,pos,aL,none⟩ v:=h
theorem dz(h:cF Tryz.prog N w0 e R H o v:=by
  first
  | ((with_reducible apply Pd);exact mG rfl)
  | ((with_reducible apply Pk);exact Sa rfl)
  | ((with_reducible apply Pe);(first | exact bP rfl | exact kO rfl | exact Rv rfl | exact bP rfl (Rd.own 0 rfl (by assumption)) | exact bP rfl (Rd.own 1 rfl (by assumption)) | exact bP rfl (Rd.own 2 rfl (by assumption)) | exact bP rfl (Rd.own 3 rfl (by assumption)) | exact bP rfl (Rd.own 4 rfl (by assumption)) | exact bP rfl (Rd.aI 9 rfl rfl) | exact bP rfl (Rd.aI 10 rfl rfl) | exact bP rfl (Rd.aI 11 rfl rfl) | exact bP rfl (aS8 (by assumption) aA)))
  | ((with_reducible apply Pg);exact Ry rfl)
  | ((with_reducible apply aJO);(first | exact aP2 rfl rfl | exact aP3 rfl rfl))
  | ((with_reducible apply Pc);exact Rp rfl)
  | ((with_reducible apply Pb);(first | exact Rj rfl rfl | exact Rk rfl rfl))
  | ((with_reducible apply Pj);(first | exact Rr rfl rfl | exact Ru rfl rfl | exact Rw rfl rfl | exact Rx rfl rfl | exact Rz rfl rfl | exact Rq rfl rfl | exact Jb rfl rfl (iY aA) | exact Iz rfl rfl (iY aA) | exact aPy rfl rfl (iY aA) | exact aGr rfl rfl aA (rem_in aA) | exact aGs rfl rfl aA (aLg aA aA aA) | exact aGs rfl rfl aA (iY (by assumption)) | exact Rm rfl | exact Rl rfl | exact aTd rfl | exact Mr rfl | exact aTe aF rfl rfl | exact aP5 aF rfl rfl))
  | ((with_reducible apply Pa);(first | exact Rn rfl | exact Ro rfl | exact aPx rfl (iY aA)))
  | ((with_reducible apply Pf);exact Rs rfl)
  | ((with_reducible apply Ph);exact zV rfl rfl)
  | ((with_reducible apply Uo);exact Xq rfl rfl)
  | ((with_reducible apply aJU);exact iU rfl)
  | ((with_reducible apply aJT);exact aP6 rfl)
  | ((with_reducible apply aJP);exact aP8 rfl rfl (by assumption))
  | ((with_reducible apply aSH);exact aGv rfl rfl)):cF Tryz.prog N w0 e R H o v:=h
theorem kz(k:XK N w0 (wpList Tryz.prog ops Q rest) ((d,v)::e) R H)(h:cF Tryz.prog N w0 e R H ⟨some d,op,ty,pos,aL,none⟩ v:=by exact dz)(hd:d < N.n:=by decide):XK N w0 (wpList Tryz.prog ops Q (⟨some d,op,ty,pos,aL,none⟩::rest)) e R H:=kd h k hd
theorem cQ{t:TypeId}{cs:List Value}[hZ:fF t cs](k:∀g,XK N w0 (wpList Tryz.prog ops Q rest) ((d,.pointer (some ⟨g,0,none⟩))::e) R (HP.aI g t cs::H))(hd:d < N.n:=by decide):XK N w0 (wpList Tryz.prog ops Q (⟨some d,.alloc t,ty,pos,aL,none⟩::rest)) e R H:=aDt hZ.h hd k
theorem bY{x:Operand}{t:TypeId}{cs:List Value}(k:∀g,XK N w0 (wpList Tryz.prog ops Q rest) ((d,.pointer (some ⟨g,0,none⟩))::e) R (HP.aI g t cs::H))(hx:e.ev x=some v:=by rfl)(a:v.cells.toList=cs:=by first | (simp only[Value.cells,List.toList_toArray];rfl) | rfl)(hd:d < N.n:=by decide):XK N w0 (wpList Tryz.prog ops Q (⟨some d,.box t x,ty,pos,aL,none⟩::rest)) e R H:=by
 subst a;exact aIB hx hd k
theorem eT{t el:TypeId}{n sz:Nat}{ps:List (Nat×Operand)}{vs:List (Nat×Value)}{zs cs:List Value}[hT:lW t el sz][hZ:fF el zs](k:∀g,XK N w0 (wpList Tryz.prog ops Q rest) ((d,.slice (some ⟨g,0,none⟩) n n)::e) R (HP.aI g el cs::H))(hp:e.parts ps=some vs:=by rfl)(c:zs.length=sz:=by rfl)(a:0 < n*sz:=by decide)(b:n*sz≤16777216:=by decide)
  (hf:fL ((List.range n).map fun i=>(i*sz,sz)) ((List.range (n*sz)).map fun i=>zs.getD (i % sz) undef) vs=some cs:=by first | (simp[fL,gR,Value.cells,List.range_succ,List.set];done) | (simp[fL,gR,Value.cells,List.range_succ,List.set];rfl) | rfl) (hd:d < N.n:=by decide):XK N w0 (wpList Tryz.prog ops Q (⟨some d,.buildSlice t n ps.toArray,ty,pos,aL,none⟩::rest)) e R H:=
 aDh hT.h hZ.h hT.s c a b hp hf hd k
theorem Fy(i:Nat){x y:Operand}{t el:TypeId}{sz a n m p g:Nat}{v:Value}{xs b:List Value}[hT:lW t el sz][hB:Kb el sz a](k:∀A' j,XK N w0 (wpList Tryz.prog ops Q rest) ((d,.slice A' (n+m) j)::e) R (H.set i (HP.own el sz (.slice A' (n+m) j) (n+m) (xs++b))))(hi:H[i]? =some (HP.own el sz v n xs):=by rfl)(hx:e.ev x=some v:=by rfl)(hy:e.ev y=some (.slice (some ⟨g,0,none⟩) m p):=by rfl)
  (hs:H[0]? =some (HP.aI g el b):=by rfl) (hl:b.length=m*sz:=by rfl) (o:∀u∈b,u.oneCell'=true:=by simp[Value.oneCell']) (f:n+m≤1000000:=by omega) (l:a≤1000:=by decide) (c:0 < sz:=by decide) (hd:d < N.n:=by decide):
  XK N w0 (wpList Tryz.prog ops Q (⟨some d,.call {callee:=.builtin .append,args:=#[x,y],argTypes:=#[t,t]},ty,pos,aL,none⟩::rest)) e R H:=
 iL i sz a m hT.h hB.h c hi hx hy (nH 0 hs hl) o rfl aA (by have:=Nat.mul_le_mul f l;omega) hd k
theorem aSv(i:Nat){b:Bool}(hi:ops[i]? =some ⟨some d,op,ty,pos,aL,some (j,want)⟩)(hj:(ops[j]?).bind (·.dst)=some t)(p:e.get t=some (.bool b))(o:b= !want)(hd:d < N.n)
  (h:(Region.free .any ops listed i&&(Region.ready .any ops listed).contains i&&Z.contains i)=true) (hQ:∀c a w,Q (.panic c) (a.put (some d) undef) w→Q (.panic c) a w) (hsub:∀w,St w0 R H w→St w0 R0 H0 w)
  (k:XB Tryz.prog N w0 ops Q R0 H0 Z fuel (listed.setIfInBounds i true) ((d,undef)::e) R H):XB Tryz.prog N w0 ops Q R0 H0 Z (fuel+1) listed e R H:=by
 simp only[Bool.and_eq_true] at h;obtain⟨⟨u,f⟩,m⟩:=h;intro up a w l st
 have r:=k (up.lS (by simpa using f)) (a.put (some d) undef) w (l.put hd undef) st
 refine aAb hi (Region.noSelect_spec up.Fj) hQ (by simpa using m) fuel listed a w up.down (Region.free_spec hi u) (by simpa using f) (.inr ⟨?_,rfl⟩) (hsub w st) r;simp only[Region.wanted,yielded,hj,Option.bind_some,l.get t _ p,o];simp
def XL(i:Nat)(N:cO)(w0:World)(ops:Array Oper)(Q:Exit→Act→World→Prop)(R0:List Piece)(H0:List HP)(Z:List Nat)(fuel:Nat)(listed:Array Bool)(e:Env)(R:List Piece)(H:List HP):Prop:=XB Tryz.prog N w0 ops Q R0 H0 Z fuel listed e R H
theorem So(k:XL (i+1) N w0 ops Q R0 H0 Z fuel (listed.setIfInBounds i true) ((d,v)::e) R H)(f:(Z.contains i&&(Region.ready .any ops listed).contains i)=true:=by decide+kernel)(hi:ops[i]? =some ⟨some d,op,ty,pos,aL,none⟩:=by rfl)(dG:cF Tryz.prog N w0 e R0 H0 ⟨some d,op,ty,pos,aL,none⟩ v:=by exact dz)(hd:d < N.n:=by decide)
  (b:(Region.free .any ops listed i&&(Region.ready .any ops listed).contains i&&Z.contains i)=true:=by kernel_rfl) (hQ:∀c a w,Q (.panic c) (a.put (some d) v) w→Q (.panic c) a w:=by first | exact fun _ _ _ h=>h | exact fun _ _ _ h=>mE rfl h)
  (hsub:∀w,St w0 R H w→St w0 R0 H0 w:=by first | exact fun _ h=>h | exact fun _ h=>h.tail):XL i N w0 ops Q R0 H0 Z (fuel+1) listed e R H:=aCD i hi rfl rfl hd dG b hQ hsub k
theorem Sm(k:XL (i+1) N w0 ops Q R0 H0 Z fuel (listed.setIfInBounds i true) ((d,v)::e) R H)(l:(Z.contains i&&(Region.ready .any ops listed).contains i)=true:=by decide+kernel)(hi:ops[i]? =some ⟨some d,op,ty,pos,aL,some (j,want)⟩:=by rfl)(hj:(ops[j]?).bind (·.dst)=some t:=by rfl)(f:e.get t=some (.bool want):=by rfl)(dG:cF Tryz.prog N w0 e R0 H0 ⟨some d,op,ty,pos,aL,none⟩ v:=by exact dz)(hd:d < N.n:=by decide)
  (b:(Region.free .any ops listed i&&(Region.ready .any ops listed).contains i&&Z.contains i)=true:=by kernel_rfl) (hQ:∀c a w,Q (.panic c) (a.put (some d) v) w→Q (.panic c) a w:=by first | exact fun _ _ _ h=>h | exact fun _ _ _ h=>mE rfl h)
  (hsub:∀w,St w0 R H w→St w0 R0 H0 w:=by first | exact fun _ h=>h | exact fun _ h=>h.tail):XL i N w0 ops Q R0 H0 Z (fuel+1) listed e R H:=aSu i hi hj f hd dG b hQ hsub k
theorem Sn{b:Bool}(k:XL (i+1) N w0 ops Q R0 H0 Z fuel (listed.setIfInBounds i true) ((d,undef)::e) R H)(o:(Z.contains i&&(Region.ready .any ops listed).contains i)=true:=by decide+kernel)(hi:ops[i]? =some ⟨some d,op,ty,pos,aL,some (j,want)⟩:=by rfl)(hj:(ops[j]?).bind (·.dst)=some t:=by rfl)(m:e.get t=some (.bool b):=by rfl)(f:b= !want:=by rfl)(hd:d < N.n:=by decide)
  (l:(Region.free .any ops listed i&&(Region.ready .any ops listed).contains i&&Z.contains i)=true:=by kernel_rfl) (hQ:∀c a w,Q (.panic c) (a.put (some d) undef) w→Q (.panic c) a w:=by first | exact fun _ _ _ h=>h | exact fun _ _ _ h=>mE rfl h)
  (hsub:∀w,St w0 R H w→St w0 R0 H0 w:=by first | exact fun _ h=>h | exact fun _ h=>h.tail):XL i N w0 ops Q R0 H0 Z (fuel+1) listed e R H:=aSv i hi hj m f hd l hQ hsub k
theorem Sq{y:Operand}(k:XL (i+1) N w0 ops Q R0 H0 Z fuel (listed.setIfInBounds i true) ((d,v)::e) R H)(hi:ops[i]? =some ⟨some d,.move y,ty,pos,aL,none⟩:=by rfl)(hx:e.ev y=some v:=by rfl)(hd:d < N.n:=by decide)
  (b:(Region.free .any ops listed i&&(Region.ready .any ops listed).contains i)=true:=by kernel_rfl) (hQ:∀c a w,Q (.panic c) (a.put (some d) v) w→Q (.panic c) a w:=by first | exact fun _ _ _ h=>h | exact fun _ _ _ h=>mE rfl h):XL i N w0 ops Q R0 H0 Z (fuel+1) listed e R H:=aH5 i (by simp[Lb,hi]) hi rfl rfl hd (fun a w f=>by simp[execOp,f.ev hx]) b hQ k
theorem Sk(k:XL (i+1) N w0 ops Q R0 H0 Z fuel listed e R H)(hl:decide (i < ops.size)=true:=by rfl):XL i N w0 ops Q R0 H0 Z fuel listed e R H:=k
theorem Sr(k:XB Tryz.prog N w0 ops Q R0 H0 Z fuel listed e R H)(hl:decide (i < ops.size)=false:=by rfl):XL i N w0 ops Q R0 H0 Z fuel listed e R H:=k
theorem nZ(i:Nat)(k:XB Tryz.prog N w0 ops Q R0 H0 Z fuel (listed.setIfInBounds i true) ((d,v)::e) R H)(hi:ops[i]? =some ⟨some d,op,ty,pos,aL,none⟩:=by rfl)(dG:cF Tryz.prog N w0 e R0 H0 ⟨some d,op,ty,pos,aL,none⟩ v:=by exact dz)(hd:d < N.n:=by decide)
  (b:(Region.free .any ops listed i&&(Region.ready .any ops listed).contains i&&Z.contains i)=true:=by kernel_rfl) (hQ:∀c a w,Q (.panic c) (a.put (some d) v) w→Q (.panic c) a w:=by first | exact fun _ _ _ h=>h | exact fun _ _ _ h=>mE rfl h)
  (hsub:∀w,St w0 R H w→St w0 R0 H0 w:=by first | exact fun _ h=>h | exact fun _ h=>h.tail | exact fun _ h=>h.tail.tail | exact fun _ h=>h.tail.tail.tail | exact fun _ h=>h.bG | exact fun _ h=>h.bG.tail):XB Tryz.prog N w0 ops Q R0 H0 Z (fuel+1) listed e R H:=aCD i hi rfl rfl hd dG b hQ hsub k
theorem uT{id:Nat}{l:List Oper}(k:XB Tryz.prog N w0 ops Q R0 H0 Z fuel listed e' R' H')(hk:XB Tryz.prog N w0 ops Q R0 H0 Z fuel listed e' R' H'→XL 0 N w0 l.toArray Q R H (Ke l.toArray) l.length (Array.replicate l.length false) e R H:=by
  intro h
  repeat (first | refine Sq ?_ | refine So ?_ | refine Sm ?_ | refine Sn ?_ | refine Yn ?_ | refine Sk ?_ | refine Sr ?_)
  exact h)(hm:Tryz.prog.follows .mixedOrders=true:=by kernel_rfl)(hs:Region.noSelect l.toArray=true:=by kernel_rfl):XK N w0 ((Code.region id l.toArray true).wp Tryz.prog Q) e R H:=jG (Ke l.toArray) (hk k) hm hs
def Tr(ops:Array Oper):List Nat:=(List.range ops.size).filter fun i=>match ops[i]? with
 | some o=>Ve o.op
 | none=>false
theorem aH0{id:Nat}{l:List Oper}(k:XB Tryz.prog N w0 l.toArray Q R H (Tr l.toArray) fuel listed e' R' H')(hk:XB Tryz.prog N w0 l.toArray Q R H (Tr l.toArray) fuel listed e' R' H'→XL 0 N w0 l.toArray Q R H (Tr l.toArray) l.length (Array.replicate l.length false) e R H:=by
  intro h
  repeat (first | refine Sq ?_ | refine So ?_ | refine Sm ?_ | refine Sn ?_ | refine Yn ?_ | refine Sk ?_ | refine Sr ?_)
  exact h)(hm:Tryz.prog.follows .mixedOrders=true:=by kernel_rfl)(hs:Region.noSelect l.toArray=true:=by kernel_rfl):XK N w0 ((Code.region id l.toArray true).wp Tryz.prog Q) e R H:=jG (Tr l.toArray) (hk k) hm hs
theorem rL(i:Nat){fuel':Nat}{aBk:Array Bool}(k:XB Tryz.prog N w0 ops Q R0 H0 Z fuel' aBk e' R' H')(hk:XB Tryz.prog N w0 ops Q R0 H0 Z fuel' aBk e' R' H'→XL i N w0 ops Q R0 H0 Z fuel listed e R H:=by
  intro h
  repeat (first | refine Sq ?_ | refine So ?_ | refine Sm ?_ | refine Sn ?_ | refine Yn ?_ | refine Sk ?_ | refine Sr ?_)
  exact h):XB Tryz.prog N w0 ops Q R0 H0 Z fuel listed e R H:=hk k
theorem aQ(i:Nat){a:Oper}(k:XK N w0 (wpList Tryz.prog ops (Exit.then (Gu Tryz.prog w0 ops Q R0 H0 Z fuel listed i) Q) [a]) e R H)(b:Region.ready .any ops listed=[i]:=by decide+kernel)(hi:ops[i]? =some a:=by rfl):XB Tryz.prog N w0 ops Q R0 H0 Z (fuel+1) listed e R H:=aSs i hi b k
theorem eM(k:XK N w0 (Q .normal) e R H)(a:Region.ready .any ops listed=[]:=by decide+kernel):XB Tryz.prog N w0 ops Q R0 H0 Z fuel listed e R H:=aSt a k
def Je(ops:Array Oper)(Z:List Nat):List Nat→Nat→Array Bool→Bool
 | [],_,listed=>(Region.ready .any ops listed).isEmpty
 | i::is,f+1,listed=>decide (Region.ready .any ops listed=[i])&&Cq ops Z i&&Je ops Z is f (listed.setIfInBounds i true)
 | _::_,0,_=>false
def zE(ops:Array Oper)(a:List Nat):List Oper:=a.filterMap fun i=>ops[i]?
theorem aEr{P:Program}{S:World→Prop}:∀(e:List Nat) (f:Nat) (listed:Array Bool) (a:Act) (w:World),Je ops Z e f listed=true→wpList P ops Q (zE ops e) a w→Be P ops Q S Z f listed a w
 | [],0,listed,a,w,b,h=>⟨by simpa[Je] using b,h⟩
 | [],f+1,listed,a,w,b,h=>by
  have l:Region.ready .any ops listed=[]:=by simpa[Je] using b
  exact⟨fun _=>h,fun i n=>by rw[l] at n;cases n⟩
 | i :: e, f + 1, listed, a, w, b, h => by
  unfold Je at b;simp only[Bool.and_eq_true,decide_eq_true_eq] at b;obtain⟨⟨l,hw⟩,b⟩:=b;refine⟨(fun d=>by rw[l] at d;cases d),fun j m=>?_⟩;rw[l] at m;simp only[List.mem_singleton] at m;subst m
  have t:∀k c,wpList P ops Q (zE ops e) k c→(Cq ops Z j=false→(S w∨Lb ops j=false)→S c)∧Be P ops Q S Z f (listed.setIfInBounds j true) k c:=fun k c r=>⟨(fun d=>by rw[hw] at d;cases d),aEr e f _ k c b r⟩
  refine wpOp_mono t ?_;unfold wpOp;unfold zE at h;cases p:ops[j]? with
  | none=>
   rw[List.filterMap_cons,p] at h;exact h
  | some o=>
   rw[List.filterMap_cons,p] at h;exact h
theorem uU(b:List Nat)(k:XK N w0 (wpList Tryz.prog ops Q (zE ops b)) e R H)(c:Je ops Z b fuel listed=true:=by kernel_rfl):XB Tryz.prog N w0 ops Q R0 H0 Z fuel listed e R H:=fun _ a w d st=>aEr _ _ _ _ _ c (k a w d st)
theorem aBr{i:Nat}{c a:List Nat}{ds:Option Nat}{b:Option (Nat×Bool)}(k:XK N w0 (wpList Tryz.prog ops Q (⟨ds,op,ty,pos,aL,b⟩::zE ops a)) e R H)(hs:c=i::a:=by rfl)(hi:ops[i]? =some ⟨ds,op,ty,pos,aL,b⟩:=by rfl):XK N w0 (wpList Tryz.prog ops Q (zE ops c)) e R H:=by
 subst hs;unfold zE;rw[List.filterMap_cons,hi];exact k
theorem aFl{a:List Nat}(k:XK N w0 (Q .normal) e R H)(hs:a=[]:=by rfl):XK N w0 (wpList Tryz.prog ops Q (zE ops a)) e R H:=by
 subst hs;exact iG k
theorem aNc{a:List Nat}(k:XK N w0 (wpList Tryz.prog ops Q (zE ops a)) e R H):XK N w0 (wpList Tryz.prog ops Q (zE ops a)) e R H:=k
theorem Sx(a:List Nat){id:Nat}{l:List Oper}(k:XK N w0 (wpList Tryz.prog l.toArray Q (zE l.toArray a)) e' R' H')(hk:XB Tryz.prog N w0 l.toArray Q R H (Ke l.toArray) fuel listed e' R' H'→XL 0 N w0 l.toArray Q R H (Ke l.toArray) l.length (Array.replicate l.length false) e R H:=by
  intro h
  repeat (first | refine Sq ?_ | refine So ?_ | refine Sm ?_ | refine Sn ?_ | refine Yn ?_ | refine Sk ?_ | refine Sr ?_)
  exact h)(b:Je l.toArray (Ke l.toArray) a fuel listed=true:=by kernel_rfl)(hm:Tryz.prog.follows .mixedOrders=true:=by kernel_rfl)(hs:Region.noSelect l.toArray=true:=by kernel_rfl):XK N w0 ((Code.region id l.toArray true).wp Tryz.prog Q) e R H:=jG (Ke l.toArray) (hk (uU a k b)) hm hs
theorem aE(k:XK N w0 K' e' R' H')(hk:XK N w0 K' e' R' H'→XK N w0 K e R H:=by
    intro h
    repeat' (first
      | ((with_reducible refine kop ?_)
         first
         | refine kz ?_
         | refine jK rfl rfl ?_
         | refine jY rfl rfl rfl aC ?_
         | refine aDm rfl rfl aC ?_
         | ((with_reducible refine aFk ?_);first | (refine eZ rfl rfl ?_;dsimp only[List.set]) | (refine eZ rfl rfl ?_ (hs:=eS.mk 9 rfl cZ.h rfl aD);dsimp only[List.set]) | (refine eZ rfl rfl ?_ (hs:=eS.mk 10 rfl cZ.h rfl aD);dsimp only[List.set]) | (refine eZ rfl rfl ?_ (hs:=eS.mk 11 rfl cZ.h rfl aD);dsimp only[List.set]) | (refine mF 0 rfl ?_;dsimp only[List.set]) | (refine mF 1 rfl ?_;dsimp only[List.set]) | (refine mF 2 rfl ?_;dsimp only[List.set]) | (refine mF 3 rfl ?_;dsimp only[List.set])))
      | with_reducible refine iG ?_
      | ((with_reducible refine aNc ?_);first | refine aBr ?_ | refine aFl ?_)
      | with_reducible refine iC ?_
      | with_reducible refine Yp ?_
      | with_reducible refine Yo ?_
      | with_reducible refine Yy ?_
      | with_reducible refine Za ?_
      | with_reducible refine Yx ?_
      | ((with_reducible refine Yz ?_ ?_);rfl)
      | with_reducible refine eG ?_
      | with_reducible refine gN ?_
      | with_reducible refine pF ?_
      | with_reducible refine aC4 ?_
      | with_reducible refine Nk ?_
      | with_reducible refine wX ?_
      | ((with_reducible refine aFm ?_)
         first
         | (refine pZ (b:=true) rfl (fun _=>?_) (fun h=>by cases h))
         | (refine pZ (b:=false) rfl (fun h=>by cases h) (fun _=>?_))))
    exact h):XK N w0 K e R H:=hk k
end
theorem bE(j i:Nat){ps:List HP}{p:HP}(h:XK N w0 K e R H')(hj:H[j]? =some (HP.many ps):=by rfl)(hi:ps[i]? =some p:=by rfl)(a:p::H.set j (HP.many (ps.set i cM))=H':=by dsimp only[List.set];try rfl):XK N w0 K e R H:=rG j i hj hi (a▸h)
theorem aN(j i:Nat){ps:List HP}{p:HP}(h:XK N w0 K e R H')(hj:H[j]? =some (HP.many ps):=by rfl)(hi:ps[i]? =some cM:=by rfl)(a:H.set j (HP.many (ps.set i p))=H':=by dsimp only[List.set];try rfl):XK N w0 K e R (p::H):=rJ j i hj hi (a▸h)
theorem iQ(i:Nat){α:Type}{f:α→HP}{H':α→List HP}(h:∀a,XK N w0 K e R (H' a))(hi:H[i]? =some (HP.ex f):=by rfl)(b:∀a,H.set i (f a)=H' a:=by intro a;dsimp only[List.set];try rfl):XK N w0 K e R H:=Yu i hi fun a=>b a▸h a
theorem cY(i:Nat){α:Type}(f:α→HP)(x:α)(h:XK N w0 K e R H')(hi:H[i]? =some (f x):=by rfl)(a:H.set i (HP.ex f)=H':=by dsimp only[List.set];try rfl):XK N w0 K e R H:=uS i x hi (a▸h)
theorem bU(i:Nat){nn t:Nat}{fn:Func}{v:Value}{p:HP}{F:Nat→Prop}(hF:∀b,F b→b < w0.heap.size)(c:fn.results=#[.tmp t]:=by rfl)(d:e.get t=some v:=by rfl)(hi:H[i]? =some p:=by rfl)(f:⟨w0,fun b=>b < w0.heap.size∧¬F b⟩∈R:=by simp):XK ⟨nn,[]⟩ w0 (bodyPost P fn (fun y w'=>y=.returned v∧∃a,p.sat a w'∧iI w0 w' F a) .ret) e R H:=nB c d fun _ t=>⟨rfl,t.turns hF f hi⟩
theorem fO(i:Nat){nn:Nat}{fn:Func}{p:HP}{F:Nat→Prop}{x:Exit}(hF:∀b,F b→b < w0.heap.size)(hx:x=.ret∨x=.normal:=by first | exact .inr rfl | exact .inl rfl)(d:fn.results=#[]:=by rfl)(hi:H[i]? =some p:=by rfl)(c:⟨w0,fun b=>b < w0.heap.size∧¬F b⟩∈R:=by simp):XK ⟨nn,[]⟩ w0 (bodyPost P fn (fun y w'=>y=.returned (.tuple #[])∧∃a,p.sat a w'∧iI w0 w' F a) x) e R H:=aRQ hx d fun _ t=>⟨rfl,t.turns hF c hi⟩
section
variable{f:FuncId}{x:Operand}{args:List Operand}{vs:List Value}{tys:Array TypeId}
theorem dJ{v0:Value}(a:∀w,St w0 R H w→Calls P f vs.toArray w (Rt v0 w))(k:XK N w0 (wpList P ops Q rest) ((d,v0)::e) R H)(hx:e.ev x=some (.func (.func f) #[] #[]):=by rfl)(b:e.fZ args=some vs:=by rfl)(hf:fJ P f=true:=by kernel_rfl)(hd:d < N.n:=by decide):
  XK N w0 (wpList P ops Q (⟨some d,.call {callee:=.value x,args:=args.toArray,argTypes:=tys},ty,pos,aL,none⟩::rest)) e R H:=xK (fi:=[]) (ca:=[]) hf hx b hd (fun w st=>by simpa using a w st) k
theorem kcV(R':Value→Prop)(a:∀w,St w0 R H w→Calls P f vs.toArray w fun y w'=>(∃v,y=.returned v∧R' v)∧Below w.heap.size w w')(k:∀v,R' v→XK N w0 (wpList P ops Q rest) ((d,v)::e) R H)(hx:e.ev x=some (.func (.func f) #[] #[]):=by rfl)(b:e.fZ args=some vs:=by rfl)(hf:fJ P f=true:=by kernel_rfl)(hd:d < N.n:=by decide):
  XK N w0 (wpList P ops Q (⟨some d,.call {callee:=.value x,args:=args.toArray,argTypes:=tys},ty,pos,aL,none⟩::rest)) e R H:=aDo (fi:=[]) (ca:=[]) hf hx b hd R' (fun w st=>by simpa using a w st) k
theorem fK(a:Value→List HP→Piece→Prop)(b:∀w,St w0 R H w→Calls P f vs.toArray w fun y w'=>(∃v hs q,y=.returned v∧q.w=w'∧a v hs q∧gX w hs q)∧Below w.heap.size w w')
  (k:∀v hs q,a v hs q→rO w0 q→XK N w0 (wpList P ops Q rest) ((d,v)::e) (q::R) (hs++H)) (hx:e.ev x=some (.func (.func f) #[] #[]):=by rfl) (c:e.fZ args=some vs:=by rfl) (hf:fJ P f=true:=by kernel_rfl) (hd:d < N.n:=by decide):
  XK N w0 (wpList P ops Q (⟨some d,.call {callee:=.value x,args:=args.toArray,argTypes:=tys},ty,pos,aL,none⟩::rest)) e R H:=Ot (fi:=[]) (ca:=[]) hf hx c hd a (fun w st=>by simpa using b w st) k
theorem kN(ps:List Piece)(R':Value→World→World→Prop)(b:∀w,St w0 R H w→Calls P f vs.toArray w fun y w'=>(∃v,y=.returned v∧R' v w w')∧Below w.heap.size w w')
  (k:∀v w q,R' v w q.w→(fresh w q.w).Le q→(∀p∈ps,p.Le q)→((∀p∈ps,rO w0 p)→rO w0 q)→XK N w0 (wpList P ops Q rest) ((d,v)::e) (q::R) H) (a:∀p∈ps,p∈R:=by simp) (hx:e.ev x=some (.func (.func f) #[] #[]):=by rfl) (c:e.fZ args=some vs:=by rfl) (hf:fJ P f=true:=by kernel_rfl) (hd:d < N.n:=by decide):
  XK N w0 (wpList P ops Q (⟨some d,.call {callee:=.value x,args:=args.toArray,argTypes:=tys},ty,pos,aL,none⟩::rest)) e R H:=aDq (fi:=[]) (ca:=[]) ps hf hx c hd a R' (fun w st=>by simpa using b w st) k
theorem rZ(p a:Piece)(R':Value→World→World→Prop)(h:∀w,St w0 R H w→Calls P f vs.toArray w fun y w'=>(∃v,y=.returned v∧R' v w w')∧Below w.heap.size w w')
  (k:∀v w q,R' v w q.w→(fresh w q.w).Le q→a.Le q→Ju p w0 q→XK N w0 (wpList P ops Q rest) ((d,v)::e) (q::R) H) (c:Ju p w0 a:=by assumption) (b:a∈R:=by simp) (hx:e.ev x=some (.func (.func f) #[] #[]):=by first | rfl | exact Mj _ rfl rfl) (i:e.fZ args=some vs:=by first | rfl | exact Mi _ rfl rfl) (hf:fJ P f=true:=by kernel_rfl) (hd:d < N.n:=by decide):
  XK N w0 (wpList P ops Q (⟨some d,.call {callee:=.value x,args:=args.toArray,argTypes:=tys},ty,pos,aL,none⟩::rest)) e R H:=aIA p a (fi:=[]) (ca:=[]) hf hx i hd b c R' (fun w st=>by simpa using h w st) k
end
abbrev Cz:FuncId→Array Value→World→(Ending→World→Prop)→Prop:=Calls Tryz.prog
abbrev Wr(v:Value)(q:HP)(w:World)(F:Nat→Prop):Ending→World→Prop:=fun y w'=>y=.returned v∧∃F',q.sat F' w'∧iI w w' F F'
theorem cX(i:Nat){a:Oper}(k:XK N w0 (wpList P ops (Exit.then (sJ P w0 ops Q R0 H0 m fuel listed i) Q) [a]) e R H)(b:Region.ready .any ops listed=[i]:=by decide+kernel)(hi:ops[i]? =some a:=by rfl):XA P N w0 ops Q R0 H0 m (fuel+1) listed e R H:=aCE i hi b k
theorem lA(k:XK N w0 (Q .normal) e R H)(a:Region.ready .any ops listed=[]:=by decide+kernel):XA P N w0 ops Q R0 H0 m fuel listed e R H:=aS0 a k
theorem cG(i:Nat){f:FuncId}{x:Operand}{args:List Operand}{vs:List Value}{tys:Array TypeId}{p:HP}(q:HP)
  (h:∀w F,St w0 R H w→p.sat F w→(∀b,F b→b < w.heap.size)→(∀q∈R,q.Le ⟨w,fun b=>b < w.heap.size∧¬F b⟩)→Calls Tryz.prog f vs.toArray w fun y w'=>y=.returned v∧∃a,q.sat a w'∧iI w w' F a)
  (k:XK N w0 (wpList Tryz.prog ops Q rest) ((d,v)::e) R H') (hi:H[i]? =some p:=by rfl) (c:H.set i q=H':=by dsimp only[List.set];try rfl) (hx:e.ev x=some (.func (.func f) #[] #[]):=by rfl) (j:e.fZ args=some vs:=by rfl) (hf:fJ Tryz.prog f=true:=by kernel_rfl) (hd:d < N.n:=by decide):
  XK N w0 (wpList Tryz.prog ops Q (⟨some d,.call {callee:=.value x,args:=args.toArray,argTypes:=tys},ty,pos,aL,none⟩::rest)) e R H:=We i q h (c▸k) hi hx j hf hd
theorem fA{I:Nat→Env→List Piece→List HP→Prop}{n:Nat}(m:Nat)(b:I m e' R' H')(hm:m < n:=by omega)(a:e'.Sub e:=by repeat (first | exact trivial | refine⟨rfl,?_⟩))(hs:lX [] H H':=by exact Tg)(d:∀p∈R',p∈R:=by first | exact fun _ h=>h | simp):
  XK N w0 (fun c w'=>∃m e' R' H',(m < n∧I m e' R' H')∧eH N e' c∧St w0 R' H' w') e R H:=by
 obtain⟨j,f,i,_⟩:=hs;exact Np _ a (aY j f i d (iD m hm b))
theorem oJ{M:Env→List Piece→List HP→Prop}(a:M e' R' H')(b:e'.Sub e:=by repeat (first | exact trivial | refine⟨rfl,?_⟩))(hs:lX [] H H':=by exact Tg)(j:∀p∈R',p∈R:=by first | exact fun _ h=>h | simp):
  XK N w0 (fun i w'=>∃e' R' H',M e' R' H'∧eH N e' i∧St w0 R' H' w') e R H:=by
 obtain⟨c,d,f,_⟩:=hs;exact Np _ b (aY c d f j (Sw a))
theorem dL{nn:Nat}{fn:Func}{t:Nat}{v a:Value}{w:World}(b:v=a:=by rfl)(f:all w∈R:=by simp)(c:fn.results=#[.tmp t]:=by rfl)(d:e.get t=some v:=by rfl):XK ⟨nn,[]⟩ w (bodyPost Tryz.prog fn (Rt a w) .ret) e R H:=iV f b c d
theorem aW{nn:Nat}{fn:Func}{t:Nat}{v:Value}{w:World}{A:Ending→World→Prop}(b:fn.results=#[.tmp t]:=by rfl)(c:e.get t=some v:=by rfl)(h:∀w1,St w R H w1→A (.returned v) w1)(a:all w∈R:=by simp):XK ⟨nn,[]⟩ w (bodyPost Tryz.prog fn (fun y w'=>A y w'∧Below w.heap.size w w') .ret) e R H:=nB b c fun w1 st=>⟨h w1 st,st.below a⟩
theorem aC0{N:cO}{w0:World}{e:Env}{R:List Piece}{H:List HP}{K:Act→World→Prop}{b o:Nat}{v:Value}(h:Rd w0 R H b o v)(k:Rd w0 R H b o v→XK N w0 K e R H):XK N w0 K e R H:=k h
instance:fF 3 [iv 0]:={}
instance:Kb 3 1 8:={}
instance:Tj 3 .i64:={}
instance:fF 5 [.int .u8 0]:={}
instance:fF 36 [.int .u32 0]:={}
instance:Tj 36 .u32:={}
instance:fF 30 [sn,sn,sn,sn]:={}
instance:jI 30 [(0,1),(1,1),(2,1),(3,1)]:={}
instance:fF 80 [iv 0,iv 0,iv 0,.int .u32 0,sn,sn]:={}
instance:Kb 80 6 80:={}
instance:jI 80 [(0,1),(1,1),(2,1),(3,1),(4,1),(5,1)]:={}
instance:fF 47 [iv 0,.int .u32 0]:={}
instance:jI 47 [(0,1),(1,1)]:={}
instance:fF 44 [.int .u8 0,iv 0,iv 0,.int .u32 0]:={}
instance:jI 44 [(0,1),(1,1),(2,1),(3,1)]:={}
instance:fF 82 [.int .u32 0,.bool false]:={}
instance:Kb 82 2 8:={}
instance:jI 82 [(0,1),(1,1)]:={}
instance:fF 75 [iv 0,iv 0,.bool false]:={}
instance:Kb 75 3 24:={}
instance:jI 75 [(0,1),(1,1),(2,1)]:={}
instance:fF 95 [.nilFunc]:={}
instance:fF 162 [.nilFunc]:={}
instance:fF 49 [iv 0,iv 0,.bool false,.int .u32 0]:={}
instance:jI 49 [(0,1),(1,1),(2,1),(3,1)]:={}
instance:fF 52 [.int .u8 0,iv 0,.int .u8 0,iv 0,iv 0,.int .u32 0,iv 0,.int .u32 0,iv 0,iv 0,.bool false,.int .u32 0,.bool false,sn]:={}
instance:jI 52 [(0,1),(1,1),(2,4),(6,2),(8,4),(12,1),(13,1)]:={}
instance:fF 150 [.int .u8 0,iv 0]:={}
instance:jI 150 [(0,1),(1,1)]:={}
instance:fF 138 [sn,sn,sn]:={}
instance:jI 138 [(0,1),(1,1),(2,1)]:={}
instance:fF 145 [sn,sn,sn,sn,sn,sn]:={}
instance:fF 70 [.int .u8 0,iv 0,.int .u8 0,iv 0,iv 0,.int .u32 0,.int .u32 0,sn]:={}
instance:jI 70 [(0,1),(1,1),(2,4),(6,1),(7,1)]:={}
instance:Tj 71 .u64:={}
instance:fF 73 [.int .u8 0,sn,.int .u64 0,iv 0,iv 0,iv 0]:={}
instance:Kb 73 6 64:={}
instance:jI 73 [(0,1),(1,1),(2,1),(3,1),(4,1),(5,1)]:={}
instance:fF 77 [iv 0]:={}
instance:Kb 77 1 8:={}
instance:jI 77 [(0,1)]:={}
instance:fF 182 [iv 0,iv 0,iv 0,.int .u32 0,.pointer none,.pointer none]:={}
instance:jI 182 [(0,1),(1,1),(2,1),(3,1),(4,1),(5,1)]:={}
instance:fF 175 [.pointer none,.pointer none,.pointer none,.pointer none,sn]:={}
instance:jI 175 [(0,1),(1,1),(2,1),(3,1),(4,1)]:={}
instance:fF 140 [sn]:={}
instance:fF 142 [.pointer none,.pointer none,sn,sn,sn,sn,.pointer none,sn,sn,sn,iv 0,.int .u8 0,iv 0,iv 0,.int .u32 0,iv 0,.int .u32 0,iv 0,iv 0,iv 0,iv 0,iv 0,iv 0,iv 0,.int .u8 0,iv 0,iv 0,.int .u32 0,iv 0,.int .u32 0,iv 0,iv 0,iv 0,iv 0,iv 0,iv 0,iv 0,.int .u8 0,iv 0,iv 0,.int .u32 0,iv 0,.int .u32 0,iv 0,iv 0,iv 0,iv 0,iv 0,iv 0,iv 0,sn,.bool false,.bool false,iv 0,iv 0]:={}
instance:jI 142 [(0,1),(1,1),(2,4),(6,1),(7,3),(10,39),(49,1),(50,1),(51,1),(52,1),(53,1),(54,1)]:={}
instance:fF 147 [iv 0,sn]:={}
instance:jI 147 [(0,1),(1,1)]:={}
instance:fF 152 [.pointer none,sn,sn,sn,sn,sn,sn,sn,sn,sn,sn,iv 0,sn,iv 0,sn,iv 0,iv 0,.int .u8 0,iv 0]:={}
instance:jI 152 [(0,1),(1,4),(5,6),(11,4),(15,1),(16,1),(17,2)]:={}
instance:fF 258 [.int .u8 0,iv 0]:={}
instance:jI 258 [(0,1),(1,1)]:={}
instance:fF 159 [sn,.map none,.bool false]:={}
instance:jI 159 [(0,1),(1,1),(2,1)]:={}
instance:fF 67 [iv 0,iv 0,iv 0,iv 0]:={}
instance:jI 67 [(0,1),(1,1),(2,1),(3,1)]:={}
instance:fF 94 [.pointer none,.pointer none,.pointer none,iv 0,iv 0,.int .u8 0,iv 0,iv 0,.int .u32 0,.int .u8 0,iv 0,iv 0,.int .u32 0,.int .u8 0,iv 0,iv 0,.int .u32 0,.bool false,.bool false,.bool false,sn]:={}
instance:jI 94 [(0,1),(1,1),(2,1),(3,1),(4,1),(5,12),(17,3),(20,1)]:={}
instance:fF 214 [.int .u8 0,sn,.int .u64 0,iv 0,iv 0,iv 0,.bool false,iv 0,iv 0,iv 0,iv 0]:={}
instance:jI 214 [(0,6),(6,1),(7,1),(8,1),(9,1),(10,1)]:={}
instance:fF 212 [sn]:={}
instance:jI 212 [(0,1)]:={}
instance:fF 219 [iv 0,iv 0,.bool false,.int .u8 0,iv 0,.bool false,.bool false]:={}
instance:fF 224 [iv 0,iv 0,.bool false,.bool false]:={}
instance:fF 274 []:={}
instance:jI 274 []:={}
instance:fF 275 []:={}
instance:jI 275 []:={}
instance:fF 277 [.bool false]:={}
instance:jI 277 [(0,1)]:={}
instance:fF 278 []:={}
instance:jI 278 []:={}
instance:fF 279 []:={}
instance:jI 279 []:={}
instance:fF 283 [iv 0,iv 0,.int .u32 0,.int .u32 0]:={}
instance:fF 307 [iv 0,.bool false,iv 0,.int .u32 0]:={}
instance:jI 307 [(0,1),(1,1),(2,1),(3,1)]:={}
instance:fF 229 [iv 0,iv 0]:={}
instance:jI 229 [(0,1),(1,1)]:={}
instance:fF 232 [sn,sn,iv 0]:={}
instance:jI 232 [(0,1),(1,1),(2,1)]:={}
instance:fF 217 [sn]:={}
instance:jI 217 [(0,1)]:={}
instance:fF 222 [.map none]:={}
instance:jI 222 [(0,1)]:={}
instance:fF 320 [iv 0,iv 0,.int .u8 0,.int .u8 0,.int .u8 0]:={}
instance:fF 227 [sn,sn,sn,.bool false]:={}
instance:jI 227 [(0,1),(1,1),(2,1),(3,1)]:={}
instance:fF 299 [.nilFunc]:={}
instance:fF 359 [.nilFunc]:={}
instance:fF 368 [sn]:={}
def Cc(g:List (List Int)):Bool:=g.any fun l=>l.any fun u=>decide (u < 0)||decide ((g.length:Int)≤u)
def qI(g:List (List Int)):Int:=if 100 < g.length then 1 else if Cc g then 4 else 0
def hstep(v:Nat)(s:List Int×List (List Int)×List Int)(u:Int):List Int×List (List Int)×List Int:=
 if s.2.2.contains u then s else(s.1.set v (s.1[v]?.getD 0+1),s.2.1.set u.toNat (s.2.1[u.toNat]?.getD []++[(v:Int)]),s.2.2++[u])
def hrow(v:Nat)(s:List Int×List (List Int))(l:List Int):List Int×List (List Int)×List Int:=l.foldl (hstep v) (s.1,s.2,[])
def gM(g:List (List Int)):Nat→List Int×List (List Int)
 | 0=>(List.replicate g.length 0,List.replicate g.length [])
 | k+1=>let r:=hrow k (gM g k) (g[k]?.getD []);(r.1,r.2.1)
def Fu(g:List (List Int))(M:List Nat):Option Nat:=(List.range g.length).find? fun v=> !(M.contains v)&&(g[v]?.getD []).all fun u=>M.contains u.toNat
def tD(g:List (List Int)):Nat→List Nat→Option (List Nat)
 | 0,M=>some M
 | k+1,M=>match Fu g M with
  | none=>none
  | some v=>tD g k (M++[v])
def Dw(l:List Int):List Int:=l.foldl (fun a u=>if a.contains u then a else a++[u]) []
theorem aGR{g:List (List Int)}{k j:Nat}{l:List Int}{u:Int}(hk:g[k]? =some l)(hj:l[j]? =some u)(a:u < 0∨(g.length:Int)≤u):Cc g=true:=by
 unfold Cc;simp only[List.any_eq_true,Bool.or_eq_true,decide_eq_true_eq];exact⟨l,List.mem_of_getElem? hk,u,List.mem_of_getElem? hj,a⟩
theorem aGS{g:List (List Int)}(h:∀(k:Nat) (l:List Int),g[k]? =some l→∀(j:Nat) (u:Int),l[j]? =some u→0≤u∧u < g.length):Cc g=false:=by
 cases a:Cc g with
 | false=>rfl
 | true=>
  unfold Cc at a;simp only[List.any_eq_true,Bool.or_eq_true,decide_eq_true_eq] at a;obtain⟨l,c,u,e,b⟩:=a;obtain⟨k,d⟩:=List.getElem?_of_mem c;obtain⟨j,f⟩:=List.getElem?_of_mem e
  have:=h k l d j u f
  omega
def xC(g:List (List Int)):Prop:=∀l∈g,∀u∈l,0≤u∧u < g.length
theorem xC.of{g:List (List Int)}(h:Cc g=false):xC g:=by
 intro l c u d
 by_cases b:u < 0∨(g.length:Int)≤u
 ·have a:Cc g=true:=by
   unfold Cc;simp only[List.any_eq_true,Bool.or_eq_true,decide_eq_true_eq];exact⟨l,c,u,d,b⟩
  rw[h] at a;cases a
 ·omega
theorem aBw(v:Nat)(s:List Int×List (List Int)×List Int)(u:Int):(hstep v s u).1.length=s.1.length∧(hstep v s u).2.1.length=s.2.1.length:=by
 unfold hstep;split<;>simp
theorem aBz(v:Nat):∀(l:List Int) (s:List Int×List (List Int)×List Int),(l.foldl (hstep v) s).1.length=s.1.length∧(l.foldl (hstep v) s).2.1.length=s.2.1.length
 | [],s=>⟨rfl,rfl⟩
 | u::l,s=>by rw[List.foldl_cons];have a:=aBz v l (hstep v s u);have b:=aBw v s u;exact⟨a.1.trans b.1,a.2.trans b.2⟩
theorem Lz(g:List (List Int)):∀k,(gM g k).1.length=g.length∧(gM g k).2.length=g.length
 | 0=>by simp[gM]
 | k+1=>by
  have h:=Lz g k
  have a:=aBz k (g[k]?.getD []) ((gM g k).1,(gM g k).2,[])
  exact⟨a.1.trans h.1,a.2.trans h.2⟩
theorem aFt(v:Nat)(s:List Int×List (List Int)×List Int)(u:Int):(hstep v s u).2.2=if s.2.2.contains u then s.2.2 else s.2.2++[u]:=by unfold hstep;split<;>rfl
theorem aFw(v:Nat):∀(l:List Int) (s:List Int×List (List Int)×List Int),(l.foldl (hstep v) s).2.2=l.foldl (fun a u=>if a.contains u then a else a++[u]) s.2.2
 | [],s=>rfl
 | u::l,s=>by rw[List.foldl_cons,List.foldl_cons,aFw v l,aFt]
theorem aBy(v:Nat):∀(l:List Int) (s:List Int×List (List Int)×List Int),v < s.1.length→s.1[v]? =some (s.2.2.length:Int)→(l.foldl (hstep v) s).1[v]? =some ((l.foldl (hstep v) s).2.2.length:Int)
 | [],s,_,h=>h
 | u :: l, s, hv, h => by
  rw[List.foldl_cons];refine aBy v l _ (by rw[(aBw v s u).1];exact hv) ?_;unfold hstep;split
  ·exact h
  ·simp only[h,Option.getD_some];rw[List.getElem?_set_self hv];simp
theorem aFu(v:Nat):∀(l:List Int) (s:List Int×List (List Int)×List Int) (x:Nat),x≠v→(l.foldl (hstep v) s).1[x]? =s.1[x]?
 | [],s,x,_=>rfl
 | u::l,s,x,hx=>by
  rw[List.foldl_cons,aFu v l _ x hx];unfold hstep;split
  ·rfl
  ·exact List.getElem?_set_ne (Ne.symm hx)
theorem aBx(v:Nat):∀(l:List Int) (s:List Int×List (List Int)×List Int) (x:Nat),(∀u∈l,0≤u∧u < s.2.1.length)→x < s.2.1.length→
  (l.foldl (hstep v) s).2.1[x]? =some (s.2.1[x]?.getD []++if(x:Int)∈l∧(x:Int)∉s.2.2 then[(v:Int)] else[])
 | [],s,x,_,hx=>by simp[List.getElem?_eq_getElem hx]
 | u :: l, s, x, hl, hx => by
  have i:=hl u aD
  have b:=(aBw v s u).2
  rw[List.foldl_cons,aBx v l (hstep v s u) x (fun y h=>by rw[b];exact hl y (by simp[h])) (by rw[b];exact hx)];unfold hstep
  by_cases d:s.2.2.contains u=true
  ·have c:u∈s.2.2:=by simpa using d
   simp only[d,if_true,List.mem_cons]
   congr 2
   by_cases a:(x:Int)=u
   ·rw[a];simp[c]
   ·simp[a]
  ·have c:u∉s.2.2:=by simpa using d
   simp only[d,Bool.false_eq_true,if_false,List.mem_cons,List.mem_append,List.mem_singleton,List.not_mem_nil,or_false]
   by_cases a:(x:Int)=u
   ·subst a
    have e:((x:Int)).toNat=x:=by simp
    rw[e,List.getElem?_set_self hx];simp[c]
   ·have f:u.toNat≠x:=aA
    rw[List.getElem?_set_ne f];simp[a]
theorem Qw{g:List (List Int)}(hg:xC g):∀k,k≤g.length→(∀v,v < g.length→(gM g k).1[v]? =some (if v < k then((Dw (g[v]?.getD [])).length:Int) else 0))∧
  ∀u,u < g.length→(gM g k).2[u]? =some (((List.range k).filter fun v=>(g[v]?.getD []).contains (u:Int)).map Int.ofNat)
 | 0,_=>by
  refine⟨fun v b=>?_,fun u a=>?_⟩
  ·simp[gM,b]
  ·simp[gM,a]
 | k + 1, hk => by
  obtain⟨f,i⟩:=Qw hg k aA
  have e:=Lz g k
  have d:∀u∈g[k]?.getD [],0≤u∧u < (gM g k).2.length:=fun u a=>by
   rw[e.2]
   have:g[k]? =some (g[k]' aA):=List.getElem?_eq_getElem _
   rw[this] at a;exact hg _ (List.getElem_mem _) u a
  refine⟨fun v b=>?_,fun u a=>?_⟩
  ·show(((g[k]?.getD []).foldl (hstep k) ((gM g k).1,(gM g k).2,[])).1)[v]? =_
   by_cases c:v=k
   ·subst c
    have:=aBy v (g[v]?.getD []) ((gM g v).1,(gM g v).2,[]) (by rw[e.1];exact b) (by rw[f v b];simp)
    rw[this,aFw];simp[Dw]
   ·rw[aFu k _ _ v c,f v b]
    congr 1
    by_cases h:v < k
    ·rw[if_pos h,if_pos aA]
    ·rw[if_neg h,if_neg aA]
  ·show(((g[k]?.getD []).foldl (hstep k) ((gM g k).1,(gM g k).2,[])).2.1)[u]? =_
   rw[aBx k _ _ u d (by rw[e.2];exact a),i u a,List.range_succ,List.filter_append,List.map_append];simp only[Option.getD_some,List.not_mem_nil,not_false_eq_true,and_true]
   congr 2
   by_cases h:(u:Int)∈g[k]?.getD []
   ·simp[h]
   ·simp[h]
theorem aNU{g:List (List Int)}(hg:xC g){k u:Nat}(hk:k≤g.length){l:List Int}(a:(gM g k).2[u]? =some l):l.length≤k:=by
 have b:u < g.length:=by
  rw[←(Lz g k).2];rcases Nat.lt_or_ge u (gM g k).2.length with h | h
  ·exact h
  ·rw[List.getElem?_eq_none h] at a;cases a
 rw[(Qw hg k hk).2 u b] at a;cases a;rw[List.length_map]
 have:=List.length_filter_le (fun v=>(g[v]?.getD []).contains (u:Int)) (List.range k)
 simpa using this
instance:fF 273 []:={}
instance:jI 273 []:={}
def lT(a:List Int):List (Int×Value):=a.map fun k=>(k,.agg #[])
theorem aBd:∀(b:List Int) (k:Int),mS (lT b) k=if b.contains k then some (.agg #[]) else none
 | [],k=>by simp[lT,mS]
 | a::b,k=>by
  rw[lT,List.map_cons,Lf]
  have:=aBd b k
  rw[lT] at this;rw[this]
  by_cases h:a=k
  ·subst h;simp
  ·simp[h,Ne.symm h]
theorem aER:∀(b:List Int) (k:Int),oH (lT b) k (.agg #[])=lT (if b.contains k then b else b++[k])
 | [],k=>by simp[lT,oH]
 | a :: b, k => by
  have ih:=aER b k
  rw[lT,List.map_cons,oH];rw[lT] at ih
  by_cases h:a=k
  ·subst h;simp[lT]
  ·rw[if_neg h,ih]
   have f:¬k=a:=fun e=>h e.symm
   by_cases c:b.contains k=true
   ·have:(a::b).contains k=true:=by simp at c⊢;exact .inr c
    rw[if_pos c,if_pos this];rfl
   ·have d:k∉b:=by simpa using c
    have:¬(a::b).contains k=true:=by simp[f,d]
    rw[if_neg c,if_neg this];rfl
theorem Yj{p:Nat→Prop}{k:Nat}(h:∀i,i < k→p i)(hk:p k):∀i,i < k+1→p i:=fun i b=>by
 rcases Nat.lt_or_ge i k with a | a
 ·exact h i a
 ·have:i=k:=aA
  exact this▸hk
theorem aKa(a:List Int)(k:Int):(mS (lT a) k).isSome=a.contains k:=by rw[aBd];split<;>simp_all
theorem aJZ(a:List Int)(k:Int):(mS (lT a) k).getD (.agg #[])=.agg #[]:=by rw[aBd];split<;>rfl
theorem Vw(r:Nat)(v:Int)(a:List Int)(w:World)(hm:vW w r (lT a)):
  Cz 229 #[.map (some r),iv v] w (Rt (.bool (a.contains v)) w):=by
 refine aT func229 ntmps229 ?_;refine aE ?_;refine Tv (kt:=3) (et:=273) (kd:=.i64) (z:=.agg #[]) (l:=lT a) true aF aF aF rfl rfl (fun b st=>hm.below (st.started aD)) aC ?_;rw[aKa,aJZ];refine aE ?_;refine cQ fun c=>?_;refine sU rfl rfl ?_;simp only[gD,Value.cells,List.set,List.take,List.drop,List.nil_append,List.append_nil,List.length_cons,List.length_nil,List.cons_append,Nat.reduceAdd];refine aE ?_;exact aW (h:=fun _ _=>rfl)
theorem Vx(r:Nat)(v:Int)(a:List Int)(w:World)(F:Nat→Prop)(hp:(HP.map r (lT a)).sat F w)(hF:∀b,F b→b < w.heap.size):
  Cz 230 #[.map (some r),iv v] w (Wr (.tuple #[]) (HP.map r (lT (if a.contains v then a else a++[v]))) w F):=by
 refine dD func230 ntmps230 hp hF ?_;refine aE ?_;refine Ex (kt:=3) (et:=273) (kd:=.i64) (l:=lT a) 0 aF aF rfl rfl rfl rfl ?_;rw[aER];refine aE ?_;exact fO 0 hF
theorem aMa(A:Option Addr)(n c:Nat)(g:List (List Int))(w:World)(hg:oF (all w) A n g)(C:n=g.length)(M:(n:Int)≤9223372036854775806)(d:∀l∈g,(l.length:Int)≤9223372036854775806):
  Cz 227 #[.slice A n c] w (Rt (iv (qI g)) w):=by
 refine aT func227 ntmps227 ?_;refine aE ?_;refine aK rfl (fun h=>?_) (fun h=>?_)
 ·
  refine aE ?_;exact aW (h:=fun _ _=>by simp[qI,←C];omega)
 ·
  refine aE ?_;refine bT [(12,iv 0),(11,iv n),(10,.slice A n c),(0,.slice A n c)] ?_;refine aE ?_;refine fG (fun m e R H=>∃k:Nat,k≤n∧m=n - k∧(∀(i:Nat),i < k→∀l:List Int,g[i]? =some l→∀(j:Nat) (u:Int),l[j]? =some u→0≤u∧u < g.length)∧e=[(12,iv k),(11,iv n),(10,.slice A n c),(0,.slice A n c)]∧R=[all w]∧H=[]) n ⟨0,aA,rfl,(fun i h=>absurd h aA),rfl,rfl,rfl⟩ fun m e R H E=>?_;obtain⟨k,V,rfl,o,rfl,rfl,rfl⟩:=E;refine aE ?_;refine aK rfl (fun h=>?_) (fun h=>?_)
  ·
   refine aE ?_
   have L:k < n:=by omega
   obtain⟨l,f⟩:∃l,g[k]? =some l:=⟨g[k]' aA,List.getElem?_eq_getElem _⟩
   obtain⟨b,off,B,c2,rfl,O,G⟩:=hg.row f
   have N:=d l (List.mem_of_getElem? f)
   refine aE ?_;refine bT [(18,iv 0),(17,iv l.length),(16,.slice B l.length c2),(12,iv k),(11,iv n),(10,.slice (some ⟨b,off,none⟩) n c),(0,.slice (some ⟨b,off,none⟩) n c)] ?_;refine aE ?_;refine fG (fun m e R H=>∃j:Nat,j≤l.length∧m=l.length - j∧(∀(i:Nat),i < j→∀u:Int,l[i]? =some u→0≤u∧u < g.length)∧e=[(18,iv j),(17,iv l.length),(16,.slice B l.length c2),(12,iv k),(11,iv n),(10,.slice (some ⟨b,off,none⟩) n c),(0,.slice (some ⟨b,off,none⟩) n c)]∧R=[all w]∧H=[]) l.length ⟨0,aA,rfl,(fun i h=>absurd h aA),rfl,rfl,rfl⟩ fun m e R H E=>?_;obtain⟨j,T,rfl,a,rfl,rfl,rfl⟩:=E;refine aE ?_;refine aK rfl (fun h=>?_) (fun h=>?_)
   ·
    refine aE ?_
    have K:j < l.length:=by omega
    obtain⟨J,p,rfl,F,D⟩:=G.2 aA;obtain⟨u,z⟩:∃u,l[j]? =some u:=⟨l[j]' aA,List.getElem?_eq_getElem _⟩
    have U:gG w J (p+j) (iv u):=⟨F,D j _ (by simp[aR,z])⟩
    refine aE ?_;refine cN (t:=24) rfl (fun hg=>?_) (fun hg=>?_)
    ·
     refine aE ?_;exact aW (h:=fun _ _=>by rw[show qI g=4 by simp[qI,←C,aGR f z aA];omega])
    ·
     refine aE ?_;refine aK rfl (fun h=>?_) (fun h=>?_)
     ·
      refine aE ?_;exact aW (h:=fun _ _=>by rw[show qI g=4 by simp[qI,←C,aGR f z aA];omega])
     ·
      refine aE ?_;exact fA (l.length - (j+1)) ⟨j+1,aA,rfl,Yj a (fun x r=>by rw[z] at r;cases r;omega),rfl,rfl,rfl⟩
   ·
    refine aE ?_;exact fA (n - (k+1)) ⟨k+1,aA,rfl,Yj o (fun x r j u y=>by rw[f] at r;cases r;exact a j (by have:=(List.getElem?_eq_some_iff.1 y).1;omega) u y),rfl,rfl,rfl⟩
  ·
   refine aE ?_;exact aW (h:=fun _ _=>by rw[show qI g=0 by simp[qI,←C,aGS (fun i l I=>o i (by have:=(List.getElem?_eq_some_iff.1 I).1;omega) l I)];omega])
def HU(a:List Value)(U:List (List Int)):List HP:=List.zipWith (fun v l=>HP.own 3 1 v l.length (aR l)) a U
theorem aId{a:List Value}{U:List (List Int)}{i:Nat}{v:Value}{l:List Int}(b:a[i]? =some v)(hl:U[i]? =some l):(HU a U)[i]? =some (HP.own 3 1 v l.length (aR l)):=by
 simp[HU,List.getElem?_zipWith,b,hl]
theorem aIc:∀(c:List Value) (U:List (List Int)) (i:Nat) (v:Value) (l:List Int),(HU c U).set i (HP.own 3 1 v l.length (aR l))=HU (c.set i v) (U.set i l)
 | [],U,i,v,l=>by cases U<;>simp[HU]
 | a::c,[],i,v,l=>by cases i<;>simp[HU]
 | a::c,b::U,0,v,l=>by simp[HU]
 | a::c,b::U,i+1,v,l=>by
  have:=aIc c U i v l
  simpa[HU] using this
theorem aSE(n:Nat):HU (List.replicate n (sn)) (List.replicate n [])=List.replicate n (HP.own 3 1 (sn) 0 []):=by
 simp[HU,aR]
theorem Wg(W:List Int)(i:Nat)(v:Int):(aR W).set i (iv v)=aR (W.set i v):=by simp[aR,List.map_set]
theorem Wh{W:List Int}{i:Nat}{v:Int}(h:W[i]? =some v):(aR W)[i]? =some (iv v):=by simp[aR,h]
theorem aNg(n:Nat):List.replicate n (Value.int .i64 0)=aR (List.replicate n 0):=by simp[aR]
theorem aFo(W:List Int)(v:Int):aR W++[iv v]=aR (W++[v]):=by simp[aR]
theorem oF.of{q:Piece}{gU n:Nat}{a:List Value}{U:List (List Int)}(d:∃F,(HP.aI gU 22 a).sat F q.w∧∀b,F b→q.Z b)(e:∃F,(HP.many (HU a U)).sat F q.w∧∀b,F b→q.Z b)(j:a.length=n)(p:U.length=n):oF q (some ⟨gU,0,none⟩) n U:=by
 obtain⟨B,m,u⟩:=d;obtain⟨z,⟨G,k,x,_⟩,y⟩:=e;refine⟨a.map fun v=>[v],?_,p.symm,?_⟩
 ·have f:∀(a:List Value) (U:List (List Int)),a.length=U.length→(∀(i:Nat) (v:Value) (l:List Int),a[i]? =some v→U[i]? =some l→tU (fT q) l [v])→Rows (tU (fT q)) 1 U (a.map fun v=>[v]):=by
   intro a
   induction a with
   | nil=>intro U h _;cases U with
    | nil=>trivial
    | cons=>simp at h
   | cons v a ih=>intro U h o;cases U with
    | nil=>simp at h
    | cons l U=>exact⟨rfl,o 0 v l rfl rfl,ih U (by simpa using h) (fun i v l d e=>o (i+1) v l (by simpa using d) (by simpa using e))⟩
  refine f a U (j.trans p.symm) fun i v l d e=>?_;obtain⟨A,c,rfl,t⟩:=yQ (Y:=q.Z) (k i _ (aId d e)) (fun b r=>y b (x i b r));exact⟨A,l.length,c,rfl,rfl,t⟩
 ·rw[show(a.map fun v=>[v]).flatten=a by clear m k j;induction a<;>simp_all];exact rN (c:=0) m u aA
theorem aFv(v:Nat):∀(l:List Int) (s:List Int×List (List Int)×List Int),(l.foldl (hstep v) s).2.2.length≤s.2.2.length+l.length
 | [],s=>by simp
 | u::l,s=>by
  have:=aFv v l (hstep v s u)
  have a:(hstep v s u).2.2.length≤s.2.2.length+1:=by rw[aFt];split<;>simp
  simp only[List.foldl_cons,List.length_cons];omega
theorem aNV{g:List (List Int)}(hg:xC g){k j:Nat}{l:List Int}(hl:g[k]? =some l){s:List Int×List (List Int)×List Int}(hs:s=(l.take j).foldl (hstep k) ((gM g k).1,(gM g k).2,[])):
  s.1.length=g.length∧s.2.1.length=g.length∧s.1[k]? =some (s.2.2.length:Int)∧s.2.2.length≤j∧∀(u:Nat) x,s.2.1[u]? =some x→x.length≤k+1:=by
 have h:k < g.length:=(List.getElem?_eq_some_iff.1 hl).1
 have d:=aBz k (l.take j) ((gM g k).1,(gM g k).2,[])
 have a:=Lz g k
 have i:=Qw hg k aA
 have b:∀u∈l,0≤u∧u < g.length:=hg l (List.mem_of_getElem? hl)
 subst hs;refine⟨d.1.trans a.1,d.2.trans a.2,?_,?_,fun u x c=>?_⟩
 ·exact aBy k _ _ (by rw[a.1];exact h) (by rw[i.1 k h];simp)
 ·have:=aFv k (l.take j) ((gM g k).1,(gM g k).2,[])
  simp only[List.length_nil,List.length_take] at this;omega
 ·have f:u < g.length:=by
   have:=(List.getElem?_eq_some_iff.1 c).1
   rw[d.2,a.2] at this;exact this
  have n:=aBx k (l.take j) ((gM g k).1,(gM g k).2,[]) u (fun y m=>by rw[a.2];exact b y (List.mem_of_mem_take m)) (by rw[a.2];exact f)
  rw[n] at c;cases c;obtain⟨z,e⟩:∃z,(gM g k).2[u]? =some z:=⟨_,List.getElem?_eq_getElem (by rw[a.2];exact f)⟩
  have o:=aNU hg (by omega:k≤g.length) e
  simp only[e,Option.getD_some,List.length_append];split<;>simp<;>omega
theorem aNS{g:List (List Int)}{k j:Nat}{l:List Int}{u:Int}(b:l[j]? =some u)(a:List Int×List (List Int)×List Int):(l.take (j+1)).foldl (hstep k) a=hstep k ((l.take j).foldl (hstep k) a) u:=by
 rw[List.take_add_one,b,Option.toList_some,List.foldl_append];rfl
theorem aNR{g:List (List Int)}{k:Nat}{l:List Int}(hl:g[k]? =some l):gM g (k+1)=(((l.take l.length).foldl (hstep k) ((gM g k).1,(gM g k).2,[])).1,((l.take l.length).foldl (hstep k) ((gM g k).1,(gM g k).2,[])).2.1):=by
 rw[List.take_length,gM,hl];rfl
def aIb(g:List (List Int))(n:Nat)(v:Value)(hs:List HP)(q:Piece):Prop:=∃a gU:Nat,v=.tuple #[.slice (some ⟨a,0,none⟩) n n,.slice (some ⟨gU,0,none⟩) n n]∧hs=[HP.aI a 3 (aR (gM g n).1)]∧oF q (some ⟨gU,0,none⟩) n (gM g n).2
theorem aNT(A:Option Addr)(n c:Nat)(g:List (List Int))(w:World)(hg:oF (all w) A n g)(hn:n=g.length)(hn2:n≤100)(L:xC g)(J:∀l∈g,(l.length:Int)≤9223372036854775806):
  Cz 228 #[.slice A n c] w (fun y w'=>(∃v hs q,y=.returned v∧q.w=w'∧aIb g n v hs q∧gX w hs q)∧Below w.heap.size w w'):=by
 refine aT func228 ntmps228 ?_;refine aE ?_;refine mN 8 (el:=3) (z:=iv 0) aF aF rfl rfl rfl aA aA aC fun o=>?_;refine aE ?_;refine mN 24 (el:=22) (z:=sn) aF aF rfl rfl rfl aA aA aC fun gU=>?_;refine aE ?_;refine bT [(17,iv 0),(16,iv n),(15,.slice A n c),(3,.slice (some ⟨gU,0,none⟩) n n),(2,.slice (some ⟨o,0,none⟩) n n)] ?_;refine aRU n 3 1 ?_;refine aE ?_;refine fG (fun m e R H=>∃(k:Nat) (a:List Value),k≤n∧m=n - k∧a.length=n∧e=[(17,iv k),(16,iv n),(15,.slice A n c),(3,.slice (some ⟨gU,0,none⟩) n n),(2,.slice (some ⟨o,0,none⟩) n n)]∧R=[all w]∧H=[HP.many (HU a (gM g k).2),HP.aI gU 22 a,HP.aI o 3 (aR (gM g k).1)]) n ⟨0,List.replicate n (sn),aA,rfl,aD,rfl,rfl,by rw[gM,←hn,aSE,←aNg]⟩ fun m e R H U=>?_;obtain⟨k,a,hk,rfl,C,rfl,rfl,rfl⟩:=U;refine aE ?_;refine aK rfl (fun h=>?_) (fun h=>?_)
 ·
  refine aE ?_
  have hkn:k < n:=by omega
  obtain⟨l,E⟩:∃l,g[k]? =some l:=⟨g[k]' aA,List.getElem?_eq_getElem _⟩
  obtain⟨b,off,B,c2,rfl,c1,X⟩:=hg.row E
  have Is:=J l (List.mem_of_getElem? E)
  have N:=L l (List.mem_of_getElem? E)
  refine aE ?_;refine Tt aC fun r=>?_;refine aE ?_;refine bT [(25,iv 0),(24,iv l.length),(23,.slice B l.length c2),(6,.map (some r)),(4,iv k),(17,iv k),(16,iv n),(15,.slice (some ⟨b,off,none⟩) n c),(3,.slice (some ⟨gU,0,none⟩) n n),(2,.slice (some ⟨o,0,none⟩) n n)] ?_;refine aE ?_;refine fG (fun m e R H=>∃(j:Nat) (a:List Value) (s:List Int×List (List Int)×List Int),j≤l.length∧m=l.length - j∧a.length=n∧s=(l.take j).foldl (hstep k) ((gM g k).1,(gM g k).2,[])∧e=[(25,iv j),(24,iv l.length),(23,.slice B l.length c2),(6,.map (some r)),(4,iv k),(17,iv k),(16,iv n),(15,.slice (some ⟨b,off,none⟩) n c),(3,.slice (some ⟨gU,0,none⟩) n n),(2,.slice (some ⟨o,0,none⟩) n n)]∧R=[all w]∧H=[HP.map r (lT s.2.2),HP.many (HU a s.2.1),HP.aI gU 22 a,HP.aI o 3 (aR s.1)]) l.length ⟨0,a,_,aA,rfl,C,rfl,rfl,rfl,rfl⟩ fun m e R H U=>?_;obtain⟨j,a,s,hj,rfl,C,hs,rfl,rfl,rfl⟩:=U;refine aE ?_;refine aK rfl (fun h=>?_) (fun h=>?_)
  ·
   refine aE ?_
   have hjl:j < l.length:=by omega
   obtain⟨T,d,rfl,hz2,Y⟩:=X.2 aA;obtain⟨u,V⟩:∃u,l[j]? =some u:=⟨l[j]' aA,List.getElem?_eq_getElem _⟩
   have c3:gG w T (d+j) (iv u):=⟨hz2,Y j _ (by simp[aR,V])⟩
   obtain⟨hW,hU,I,hM,D⟩:=aNV L E hs;obtain⟨hu0,hun⟩:=N u (List.mem_of_getElem? V);obtain⟨vu,G⟩:∃v,a[u.toNat]? =some v:=⟨_,List.getElem?_eq_getElem aA⟩
   obtain⟨O,p⟩:∃x,s.2.1[u.toNat]? =some x:=⟨_,List.getElem?_eq_getElem aA⟩
   have aTb:=D _ _ p
   have t:=aNS (g:=g) (k:=k) V ((gM g k).1,(gM g k).2,[])
   rw[←hs] at t;refine aE ?_;refine dJ (fun M st=>Vw r u s.2.2 M (st.map (i:=0) rfl)) ?_;refine aE ?_;refine pZ rfl (fun h=>?_) (fun h=>?_)
   ·
    refine aE ?_;exact bT [(25,iv (j+1)),(24,iv l.length),(23,.slice (some ⟨T,d,none⟩) l.length c2),(6,.map (some r)),(4,iv k),(17,iv k),(16,iv n),(15,.slice (some ⟨b,off,none⟩) n c),(3,.slice (some ⟨gU,0,none⟩) n n),(2,.slice (some ⟨o,0,none⟩) n n)] (iD (l.length - (j+1)) aA ⟨j+1,a,_,aA,rfl,C,t.symm,rfl,rfl,by rw[hstep,if_pos h]⟩)
   ·
    refine aE ?_;refine Ou (f:=230) (fi:=[]) (ca:=[]) 0 (HP.map r (lT (if s.2.2.contains u then s.2.2 else s.2.2++[u]))) aF rfl rfl rfl ⟨aC,rfl⟩ (fun M F st hp hF=>Vx r u s.2.2 M F hp hF) ?_;dsimp only[List.set];refine fP ?_;refine eG ?_;refine gN ?_;refine dW rfl aC ?_;refine dW rfl aC ?_;refine kd (dat (k) (k)) ?_;refine lN aF rfl (Rd.aI 3 rfl (Wh I)) aC ?_;refine Cm rfl rfl (iY aA) aC ?_;refine kd (dat (k) (k)) ?_;refine sQ 3 rfl aF rfl rfl rfl (by simp[aR];omega) ?_;dsimp only[List.set];rw[Wg];refine fP ?_;refine gN ?_;refine dW rfl aC ?_;refine dW rfl aC ?_;refine dW rfl aC ?_;refine dW rfl aC ?_;refine kd (dat (u.toNat) (u.toNat)) ?_;refine lN aF rfl (Rd.aI 2 rfl G) aC ?_;refine rG 1 u.toNat rfl (aId G p) ?_;dsimp only[List.set];refine dW rfl aC ?_;refine eT fun g3=>?_;refine iL 1 1 8 1 (n':=O.length+1) (el:=3) aF aF aC rfl rfl rfl (nH 0 rfl rfl) (by simp[Value.oneCell']) rfl aA aA aC fun A' k'=>?_;dsimp only[List.set];rw[aFo];refine kd (dat (u.toNat) (u.toNat)) ?_;refine sQ 4 rfl aF rfl rfl rfl aA ?_;dsimp only[List.set];refine aY [1,2,3,4,5] rfl aC (fun _ hp=>hp) ?_;refine rJ 1 u.toNat rfl (by rw[List.getElem?_set_self (by simp[HU];omega)]) ?_;dsimp only[List.set];rw[List.set_set,show O.length+1=(O++[(k:Int)]).length by simp,aIc];refine aE ?_;exact bT [(25,iv (j+1)),(24,iv l.length),(23,.slice (some ⟨T,d,none⟩) l.length c2),(6,.map (some r)),(4,iv k),(17,iv k),(16,iv n),(15,.slice (some ⟨b,off,none⟩) n c),(3,.slice (some ⟨gU,0,none⟩) n n),(2,.slice (some ⟨o,0,none⟩) n n)] (iD (l.length - (j+1)) aA ⟨j+1,a.set u.toNat (.slice A' (O++[(k:Int)]).length k'),_,aA,rfl,by simpa using C,t.symm,rfl,rfl,by rw[hstep,if_neg (by rw[h];decide),if_neg (by rw[h];decide),I,p];rfl⟩)
  ·
   refine aE ?_;obtain rfl:j=l.length:=by omega
   have K:=aNR E
   rw[←hs] at K;refine aE ?_;exact aY [1,2,3] rfl aC aD (bT [(17,iv (k+1)),(16,iv n),(15,.slice (some ⟨b,off,none⟩) n c),(3,.slice (some ⟨gU,0,none⟩) n n),(2,.slice (some ⟨o,0,none⟩) n n)] (iD (n - (k+1)) aA ⟨k+1,a,aA,rfl,C,rfl,rfl,by rw[K]⟩))
 ·
  refine aE ?_;obtain rfl:k=n:=by omega
  have D:=(Lz g k).2
  refine aE ?_;refine dK [] [0,1] [2] aD rfl aC aC fun q hq _ hfr=>?_;refine gF rfl rfl rfl fun M st=>⟨⟨_,_,⟨M,q.Z⟩,rfl,rfl,⟨o,gU,rfl,rfl,?_⟩,st.newR aD aD (hfr aD aD)⟩,st.below aD⟩
  exact(oF.of (hq 1 _ aD rfl) (hq 0 _ aD rfl) C aA).le fun b hb=>⟨hb,st.ro aD hb⟩
def dR(M:List Nat):List Int:=M.map Int.ofNat
def uF(g:List (List Int))(M:List Nat)(v:Nat):Bool:= !(M.contains v)&&(g[v]?.getD []).all fun u=>M.contains u.toNat
def uZ(g:List (List Int))(M:List Nat)(v:Nat):Nat:=((Dw (g[v]?.getD [])).filter fun u=> !(M.contains u.toNat)).length
def vZ(g:List (List Int))(M:List Nat):List Int:=(List.range g.length).map fun v=>(uZ g M v:Int)
def sD(W:List Int)(a:List Int):List Int:=a.foldl (fun W u=>W.set u.toNat (W[u.toNat]?.getD 0 - 1)) W
def mO(g:List (List Int))(v:Nat):List Int:=((List.range g.length).filter fun x=>(g[x]?.getD []).contains (v:Int)).map Int.ofNat
def fY(g:List (List Int)):Int×List Nat:=if qI g≠0 then(qI g,[]) else match tD g g.length [] with
 | some M=>(0,M)
 | none=>(5,[])
theorem aEO(M:List Nat)(v:Nat):(dR M).contains (v:Int)=M.contains v:=by
 rw[Bool.eq_iff_iff];simp only[dR,List.contains_iff_mem,List.mem_map];constructor
 ·rintro⟨a,h,e⟩
  have:a=v:=Int.ofNat.inj e
  exact this▸h
 ·exact fun h=>⟨v,h,rfl⟩
theorem aAX(M:List Nat)(v:Nat):dR (M++[v])=dR M++[(v:Int)]:=by simp[dR]
theorem Ox{g:List (List Int)}{M:List Nat}{v:Nat}(h:v < g.length):(vZ g M)[v]? =some (uZ g M v:Int):=by simp[vZ,h]
theorem Ki(g:List (List Int))(M:List Nat):(vZ g M).length=g.length:=by simp[vZ]
theorem aBS(l:List Int):∀(a:List Int),(∀u,u∈l.foldl (fun a u=>if a.contains u then a else a++[u]) a↔u∈a∨u∈l)∧(a.Nodup→(l.foldl (fun a u=>if a.contains u then a else a++[u]) a).Nodup)∧(l.foldl (fun a u=>if a.contains u then a else a++[u]) a).length≤a.length+l.length:=by
 induction l with
 | nil=>intro a;simp
 | cons x l ih =>
  intro a;rw[List.foldl_cons];obtain⟨k,i,f⟩:=ih (if a.contains x then a else a++[x]);refine⟨fun u=>?_,fun c=>i ?_,?_⟩
  ·rw [k];split
   ·rename_i b
    have:x∈a:=by simpa using b
    constructor
    ·rintro(h | h)
     ·exact .inl h
     ·exact .inr (by simp[h])
    ·rintro(h | h)
     ·exact .inl h
     ·rcases List.mem_cons.1 h with rfl | h
      ·exact .inl this
      ·exact .inr h
   ·simp[or_assoc]
  ·split
   ·exact c
   ·rename_i b
    have:x∉a:=by simpa using b
    rw[List.nodup_append];refine⟨c,aD,fun y j z d=>?_⟩;simp at d;subst d;exact fun e=>this (e▸j)
  ·refine Nat.le_trans f ?_;split<;>simp<;>omega
theorem Xn(l:List Int)(u:Int):u∈Dw l↔u∈l:=by have:=(aBS l []).1 u;simpa[Dw] using this
theorem aPh(l:List Int):(Dw l).Nodup:=(aBS l []).2.1 List.nodup_nil
theorem aPi(l:List Int):(Dw l).length≤l.length:=by have:=(aBS l []).2.2;simpa[Dw] using this
theorem aJa(g:List (List Int))(M:List Nat)(v:Nat):uZ g M v≤(g[v]?.getD []).length:=Nat.le_trans (List.length_filter_le _ _) (aPi _)
theorem aD4(g:List (List Int))(M:List Nat)(v:Nat):uZ g M v=0↔((g[v]?.getD []).all fun u=>M.contains u.toNat)=true:=by
 unfold uZ;rw[List.length_eq_zero_iff,List.filter_eq_nil_iff,List.all_eq_true];constructor
 ·intro h u a
  have:=h u ((Xn _ _).2 a)
  simpa using this
 ·intro h u a
  have:=h u ((Xn _ _).1 a)
  simpa using this
theorem aAS{g:List (List Int)}{M:List Nat}{v:Nat}(h:M.contains v=true):uF g M v=false:=by rw[uF,h];rfl
theorem aLT{g:List (List Int)}{M:List Nat}{v:Nat}(h:(uZ g M v:Int)>0):uF g M v=false:=by
 have:¬uZ g M v=0:=by omega
 rw[aD4] at this;rw[uF];simp only[Bool.not_eq_true] at this;rw[this,Bool.and_false]
theorem aLU{g:List (List Int)}{M:List Nat}{v:Nat}(h:M.contains v=false)(a:¬(uZ g M v:Int)>0):uF g M v=true:=by
 have:uZ g M v=0:=by omega
 rw[aD4] at this;rw[uF,h,this];rfl
theorem aMj{g:List (List Int)}{M:List Nat}(h:∀j,j < g.length→uF g M j=false):Fu g M=none:=by
 unfold Fu;rw[List.find?_eq_none];intro x a
 have:=h x (by simpa using a)
 unfold uF at this;rw[this];simp
theorem aEL{g:List (List Int)}{M:List Nat}{v:Nat}(a:v < g.length)(h:∀j,j < v→uF g M j=false)(hk:uF g M v=true):Fu g M=some v:=by
 unfold Fu;rw[List.find?_range_eq_some];refine⟨hk,by simpa using a,fun j b=>?_⟩
 have:=h j b
 unfold uF at this;rw[this];rfl
theorem aLJ{g:List (List Int)}{M:List Nat}{v k:Nat}(h:Fu g M=some v):tD g (k+1) M=tD g k (M++[v]):=by rw[tD,h]
theorem aLI{g:List (List Int)}{M:List Nat}{k:Nat}(h:Fu g M=none):tD g (k+1) M=none:=by rw[tD,h]
theorem aCc:∀(a W:List Int),(sD W a).length=W.length
 | [],W=>rfl
 | u::a,W=>by rw[sD,List.foldl_cons];have:=aCc a (W.set u.toNat (W[u.toNat]?.getD 0 - 1));rw[sD] at this;rw[this];simp
theorem aPW{a W:List Int}{j:Nat}{u:Int}(h:a[j]? =some u):sD W (a.take (j+1))=(sD W (a.take j)).set u.toNat ((sD W (a.take j))[u.toNat]?.getD 0 - 1):=by
 rw[List.take_add_one,h,Option.toList_some,sD,List.foldl_append];rfl
theorem aCd:∀(a W:List Int) (x:Nat),(∀u∈a,0≤u)→x < W.length→(sD W a)[x]? =some (W[x]?.getD 0 - (a.count (x:Int):Int))
 | [],W,x,_,h=>by simp[sD,h]
 | u :: a, W, x, hu, h => by
  rw[sD,List.foldl_cons]
  have:=aCd a (W.set u.toNat (W[u.toNat]?.getD 0 - 1)) x (fun y c=>hu y (by simp[c])) (by simpa using h)
  rw[sD] at this;rw[this]
  have d:=hu u aD
  congr 1
  by_cases e:u=(x:Int)
  ·subst e
   have b:((x:Int)).toNat=x:=by simp
   rw[b,List.getElem?_set_self h,List.count_cons_self];simp only[Option.getD_some];omega
  ·have b:u.toNat≠x:=aA
   rw[List.getElem?_set_ne b,List.count_cons_of_ne e]
theorem aAk{g:List (List Int)}{v:Nat}{u:Int}(h:u∈mO g v):0≤u∧u < g.length:=by
 simp only[mO,List.mem_map,List.mem_filter,List.mem_range] at h;obtain⟨a,⟨b,_⟩,rfl⟩:=h;simp;omega
theorem aJg(g:List (List Int))(v:Nat):(mO g v).length≤g.length:=by
 rw[mO,List.length_map]
 have:=List.length_filter_le (fun x=>(g[x]?.getD []).contains (v:Int)) (List.range g.length)
 simpa using this
theorem aJh{g:List (List Int)}{v x:Nat}(hx:x < g.length):(mO g v).count (x:Int)=if(g[x]?.getD []).contains (v:Int) then 1 else 0:=by
 have c:(mO g v).Nodup:=List.Pairwise.map _ (fun a b h e=>h (Int.ofNat.inj e)) (List.Pairwise.filter _ List.nodup_range)
 rw[List.Nodup.count c]
 have:((x:Int)∈mO g v)↔(g[x]?.getD []).contains (v:Int)=true:=by
  simp only[mO,List.mem_map,List.mem_filter,List.mem_range];constructor
  ·rintro⟨a,⟨_,h⟩,e⟩
   have:a=x:=Int.ofNat.inj e
   exact this▸h
  ·intro h;exact⟨x,⟨hx,h⟩,rfl⟩
 by_cases h:(g[x]?.getD []).contains (v:Int)=true
 ·rw[if_pos (this.2 h),if_pos h]
 ·rw[if_neg (fun e=>h (this.1 e)),if_neg h]
theorem filter_one{l:List Int}(k:l.Nodup){p q:Int→Bool}{a:Int}(n:p a=true)(j:∀u∈l,q u=(p u&&decide (u≠a))):(l.filter p).length=(l.filter q).length+if l.contains a then 1 else 0:=by
 induction l with
 | nil=>simp
 | cons x l ih =>
  have b:=List.nodup_cons.1 k
  have ih:=ih b.2 (fun u m=>j u (by simp[m]))
  have f:=j x aD
  by_cases e:x=a
  ·subst e
   have i:¬l.contains x=true:=by simpa using b.1
   rw[if_neg i] at ih
   have d:(x::l).contains x=true:=by simp
   rw[if_pos d,List.filter_cons_of_pos n,List.filter_cons_of_neg (by rw[f];simp),List.length_cons,ih]
  ·have i:(x::l).contains a=l.contains a:=by
    rw[List.contains_cons]
    have:(a==x)=false:=by simp;exact fun h=>e h.symm
    rw[this,Bool.false_or]
   rw[i]
   by_cases c:p x=true
   ·rw[List.filter_cons_of_pos c,List.filter_cons_of_pos (by rw[f,c];simp[e]),List.length_cons,List.length_cons,ih];omega
   ·rw[List.filter_cons_of_neg c,List.filter_cons_of_neg (by rw[f];simp[c]),ih]
theorem aIZ{g:List (List Int)}(hg:xC g){M:List Nat}{v x:Nat}(f:M.contains v=false)(hx:x < g.length):(uZ g M x:Int) - (if(g[x]?.getD []).contains (v:Int) then 1 else 0)=uZ g (M++[v]) x:=by
 have e:∀u∈g[x]?.getD [],0≤u:=fun u d=>by
  have j:g[x]? =some (g[x]'hx):=List.getElem?_eq_getElem _
  rw[j] at d;exact(hg _ (List.getElem_mem _) u d).1
 have b:=filter_one (aPh (g[x]?.getD [])) (p:=fun u=> !(M.contains u.toNat)) (q:=fun u=> !((M++[v]).contains u.toNat)) (a:=(v:Int)) (by simp only[Int.toNat_natCast];rw[f];rfl) (fun u d=>by
  have k:=e u ((Xn _ _).1 d)
  have c:(u.toNat=v)↔u=(v:Int):=by omega
  simp only[List.contains_eq_mem,List.mem_append,List.mem_singleton,c,Bool.decide_or,Bool.not_or,decide_not])
 have i:(Dw (g[x]?.getD [])).contains (v:Int)=(g[x]?.getD []).contains (v:Int):=by
  rw[Bool.eq_iff_iff];simp only[List.contains_iff_mem];exact Xn _ _
 rw[i] at b;unfold uZ;rw[b];split<;>omega
theorem aIW{g:List (List Int)}(hg:xC g){M:List Nat}{v:Nat}(b:M.contains v=false):sD (vZ g M) (mO g v)=vZ g (M++[v]):=by
 apply List.ext_getElem?;intro x;rcases Nat.lt_or_ge x g.length with a | a
 ·rw[aCd _ _ _ (fun u c=>(aAk c).1) (by rw[Ki];exact a),Ox a,Ox a,aJh a]
  congr 1
  have:=aIZ hg b a
  simp only[Option.getD_some];rw[←this];split<;>rfl
 ·rw[List.getElem?_eq_none (by rw[aCc,Ki];exact a),List.getElem?_eq_none (by rw[Ki];exact a)]
theorem aIV{g:List (List Int)}(hg:xC g):(gM g g.length).1=vZ g []:=by
 apply List.ext_getElem?;intro x;rcases Nat.lt_or_ge x g.length with a | a
 ·rw[(Qw hg g.length (Nat.le_refl _)).1 x a,Ox a,if_pos a]
  congr 2
  unfold uZ;rw[List.filter_eq_self.2 aD]
 ·rw[List.getElem?_eq_none (by rw[(Lz g _).1];exact a),List.getElem?_eq_none (by rw[Ki];exact a)]
theorem aJf{g:List (List Int)}(hg:xC g){v:Nat}(a:v < g.length):(gM g g.length).2[v]? =some (mO g v):=(Qw hg g.length (Nat.le_refl _)).2 v a
theorem aIX(W a:List Int)(j:Nat)(u x:Int)(hj:a[j]? =some u)(hx:(sD W (a.take j))[u.toNat]? =some x):(aR (sD W (a.take j))).set u.toNat (iv (x - 1))=aR (sD W (a.take (j+1))):=by
 rw[Wg,aPW hj,hx];rfl
theorem aLM{g:List (List Int)}(h:qI g≠0):fY g=(qI g,[]):=by unfold fY;rw[if_pos h]
theorem aLL{g:List (List Int)}(a:qI g=0)(h:tD g g.length []=none):fY g=(5,[]):=by unfold fY;rw[if_neg (by simp[a]),h]
theorem aLK{g:List (List Int)}{M:List Nat}(a:qI g=0)(h:tD g g.length []=some M):fY g=(0,M):=by unfold fY;rw[if_neg (by simp[a]),h]
theorem aLZ{g:List (List Int)}(h:qI g=0):g.length≤100∧xC g:=by
 unfold qI at h;split at h
 ·cases h
 ·split at h
  ·cases h
  ·rename_i b a;exact⟨aA,xC.of (by simpa using a)⟩
def Jt(w:World)(M:List Nat)(a:Int)(y:Ending)(w':World):Prop:=(∃A m c,y=.returned (.tuple #[.slice A m c,iv a])∧m=M.length∧aM (fresh w w') 1 A m (aR (dR M)))∧Below w.heap.size w w'
theorem Jt.nil{w w':World}{a:Int}(h:Below w.heap.size w w'):Jt w [] a (.returned (.tuple #[sn,iv a])) w':=⟨⟨none,0,0,rfl,rfl,aM.nil _ 1⟩,h⟩
theorem Vm(A:Option Addr)(n c:Nat)(g:List (List Int))(w:World)(hg:oF (all w) A n g)(N:n=g.length)(hn2:(n:Int)≤9223372036854775806)(k:∀l∈g,(l.length:Int)≤9223372036854775806):
  Cz 207 #[.slice A n c] w (Jt w (fY g).2 (fY g).1):=by
 refine aT func207 ntmps207 ?_;refine aE ?_;refine dJ (fun o st=>aMa A n c g o (hg.le (lK (st.started aD))) N hn2 k) ?_;refine aE ?_;refine aK rfl (fun h=>?_) (fun h=>?_)
 ·
  refine aE ?_
  exact gF rfl rfl rfl fun o st=>by
   rw[aLM h];exact Jt.nil (st.below aD)
 ·
  have h0:qI g=0:=Classical.byContradiction h
  obtain⟨Z,B⟩:=aLZ h0;refine aE ?_;refine fK (aIb g n) (fun o st=>aNT A n c g o (hg.le (lK (st.started aD))) N aA B k) ?_;rintro _ _ q ⟨b,gU,rfl,rfl,hq⟩ hfq;refine aE ?_;refine Tt aC fun r=>?_;refine aE ?_;refine mH 3 1 ?_;refine bT [(8,sn),(7,.map (some r)),(6,.slice (some ⟨gU,0,none⟩) n n),(5,.slice (some ⟨b,0,none⟩) n n),(0,.slice A n c)] ?_;refine aE ?_;refine fG (fun m e R H=>∃(M:List Nat) (C:Option Addr) (D:Nat),M.length≤n∧m=n - M.length∧tD g (n - M.length) M=tD g g.length []∧e=[(8,.slice C M.length D),(7,.map (some r)),(6,.slice (some ⟨gU,0,none⟩) n n),(5,.slice (some ⟨b,0,none⟩) n n),(0,.slice A n c)]∧R=[q,all w]∧H=[HP.own 3 1 (.slice C M.length D) M.length (aR (dR M)),HP.map r (lT (dR M)),HP.aI b 3 (aR (vZ g M))]) n ⟨[],none,0,aD,rfl,by rw[N];rfl,rfl,rfl,by rw[N,aIV B];rfl⟩ fun m e R H L=>?_;obtain⟨M,C,D,hM,rfl,d,rfl,rfl,rfl⟩:=L;refine aE ?_;refine aK rfl (fun h=>?_) (fun h=>?_)
  ·
   refine pF ?_;refine eR ?_;refine wX ?_;refine eG ?_;refine gN ?_;refine jZ rfl aC ?_;refine fP ?_;refine Nq (fun e R H=>∃v:Nat,v≤n∧(∀j,j < v→uF g M j=false)∧(v < n→uF g M v=true)∧e=[(9,iv v),(8,.slice C M.length D),(7,.map (some r)),(6,.slice (some ⟨gU,0,none⟩) n n),(5,.slice (some ⟨b,0,none⟩) n n),(0,.slice A n c)]∧R=[q,all w]∧H=[HP.own 3 1 (.slice C M.length D) M.length (aR (dR M)),HP.map r (lT (dR M)),HP.aI b 3 (aR (vZ g M))]) ?_ ?_
   ·
    refine bT [(9,iv 0),(8,.slice C M.length D),(7,.map (some r)),(6,.slice (some ⟨gU,0,none⟩) n n),(5,.slice (some ⟨b,0,none⟩) n n),(0,.slice A n c)] ?_;refine aE ?_;refine fG (fun m e R H=>∃v:Nat,v≤n∧m=n - v∧(∀j,j < v→uF g M j=false)∧e=[(9,iv v),(8,.slice C M.length D),(7,.map (some r)),(6,.slice (some ⟨gU,0,none⟩) n n),(5,.slice (some ⟨b,0,none⟩) n n),(0,.slice A n c)]∧R=[q,all w]∧H=[HP.own 3 1 (.slice C M.length D) M.length (aR (dR M)),HP.map r (lT (dR M)),HP.aI b 3 (aR (vZ g M))]) n ⟨0,aA,rfl,fun j h=>absurd h aA,rfl,rfl,rfl⟩ fun m e R H L=>?_;obtain⟨v,hv,rfl,a,rfl,rfl,rfl⟩:=L;refine aE ?_;refine cN (t:=32) rfl (fun hlt=>?_) (fun hlt=>?_)
    ·
     refine aE ?_;refine dJ (fun o st=>(aEO M v)▸Vw r v (dR M) o (st.map (i:=1) rfl)) ?_;refine aE ?_;refine qQ (t:=36) rfl (fun hc=>?_) (fun hc=>?_)
     ·
      refine aE ?_;exact fA (n - (v+1)) ⟨v+1,aA,rfl,Yj a (aAS hc),rfl,rfl,rfl⟩
     ·
      refine jK rfl rfl ?_;refine dW rfl aC ?_;refine jK rfl rfl ?_;refine dW rfl aC ?_
      have J:v < g.length:=by omega
      refine jK rfl rfl ?_;refine kd (dat (v) (v)) ?_;refine jK rfl rfl ?_;refine lN aF rfl (Rd.aI 2 rfl (Wh (Ox J))) aC ?_;refine jK rfl rfl ?_;refine aI8 rfl rfl aC ?_;refine jK rfl rfl ?_;(first | refine sW rfl rfl aC ?_ | refine sX rfl rfl aC ?_)
      (first | refine sW rfl rfl aC ?_ | refine sX rfl rfl aC ?_)
      refine fP ?_;refine aK rfl (fun h=>?_) (fun h=>?_)
      ·
       refine aE ?_;exact fA (n - (v+1)) ⟨v+1,aA,rfl,Yj a (aLT h),rfl,rfl,rfl⟩
      ·
       refine aE ?_;exact oJ ⟨v,hv,a,fun _=>aLU hc h,rfl,rfl,rfl⟩
    ·
     refine aE ?_;exact oJ ⟨v,hv,a,fun h=>absurd h aA,rfl,rfl,rfl⟩
   rintro _ _ _ ⟨v,hv,a,hok,rfl,rfl,rfl⟩;refine aE ?_;refine aK rfl (fun h=>?_) (fun h=>?_)
   ·
    refine aE ?_
    exact gF rfl rfl rfl fun o st=>by
     have E:tD g g.length []=none:=by
      rw[←d,show n - M.length=(n - M.length - 1)+1 by omega];exact aLI (aMj fun j hj=>a j aA)
     rw[aLL h0 E];exact Jt.nil (st.below aD)
   ·
    have J:v < n:=by omega
    have I:=hok J
    have T:M.contains v=false:=by
     cases hb:M.contains v with
     | false=>rfl
     | true=>rw[aAS hb] at I;cases I
    have Qo:=aEL (by omega:v < g.length) a I
    have hU:=aJf B (by omega:v < g.length)
    rw[←N] at hU;obtain⟨b1,o1,B1,d1,hA1,hz1,K,hs1⟩:=hq.vC hU;cases hA1
    have hul:=aJg g v
    refine aE ?_;refine Ou (f:=230) (fi:=[]) (ca:=[]) 1 (HP.map r (lT (if(dR M).contains (v:Int) then dR M else dR M++[(v:Int)]))) aF rfl rfl rfl ⟨aC,rfl⟩ (fun o F st U hF=>Vx r v (dR M) o F U hF) ?_;dsimp only[List.set];rw[if_neg (by rw[aEO,T];decide),←aAX];refine aE ?_;refine eT fun g1=>?_;refine iL 1 1 8 1 (n':=(M++[v]).length) (el:=3) aF aF aC rfl rfl rfl (nH 0 rfl rfl) (by simp[Value.oneCell']) aD (by simp;omega) (by simp;omega) aC fun O c2=>?_;dsimp only[List.set];rw[aFo,←aAX];refine jZ rfl aC ?_;refine fP ?_;refine eG ?_;refine gN ?_;refine dW rfl aC ?_;refine dW rfl aC ?_;refine kd (dat (v) (v)) ?_;refine lN aF rfl (Rd.ro (p:=q) aD hz1 (by simpa using K)) aC ?_;refine Hi (el:=3) aF rfl aC ?_;refine dW rfl aC ?_;refine fP ?_;refine aY [1,2,3] rfl aC (fun _ U=>U) ?_;refine bT [(62,iv 0),(61,iv (mO g v).length),(60,.slice B1 (mO g v).length d1),(8,.slice O (M++[v]).length c2),(7,.map (some r)),(6,.slice (some ⟨gU,0,none⟩) n n),(5,.slice (some ⟨b,0,none⟩) n n),(0,.slice A n c)] ?_;refine aB ?_;refine fG (fun m e R H=>∃j:Nat,j≤(mO g v).length∧m=(mO g v).length - j∧e=[(62,iv j),(61,iv (mO g v).length),(60,.slice B1 (mO g v).length d1),(8,.slice O (M++[v]).length c2),(7,.map (some r)),(6,.slice (some ⟨gU,0,none⟩) n n),(5,.slice (some ⟨b,0,none⟩) n n),(0,.slice A n c)]∧R=[q,all w]∧H=[HP.own 3 1 (.slice O (M++[v]).length c2) (M++[v]).length (aR (dR (M++[v]))),HP.map r (lT (dR (M++[v]))),HP.aI b 3 (aR (sD (vZ g M) ((mO g v).take j)))]) (mO g v).length ⟨0,aA,rfl,rfl,rfl,rfl⟩ fun m e R H L=>?_;obtain⟨j,hj,rfl,rfl,rfl,rfl⟩:=L;refine aE ?_;refine aK rfl (fun h=>?_) (fun h=>?_)
    ·
     refine pF ?_;refine eR ?_;refine eG ?_;refine wX ?_;refine eG ?_
     have hjl:j < (mO g v).length:=by omega
     obtain⟨b2,V,rfl,hz2,hc2⟩:=hs1.2 aA;obtain⟨u,hu⟩:∃u,(mO g v)[j]? =some u:=⟨_,List.getElem?_eq_getElem hjl⟩
     have c3:=hc2 j _ (Wh hu)
     obtain⟨hu0,hun⟩:=aAk (List.mem_of_getElem? hu)
     have z:u.toNat < g.length:=by omega
     have Y:=aCd ((mO g v).take j) (vZ g M) u.toNat (fun y hy=>(aAk (List.mem_of_mem_take hy)).1) (by rw[Ki];exact z)
     rw[Ox z] at Y
     have aSW:((mO g v).take j).count ((u.toNat:Nat):Int)≤j:=Nat.le_trans List.count_le_length (by simp;omega)
     obtain⟨x,X⟩:∃x:Int,x=(some (uZ g M u.toNat:Int)).getD 0 - (((mO g v).take j).count ((u.toNat:Nat):Int):Int):=⟨_,rfl⟩
     rw[←X] at Y
     have hwl:=aJa g M u.toNat
     have Lv:((g[u.toNat]?.getD []).length:Int)≤9223372036854775806:=by
      rw[List.getElem?_eq_getElem z];exact k _ (List.getElem_mem _)
     simp only[Option.getD_some] at X;refine gN ?_;refine kd (dat (j) (V+j)) ?_;refine lN aF rfl (Rd.ro (p:=q) aD hz2 c3) aC ?_;refine jZ rfl aC ?_;refine fP ?_;refine gN ?_;refine dW rfl aC ?_;refine dW rfl aC ?_;refine kd (dat (u.toNat) (u.toNat)) ?_;refine lN aF rfl (Rd.aI 2 rfl (Wh Y)) aC ?_;refine Ts rfl rfl (iY aA) aC ?_;refine kd (dat (u.toNat) (u.toNat)) ?_;refine sQ 2 rfl aF rfl rfl rfl (by rw[show(aR (sD (vZ g M) ((mO g v).take j))).length=g.length by simp[aR,aCc,Ki]];exact z) ?_;dsimp only[List.set];rw[aIX _ _ j u x hu Y];refine aE ?_;exact fA ((mO g v).length - (j+1)) ⟨j+1,aA,rfl,rfl,rfl,rfl⟩
    ·
     refine aE ?_;exact bT [(8,.slice O (M++[v]).length c2),(7,.map (some r)),(6,.slice (some ⟨gU,0,none⟩) n n),(5,.slice (some ⟨b,0,none⟩) n n),(0,.slice A n c)] (iD (n - (M++[v]).length) (by simp;omega) ⟨M++[v],O,c2,(by simp;omega),rfl,by rw[←d,show n - M.length=(n - (M++[v]).length)+1 by simp;omega,aLJ Qo],rfl,rfl,by rw[show j=(mO g v).length by omega,List.take_length,aIW B T]⟩)
  ·
   refine aE ?_;refine dK [] [0] [] aD rfl aC aC fun p U _ hfr=>?_;refine gF rfl rfl rfl fun o st=>?_
   have G:tD g g.length []=some M:=by rw[←d,show n - M.length=0 by omega];rfl
   rw[aLK h0 G];exact⟨⟨_,_,_,rfl,rfl,(aM.own (U 0 _ aD rfl)).le (st.nL aD (hfr aD aD))⟩,st.below aD⟩
theorem Kc{es:List Int}{k:Nat}(b:∀j,j < k→es[j]? =some 0)(h:es[k]? =some 0):∀j,j < k+1→es[j]? =some 0:=fun j c=>by
 rcases Nat.lt_or_ge j k with a | a
 ·exact b j a
 ·have:j=k:=aA
  rw[this];exact h
theorem uY(b:Bool)(e:Int)(w:World):
  Cz 151 #[.bool b,iv e] w (Rt (iv (iS b e)) w):=by
 refine aT func151 ntmps151 ?_;refine aE ?_;refine pZ rfl (fun h=>?_) (fun h=>?_)
 ·
  refine aE ?_;exact aW (h:=fun _ _=>by simp[iS,h])
 ·
  refine aE ?_;exact aW (h:=fun _ _=>by simp[iS,h])
theorem uA(n lo hi:Int)(w:World):
  Cz 157 #[iv n,iv lo,iv hi] w (Rt (.bool (iO n lo hi)) w):=by
 refine aT func157 ntmps157 ?_;refine aE ?_;refine cN (t:=10) rfl (fun a=>?_) (fun a=>?_)
 ·
  refine aE ?_;exact aW (h:=fun _ _=>by simp[iO,a])
 ·
  refine aE ?_;exact aW (h:=fun _ _=>by simp[iO,a])
theorem Xh(A:Option Addr)(n c:Nat)(l:List (FuncId×List Value))(es:List Int)(w:World)(hs:aM (all w) 1 A n (l.map fun f=>.func (.func f.1) #[] f.2.toArray))(D:l.length=n)(hl:es.length=n)(z:(n:Int)≤9223372036854775806)(C:∀f∈l,fJ Tryz.prog f.1=true)
  (hf:∀(i:Nat) (f:FuncId×List Value) (e:Int),l[i]? =some f→es[i]? =some e→∀w',Below w.heap.size w w'→Cz f.1 f.2.toArray w' (Rt (iv e) w')):
  Cz 85 #[.slice A n c] w (Rt (iv (kW es)) w):=by
 refine aT func85 ntmps85 ?_;refine aE ?_;refine bT [(8,iv 0),(7,iv n),(6,.slice A n c)] ?_;refine aE ?_;refine fG (fun m e R H=>∃k:Nat,k≤n∧m=n - k∧(∀j,j < k→es[j]? =some 0)∧e=[(8,iv k),(7,iv n),(6,.slice A n c)]∧R=[all w]∧H=[]) n ⟨0,aA,rfl,fun j u=>absurd u aA,rfl,rfl,rfl⟩ fun m e R H x=>?_;obtain⟨k,E,rfl,r,rfl,rfl,rfl⟩:=x;refine aE ?_;refine aK rfl (fun h=>?_) (fun h=>?_)
 ·
  refine aE ?_
  have y:k < n:=by omega
  obtain⟨f,a⟩:∃f,l[k]? =some f:=⟨l[k]' aA,List.getElem?_eq_getElem _⟩
  obtain⟨t,d⟩:∃e,es[k]? =some e:=⟨es[k]' aA,List.getElem?_eq_getElem _⟩
  obtain⟨b,off,rfl,p,o⟩:=hs.2 aA
  have F:gG w b (off+k) (.func (.func f.1) #[] f.2.toArray):=⟨p,o k _ (by simp[a])⟩
  refine aE ?_;refine xK (f:=f.1) (fi:=[]) (ca:=f.2) (C f (List.mem_of_getElem? a)) rfl rfl aC (fun B st=>by have:=hf k f t a d B (st.started aD);simpa using this) ?_;refine aE ?_;refine aK rfl (fun h=>?_) (fun h=>?_)
  ·
   refine aE ?_;exact aW (h:=fun _ _=>by rw[Iw r d h])
  ·
   refine aE ?_;exact fA (n - (k+1)) ⟨k+1,aA,rfl,(Kc r (by rw[d,show t=0 by omega])),rfl,rfl,rfl⟩
 ·
  refine aE ?_;exact aW (h:=fun _ _=>by rw[Ge (fun j u=>r j aA)])
theorem aGi(A:Option Addr)(n c:Nat)(id:FuncId)(ca:List Value)(rows:List (List Value))(es:List Int)(w:World)(hs:aM (all w) 1 A n rows.flatten)(x:∀r∈rows,r.length=1)(E:rows.length=n)(hl:es.length=n)(B:(n:Int)≤9223372036854775806)(D:fJ Tryz.prog id=true)
  (hf:∀(i:Nat) (r:List Value) (e:Int),rows[i]? =some r→es[i]? =some e→∀w',Below w.heap.size w w'→Cz id (r++ca).toArray w' (Rt (iv e) w')):
  Cz 155 #[.slice A n c,.func (.func id) #[] ca.toArray] w (Rt (iv (kW es)) w):=by
 refine aT func155 ntmps155 ?_;refine aB ?_;refine bT [(10,iv 0),(9,iv n),(8,.slice A n c),(1,.func (.func id) #[] ca.toArray)] ?_;refine aB ?_;refine fG (fun m e R H=>∃k:Nat,k≤n∧m=n - k∧(∀j,j < k→es[j]? =some 0)∧e=[(10,iv k),(9,iv n),(8,.slice A n c),(1,.func (.func id) #[] ca.toArray)]∧R=[all w]∧H=[]) n ⟨0,aA,rfl,fun j t=>absurd t aA,rfl,rfl,rfl⟩ fun m e R H z=>?_;obtain⟨k,F,rfl,l,rfl,rfl,rfl⟩:=z;refine aB ?_;refine aK rfl (fun h=>?_) (fun h=>?_)
 ·
  refine aB ?_
  have o:k < n:=by omega
  obtain⟨r,a⟩:∃r,rows[k]? =some r:=⟨rows[k]' aA,List.getElem?_eq_getElem _⟩
  obtain⟨u,d⟩:∃e,es[k]? =some e:=⟨es[k]' aA,List.getElem?_eq_getElem _⟩
  obtain⟨b,off,rfl,y⟩:=hs.row x a o
  have p:=x r (List.mem_of_getElem? a)
  obtain⟨v,rfl⟩:∃v,r=[v]:=by match r,p with | [v],_=>exact⟨v,rfl⟩
  have c2:=y.at_ (j:=0) rfl
  refine aB ?_;refine kd (dat (k) (off+k*1)) ?_;refine aB ?_;refine xK (f:=id) (fi:=[]) (ca:=ca) D rfl rfl aC (fun C st=>by have:=hf k [v] u a d C (st.started aD);simpa using this) ?_;refine aB ?_;refine aK rfl (fun h=>?_) (fun h=>?_)
  ·
   refine aB ?_;exact aW (h:=fun _ _=>by rw[Iw l d h])
  ·
   refine aB ?_;exact fA (n - (k+1)) ⟨k+1,aA,rfl,(Kc l (by rw[d,show u=0 by omega])),rfl,rfl,rfl⟩
 ·
  refine aB ?_;exact aW (h:=fun _ _=>by rw[Ge (fun j t=>l j aA)])
theorem aPb(A:Option Addr)(n c:Nat)(id:FuncId)(ca:List Value)(rows:List (List Value))(es:List Int)(w:World)(hs:aM (all w) 6 A n rows.flatten)(z:∀r∈rows,r.length=6)(o:∀r∈rows,∀u∈r,u.oneCell'=true)(G:rows.length=n)(hl:es.length=n)(C:(n:Int)≤9223372036854775806)(E:fJ Tryz.prog id=true)
  (hf:∀(i:Nat) (r:List Value) (e:Int),rows[i]? =some r→es[i]? =some e→∀w',Below w.heap.size w w'→Cz id ([Value.agg r.toArray]++ca).toArray w' (Rt (iv e) w')):
  Cz 89 #[.slice A n c,.func (.func id) #[] ca.toArray] w (Rt (iv (kW es)) w):=by
 refine aT func89 ntmps89 ?_;refine aE ?_;refine bT [(10,iv 0),(9,iv n),(8,.slice A n c),(1,.func (.func id) #[] ca.toArray)] ?_;refine aE ?_;refine fG (fun m e R H=>∃k:Nat,k≤n∧m=n - k∧(∀j,j < k→es[j]? =some 0)∧e=[(10,iv k),(9,iv n),(8,.slice A n c),(1,.func (.func id) #[] ca.toArray)]∧R=[all w]∧H=[]) n ⟨0,aA,rfl,fun j x=>absurd x aA,rfl,rfl,rfl⟩ fun m e R H B=>?_;obtain⟨k,J,rfl,p,rfl,rfl,rfl⟩:=B;refine aE ?_;refine aK rfl (fun h=>?_) (fun h=>?_)
 ·
  refine pF ?_;refine eR ?_;refine eG ?_;refine wX ?_;refine eG ?_
  have t:k < n:=by omega
  obtain⟨r,d⟩:∃r,rows[k]? =some r:=⟨rows[k]' aA,List.getElem?_eq_getElem _⟩
  obtain⟨y,l⟩:∃e,es[k]? =some e:=⟨es[k]' aA,List.getElem?_eq_getElem _⟩
  obtain⟨b,off,rfl,F⟩:=hs.row z d t
  have a:=z r (List.mem_of_getElem? d)
  refine gN ?_;refine kd (dat (k) (off+k*6)) ?_;refine xI 6 aF rfl (by first | assumption | exact aV.whole 0 rfl | exact aV.whole 1 rfl | exact aV.whole 2 rfl | exact aV.whole 3 rfl | exact aV.whole 4 rfl | exact aV.whole 5 rfl | exact aV.whole 6 rfl | exact aV.whole 7 rfl | exact aV.whole 8 rfl | exact xA aD (by assumption)) a aC ?_;refine cQ fun I=>?_;refine qP 0 rfl rfl rfl (by rw[show(Value.agg r.toArray).cells.size=6 by simp[Value.cells,a]];kernel_rfl) (o r (List.mem_of_getElem? d)) (by simp[Value.cells,a]) ?_;rw[Px (by simp[Value.cells,a])];dsimp only[List.set,Value.cells];refine fP ?_;refine eG ?_;refine gN ?_;refine dW rfl aC ?_;refine xI 6 aF rfl (by first | assumption | exact aV.whole 0 rfl | exact aV.whole 1 rfl | exact aV.whole 2 rfl | exact aV.whole 3 rfl | exact aV.whole 4 rfl | exact aV.whole 5 rfl | exact aV.whole 6 rfl | exact aV.whole 7 rfl | exact aV.whole 8 rfl | exact xA aD (by assumption)) a aC ?_;refine xK (f:=id) (fi:=[]) (ca:=ca) E rfl rfl aC (fun D st=>by have:=hf k r y d l D (st.started aD);simpa using this) ?_;refine aE ?_;refine aK rfl (fun h=>?_) (fun h=>?_)
  ·
   refine aE ?_;exact aW (h:=fun _ _=>by rw[Iw p l h])
  ·
   refine aE ?_;exact fA (n - (k+1)) ⟨k+1,aA,rfl,(Kc p (by rw[l,show y=0 by omega])),rfl,rfl,rfl⟩
 ·
  refine aE ?_;exact aW (h:=fun _ _=>by rw[Ge (fun j x=>p j aA)])
theorem aPa(A:Option Addr)(n c:Nat)(id:FuncId)(ca:List Value)(rows:List (List Value))(es:List Int)(w:World)(hs:aM (all w) 3 A n rows.flatten)(z:∀r∈rows,r.length=3)(o:∀r∈rows,∀u∈r,u.oneCell'=true)(G:rows.length=n)(hl:es.length=n)(C:(n:Int)≤9223372036854775806)(E:fJ Tryz.prog id=true)
  (hf:∀(i:Nat) (r:List Value) (e:Int),rows[i]? =some r→es[i]? =some e→∀w',Below w.heap.size w w'→Cz id ([Value.agg r.toArray]++ca).toArray w' (Rt (iv e) w')):
  Cz 96 #[.slice A n c,.func (.func id) #[] ca.toArray] w (Rt (iv (kW es)) w):=by
 refine aT func96 ntmps96 ?_;refine aE ?_;refine bT [(10,iv 0),(9,iv n),(8,.slice A n c),(1,.func (.func id) #[] ca.toArray)] ?_;refine aE ?_;refine fG (fun m e R H=>∃k:Nat,k≤n∧m=n - k∧(∀j,j < k→es[j]? =some 0)∧e=[(10,iv k),(9,iv n),(8,.slice A n c),(1,.func (.func id) #[] ca.toArray)]∧R=[all w]∧H=[]) n ⟨0,aA,rfl,fun j x=>absurd x aA,rfl,rfl,rfl⟩ fun m e R H B=>?_;obtain⟨k,J,rfl,p,rfl,rfl,rfl⟩:=B;refine aE ?_;refine aK rfl (fun h=>?_) (fun h=>?_)
 ·
  refine pF ?_;refine eR ?_;refine eG ?_;refine wX ?_;refine eG ?_
  have t:k < n:=by omega
  obtain⟨r,d⟩:∃r,rows[k]? =some r:=⟨rows[k]' aA,List.getElem?_eq_getElem _⟩
  obtain⟨y,l⟩:∃e,es[k]? =some e:=⟨es[k]' aA,List.getElem?_eq_getElem _⟩
  obtain⟨b,off,rfl,F⟩:=hs.row z d t
  have a:=z r (List.mem_of_getElem? d)
  refine gN ?_;refine kd (dat (k) (off+k*3)) ?_;refine xI 3 aF rfl (by first | assumption | exact aV.whole 0 rfl | exact aV.whole 1 rfl | exact aV.whole 2 rfl | exact aV.whole 3 rfl | exact aV.whole 4 rfl | exact aV.whole 5 rfl | exact aV.whole 6 rfl | exact aV.whole 7 rfl | exact aV.whole 8 rfl | exact xA aD (by assumption)) a aC ?_;refine cQ fun I=>?_;refine qP 0 rfl rfl rfl (by rw[show(Value.agg r.toArray).cells.size=3 by simp[Value.cells,a]];kernel_rfl) (o r (List.mem_of_getElem? d)) (by simp[Value.cells,a]) ?_;rw[Px (by simp[Value.cells,a])];dsimp only[List.set,Value.cells];refine fP ?_;refine eG ?_;refine gN ?_;refine dW rfl aC ?_;refine xI 3 aF rfl (by first | assumption | exact aV.whole 0 rfl | exact aV.whole 1 rfl | exact aV.whole 2 rfl | exact aV.whole 3 rfl | exact aV.whole 4 rfl | exact aV.whole 5 rfl | exact aV.whole 6 rfl | exact aV.whole 7 rfl | exact aV.whole 8 rfl | exact xA aD (by assumption)) a aC ?_;refine xK (f:=id) (fi:=[]) (ca:=ca) E rfl rfl aC (fun D st=>by have:=hf k r y d l D (st.started aD);simpa using this) ?_;refine aE ?_;refine aK rfl (fun h=>?_) (fun h=>?_)
  ·
   refine aE ?_;exact aW (h:=fun _ _=>by rw[Iw p l h])
  ·
   refine aE ?_;exact fA (n - (k+1)) ⟨k+1,aA,rfl,(Kc p (by rw[l,show y=0 by omega])),rfl,rfl,rfl⟩
 ·
  refine aE ?_;exact aW (h:=fun _ _=>by rw[Ge (fun j x=>p j aA)])
theorem aOZ(A:Option Addr)(n c:Nat)(id:FuncId)(ca:List Value)(rows:List (List Value))(es:List Int)(w:World)(hs:aM (all w) 1 A n rows.flatten)(z:∀r∈rows,r.length=1)(o:∀r∈rows,∀u∈r,u.oneCell'=true)(G:rows.length=n)(hl:es.length=n)(C:(n:Int)≤9223372036854775806)(E:fJ Tryz.prog id=true)
  (hf:∀(i:Nat) (r:List Value) (e:Int),rows[i]? =some r→es[i]? =some e→∀w',Below w.heap.size w w'→Cz id ([Value.agg r.toArray]++ca).toArray w' (Rt (iv e) w')):
  Cz 102 #[.slice A n c,.func (.func id) #[] ca.toArray] w (Rt (iv (kW es)) w):=by
 refine aT func102 ntmps102 ?_;refine aE ?_;refine bT [(10,iv 0),(9,iv n),(8,.slice A n c),(1,.func (.func id) #[] ca.toArray)] ?_;refine aE ?_;refine fG (fun m e R H=>∃k:Nat,k≤n∧m=n - k∧(∀j,j < k→es[j]? =some 0)∧e=[(10,iv k),(9,iv n),(8,.slice A n c),(1,.func (.func id) #[] ca.toArray)]∧R=[all w]∧H=[]) n ⟨0,aA,rfl,fun j x=>absurd x aA,rfl,rfl,rfl⟩ fun m e R H B=>?_;obtain⟨k,J,rfl,p,rfl,rfl,rfl⟩:=B;refine aE ?_;refine aK rfl (fun h=>?_) (fun h=>?_)
 ·
  refine pF ?_;refine eR ?_;refine eG ?_;refine wX ?_;refine eG ?_
  have t:k < n:=by omega
  obtain⟨r,d⟩:∃r,rows[k]? =some r:=⟨rows[k]' aA,List.getElem?_eq_getElem _⟩
  obtain⟨y,l⟩:∃e,es[k]? =some e:=⟨es[k]' aA,List.getElem?_eq_getElem _⟩
  obtain⟨b,off,rfl,F⟩:=hs.row z d t
  have a:=z r (List.mem_of_getElem? d)
  refine gN ?_;refine kd (dat (k) (off+k*1)) ?_;refine xI 1 aF rfl (by first | assumption | exact aV.whole 0 rfl | exact aV.whole 1 rfl | exact aV.whole 2 rfl | exact aV.whole 3 rfl | exact aV.whole 4 rfl | exact aV.whole 5 rfl | exact aV.whole 6 rfl | exact aV.whole 7 rfl | exact aV.whole 8 rfl | exact xA aD (by assumption)) a aC ?_;refine cQ fun I=>?_;refine qP 0 rfl rfl rfl (by rw[show(Value.agg r.toArray).cells.size=1 by simp[Value.cells,a]];kernel_rfl) (o r (List.mem_of_getElem? d)) (by simp[Value.cells,a]) ?_;rw[Px (by simp[Value.cells,a])];dsimp only[List.set,Value.cells];refine fP ?_;refine eG ?_;refine gN ?_;refine dW rfl aC ?_;refine xI 1 aF rfl (by first | assumption | exact aV.whole 0 rfl | exact aV.whole 1 rfl | exact aV.whole 2 rfl | exact aV.whole 3 rfl | exact aV.whole 4 rfl | exact aV.whole 5 rfl | exact aV.whole 6 rfl | exact aV.whole 7 rfl | exact aV.whole 8 rfl | exact xA aD (by assumption)) a aC ?_;refine xK (f:=id) (fi:=[]) (ca:=ca) E rfl rfl aC (fun D st=>by have:=hf k r y d l D (st.started aD);simpa using this) ?_;refine aE ?_;refine aK rfl (fun h=>?_) (fun h=>?_)
  ·
   refine aE ?_;exact aW (h:=fun _ _=>by rw[Iw p l h])
  ·
   refine aE ?_;exact fA (n - (k+1)) ⟨k+1,aA,rfl,(Kc p (by rw[l,show y=0 by omega])),rfl,rfl,rfl⟩
 ·
  refine aE ?_;exact aW (h:=fun _ _=>by rw[Ge (fun j x=>p j aA)])
theorem aGj(A:Option Addr)(n c:Nat)(id:FuncId)(ca:List Value)(rows:List (List Value))(es:List Int)(w:World)(hs:aM (all w) 6 A n rows.flatten)(z:∀r∈rows,r.length=6)(o:∀r∈rows,∀u∈r,u.oneCell'=true)(G:rows.length=n)(hl:es.length=n)(C:(n:Int)≤9223372036854775806)(E:fJ Tryz.prog id=true)
  (hf:∀(i:Nat) (r:List Value) (e:Int),rows[i]? =some r→es[i]? =some e→∀w',Below w.heap.size w w'→Cz id ([Value.agg r.toArray]++ca).toArray w' (Rt (iv e) w')):
  Cz 105 #[.slice A n c,.func (.func id) #[] ca.toArray] w (Rt (iv (kW es)) w):=by
 refine aT func105 ntmps105 ?_;refine aE ?_;refine bT [(10,iv 0),(9,iv n),(8,.slice A n c),(1,.func (.func id) #[] ca.toArray)] ?_;refine aE ?_;refine fG (fun m e R H=>∃k:Nat,k≤n∧m=n - k∧(∀j,j < k→es[j]? =some 0)∧e=[(10,iv k),(9,iv n),(8,.slice A n c),(1,.func (.func id) #[] ca.toArray)]∧R=[all w]∧H=[]) n ⟨0,aA,rfl,fun j x=>absurd x aA,rfl,rfl,rfl⟩ fun m e R H B=>?_;obtain⟨k,J,rfl,p,rfl,rfl,rfl⟩:=B;refine aE ?_;refine aK rfl (fun h=>?_) (fun h=>?_)
 ·
  refine pF ?_;refine eR ?_;refine eG ?_;refine wX ?_;refine eG ?_
  have t:k < n:=by omega
  obtain⟨r,d⟩:∃r,rows[k]? =some r:=⟨rows[k]' aA,List.getElem?_eq_getElem _⟩
  obtain⟨y,l⟩:∃e,es[k]? =some e:=⟨es[k]' aA,List.getElem?_eq_getElem _⟩
  obtain⟨b,off,rfl,F⟩:=hs.row z d t
  have a:=z r (List.mem_of_getElem? d)
  refine gN ?_;refine kd (dat (k) (off+k*6)) ?_;refine xI 6 aF rfl (by first | assumption | exact aV.whole 0 rfl | exact aV.whole 1 rfl | exact aV.whole 2 rfl | exact aV.whole 3 rfl | exact aV.whole 4 rfl | exact aV.whole 5 rfl | exact aV.whole 6 rfl | exact aV.whole 7 rfl | exact aV.whole 8 rfl | exact xA aD (by assumption)) a aC ?_;refine cQ fun I=>?_;refine qP 0 rfl rfl rfl (by rw[show(Value.agg r.toArray).cells.size=6 by simp[Value.cells,a]];kernel_rfl) (o r (List.mem_of_getElem? d)) (by simp[Value.cells,a]) ?_;rw[Px (by simp[Value.cells,a])];dsimp only[List.set,Value.cells];refine fP ?_;refine eG ?_;refine gN ?_;refine dW rfl aC ?_;refine xI 6 aF rfl (by first | assumption | exact aV.whole 0 rfl | exact aV.whole 1 rfl | exact aV.whole 2 rfl | exact aV.whole 3 rfl | exact aV.whole 4 rfl | exact aV.whole 5 rfl | exact aV.whole 6 rfl | exact aV.whole 7 rfl | exact aV.whole 8 rfl | exact xA aD (by assumption)) a aC ?_;refine xK (f:=id) (fi:=[]) (ca:=ca) E rfl rfl aC (fun D st=>by have:=hf k r y d l D (st.started aD);simpa using this) ?_;refine aE ?_;refine aK rfl (fun h=>?_) (fun h=>?_)
  ·
   refine aE ?_;exact aW (h:=fun _ _=>by rw[Iw p l h])
  ·
   refine aE ?_;exact fA (n - (k+1)) ⟨k+1,aA,rfl,(Kc p (by rw[l,show y=0 by omega])),rfl,rfl,rfl⟩
 ·
  refine aE ?_;exact aW (h:=fun _ _=>by rw[Ge (fun j x=>p j aA)])
end Go.Proofs.YtmpkkaknjkffpaaGreatDoor
