/- Iterators: their contract, a call of yield, a range over one. -/
import Derived.KernelRfl
import Derived.Laws.Cover3
import Derived.Recover
import Derived.Test.YtkgekojkboingaaGreatDoorProg
import Derived.WalkSmall
import Derived.Test.YtkgekojkboingaaGreatDoorWorldRepliesK1
namespace Go.Proofs.YtkgekojkboingaaGreatDoor
set_option linter.all false
set_option maxHeartbeats 4000000
set_option maxRecDepth 20000
open Go.RowKit Go.Proofs.Tryz
section
def nt(W:World)(F:Nat→Prop):Piece:=⟨W,fun b=>b < W.heap.size∧¬F b⟩
structure vO(w w':World):Prop where
 os:w'.os=w.os
 tape:w'.tape=w.tape
 output:w'.output=w.output
 size:w.heap.size≤w'.heap.size
theorem vO.refl(w:World):vO w w:=⟨rfl,rfl,rfl,Nat.le_refl _⟩
theorem vO.trans{a b c:World}(h:vO a b)(k:vO b c):vO a c:=⟨k.os.trans h.os,k.tape.trans h.tape,k.output.trans h.output,Nat.le_trans h.size k.size⟩
theorem iC.same{w w':World}{F F':Nat→Prop}(h:iC w w' F F'):vO w w':=⟨h.os,h.tape,h.output,h.size⟩
structure aDT(w0 W:World)(R:List Piece)(F:Nat→Prop):Prop where
 same:vO w0 W
 ro:∀p∈R,∀b,p.Z b→b < W.heap.size∧¬F b∧W.heap[b]? =p.w.heap[b]?
section
variable{w0 w W W1:World}{R:List Piece}{H:List HP}{F F1:Nat→Prop}
theorem St.join(st:St w0 R H w):∃F,(HP.many H).sat F w∧(∀b,F b→b < w.heap.size)∧aDT w0 w R F:=by
 obtain⟨Z,F,hz,hr,hs,hf,hd⟩:=st.ex;refine⟨fun b=>∃i,F i b,⟨F,hs,fun i b h=>⟨i,h⟩,fun i j b hij h=>hd i j b hij h⟩,fun b ⟨i,h⟩=>(hf i b h).2,⟨⟨st.os,st.tape,st.output,st.size⟩,fun p hp b hb=>⟨hz b (hr p hp b hb).1,fun⟨i,h⟩=>(hf i b h).1 (hr p hp b hb).1,(hr p hp b hb).2⟩⟩⟩
theorem aDB(hb:aDT w0 W R F)(ht:iC W W1 F F1)(hs:(HP.many H).sat F1 W1):St w0 R H W1:=by
 obtain⟨G,h1,h2,h3⟩:=hs
 have h:=hb.same.trans ht.same
 refine⟨h.os,h.tape,h.output,h.size,fun b=>∃p∈R,p.Z b,G,fun b ⟨p,hp,hz⟩=>Nat.lt_of_lt_of_le (hb.ro p hp b hz).1 ht.size,fun p hp b hz=>⟨⟨p,hp,hz⟩,?_⟩,h1,fun i b hg=>⟨?_,(ht.new b (h2 i b hg)).2⟩,fun i j b hij hg=>h3 i j b hij hg⟩
 ·obtain⟨h4,h5,h6⟩:=hb.ro p hp b hz;exact(ht.old b h4 h5).trans h6
 ·rintro⟨p,hp,hz⟩;obtain⟨h4,h5,_⟩:=hb.ro p hp b hz;rcases(ht.new b (h2 i b hg)).1 with h | h
  ·exact h5 h
  ·omega
theorem aRM(hb:aDT w0 W R F)(ht:iC W W1 F F1)(hlt:∀b,F1 b→b < W1.heap.size)(hs:(HP.many H).sat F1 W1):St W1 (R++[nt W1 F1]) H W1:=by
 obtain⟨G,h1,h2,h3⟩:=hs;refine⟨rfl,rfl,rfl,Nat.le_refl _,fun b=>b < W1.heap.size∧¬F1 b,G,fun b h=>h.1,fun p hp b hz=>?_,h1,fun i b hg=>⟨fun h=>h.2 (h2 i b hg),hlt b (h2 i b hg)⟩,fun i j b hij hg=>h3 i j b hij hg⟩;simp only[List.mem_append,List.mem_singleton] at hp;rcases hp with hp | rfl
 ·obtain⟨h4,h5,h6⟩:=hb.ro p hp b hz;refine⟨⟨Nat.lt_of_lt_of_le h4 ht.size,fun h=>?_⟩,(ht.old b h4 h5).trans h6⟩;rcases(ht.new b h).1 with h | h
  ·exact h5 h
  ·omega
 ·exact⟨hz,rfl⟩
theorem aHX(st:St w0 R H w)(hR:nt w0 F∈R):∃F',(HP.many H).sat F' w∧(∀b,F' b→b < w.heap.size)∧iC w0 w F F':=by
 obtain⟨F',h1,h2,hb⟩:=st.join;refine⟨F',h1,h2,st.os,st.tape,st.output,st.size,fun b h=>⟨?_,h2 b h⟩,fun b h hn=>(hb.ro _ hR b ⟨h,hn⟩).2.2⟩;rcases Nat.lt_or_ge b w0.heap.size with h3 | h3
 ·exact .inl (Classical.byContradiction fun hn=>(hb.ro _ hR b ⟨h3,hn⟩).2.1 h)
 ·exact .inr h3
end
def rQ(L:List Nat):HP:=⟨fun F w=>L.Nodup∧∀D∈L,F D∧w.heap[D]? =some (.deferred (some [])),fun _ _ _ h hk=>⟨h.1,fun D hD=>⟨(h.2 D hD).1,(hk D (h.2 D hD).1).trans (h.2 D hD).2⟩⟩⟩
def zJ(l:Nat)(L:List Nat)(rc:Loop):HP:=⟨fun F w=>(F l∧w.heap[l]? =some (.loop rc))∧(rQ L).sat F w,fun F w w' h hk=>⟨⟨h.1.1,(hk l h.1.1).trans h.1.2⟩,(rQ L).loc F w w' h.2 hk⟩⟩
theorem aIy{l:Nat}{L:List Nat}{rc rc':Loop}{F:Nat→Prop}{w:World}(h:(zJ l L rc).sat F w):(zJ l L rc').sat F (w.putObj l (.loop rc')):=by
 obtain⟨⟨h1,h2⟩,h3,h4⟩:=h;refine⟨⟨h1,World.putObj_heap_same (Array.getElem?_eq_some_iff.1 h2).1⟩,h3,fun D hD=>⟨(h4 D hD).1,?_⟩⟩;refine(World.putObj_heap_other (fun e=>?_)).trans (h4 D hD).2;subst e
 have:=(h4 D hD).2
 rw[h2] at this;cases this
section
variable{P:Program}{nn:Nat}{w0 w:World}{e:Env}{R:List Piece}{H:List HP}{Q:Exit→Act→World→Prop}{ops:Array Oper}{rest:List Oper}{r:Option Nat}{L:List Nat}
theorem Oo{Hs:List HP}{p:HP}:(Hs++[p])[Hs.length]? =some p:=by simp
theorem Zt{Hs:List HP}{p q:HP}:(Hs++[p]).set Hs.length q=Hs++[q]:=by simp
theorem St.aCf{Hs:List HP}{l:Nat}{rc rc':Loop}(st:St w0 R (Hs++[zJ l L rc]) w):St w0 R (Hs++[zJ l L rc']) (w.putObj l (.loop rc')):=by
 have:=st.wA (q:=zJ l L rc') (w':=w.putObj l (.loop rc')) (i:=Hs.length) Oo (by simp) rfl rfl rfl (fun F hF hlt=>⟨F,aIy hF,fun b hb=>⟨.inl hb,by simpa using hlt b hb⟩,fun b hb hn=>World.putObj_heap_other (fun e=>hn (e▸hF.1.1))⟩)
 rwa [Zt] at this
theorem St.Om{Hs:List HP}{l:Nat}{rc:Loop}(st:St w0 R (Hs++[zJ l L rc]) w):w.heap[l]? =some (.loop rc):=(st.sat (i:=Hs.length) Oo).choose_spec.1.2
theorem St.aF9{Hs:List HP}{l:Nat}{rc rc':Loop}(st:St w0 R (Hs++[zJ l L rc]) w):St w0 R (Hs++[rQ L]) (w.putObj l (.loop rc')):=by
 have:=st.wA (q:=rQ L) (w':=w.putObj l (.loop rc')) (i:=Hs.length) Oo (by simp) rfl rfl rfl (fun F hF hlt=>⟨F,(aIy (rc':=rc') hF).2,fun b hb=>⟨.inl hb,by simpa using hlt b hb⟩,fun b hb hn=>World.putObj_heap_other (fun e=>hn (e▸hF.1.1))⟩)
 rwa [Zt] at this
theorem St.aMD{Hs:List HP}{rc:Loop}(st:St w0 R (Hs++[rQ L]) w):St w0 R (Hs++[zJ (w.heap.size+1) (w.heap.size::L) rc]) ((w.alloc (.deferred (some []))).alloc (.loop rc)):=by
 have hb:Below w.heap.size w ((w.alloc (.deferred (some []))).alloc (.loop rc)):=((Below.refl _ w).alloc (Nat.le_refl _) _).alloc (by simp) _
 have hL1:((w.alloc (.deferred (some []))).alloc (.loop rc)).heap[w.heap.size+1]? =some (.loop rc):=by
  have:=World.alloc_heap_new (w.alloc (.deferred (some []))) (.loop rc)
  rwa [World.size_alloc] at this
 have hK1:((w.alloc (.deferred (some []))).alloc (.loop rc)).heap[w.heap.size]? =some (.deferred (some [])):=
  (Below.heap_alloc _ _ _ (by simp)).trans (World.alloc_heap_new w _)
 have hsz:((w.alloc (.deferred (some []))).alloc (.loop rc)).heap.size=w.heap.size+1+1:=by simp
 have:=st.wA (q:=zJ (w.heap.size+1) (w.heap.size::L) rc) (i:=Hs.length) Oo hb.size hb.os hb.tape hb.output (fun F hF hlt=>by
  refine⟨fun b=>F b∨(w.heap.size≤b∧b < w.heap.size+1+1),⟨⟨.inr ⟨by omega,by omega⟩,hL1⟩,?_,?_⟩,fun b hb'=>?_,fun b hb' _=>hb.block b hb'⟩
  ·rw[List.nodup_cons];refine⟨fun hm=>?_,hF.1⟩
   have:=hlt _ (hF.2 _ hm).1
   omega
  ·intro D hD;rcases List.mem_cons.1 hD with rfl | hD
   ·exact⟨.inr ⟨by omega,by omega⟩,hK1⟩
   ·obtain⟨h1,h2⟩:=hF.2 D hD;exact⟨.inl h1,(hb.block D (hlt D h1)).trans h2⟩
  ·rcases hb' with h | h
   ·exact⟨.inl h,by have:=hlt b h;omega⟩
   ·exact⟨.inr h.1,by omega⟩)
 rwa [Zt] at this
def aDq(W1:World)(F1:Nat→Prop)(q q':HP):Ending→World→Prop:=fun y W'=>(y=.returned (.bool true)∧∃F',q.sat F' W'∧iC W1 W' F1 F')∨(y=.returned (.bool false)∧∃F',q'.sat F' W'∧iC W1 W' F1 F')
theorem iC.st{W':World}{F':Nat→Prop}{q:HP}{Z:Nat→Prop}{F:Nat→Nat→Prop}{i:Nat}(hos:w.os=w0.os∧w.tape=w0.tape∧w.output=w0.output∧w0.heap.size≤w.heap.size)(hz:∀b,Z b→b < w.heap.size)
  (cP:∀p∈R,∀b,p.Z b→Z b∧w.heap[b]? =p.w.heap[b]?) (hs:∀(i:Nat) (p:HP),H[i]? =some p→p.sat (F i) w) (cX:∀i b,F i b→¬Z b∧b < w.heap.size) (eO:∀i j b,i≠j→F i b→¬F j b)
  (hlt:i < H.length) (nO:q.sat F' W') (ht:iC w W' (F i) F'):St w0 R (H.set i q) W':=by
 refine⟨ht.os.trans hos.1,ht.tape.trans hos.2.1,ht.output.trans hos.2.2.1,Nat.le_trans hos.2.2.2 ht.size,Z,fun j=>if j=i then F' else F j,fun b h=>Nat.lt_of_lt_of_le (hz b h) ht.size,fun p hp b h=>?_,fun j r hj=>?_,fun j b h=>?_,fun j k b kG h=>?_⟩
 ·exact⟨(cP p hp b h).1,(ht.old b (hz b (cP p hp b h).1) (fun nX=>(cX i b nX).1 (cP p hp b h).1)).trans (cP p hp b h).2⟩
 ·rw[List.getElem?_set] at hj;split at hj
  ·rename_i e;subst e
   first | (rw[if_pos hlt] at hj;cases hj) | cases hj
   simpa using nO
  ·rename_i e
   simp only[if_neg (Ne.symm e)];exact r.loc _ _ _ (hs j r hj) (fun b hb=>ht.old b (cX j b hb).2 (eO j i b (Ne.symm e) hb))
 ·dsimp only at h;split at h
  ·refine⟨fun fG=>?_,(ht.new b h).2⟩;rcases(ht.new b h).1 with h | h
   ·exact(cX i b h).1 fG
   ·have:=hz b fG;omega
  ·exact⟨(cX j b h).1,Nat.lt_of_lt_of_le (cX j b h).2 ht.size⟩
 ·dsimp only at h⊢;split at h<;>split
  ·rename_i h1 h2;omega
  ·rename_i e1 e2
   intro hk;rcases(ht.new b h).1 with h | h
   ·exact eO i k b (by omega) h hk
   ·have:=(cX k b hk).2;omega
  ·rename_i e1 e2
   intro hk;rcases(ht.new b hk).1 with hk | hk
   ·exact eO j i b (by omega) h hk
   ·have:=(cX j b h).2;omega
  ·exact eO j k b kG h
theorem aDz(i:Nat){W0:World}{F0:Nat→Prop}{d l:Nat}{ty:TypeId}{pos:String}{aH:Array Edge}{x:Operand}{args:List Operand}{vs:List Value}{tys:Array TypeId}{p q q':HP}
  (hx:e.ev x=some (.func (.yield l) #[] #[])) (ha:e.fM args=some vs) (hd:d < nn) (hnt:nt W0 F0∈R) (dP:vO W0 w0) (hi:H[i]? =some p)
  (hy:∀W1 F1,p.sat F1 W1→(∀b,F1 b→b < W1.heap.size)→iC W0 W1 F0 F1→YieldAt Fence.wide 9 P l vs.toArray W1 (aDq W1 F1 q q'))
  (k1:XK ⟨nn,[]⟩ w0 (KI r L P ops Q rest) ((d,.bool true)::e) R (H.set i q)) (k2:XK ⟨nn,[]⟩ w0 (KI r L P ops Q rest) ((d,.bool false)::e) R (H.set i q')):
  XK ⟨nn,[]⟩ w0 (KI r L P ops Q (⟨some d,.call {callee:=.value x,args:=args.toArray,argTypes:=tys},ty,pos,aH,none⟩::rest)) e R H:=fun a w hr st=>by
 obtain⟨Z,F,hz,cP,hs,cX,eO⟩:=st.ex
 have hlt:i < H.length:=by
  rcases Nat.lt_or_ge i H.length with h | h
  ·exact h
  ·rw[List.getElem?_eq_none h] at hi;cases hi
 have rB:vO W0 w:=dP.trans ⟨st.os,st.tape,st.output,st.size⟩
 obtain⟨fn,tmps,assign,body,hrun,aFP⟩:=hy w (F i) (hs i p hi) (fun b hb=>(cX i b hb).2) ⟨rB.os,rB.tape,rB.output,rB.size,fun b hb=>⟨by
  rcases Nat.lt_or_ge b W0.heap.size with h | h
  ·exact .inl (Classical.byContradiction fun hn=>(cX i b hb).1 (cP _ hnt b ⟨h,hn⟩).1)
  ·exact .inr h,(cX i b hb).2⟩,fun b hb hn=>(cP _ hnt b ⟨hb,hn⟩).2⟩
 refine wpListIn_plain rfl fun K hK=>?_;refine⟨fun _ _=>trivial,?_⟩;rw[aED r _ rfl,Zm]
 have hex:(execOp a.eval (⟨some d,.call {callee:=.value x,args:=args.toArray,argTypes:=tys},ty,pos,aH,none⟩:Oper)).run P w=.ok (.round l fn tmps assign body) w:=by
  simp[execOp,resolve,hr.ev hx,Deferred.ofValue,invoke,hr.fM ha,hrun]
 rw[hex];refine⟨fun _=>by omega,?_⟩
 have aMW:RoundIn (Fr r) 8 P l fn tmps assign body w (aDq w (F i) q q'):=⟨aFP.1,fun c cs _=>aFP.2 c cs (room_wide _)⟩
 refine aMW.mono ?_;rintro y W' (⟨rfl,F',hq,ht⟩ | ⟨rfl,F',hq,ht⟩)
 ·refine hK _ _ ?_;rw[Cp];exact k1 _ _ (hr.put hd _) (iC.st ⟨st.os,st.tape,st.output,st.size⟩ hz cP hs cX eO hlt hq ht)
 ·refine hK _ _ ?_;rw[Cp];exact k2 _ _ (hr.put hd _) (iC.st ⟨st.os,st.tape,st.output,st.size⟩ hz cP hs cX eO hlt hq ht)
def Iter(P:Program)(g:FuncId)(lb:List Value)(encs:List (List Value))(p:Piece):Prop:=
 ∀(l:Nat) (J Jx:Nat→HP) (W:World) (F:Nat→Prop),p.Le (all W)→(∀b,p.Z b→¬F b)→(J 0).sat F W→(∀b,F b→b < W.heap.size)→
  (∀(k:Nat) (vs:List Value) (W1:World) (F1:Nat→Prop),encs[k]? =some vs→(J k).sat F1 W1→(∀b,F1 b→b < W1.heap.size)→iC W W1 F F1→YieldAt Fence.wide 9 P l vs.toArray W1 (aDq W1 F1 (J (k+1)) (Jx (k+1))))→
  Calls P g (Value.func (.yield l) #[] #[]::lb).toArray W fun y W'=>(∃v,y=.returned v)∧∃F',iC W W' F F'∧((J encs.length).sat F' W'∨∃k,k < encs.length∧(Jx (k+1)).sat F' W')
def aA9:List Nat→List Value→Env→Env
 | p::ps,v::vs,e=>aA9 ps vs ((p,v)::e)
 | _,_,e=>e
theorem eC.bind:∀{ps:List Nat} {vs:List Value} {e:Env} {a:Act},eC ⟨nn,[]⟩ e a→(∀p∈ps,p < nn)→eC ⟨nn,[]⟩ (aA9 ps vs e) {tmps:=(ps.zip vs).foldl (fun t (p,v)=>t.setIfInBounds p v) a.tmps,defers:=a.defers}
 | [],vs,e,a,h,_=>h
 | p::ps,[],e,a,h,_=>h
 | p::ps,v::vs,e,a,h,hp=>eC.bind (a:=a.put (some p) v) (h.put (hp p (by simp)) v) (fun q hq=>hp q (by simp[hq]))
theorem aD0{gf:FuncId}{lb:List Value}{encs:List (List Value)}{p:Piece}{g:Operand}{ps:List Nat}{assign body:Code}(hg:e.ev g=some (.func (.func gf) #[] lb.toArray))(hf:eY P gf=true)(hit:Iter P gf lb encs p)(hp:p∈R)
  (hps:∀vs∈encs,vs.length=ps.length) (hpN:∀q∈ps,q < nn) (Hs Hx:Nat→List HP) (Mid:Nat→List Value→Env→List HP→Prop) (h0:H=Hs 0++[rQ L])
  (hassign:∀(l k:Nat) (vs:List Value) (W1:World) (q:Piece) (X:HP),encs[k]? =some vs→vO w0 W1→XK ⟨nn,[]⟩ W1 (KC (some l) [] P assign (Fx fun a w=>∃e1 H1,Mid k vs e1 H1∧eC ⟨nn,[]⟩ e1 a∧St W1 (R++[q]) (H1++[X]) w)) (aA9 ps vs e) (R++[q]) (Hs k++[X]))
  (hbody:∀(l k:Nat) (vs:List Value) (W1:World) (q:Piece) (X:HP) (e1:Env) (H1:List HP),encs[k]? =some vs→vO w0 W1→Mid k vs e1 H1→
   XK ⟨nn,[]⟩ W1 (KC (some l) [] P body (fun x _ w=>(x=.normal∧St W1 (R++[q]) (Hs (k+1)++[X]) w)∨(x=.ret∧St W1 (R++[q]) (Hx (k+1)++[X]) w))) e1 (R++[q]) (H1++[X]))
  (hdone:∀D,XK ⟨nn,[]⟩ w0 (KQ (D::L) Q .normal) e R (Hs encs.length++[rQ (D::L)])) (aAe:∀D k,k < encs.length→XK ⟨nn,[]⟩ w0 (KC none (D::L) P .ret Q) e R (Hx (k+1)++[rQ (D::L)])):
  XK ⟨nn,[]⟩ w0 (KC none L P (Code.rangeFunc g ps.toArray assign body) Q) e R H:=fun a w hr st=>by
 subst h0;unfold eY at hf;cases hq:P.funcs[gf]? with
 | none=>simp[hq] at hf
 | some fnn=>
 simp[hq] at hf;obtain⟨gH,mS⟩:=hf
 have eg:∀args w,(callFunc gf args).run P w=.ok (.enter gf args) w:=fun args w=>by
  cases hb:fnn.body with
  | none=>simp[hb] at mS
  | some c=>simp[callFunc,hq,gH,hb]
 refine wpIn_rangeFunc (F:=Fence.wide) fun fn hfn=>?_
 let uX:LoopState→Option Code→Loop:=fun s pe=>{state:=s,pending:=pe,fn,tmps:=a.tmps,params:=ps.toArray,assign,body,defers:=w.heap.size}
 have lI:St w0 R (Hs 0++[zJ (w.heap.size+1) (w.heap.size::L) (uX .ready none)]) ((w.alloc (.deferred (some []))).alloc (.loop (uX .ready none))):=st.aMD
 obtain⟨W1,hW1⟩:∃W1,(w.alloc (.deferred (some []))).alloc (.loop (uX .ready none))=W1:=⟨_,rfl⟩
 rw[hW1] at lI;obtain⟨F,aCs,hlt,hbase⟩:=lI.join
 refine⟨w.heap.size+1,[aCc w.heap.size],W1,{target:=.fn (.func gf) lb.toArray,args:=#[.func (.yield (w.heap.size+1)) #[] #[]]},W1,gf,#[.func (.yield (w.heap.size+1)) #[] #[]]++lb.toArray,W1,
  by rw[←hW1];exact run_enterLoop_outer _ _ _ _ _,?_,fun _ _=>trivial,by simp[invoke,go_sem,eg],fun h=>by simp[Fence.wide] at h,?_⟩
 ·have:=hr.ev hg
  rw[Zm];simp only[resolve,this];simp[go_sem]
 refine callsIn_wide.2 ?_
 have yO:=hit (w.heap.size+1) (fun k=>HP.many (Hs k++[zJ (w.heap.size+1) (w.heap.size::L) (uX .ready none)])) (fun k=>HP.many (Hx k++[zJ (w.heap.size+1) (w.heap.size::L) (uX .done (some .ret))])) W1 F
  (fun b hb=>⟨(hbase.ro p hp b hb).1,(hbase.ro p hp b hb).2.2⟩) (fun b hb=>(hbase.ro p hp b hb).2.1) aCs hlt ?_
 ·rw[show(#[Value.func (.yield (w.heap.size+1)) #[] #[]]++lb.toArray)=(Value.func (.yield (w.heap.size+1)) #[] #[]::lb).toArray by simp];refine yO.mono ?_;rintro y W2 ⟨⟨v,rfl⟩,F2,ht,h | ⟨k,hk,h⟩⟩
  ·have wH:=aDB hbase ht h
   refine⟨none,_,run_endLoop wH.Om (by simp[uX]),?_⟩
   have:=hdone w.heap.size a _ hr (wH.aF9 (rc':={uX .ready none with state:=.exhausted}))
   unfold KQ mk at this;rw[hr.defers] at this;unfold mk;rw[hr.defers];exact this
  ·have wH:=aDB hbase ht h
   refine⟨some .ret,_,run_endLoop wH.Om (by simp[uX]),?_⟩
   have:=aAe w.heap.size k hk a _ hr (wH.aF9 (rc':={uX .done (some .ret) with state:=.exhausted}))
   unfold KC mk at this;rw[hr.defers] at this;unfold mk;rw[hr.defers];exact this
 ·intro k vs W2 F2 hvs jB uB nV
  have wH:=aDB hbase nV jB
  have Dd:=wH.Om
  have hvl:=hps vs (List.mem_of_getElem? hvs)
  refine⟨fn,_,assign,body,run_yield Dd (by simp[uX,hvl]),roundIn_of_wpIn (F:=Fence.wide) hfn ?_⟩
  have stR:=aRM hbase nV uB jB
  have hsame:vO w0 W2:=hbase.same.trans nV.same
  have Cv:eC ⟨nn,[]⟩ (aA9 ps vs e) {tmps:=(ps.zip vs).foldl (fun t (p,v)=>t.setIfInBounds p v) a.tmps,defers:=a.defers}:=eC.bind hr hpN
  rw[hr.defers] at Cv
  have h1:=hassign (w.heap.size+1) k vs W2 (nt W2 F2) _ hvs hsame _ _ Cv stR
  unfold KC at h1;rw[Zl] at h1;simp only[uX,List.zip_toArray,List.foldl_toArray',List.size_toArray];refine wpIn_mono h1 ?_;rintro x a1 W3 hx;cases x with
  | normal =>
   obtain⟨e1,H1,hmid,dQ,Kg⟩:=hx;refine⟨_,run_beginRound Kg.Om rfl,?_⟩
   have st4:=Kg.aCf (rc':=uX .busy none)
   have h2:=hbody (w.heap.size+1) k vs W2 (nt W2 F2) _ e1 H1 hvs hsame hmid a1 _ dQ st4
   unfold KC at h2;rw[Zl] at h2;refine wpIn_mono h2 ?_;rintro x a4 W4 (⟨rfl,Kf⟩ | ⟨rfl,Kf⟩)
   ·refine⟨_,_,run_endRound none Kf.Om,.inl ⟨rfl,?_⟩⟩;obtain⟨F',h3,_,h4⟩:=aHX (Kf.aCf (rc':=uX .ready none)) (by simp:nt W2 F2∈R++[nt W2 F2]);exact⟨F',h3,h4⟩
   ·refine⟨_,_,run_endRound (some .ret) Kf.Om,.inr ⟨rfl,?_⟩⟩;obtain⟨F',h3,_,h4⟩:=aHX (Kf.aCf (rc':=uX .done (some .ret))) (by simp:nt W2 F2∈R++[nt W2 F2]);exact⟨F',h3,h4⟩
  | _=>exact hx.elim
theorem aAX{f:FuncId}{fn:Func}{c:Code}{vs:List Value}{w:World}{Post:Ending→World→Prop}(hf:P.funcs[f]? =some fn)(hb:fn.body=some c)(hN:fn.ntmps=nn)(hl:vs.length≤nn){R:List Piece}{H:List HP}(st:St w R H w)
  (h:XK ⟨nn,[]⟩ w (KC none [] P c (bodyPostM Fence.wide 9 P fn Post)) (Dw 0 vs) R (H++[rQ []])):Calls P f vs.toArray w Post:=by
 refine(callsIn_wide (n:=9)).1 (callsIn_of_wp_marks hf hb trivial ?_ rfl)
 have:=h {tmps:=vs.toArray++Array.replicate (fn.ntmps - vs.toArray.size) undef,defers:=[]} w ⟨?_,rfl,fun t v hv=>?_⟩ ?_
 ·unfold KC at this;rw[Zl] at this;exact this
 ·simp;omega
 ·obtain⟨_,h2⟩:=Wp vs 0 t v hv;rw[Nat.sub_zero] at h2
  have hlt:t < vs.length:=by
   rcases Nat.lt_or_ge t vs.length with h | h
   ·exact h
   ·rw[List.getElem?_eq_none h] at h2;cases h2
  rw[Array.getElem?_append_left (by simpa using hlt)]
  simpa using h2
 ·obtain⟨Z,F,hz,hr,hs,hf,hd⟩:=st.ex;refine⟨st.os,st.tape,st.output,st.size,Z,fun i b=>i < H.length∧F i b,hz,hr,fun i p hi=>?_,fun i b h=>hf i b h.2,fun i j b hij h k=>hd i j b hij h.2 k.2⟩;rcases Nat.lt_or_ge i H.length with h | h
  ·rw[List.getElem?_append_left h] at hi
   have:=hs i p hi
   show p.sat (fun b=>i < H.length∧F i b) w
   rwa [show(fun b=>i < H.length∧F i b)=F i by funext b;simp[h]]
  ·rw[List.getElem?_append_right h] at hi
   have:i - H.length=0:=by
    rcases Nat.eq_zero_or_pos (i - H.length) with h | h
    ·exact h
    ·rw[List.getElem?_eq_none (by simp;omega)] at hi;cases hi
   rw[this] at hi;simp at hi;subst hi;exact⟨List.nodup_nil,fun D hD=>by cases hD⟩
theorem aCj{fn:Func}{tmps:Array Value}{Post:Ending→World→Prop}{v:Value}:∀(L:List Nat) (Hs:List HP) (w:World),St w0 R (Hs++[rQ L]) w→(∀w,St w0 R Hs w→(results fn tmps).run P w=.ok v w∧Post (.returned v) w)→
  LeavesInM Fence.wide 9 P fn tmps Post (L.map aCc) .returning w
 | [], Hs, w, st, h => ⟨v, h w (st.weak (fun _ hp => hp) id (fun _ _ _ _ h => h) (fun i p hi => by
   have:i < Hs.length:=by
    rcases Nat.lt_or_ge i Hs.length with h | h
    ·exact h
    ·rw[List.getElem?_eq_none h] at hi;cases hi
   show(Hs++[rQ []])[i]? =some p
   rw[List.getElem?_append_left this];exact hi))⟩
 | D::L,Hs,w,st,h=>by
  obtain⟨F,hF⟩:=st.sat (i:=Hs.length) Oo
  have hD:=(hF.2 D (by simp)).2
  refine⟨by simp,.inl ⟨D,_,rfl,run_takeDeferred hD,aCj L Hs _ ?_ h⟩⟩
  have:=st.wA (q:=rQ L) (w':=w.putObj D (.deferred none)) (i:=Hs.length) Oo (by simp) rfl rfl rfl (fun F hF hlt=>⟨F,⟨(List.nodup_cons.1 hF.1).2,fun D' hD'=>⟨(hF.2 D' (by simp[hD'])).1,(World.putObj_heap_other (fun e:D'=D=>(List.nodup_cons.1 hF.1).1 (e▸hD'))).trans (hF.2 D' (by simp[hD'])).2⟩⟩,fun b hb=>⟨.inl hb,by simpa using hlt b hb⟩,fun b hb hn=>World.putObj_heap_other (fun e=>hn (e▸(hF.2 D (by simp)).1))⟩)
  rwa [Zt] at this
theorem Rn{fn:Func}{Post:Ending→World→Prop}{x:Exit}{Hs:List HP}(hx:x=.ret∨x=.normal)(hr:fn.results=#[])(h:∀w,St w0 R Hs w→Post (.returned (.tuple #[])) w):XK ⟨nn,[]⟩ w0 (KQ L (bodyPostM Fence.wide 9 P fn Post) x) e R (Hs++[rQ L]):=fun a w cQ st=>by
 have:=aCj (P:=P) (fn:=fn) (tmps:=a.tmps) (v:=.tuple #[]) L Hs w st (fun w st=>⟨results_none hr _ _ _,h w st⟩)
 rcases hx with rfl | rfl
 ·unfold KQ mk;rw[cQ.defers];exact this
 ·unfold KQ mk;rw[cQ.defers];exact this
theorem aR7{fn:Func}{Post:Ending→World→Prop}{Hs:List HP}{t:Nat}{v:Value}(hr:fn.results=#[.tmp t])(ht:e.get t=some v)(h:∀w,St w0 R Hs w→Post (.returned v) w):XK ⟨nn,[]⟩ w0 (KQ L (bodyPostM Fence.wide 9 P fn Post) .ret) e R (Hs++[rQ L]):=fun a w cQ st=>by
 have:=aCj (P:=P) (fn:=fn) (tmps:=a.tmps) (v:=v) L Hs w st (fun w st=>⟨by rw[results_tmp hr,Array.getD_eq_getD_getElem?,cQ.get t v ht];rfl,h w st⟩)
 unfold KQ mk;rw[cQ.defers];exact this
theorem aR2{K:Act→World→Prop}(h:XK ⟨nn,[]⟩ w0 K e R H):XK ⟨nn,[]⟩ w0 (Fx K .normal) e R H:=h
theorem aD4{M:Env→List HP→Prop}{H1:List HP}{X:HP}(hm:M e H1):XK ⟨nn,[]⟩ w0 (KQ [] (Fx fun a w=>∃e1 H1,M e1 H1∧eC ⟨nn,[]⟩ e1 a∧St w0 R (H1++[X]) w) .normal) e R (H1++[X]):=fun a w hr st=>⟨e,H1,hm,by rw[Zl];exact hr,st⟩
theorem aD3{H2:List HP}:XK ⟨nn,[]⟩ w0 (KQ L (fun x _ w=>(x=.normal∧St w0 R H w)∨(x=.ret∧St w0 R H2 w)) .normal) e R H:=fun a w hr st=>.inl ⟨rfl,st⟩
theorem aHP{H2:List HP}:XK ⟨nn,[]⟩ w0 (KQ L (fun x _ w=>(x=.normal∧St w0 R H2 w)∨(x=.ret∧St w0 R H w)) .ret) e R H:=fun a w hr st=>.inr ⟨rfl,st⟩
theorem aDC{W:World}{F:Nat→Prop}{p:Piece}{J:HP}(hp:p.Le (all W))(hd:∀b,p.Z b→¬F b)(hs:J.sat F W)(hF:∀b,F b→b < W.heap.size):St W [p,nt W F] [J] W:=by
 have st:=aDA hs hF
 obtain⟨Z,G,hz,hr,hs,hf,hd2⟩:=st.ex;refine⟨st.os,st.tape,st.output,st.size,Z,G,hz,fun q hq b hb=>?_,hs,hf,hd2⟩;simp only[List.mem_cons,List.not_mem_nil,or_false] at hq;rcases hq with rfl | rfl
 ·exact⟨(hr (nt W F) (by simp[nt]) b ⟨(hp b hb).1,hd b hb⟩).1,(hp b hb).2⟩
 ·exact hr (nt W F) (by simp[nt]) b hb
end
end
section
def Qf(ops:Array Oper):Bool:=(List.range ops.size).all fun j=>match ops[j]? with
 | some o=>o.after.toList.all fun x=> !(Region.binds .any x)||decide (x.on < j)
 | none=>true
def aCG(l:List Oper)(m:Nat):Bool:=(l.take m).all fun o=>match o.guard with
 | some (j,_)=>decide (j < m)
 | none=>true
theorem aAu{ops:Array Oper}(h:Qf ops=true){j:Nat}{o:Oper}(ho:ops[j]? =some o):∀x∈o.after,Region.binds .any x=true→x.on < j:=fun x hx hb=>by
 have hj:=(Array.getElem?_eq_some_iff.1 ho).1
 unfold Qf at h;simp only[List.all_eq_true,List.mem_range] at h
 have:=h j hj
 rw[ho] at this;simp only[List.all_eq_true] at this
 have:=this x (by simpa using hx)
 simpa[hb] using this
theorem Lt{l:Array Bool}{i:Nat}(h:i < l.size):l.getD i true=l.getD i false:=by simp[h]
def Mp(k:Nat)(listed:Array Bool):Prop:=(∀i,i < k→listed.getD i false=true)∧∀i,k≤i→listed.getD i false=false
theorem aKX{ops:Array Oper}{k:Nat}{listed:Array Bool}(hE:Qf ops=true)(hd:Down ops listed)(hk:k < ops.size)(ht:∀j,k≤j→j < ops.size→Kb ops j=true)(hsz:listed.size=ops.size)(hu:Mp k listed):k∈Region.ready .any ops listed∧∀i∈Region.ready .any ops listed,i=k:=by
 constructor
 ·refine mem_ready.2 ⟨?_,_,Array.getElem?_eq_getElem hk,fun x hx hb=>hu.1 _ (aAu hE (Array.getElem?_eq_getElem hk) x hx hb)⟩;rw[Lt (by omega)];exact hu.2 k (Nat.le_refl _)
 ·intro i hi;obtain⟨h1,o,ho,h2⟩:=mem_ready.1 hi
  have hlt:=(Array.getElem?_eq_some_iff.1 ho).1
  rw[Lt (by omega)] at h1;rcases Nat.lt_trichotomy i k with h | h | h
  ·rw[hu.1 i h] at h1;cases h1
  ·exact h
  ·have:=aBz hd hi (ht i (by omega) hlt) h
   rw[hu.2 k (Nat.le_refl _)] at this;cases this
theorem Mp.next{k:Nat}{listed:Array Bool}(h:Mp k listed)(hk:k < listed.size):Mp (k+1) (listed.setIfInBounds k true):=by
 refine⟨fun i hi=>?_,fun i hi=>?_⟩
 ·by_cases e:k=i
  ·subst e;simp[hk]
  ·rw[getD_set_ne false e];exact h.1 i (by omega)
 ·rw[getD_set_ne false (by omega)];exact h.2 i (by omega)
section
variable{P:Program}{nn:Nat}{w0:World}{e:Env}{R:List Piece}{H:List HP}{Q:Exit→Act→World→Prop}{r:Option Nat}{L:List Nat}
theorem aJB{ops:Array Oper}(hE:Qf ops=true):∀(fuel k:Nat) (listed:Array Bool) (a:Act) (w:World),k≤ops.size→ops.size≤k+fuel→Down ops listed→(∀j,k≤j→j < ops.size→Kb ops j=true)→listed.size=ops.size→Mp k listed→
  wpListIn (Fr r) 9 P ops Q (ops.toList.drop k) a w→wpAnyIn (Fr r) 9 P .any ops Q fuel listed a w:=by
 have none:∀(k:Nat) (listed:Array Bool),k=ops.size→listed.size=ops.size→Mp k listed→Region.ready .any ops listed=[]:=by
  intro k listed hk hsz hu;cases hr:Region.ready .any ops listed with
  | nil=>rfl
  | cons i is=>
   exfalso;obtain⟨h1,o,ho,_⟩:=mem_ready.1 (by rw[hr];simp:i∈Region.ready .any ops listed)
   have hlt:=(Array.getElem?_eq_some_iff.1 ho).1
   rw[Lt (by omega),hu.1 i (by omega)] at h1;cases h1
 intro fuel
 induction fuel with
 | zero=>
  intro k listed a w hk hk2 hd ht hsz hu h;rw[List.drop_eq_nil_of_le (by simp;omega)] at h;exact⟨none k listed (by omega) hsz hu,h⟩
 | succ fuel ih =>
  intro k listed a w hk hk2 hd ht hsz hu h
  by_cases hkn:k < ops.size
  ·obtain⟨h1,h2⟩:=aKX hE hd hkn ht hsz hu;refine⟨fun hn=>absurd h1 (by rw[hn];simp),fun i hi=>?_⟩
   have:=h2 i hi
   subst this
   have Ap:ops[i]? =some (ops[i]'hkn):=Array.getElem?_eq_getElem hkn
   have aNs:ops.toList.drop i=ops[i]'hkn::ops.toList.drop (i+1):=by
    rw[←List.getElem_cons_drop (by simpa using hkn)];simp
   rw[aNs] at h;unfold wpListIn at h;unfold wpOpIn;rw[Ap]
   have key:∀a w,wpListIn (Fr r) 9 P ops Q (ops.toList.drop (i+1)) a w→wpAnyIn (Fr r) 9 P .any ops Q fuel (listed.setIfInBounds i true) a w:=fun a w h=>ih (i+1) _ a w (by omega) (by omega) (hd.kY hi) (fun j hj=>ht j (by omega)) (by simpa using hsz) (hu.next (by omega)) h
   dsimp only;split
   ·rename_i hw
    rw[if_pos hw] at h;exact Oper.wpIn_mono key h
   ·rename_i hw
    rw[if_neg hw] at h;exact⟨h.1,key _ _ h.2⟩
  ·rw[List.drop_eq_nil_of_le (by simp;omega)] at h
   have hn:=none k listed (by omega) hsz hu
   exact⟨fun _=>h,fun i hi=>by rw[hn] at hi;cases hi⟩
structure Rel(ops:Array Oper)(m:Nat)(listed l':Array Bool):Prop where
 lo:∀i,i < m→listed.getD i false=l'.getD i false
 hi:∀i,m≤i→listed.getD i false=false
 s1:listed.size=ops.size
 s2:l'.size=m
 le:m≤ops.size
theorem Rel.kY{ops:Array Oper}{m i:Nat}{listed l':Array Bool}(h:Rel ops m listed l')(hi:i < m):Rel ops m (listed.setIfInBounds i true) (l'.setIfInBounds i true):=by
 have hle:=h.le
 have hs:=h.s1
 have jB:=h.s2
 refine⟨fun j hj=>?_,fun j hj=>?_,by simpa using h.s1,by simpa using h.s2,h.le⟩
 ·by_cases e:i=j
  ·subst e
   have h1:i < l'.size:=by omega
   have h2:i < listed.size:=by omega
   simp[h1,h2]
  ·rw[getD_set_ne false e,getD_set_ne false e];exact h.lo j hj
 ·rw[getD_set_ne false (by omega)];exact h.hi j hj
theorem aIW{o:Oper}{a:Act}{w:World}{K K1 K2:Act→World→Prop}(h:o.wp P a w K (Fx K1)):o.wp P a w K (Fx K2):=by
 unfold Oper.wp at h⊢;generalize (execOp a.eval o).run P w=res at h⊢;cases res with
 | ok n w'=>cases n<;>first | exact h | exact Calls.mono h (fun x w'' hx=>by cases x<;>first | exact hx | exact hx.elim | (obtain⟨_,_,hf⟩:=hx;exact hf.elim))
 | halt x w'=>cases x<;>exact h
theorem aQ9{l:List Oper}{m:Nat}(hm:m≤l.length)(hE:Qf l.toArray=true)(hT:En l.toArray m=true)(hG:aCG l m=true)(hp:(l.take m).all Eu=true):
  ∀(fuel:Nat) (listed l':Array Bool) (a:Act) (w:World),Rel l.toArray m listed l'→Down l.toArray listed→wpAny P .any (l.take m).toArray (Fx (KI r L P l.toArray Q (l.drop m))) fuel l' a w→
   wpAnyIn (Fr r) 9 P .any l.toArray Q (fuel+(l.length - m)) listed (mk L a) w:=by
 have Ap:∀i,i < m→(l.take m).toArray[i]? =l.toArray[i]? :=fun i hi=>by simp[List.getElem?_take,hi]
 have aCx:∀{listed l':Array Bool},Rel l.toArray m listed l'→∀i,i < m→(i∈Region.ready .any l.toArray listed↔i∈Region.ready .any (l.take m).toArray l'):=by
  intro listed l' hr i hi
  have hs1:=hr.s1
  have jB:=hr.s2
  have hle:=hr.le
  rw[mem_ready,mem_ready,Lt (l:=listed) (by omega),Lt (l:=l') (by omega),hr.lo i hi,Ap i hi];constructor
  ·rintro⟨h1,o,ho,h2⟩;exact⟨h1,o,ho,fun x hx hb=>by have:=aAu hE ho x hx hb;rw[←hr.lo _ (by omega)];exact h2 x hx hb⟩
  ·rintro⟨h1,o,ho,h2⟩;exact⟨h1,o,ho,fun x hx hb=>by have:=aAu hE ho x hx hb;rw[hr.lo _ (by omega)];exact h2 x hx hb⟩
 have sJ:∀j,m≤j→j < l.toArray.size→Kb l.toArray j=true:=fun j hj hlt=>by
  unfold En at hT;simp only[List.all_eq_true,List.mem_range,Bool.or_eq_true,decide_eq_true_eq] at hT;exact(hT j hlt).resolve_left (by omega)
 have hdone:∀{listed l':Array Bool},Rel l.toArray m listed l'→Region.ready .any (l.take m).toArray l'=[]→Mp m listed:=by
  intro listed l' hr hn;refine⟨fun i=>?_,hr.hi⟩
  induction i using Nat.strongRecOn with
  | _ i ih =>
   intro hi;cases hb:listed.getD i false with
   | true=>rfl
   | false =>
    exfalso
    have hs1:=hr.s1
    have hle:=hr.le
    have hil:i < l.toArray.size:=by omega
    have:i∈Region.ready .any l.toArray listed:=mem_ready.2 ⟨by rw[Lt (by omega)];exact hb,_,Array.getElem?_eq_getElem hil,fun x hx hxb=>by
     have:=aAu hE (Array.getElem?_eq_getElem hil) x hx hxb
     exact ih x.on this (by omega)⟩
    rw[aCx hr i hi,hn] at this;cases this
 have fin:∀{fuel:Nat} {listed l':Array Bool} {a:Act} {w:World},Rel l.toArray m listed l'→Down l.toArray listed→Region.ready .any (l.take m).toArray l'=[]→KI r L P l.toArray Q (l.drop m) a w→wpAnyIn (Fr r) 9 P .any l.toArray Q (fuel+(l.length - m)) listed (mk L a) w:=by
  intro fuel listed l' a w hr hd hn hk;refine aJB hE _ m listed _ w (by simpa using hm) (by simp;omega) hd sJ hr.s1 (hdone hr hn) ?_;unfold KI at hk
  simpa using hk
 intro fuel
 induction fuel with
 | zero=>
  intro listed l' a w hr hd h;exact fin hr hd h.1 h.2
 | succ fuel ih =>
  intro listed l' a w hr hd h;cases hne:Region.ready .any (l.take m).toArray l' with
  | nil=>exact fin hr hd hne (h.1 hne)
  | cons i0 is =>
   have nP:i0∈Region.ready .any (l.take m).toArray l':=by rw[hne];simp
   have aNl:i0 < m:=by
    obtain⟨_,o,ho,_⟩:=mem_ready.1 nP
    have:=(Array.getElem?_eq_some_iff.1 ho).1
    simp at this;omega
   have aFZ:=(aCx hr i0 aNl).2 nP
   rw[show fuel+1+(l.length - m)=(fuel+(l.length - m))+1 by omega];refine⟨fun hn=>absurd aFZ (by rw[hn];simp),fun i hi=>?_⟩;obtain⟨h1,o,ho,_⟩:=mem_ready.1 hi
   have hlt:=(Array.getElem?_eq_some_iff.1 ho).1
   by_cases Ak:i < m
   ·have hi':=(aCx hr i Ak).1 hi
    have h2:=h.2 i hi'
    unfold wpOp at h2;unfold wpOpIn;rw[Ap i Ak,ho] at h2;rw[ho];dsimp only at h2⊢
    have aMR:Region.wanted o (yielded l.toArray (mk L a).tmps)=Region.wanted o (yielded (l.take m).toArray a.tmps):=by
     show Region.wanted o (yielded l.toArray a.tmps)=_
     cases hgd:o.guard with
     | none=>simp[Region.wanted,hgd]
     | some g =>
      obtain⟨j,b⟩:=g
      have hj:j < m:=by
       unfold aCG at hG;simp only[List.all_eq_true] at hG
       have hmem:o∈l.take m:=by
        have:(l.take m)[i]? =some o:=by simpa[List.getElem?_take,Ak] using ho
        exact List.mem_of_getElem? this
       have:=hG o hmem
       rw[hgd] at this
       simpa using this
      simp only[Region.wanted,hgd,yielded,Ap j hj]
    rw[aMR]
    have mP:Eu o=true:=by
     simp only[List.all_eq_true] at hp
     have:(l.take m)[i]? =some o:=by simpa[List.getElem?_take,Ak] using ho
     exact hp o (List.mem_of_getElem? this)
    have key:∀a' w',wpAny P .any (l.take m).toArray (Fx (KI r L P l.toArray Q (l.drop m))) fuel (l'.setIfInBounds i true) a' w'→wpAnyIn (Fr r) 9 P .any l.toArray Q (fuel+(l.length - m)) (listed.setIfInBounds i true) (mk L a') w':=fun a' w' hh=>ih _ _ a' w' (hr.kY Ak) (hd.kY hi) hh
    split
    ·rename_i hw
     rw[if_pos hw] at h2;rcases h2 with h2 | ⟨_,_,_,h2⟩
     ·exact aBK mP key (aIW h2)
     ·exact h2.elim
    ·rename_i hw
     rw[if_neg hw] at h2;refine⟨fun _ _=>trivial,?_⟩;rw[Cp];exact key _ _ h2
   ·exfalso
    have:=aBz hd hi (sJ i (by omega) hlt) (show i0 < i by omega)
    obtain⟨h3,_⟩:=mem_ready.1 aFZ
    have hs1:=hr.s1
    rw[Lt (by omega),this] at h3;cases h3
theorem aRB(m:Nat){id:Nat}{l:List Oper}(hm:P.follows .mixedOrders=true)(hc:(Region.noSelect (l.take m).toArray&&Qf l.toArray&&En l.toArray m&&En (l.take m).toArray m&&aCG l m&&(l.take m).all Eu&&decide (m≤l.length))=true)
  (h:XA P ⟨nn,[]⟩ w0 (l.take m).toArray (Fx (KI r L P l.toArray Q (l.drop m))) R H m m (Array.replicate m false) e R H):XK ⟨nn,[]⟩ w0 (KC r L P (Code.region id l.toArray true) Q) e R H:=fun a w hr st=>by
 simp only[Bool.and_eq_true,decide_eq_true_eq] at hc;obtain⟨⟨⟨⟨⟨⟨c1,c2⟩,c3⟩,c4⟩,c5⟩,c6⟩,c7⟩:=hc
 have h1:=h ⟨Down.start _ _,c1,c4⟩ a w.drew hr st.drew
 have h2:=aQ9 (r:=r) (L:=L) (Q:=Q) c7 c2 c3 c5 c6 m (Array.replicate l.length false) _ a w.drew ⟨fun i hi=>by simp[hi,Nat.lt_of_lt_of_le hi c7],fun i hi=>by simp[Array.getElem?_replicate];split<;>rfl,by simp,by simp,by simpa using c7⟩ (Down.start _ _) (Yf _ _ _ _ h1)
 unfold KC;refine wpIn_region_any hm ?_;rw[show m+(l.length - m)=l.length by omega] at h2
 simpa using h2
end
end
section
section
variable{P:Program}{N:cF}{w0:World}{e:Env}{R:List Piece}{H:List HP}{Q:Exit→Act→World→Prop}{ops:Array Oper}{rest:List Oper}
variable{d:Nat}{ty:TypeId}{pos:String}{aH:Array Edge}
theorem Sb{x:Operand}{t el u:TypeId}{A:Option Addr}{n c:Nat}(ht:P.underlying t=some (.slice el))(hx:e.ev x=some (.slice A n c))(hd:d < N.n)
  (k:XK N w0 (wpList P ops Q rest) ((d,.bool A.isNone)::e) R H):XK N w0 (wpList P ops Q (⟨some d,.binOp .eql t x (.const (.slice none 0 0)) u,ty,pos,aH,none⟩::rest)) e R H:=
 lX hd (fun a w hr=>by
  have h1:=hr.ev hx
  have h2:=hr.ev (show e.ev (.const (.slice none 0 0))=some (.slice none 0 0) from rfl)
  simp[execOp,h1,h2,eqGuard,binOp,run_equal_slice_nil _ t el A n c ht]) k
theorem Rz{t el:TypeId}{sz:Nat}(ht:P.underlying t=some (.slice el))(hsz:(P.info? el).map (·.size)=some sz)(hd:d < N.n)
  (k:∀g,XK N w0 (wpList P ops Q rest) ((d,.slice (some ⟨g,0,none⟩) 0 0)::e) R (HP.aE g el []::H)):XK N w0 (wpList P ops Q (⟨some d,.buildSlice t 0 #[],ty,pos,aH,none⟩::rest)) e R H:=
 aEj (ps:=[]) (vs:=[]) rfl (fun w=>by
  obtain⟨i,hi,hs⟩:=Option.map_eq_some_iff.1 hsz;simp[Instr.buildSlice,Sem.run_bind,run_underlying ht,Result.andThen_ok,sizeOf,typeInfo,hi,newRow,Instr.fill]
  congr 2
  exact Array.eq_empty_of_size_eq_zero (by simp)) hd k
theorem St.bare{w:World}(h:St w0 R H w):St w0 [] [] w:=h.weak (fun _ hp=>by cases hp) id (fun _ _ _ _ h=>h) (fun i p hi=>by simp at hi)
theorem aRz(m:Nat){id:Nat}{l:List Oper}(hm:P.follows .mixedOrders=true)(hc:(Region.noSelect l.toArray&&En l.toArray m)=true)(h:XA P N w0 l.toArray Q [] [] m l.length (Array.replicate l.length false) e R H):XK N w0 ((Code.region id l.toArray true).wp P Q) e R H:=fun a w hr st=>by
 simp only[Bool.and_eq_true] at hc
 have:=h ⟨Down.start _ _,hc.1,hc.2⟩ a w.drew hr st.drew
 refine wp_region_any hm (Yf (S:=St w0 [] []) (m:=m) _ _ _ _ ?_)
 simpa using this
theorem Gj(i:Nat){K:Act→World→Prop}{g n c sz:Nat}{el:TypeId}{xs:List Value}(hi:H[i]? =some (HP.own el sz (.slice (some ⟨g,0,none⟩) n c) n xs))
  (h:∀cs:List Value,cs.length=c*sz→cs.take (n*sz)=xs→n≤c→c≤maxLen→XK N w0 K e R (H.set i (HP.aE g el cs))):XK N w0 K e R H:=fun a w hr st=>by
 obtain⟨_,h2⟩:=st.own hi;rcases h2 with⟨h2,_⟩ | ⟨g',cap,cur,hv,_,hg,hn,hm,hsz,pS⟩
 ·cases h2
 ·cases hv;refine h cur.toList (by simpa using hsz) pS hn hm a w hr (st.wA hi (Nat.le_refl _) rfl rfl rfl fun F hF hlt=>⟨F,⟨hF.1 g rfl,by simpa[tK] using hg⟩,fun b hb=>⟨.inl hb,hlt b hb⟩,fun _ _ _=>rfl⟩)
theorem Ea(i:Nat){K:Act→World→Prop}{g n c sz:Nat}{el:TypeId}{cs xs:List Value}(hi:H[i]? =some (HP.aE g el cs))(h1:cs.length=c*sz)(h2:cs.take (n*sz)=xs)(hn:n≤c)(hm:c≤maxLen)
  (h:XK N w0 K e R (H.set i (HP.own el sz (.slice (some ⟨g,0,none⟩) n c) n xs))):XK N w0 K e R H:=fun a w hr st=>
 h a w hr (st.wA hi (Nat.le_refl _) rfl rfl rfl fun F hF hlt=>⟨F,⟨fun g' hg'=>by simp[Value.ownBlock] at hg';exact hg'▸hF.1,by rw[←h2,List.length_take,h1];exact Nat.min_eq_left (Nat.mul_le_mul_right _ hn),.inr ⟨g,c,cs.toArray,rfl,Nat.zero_le _,hF.2,hn,hm,by simpa using h1,by simpa using h2⟩⟩,fun b hb=>⟨.inl hb,hlt b hb⟩,fun _ _ _=>rfl⟩)
end
def Jl(xs:List Value)(k:Nat)(l:List Value):Prop:=l.length=xs.length∧∀t,t < xs.length→l[t]? =if t < k∨xs.length - k≤t then xs[xs.length - 1 - t]? else xs[t]?
theorem Jl.zero(xs:List Value):Jl xs 0 xs:=⟨rfl,fun t ht=>by rw[if_neg (by omega)]⟩
theorem Jl.all{xs l:List Value}{k:Nat}(h:Jl xs k l)(hk:xs.length≤2*k+1):l=xs.reverse:=by
 apply List.ext_getElem?;intro t;rcases Nat.lt_or_ge t xs.length with ht | ht
 ·rw[h.2 t ht,List.getElem?_reverse ht];split
  ·rfl
  ·congr 1;omega
 ·rw[List.getElem?_eq_none (by rw[h.1];exact ht),List.getElem?_eq_none (by simpa using ht)]
theorem Jl.next{xs l:List Value}{k:Nat}{u v:Value}(h:Jl xs k l)(hk:2*k+1 < xs.length)(hu:l[xs.length - 1 - k]? =some u)(hv:l[k]? =some v):Jl xs (k+1) ((l.set k u).set (xs.length - 1 - k) v):=by
 have h1:=h.2 k (by omega)
 have h2:=h.2 (xs.length - 1 - k) (by omega)
 rw[if_neg (by omega),hv] at h1;rw[if_neg (by omega),hu] at h2;refine⟨by simpa using h.1,fun t ht=>?_⟩
 have hl:=h.1
 rw[List.getElem?_set,List.getElem?_set]
 by_cases e1:xs.length - 1 - k=t
 ·rw[if_pos e1,if_pos (by simp;omega),if_pos (by omega),show xs.length - 1 - t=k by omega];exact h1
 ·rw[if_neg e1]
  by_cases e2:k=t
  ·rw[if_pos e2,if_pos (by omega),if_pos (by omega),←e2];exact h2
  ·rw[if_neg e2,h.2 t ht]
   by_cases e3:t < k∨xs.length - k≤t
   ·rw[if_pos e3,if_pos (by omega)]
   ·rw[if_neg e3,if_neg (by omega)]
theorem take_set{cs l:List Value}{n k:Nat}{u:Value}(h:cs.take n=l):(cs.set k u).take n=l.set k u:=by rw[←h,List.take_set]
theorem aEy{cs l:List Value}{n k:Nat}{u:Value}(h:cs.take n=l)(hu:l[k]? =some u):cs[k]? =some u:=by
 rw[←h,List.getElem?_take] at hu;split at hu
 ·exact hu
 ·cases hu
end
section
def Mv(p0:Piece)(w0:World)(q:Piece):Prop:=∀b,q.Z b→p0.Z b∨w0.heap.size≤b
section
variable{P:Program}{N:cF}{w0 w:World}{e:Env}{R:List Piece}{H H':List HP}{Q:Exit→Act→World→Prop}{ops:Array Oper}{rest:List Oper}{K:Act→World→Prop}
variable{d:Nat}{ty:TypeId}{pos:String}{aH:Array Edge}
theorem St.piece{p:Piece}(st:St w0 R H w)(hR:all w0∈R)(hp:p.Le (all w0)):St w0 (p::R) H w:=by
 obtain⟨Z,F,hz,hr,hs,hf,hd⟩:=st.ex;refine⟨st.os,st.tape,st.output,st.size,Z,F,hz,fun q hq b hb=>?_,hs,hf,hd⟩;simp only[List.mem_cons] at hq;rcases hq with rfl | hq
 ·have h1:=hr _ hR b (hp b hb).1
  exact⟨h1.1,h1.2.trans (hp b hb).2⟩
 ·exact hr q hq b hb
theorem yZ(p:Piece)(hR:all w0∈R)(hp:p.Le (all w0))(h:XK N w0 K e (p::R) H):XK N w0 K e R H:=fun a w hr st=>h a w hr (st.piece hR hp)
theorem aLZ{p0 qs q2:Piece}{w1:World}(st:St w0 R H w1)(hq:qs∈R)(hn:Mv p0 w0 qs)(h0:p0.Le qs)(h1:p0.Le q2)(h2:(fresh w0 w1).Le q2):qs.Le q2:=fun b hb=>by
 rcases hn b hb with h | h
 ·obtain⟨h3,h4⟩:=h1 b h;exact⟨h3,h4.trans (h0 b h).2.symm⟩
 ·obtain⟨h3,h4⟩:=h2 b ⟨h,st.Tb hq hb⟩;exact⟨h3,h4.trans (st.ro hq hb)⟩
theorem aIR(p q0:Piece){f:FuncId}{x:Operand}{args:List Operand}{fi ca vs:List Value}{tys:Array TypeId}(hf:eY P f=true)(hx:e.ev x=some (.func (.func f) fi.toArray ca.toArray))(ha:e.fM args=some vs)(hd:d < N.n)(hps:q0∈R)(hn:Mv p w0 q0)
  (R':Value→World→World→Prop) (hc:∀w,St w0 R H w→Calls P f (fi++vs++ca).toArray w fun y w'=>(∃v,y=.returned v∧R' v w w')∧Below w.heap.size w w')
  (k:∀v w q,R' v w q.w→(fresh w q.w).Le q→q0.Le q→Mv p w0 q→XK N w0 (wpList P ops Q rest) ((d,v)::e) (q::R) H):
  XK N w0 (wpList P ops Q (⟨some d,.call {callee:=.value x,args:=args.toArray,argTypes:=tys},ty,pos,aH,none⟩::rest)) e R H:=fun a w hr st=>wpList_plain rfl fun K hK=>by
 unfold eY at hf;cases hq:P.funcs[f]? with
 | none=>simp[hq] at hf
 | some fn =>
  simp[hq] at hf;obtain⟨gH,mS⟩:=hf
  have hrun:(execOp a.eval (⟨some d,.call {callee:=.value x,args:=args.toArray,argTypes:=tys},ty,pos,aH,none⟩:Oper)).run P w=.ok (.enter f (fi++vs++ca).toArray) w:=by
   cases hb:fn.body with
   | none=>simp[hb] at mS
   | some c=>
    simp[execOp,resolve,hr.ev hx,Deferred.ofValue,invoke,callFunc,hq,gH,hb,hr.fM ha]
  unfold Oper.wp;rw[hrun];refine(hc w st).mono fun y w' ⟨⟨v,hy,hR⟩,hb⟩=>?_;subst hy;refine hK _ _ (k v w ⟨w',fun b=>(fresh w w').Z b∨q0.Z b⟩ hR (fun b h=>⟨.inl h,rfl⟩) (fun b h=>⟨.inr h,?_⟩) (fun b hb=>?_) _ _ (hr.put hd v) (st.seen hb (fun b h=>h.imp id fun hz=>⟨q0,hps,hz⟩)))
  ·exact(hb.block b (st.Tb hps h)).trans (st.ro hps h)
  ·rcases hb with hb | hb
   ·exact .inr (Nat.le_trans st.size hb.1)
   ·exact hn b hb
theorem aHF(p q0:Piece)(fs is:List Nat)(Ic:q0∈R)(hR:all w0∈R)(hn:Mv p w0 q0)(hH:yH is H=some H')(hnd:is.Nodup)(hf:∀i∈fs,i∉is)
  (h:∀q:Piece,(∀(i:Nat) (p:HP),i∈fs→H[i]? =some p→∃F,p.sat F q.w∧∀b,F b→q.Z b)→q0.Le q→Mv p w0 q→XK N w0 K e (q::R) H'):XK N w0 K e R H:=fun a w hr st=>by
 obtain⟨Z,F,hz,cP,hs,cX,hd⟩:=st.ex
 have hlen:=Sx hH
 have hinj:=aBQ hnd
 have Ap:=Yq hH
 refine h ⟨w,fun b=>q0.Z b∨∃i,i∈fs∧F i b⟩ (fun i p hi hp=>⟨F i,hs i p hp,fun b hb=>.inr ⟨i,hi,hb⟩⟩) (fun b hb=>⟨.inl hb,(cP q0 Ic b hb).2⟩) (fun b hb=>?_) a w hr
  ⟨st.os,st.tape,st.output,st.size,fun b=>Z b∨∃i,i∈fs∧F i b,fun i b=>i < H'.length∧F (is.getD i 0) b,?_,?_,?_,?_,?_⟩
 ·rcases hb with hb | ⟨i,hi,hb⟩
  ·exact hn b hb
  ·refine .inr ?_;rcases Nat.lt_or_ge b w0.heap.size with h | h
   ·exact absurd (cP _ hR b h).1 (cX i b hb).1
   ·exact h
 ·rintro b (h | ⟨i,_,h⟩)
  ·exact hz b h
  ·exact(cX i b h).2
 ·intro p hp b hb;simp only[List.mem_cons] at hp;rcases hp with rfl | hp
  ·refine⟨?_,rfl⟩;rcases hb with hb | hb
   ·exact .inl (cP q0 Ic b hb).1
   ·exact .inr hb
  ·exact⟨.inl (cP p hp b hb).1,(cP p hp b hb).2⟩
 ·intro i p hi
  have hlt:i < H'.length:=by
   rcases Nat.lt_or_ge i H'.length with h | h
   ·exact h
   ·rw[List.getElem?_eq_none h] at hi;cases hi
  show p.sat (fun b=>i < H'.length∧F (is.getD i 0) b) w
  rw[show(fun b=>i < H'.length∧F (is.getD i 0) b)=F (is.getD i 0) by funext b;simp[hlt]];exact hs _ p (Ap i p hi)
 ·rintro i b ⟨hi,h⟩;refine⟨?_,(cX _ b h).2⟩;rintro(fG | ⟨j,hj,hjb⟩)
  ·exact(cX _ b h).1 fG
  ·have hi':i < is.length:=by omega
   have hmem:is.getD i 0∈is:=by simp[List.getD_eq_getElem?_getD,List.getElem?_eq_getElem hi']
   exact hd (is.getD i 0) j b (fun e=>hf j hj (e▸hmem)) h hjb
 ·exact fun i j b hij h hj=>hd (is.getD i 0) (is.getD j 0) b (fun e=>hij (hinj i j (by omega) (by omega) e)) h.2 hj.2
end
end
section
def uF(M:Option Nat)(d:Nat)(e:Env):Env:=match M with
 | none=>e
 | some g=>(d,.pointer (some ⟨g,0,none⟩))::e
def wT(M:Option Nat)(t:TypeId)(cs:List Value)(H:List HP):List HP:=match M with
 | none=>H
 | some g=>HP.aE g t cs::H
def yJ(M:Option Nat)(j:Nat)(l:Array Bool):Array Bool:=match M with
 | none=>l
 | some _=>l.setIfInBounds j true
def Dj(M:Option Nat)(f:Nat):Nat:=match M with
 | none=>f+1
 | some _=>f
def neB(d:Nat):Operand→Bool
 | .tmp t=> !(Nat.beq d t)
 | _=>true
theorem aNR(M:Option Nat){d t:Nat}{e:Env}{v:Value}(h:e.get t=some v)(hn:Nat.beq d t=false):(uF M d e).get t=some v:=by
 cases M with
 | none=>exact h
 | some g=>
  show Env.get ((d,_)::e) t=some v
  unfold Env.get;rw[hn];exact h
theorem Qb(M:Option Nat){d:Nat}{e:Env}{x:Operand}{v:Value}(h:e.ev x=some v)(hn:neB d x=true):(uF M d e).ev x=some v:=by
 cases x with
 | tmp t=>exact aNR M h (by simpa[neB] using hn)
 | _=>exact h
theorem Qa(M:Option Nat){d:Nat}{e:Env}:∀{xs:List Operand} {vs:List Value},e.fM xs=some vs→xs.all (neB d)=true→(uF M d e).fM xs=some vs
 | [],vs,h,_=>by cases h;rfl
 | x :: xs, vs, h, hn => by
  simp only[List.all_cons,Bool.and_eq_true] at hn;unfold Env.fM at h⊢;split at h
  ·rename_i v r h1 h2
   cases h;rw[Qb M h1 hn.1,Qa M h2 hn.2]
  ·cases h
section
variable{P:Program}{N:cF}{w0 w:World}{e:Env}{R R' R0:List Piece}{H H0:List HP}{Q:Exit→Act→World→Prop}{ops:Array Oper}{m fuel:Nat}{listed:Array Bool}{K:Act→World→Prop}
variable{d dA:Nat}{t ty:TypeId}{pos:String}{aH:Array Edge}{cs:List Value}{v:Value}
theorem vK(hR:∀p∈R',p∈R)(h:XK N w0 K e R' H):XK N w0 K e R H:=fun a w hr st=>h a w hr (st.weak hR id (fun _ _ _ _ h=>h) (fun _ _ h=>h))
theorem St.unM{M:Option Nat}(h:St w0 R (wT M t cs H) w):St w0 R H w:=by
 cases M with
 | none=>exact h
 | some g=>exact h.tail
theorem eC.aLo{M:Option Nat}{a:Act}(h:eC N ((d,v)::uF M dA e) a)(hd:Nat.beq d dA=false):eC N (uF M dA ((d,v)::e)) a:=by
 cases M with
 | none=>exact h
 | some g =>
  refine⟨h.size,h.defers,fun u x hu=>h.get u x ?_⟩
  show Env.get ((d,v)::(dA,_)::e) u=some x
  have hu:Env.get ((dA,.pointer (some ⟨g,0,none⟩))::(d,v)::e) u=some x:=hu
  unfold Env.get at hu⊢;cases h1:Nat.beq d u with
  | true =>
   have:=Nat.eq_of_beq_eq_true h1
   subst this
   rw[show Nat.beq dA d=false from(by rw[←hd];cases h2:Nat.beq dA d with
    | true=>have:=Nat.eq_of_beq_eq_true h2;subst this;rw[Nat.beq_refl] at hd;cases hd
    | false=>exact hd.symm)] at hu
   unfold Env.get at hu;rw[h1] at hu;exact hu
  | false =>
   dsimp only;unfold Env.get;cases h2:Nat.beq dA u with
   | true=>rw[h2] at hu;exact hu
   | false=>
    rw[h2] at hu;unfold Env.get at hu;rw[h1] at hu;exact hu
theorem Ro(i j:Nat){oi:Oper}{M:Option Nat}(hi:ops[i]? =some oi)(hj:ops[j]? =some ⟨some dA,.alloc t,ty,pos,aH,none⟩)(ht:Cb P t cs)(hd:dA < N.n)
  (Cw:Region.ready .any ops listed=[i,j]) (dQ:Region.ready .any ops (listed.setIfInBounds j true)=[i]) (hS:∀w,St w0 R H w→St w0 R0 H0 w)
  (step:∀M,XK N w0 (wpList P ops (Exit.then (rM P w0 ops Q R0 H0 m (Dj M fuel) (yJ M j listed) i) Q) [oi]) (uF M dA e) R (wT M t cs H)):
  XA P N w0 ops Q R0 H0 m (Dj M (fuel+1)) (yJ M j listed) (uF M dA e) R (wT M t cs H):=by
 cases M with
 | some g=>exact aD7 i hi dQ (step (some g))
 | none=>exact Ji i j hi hj Cw (step none) (aEl ht hd fun g=>gX (gP (kK (fun w h=>hS w h.tail) (aD7 i hi dQ (step (some g))))))
theorem aHR{j:Nat}(dA:Nat)(t:TypeId)(cs:List Value)(h:∀M:Option Nat,XA P N w0 ops Q R0 H0 m (Dj M fuel) (yJ M j listed) (uF M dA e) R (wT M t cs H)):XA P N w0 ops Q R0 H0 m (fuel+1) listed e R H:=h none
theorem Xh{i j:Nat}{M:Option Nat}(hij:i≠j)(hd:Nat.beq d dA=false)(hS:∀w,St w0 R H w→St w0 R0 H0 w)
  (h:XA P N w0 ops Q R0 H0 m (Dj M fuel) (yJ M j (listed.setIfInBounds i true)) (uF M dA ((d,v)::e)) R (wT M t cs H)):XK N w0 (rM P w0 ops Q R0 H0 m (Dj M fuel) (yJ M j listed) i) ((d,v)::uF M dA e) R (wT M t cs H):=by
 refine kK (fun w h=>hS w h.unM) ?_
 have hl:(yJ M j listed).setIfInBounds i true=yJ M j (listed.setIfInBounds i true):=by
  cases M with
  | none=>rfl
  | some g=>exact Array.setIfInBounds_comm _ _ (Ne.symm hij)
 rw[hl];exact fun up a w hr st=>h up a w (hr.aLo hd) st
theorem aAJ{M:Option Nat}{p:HP}(h:XK N w0 K e R (wT M t cs (p::H))):XK N w0 K e R (p::wT M t cs H):=by
 cases M with
 | none=>exact h
 | some g => exact fun a w hr st => h a w hr (st.weak (fun _ hp => hp) (fun i => match i with | 0 => 1 | 1 => 0 | i + 2 => i + 2) (fun i j _ _ he => by
   match i,j with
   | 0,0=>rfl
   | 0,1=>cases he
   | 0,j+2=>simp at he
   | 1,0=>cases he
   | 1,1=>rfl
   | 1,j+2=>simp at he
   | i+2,0=>simp at he
   | i+2,1=>simp at he
   | i+2,j+2=>simpa using he) (fun i q hq=>by
   match i,hq with
   | 0,hq=>exact hq
   | 1,hq=>exact hq
   | i+2,hq=>exact hq))
theorem aAo{p q:Prop}[Decidable p][Decidable q]{u:Nat}(h:e.get u=some (.bool (decide p)))(hpq:p↔q):e.get u=some (.bool (decide q)):=by
 rw[h,decide_eq_decide.2 hpq]
theorem aCI{q:Prop}[Decidable q]{u:Nat}(h:e.get u=some (.bool false))(hq:¬q):e.get u=some (.bool (decide q)):=by rw[h,decide_eq_false hq]
theorem aNP{q:Prop}[Decidable q]{u:Nat}(h:e.get u=some (.bool true))(hq:q):e.get u=some (.bool (decide q)):=by rw[h,decide_eq_true hq]
theorem aNQ{q:Prop}[Decidable q]{u:Nat}{b:Bool}(h:e.get u=some (.bool b))(hb:b=true↔q):e.get u=some (.bool (decide q)):=by
 rw[h]
 congr 2
 by_cases hq:q
 ·rw[decide_eq_true hq,hb.2 hq]
 ·rw[decide_eq_false hq];cases b
  ·rfl
  ·exact absurd (hb.1 rfl) hq
theorem eC.aJE{e0:Env}{a:Act}{u:Nat}{x:Value}(h:eC N e a)(hs:e0.Sub e)(hu:e.get u=some x):eC N ((u,x)::e0) a:=h.sub (e':=(u,x)::e0) ⟨hu,hs⟩
theorem aDy{x y:Code}{Q:Exit→Act→World→Prop}(u:Nat)(p:Prop)[Decidable p](h:XK N w0 (x.wp P (Exit.then (fun a' w'=>eC N ((u,.bool (decide p))::e) a'∧St w0 R H w') Q)) e R H)
  (hy:XK N w0 (y.wp P Q) ((u,.bool (decide p))::e) R H):XK N w0 ((Code.seq x y).wp P Q) e R H:=fun a w hr st=>by
 refine wp_seq (wp_mono (h a w hr st) fun x a' w' hq=>?_);cases x with
 | normal=>exact hy a' w' hq.1 hq.2
 | _=>exact hq
theorem aAP{e0:Env}{u:Nat}{p:Prop}[Decidable p](hs:e0.Sub e)(hu:e.get u=some (.bool (decide p))):XK N w0 (fun a' w'=>eC N ((u,.bool (decide p))::e0) a'∧St w0 R H w') e R H:=fun _ _ hr st=>⟨hr.aJE hs hu,st⟩
theorem aAO{e0:Env}{u:Nat}{p:Prop}[Decidable p](hs:e0.Sub e:=by repeat (first | exact trivial | refine⟨rfl,?_⟩))(hu:e.get u=some (.bool (decide p)):=by first | (refine aAo rfl ?_;omega) | (refine aAo rfl ?_;simp_all;done) | (refine aCI rfl ?_;first | omega | (simp_all;done)) | (refine aNP rfl ?_;first | omega | (simp_all;done)) | (refine aNQ rfl ?_;simp_all;done) | (refine aAo rfl ⟨fun hh=>?_,fun hh=>?_⟩<;>first | omega | (simp_all;done) | (simp_all;omega)) | (exfalso;omega)):XK N w0 (fun a' w'=>eC N ((u,.bool (decide p))::e0) a'∧St w0 R H w') e R H:=aAP hs hu
theorem aAL(i:Nat){el:TypeId}{sz n c:Nat}{A:Option Addr}{xs:List Value}(hi:H[i]? =some (HP.own el sz (.slice A n c) n xs))(hn:0 < n)(h:∀g,A=some ⟨g,0,none⟩→XK N w0 K e R H):XK N w0 K e R H:=fun a w hr st=>by
 have ho:=st.own hi
 rcases ho.2 with⟨_,h0⟩ | ⟨g,cap,cur,hv,_⟩
 ·omega
 ·injection hv with hA
  exact h g hA a w hr st
end
end
section
def HP.ex{α:Type}(f:α→HP):HP:=⟨fun F w=>∃a,(f a).sat F w,fun F w w' ⟨a,h⟩ hk=>⟨a,(f a).loc F w w' h hk⟩⟩
section
variable{N:cF}{w0:World}{e:Env}{R:List Piece}{H:List HP}{K:Act→World→Prop}
theorem aAN(i:Nat){α:Type}{f:α→HP}(hi:H[i]? =some (HP.ex f))(h:∀a,XK N w0 K e R (H.set i (f a))):XK N w0 K e R H:=fun a w hr st=>by
 obtain⟨Z,F,hz,cP,hs,cX,eO⟩:=st.ex;obtain⟨x,hx⟩:=hs i _ hi
 have hlt:i < H.length:=by
  rcases Nat.lt_or_ge i H.length with h | h
  ·exact h
  ·rw[List.getElem?_eq_none h] at hi;cases hi
 refine h x a w hr ⟨st.os,st.tape,st.output,st.size,Z,F,hz,cP,fun j p hj=>?_,cX,eO⟩;rw[List.getElem?_set] at hj;split at hj
 ·rename_i e;subst e
  first | (rw[if_pos hlt] at hj;cases hj) | cases hj
  exact hx
 ·exact hs j p hj
theorem uK(i:Nat){α:Type}{f:α→HP}(x:α)(hi:H[i]? =some (f x))(h:XK N w0 K e R (H.set i (HP.ex f))):XK N w0 K e R H:=fun a w hr st=>
 h a w hr (st.wA hi (Nat.le_refl _) rfl rfl rfl fun F hF hlt=>⟨F,⟨x,hF⟩,fun b hb=>⟨.inl hb,hlt b hb⟩,fun _ _ _=>rfl⟩)
theorem mU{p q : HP}(h : XK N w0 K e R (HP.many [p, q] :: H)) : XK N w0 K e R (p :: q :: H) := fun a w hr st => by
  obtain⟨Z,F,hz,cP,hs,cX,eO⟩:=st.ex;refine h a w hr ⟨st.os,st.tape,st.output,st.size,Z,fun j=>match j with | 0=>fun b=>F 0 b∨F 1 b | j+1=>F (j+2),hz,cP,fun j r hj=>?_,fun j b hb=>?_,fun j k b kG hj hk=>?_⟩
  · cases j with
    | zero =>
      simp at hj;subst hj;refine⟨fun i b=>i < 2∧F i b,fun i r hi=>?_,fun i b hb=>?_,fun i k b hik h1 h2=>eO i k b hik h1.2 h2.2⟩
      · have key:∀k,k < 2→(fun b=>k < 2∧F k b)=F k:=fun k hk=>by funext b;simp[hk]
        match i,hi with
        | 0,hi=>simp at hi;subst hi;show p.sat (fun b=>0 < 2∧F 0 b) w;rw[key 0 (by omega)];exact hs 0 _ rfl
        | 1,hi=>simp at hi;subst hi;show q.sat (fun b=>1 < 2∧F 1 b) w;rw[key 1 (by omega)];exact hs 1 _ rfl
        | i+2,hi=>simp at hi
      · obtain⟨hlt,hb⟩:=hb
        match i,hlt,hb with
        | 0,_,hb=>exact .inl hb
        | 1,_,hb=>exact .inr hb
    | succ j=>exact hs (j+2) r (by simpa using hj)
  · cases j with
    | zero=>rcases hb with hb | hb<;>exact cX _ b hb
    | succ j=>exact cX _ b hb
  · cases j with
    | zero => cases k with
      | zero=>exact kG rfl
      | succ k => rcases hj with hj | hj
                  · exact eO 0 (k+2) b (by omega) hj hk
                  · exact eO 1 (k+2) b (by omega) hj hk
    | succ j => cases k with
      | zero => rcases hk with hk | hk
                · exact eO 0 (j+2) b (by omega) hk hj
                · exact eO 1 (j+2) b (by omega) hk hj
      | succ k=>exact eO (j+2) (k+2) b (by omega) hj hk
end
end
section
section
variable{P:Program}{w:World}{t kt et:TypeId}{r:Nat}{l:List (Int×Value)}
variable{P:Program}{N:cF}{w0 w:World}{e:Env}{R:List Piece}{H:List HP}{Q:Exit→Act→World→Prop}{ops:Array Oper}{rest:List Oper}
variable{d:Nat}{ty:TypeId}{pos:String}{aH:Array Edge}
theorem aEh(i:Nat){dst:Option Nat}{e':Env}{f:FuncId}{x:Operand}{args:List Operand}{fi ca vs:List Value}{tys:Array TypeId}{p:HP}{v:Value}(q:HP)(hf:eY P f=true)(hx:e.ev x=some (.func (.func f) fi.toArray ca.toArray))(ha:e.fM args=some vs)(hi:H[i]? =some p)
  (hd:match dst with | some d=>d < N.n∧e'=(d,v)::e | none=>e'=e)
  (hc:∀w F,St w0 R H w→p.sat F w→(∀b,F b→b < w.heap.size)→(∀q∈R,q.Le ⟨w,fun b=>b < w.heap.size∧¬F b⟩)→Calls P f (fi++vs++ca).toArray w fun y w'=>y=.returned v∧∃F',q.sat F' w'∧iC w w' F F')
  (k:XK N w0 (wpList P ops Q rest) e' R (H.set i q)):XK N w0 (wpList P ops Q (⟨dst,.call {callee:=.value x,args:=args.toArray,argTypes:=tys},ty,pos,aH,none⟩::rest)) e R H:=fun a w hr st=>wpList_plain rfl fun K hK=>by
 unfold eY at hf;cases hq:P.funcs[f]? with
 | none=>simp[hq] at hf
 | some fn =>
  simp[hq] at hf;obtain⟨gH,mS⟩:=hf
  have hrun:(execOp a.eval (⟨dst,.call {callee:=.value x,args:=args.toArray,argTypes:=tys},ty,pos,aH,none⟩:Oper)).run P w=.ok (.enter f (fi++vs++ca).toArray) w:=by
   cases hb:fn.body with
   | none=>simp[hb] at mS
   | some c=>simp[execOp,resolve,hr.ev hx,Deferred.ofValue,invoke,callFunc,hq,gH,hb,hr.fM ha]
  obtain⟨Z,F,hz,cP,hs,cX,eO⟩:=st.ex;unfold Oper.wp;rw[hrun];refine(hc w (F i) st (hs i p hi) (fun b hb=>(cX i b hb).2) (fun q Lb b hb=>⟨⟨hz b (cP q Lb b hb).1,fun nX=>(cX i b nX).1 (cP q Lb b hb).1⟩,(cP q Lb b hb).2⟩)).mono fun y w' ⟨hy,F',nO,ht⟩=>?_;subst hy
  have st':St w0 R (H.set i q) w':=by
   have hlt:i < H.length:=by
    rcases Nat.lt_or_ge i H.length with h | h
    ·exact h
    ·rw[List.getElem?_eq_none h] at hi;cases hi
   refine⟨ht.os.trans st.os,ht.tape.trans st.tape,ht.output.trans st.output,Nat.le_trans st.size ht.size,Z,fun j=>if j=i then F' else F j,fun b h=>Nat.lt_of_lt_of_le (hz b h) ht.size,fun p hp b h=>?_,fun j r hj=>?_,fun j b h=>?_,fun j k b kG h=>?_⟩
   ·exact⟨(cP p hp b h).1,(ht.old b (hz b (cP p hp b h).1) (fun nX=>(cX i b nX).1 (cP p hp b h).1)).trans (cP p hp b h).2⟩
   ·rw[List.getElem?_set] at hj;split at hj
    ·rename_i e;subst e
     first | (rw[if_pos hlt] at hj;cases hj) | cases hj
     simpa using nO
    ·rename_i e
     simp only[if_neg (Ne.symm e)];exact r.loc _ _ _ (hs j r hj) (fun b hb=>ht.old b (cX j b hb).2 (eO j i b (Ne.symm e) hb))
   ·dsimp only at h;split at h
    ·refine⟨fun fG=>?_,(ht.new b h).2⟩;rcases(ht.new b h).1 with h | h
     ·exact(cX i b h).1 fG
     ·have:=hz b fG;omega
    ·exact⟨(cX j b h).1,Nat.lt_of_lt_of_le (cX j b h).2 ht.size⟩
   ·dsimp only at h⊢;split at h<;>split
    ·rename_i h1 h2;omega
    ·rename_i e1 e2
     intro hk;rcases(ht.new b h).1 with h | h
     ·exact eO i k b (by omega) h hk
     ·have:=(cX k b hk).2;omega
    ·rename_i e1 e2
     intro hk;rcases(ht.new b hk).1 with hk | hk
     ·exact eO j i b (by omega) h hk
     ·have:=(cX j b h).2;omega
    ·exact eO j k b kG h
  cases dst with
  | none=>dsimp only at hd;subst hd;exact hK _ _ (k _ _ hr st')
  | some d=>dsimp only at hd;obtain⟨hd,rfl⟩:=hd;exact hK _ _ (k _ _ (hr.put hd v) st')
end
def Mz(p:Prop):HP:=⟨fun _ _=>p,fun _ _ _ h _=>h⟩
section
variable{P:Program}{nn:Nat}{w0:World}{e e0:Env}{R R0:List Piece}{H H0:List HP}{Q:Exit→Act→World→Prop}{r:Option Nat}{L:List Nat}{K:Act→World→Prop}
theorem aRu(i:Nat){p:Prop}(hi:H[i]? =some (Mz p))(h:p→XK ⟨nn,[]⟩ w0 K e R H):XK ⟨nn,[]⟩ w0 K e R H:=fun a w hr st=>by
 obtain⟨F,hF⟩:=st.sat hi;exact h hF a w hr st
end
end
section
section
variable{P:Program}{N:cF}{w0:World}{K:Act→World→Prop}{e:Env}{R:List Piece}{H H':List HP}{Q:Exit→Act→World→Prop}{ops:Array Oper}{rest:List Oper}
variable{d:Nat}{ty:TypeId}{pos:String}{aH:Array Edge}
def Iw(f:FuncId)(fi ca:List Value):Deferred:={target:=.fn (.func f) ca.toArray,args:=fi.toArray}
theorem Ye{x:Operand}{tys:Array TypeId}{f:FuncId}{fi ca:List Value}(hx:e.ev x=some (.func (.func f) fi.toArray ca.toArray))(k:XK ⟨N.n,Iw f fi ca::N.D⟩ w0 (wpList P ops Q rest) e R H):
  XK N w0 (wpList P ops Q (⟨none,.defer {callee:=.value x,args:=#[],argTypes:=tys},ty,pos,aH,none⟩::rest)) e R H:=fun a w hr st=>wpList_plain rfl fun K hK=>by
 have hrun:(execOp a.eval (⟨none,.defer {callee:=.value x,args:=#[],argTypes:=tys},ty,pos,aH,none⟩:Oper)).run P w=.ok (.defer (Iw f fi ca)) w:=by
  simp[execOp,resolve,hr.ev hx,Deferred.ofValue,Iw]
 unfold Oper.wp;rw[hrun];exact hK _ _ (k {a with defers:=Iw f fi ca::a.defers} w ⟨hr.size,by show _::_=_::_;rw[hr.defers],hr.get⟩ st)
theorem aML{f:FuncId}{fi ca:List Value}(hf:eY P f=true)(w:World):(invoke (.fn (.func f) ca.toArray) fi.toArray).run P w=.ok (.enter f (fi++ca).toArray) w:=by
 unfold eY at hf;cases hq:P.funcs[f]? with
 | none=>simp[hq] at hf
 | some fn=>
  simp[hq] at hf;obtain⟨gH,mS⟩:=hf;cases hb:fn.body with
  | none=>simp[hb] at mS
  | some c=>simp[invoke,callFunc,hq,gH,hb]
theorem aRq{nn:Nat}{f:FuncId}{fi ca:List Value}{fn:Func}{Post:Ending→World→Prop}(hf:eY P f=true)
  (jT:∀w,St w0 R H w→CallsD P f (fi++ca).toArray .returning w fun y u' w'=>(∃v,y=.returned v)∧u'=.returning∧St w0 R H' w')
  (hres:∀a w,eC ⟨nn,[Iw f fi ca]⟩ e a→St w0 R H' w→∃v,(results fn a.tmps).run P w=.ok v w∧Post (.returned v) w):
  XK ⟨nn,[Iw f fi ca]⟩ w0 (bodyPostD P fn Post .ret) e R H:=fun a w hr st=>by
 show Leaves P fn a.tmps Post a.defers .returning w
 rw[hr.defers];refine leaves_cons (by simp) (aML hf w) ((jT w st).mono ?_);rintro y u' w' ⟨⟨v,rfl⟩,rfl,st'⟩;obtain⟨v',h1,h2⟩:=hres a w' hr st';exact⟨v',h1,h2⟩
end
end
section
def HP.bR(Φ:Piece→Prop)(hm:∀p q:Piece,p.Le q→Φ p→Φ q):HP:=⟨fun F w=>Φ ⟨w,F⟩,fun F w w' h hk=>hm ⟨w,F⟩ ⟨w',F⟩ (fun b hb=>⟨hb,hk b hb⟩) h⟩
section
variable{P:Program}{N:cF}{w0 w:World}{K:Act→World→Prop}{e:Env}{R:List Piece}{H H':List HP}{Q:Exit→Act→World→Prop}{ops:Array Oper}{rest:List Oper}
variable{d:Nat}{ty:TypeId}{pos:String}{aH:Array Edge}
theorem wU{α:Type}{H:List α}{i:Nat}{p:α}(hi:H[i]? =some p):i < H.length:=(List.getElem?_eq_some_iff.1 hi).1
theorem St.chunk(st:St w0 R H w){i:Nat}{p:HP}(hi:H[i]? =some p):∃F,p.sat F w∧(∀b,F b→b < w.heap.size)∧(∀q∈R,q.Le ⟨w,fun b=>b < w.heap.size∧¬F b⟩)∧∀w' F' q,q.sat F' w'→iC w w' F F'→St w0 R (H.set i q) w':=by
 obtain⟨Z,F,hz,cP,hs,cX,eO⟩:=st.ex;refine⟨F i,hs i p hi,(fun b hb=>(cX i b hb).2),(fun q Lb b hb=>⟨⟨hz b (cP q Lb b hb).1,fun nX=>(cX i b nX).1 (cP q Lb b hb).1⟩,(cP q Lb b hb).2⟩),fun w' F' q nO ht=>?_⟩
 have hlt:=wU hi
 refine⟨ht.os.trans st.os,ht.tape.trans st.tape,ht.output.trans st.output,Nat.le_trans st.size ht.size,Z,fun j=>if j=i then F' else F j,fun b h=>Nat.lt_of_lt_of_le (hz b h) ht.size,fun p hp b h=>?_,fun j r hj=>?_,fun j b h=>?_,fun j k b kG h=>?_⟩
 ·exact⟨(cP p hp b h).1,(ht.old b (hz b (cP p hp b h).1) (fun nX=>(cX i b nX).1 (cP p hp b h).1)).trans (cP p hp b h).2⟩
 ·rw[List.getElem?_set] at hj;split at hj
  ·rename_i e;subst e
   first | (rw[if_pos hlt] at hj;cases hj) | cases hj
   simpa using nO
  ·rename_i e
   simp only[if_neg (Ne.symm e)];exact r.loc _ _ _ (hs j r hj) (fun b hb=>ht.old b (cX j b hb).2 (eO j i b (Ne.symm e) hb))
 ·dsimp only at h;split at h
  ·refine⟨fun fG=>?_,(ht.new b h).2⟩;rcases(ht.new b h).1 with h | h
   ·exact(cX i b h).1 fG
   ·have:=hz b fG;omega
  ·exact⟨(cX j b h).1,Nat.lt_of_lt_of_le (cX j b h).2 ht.size⟩
 ·dsimp only at h⊢;split at h<;>split
  ·rename_i h1 h2;omega
  ·rename_i e1 e2
   intro hk;rcases(ht.new b h).1 with h | h
   ·exact eO i k b (by omega) h hk
   ·have:=(cX k b hk).2;omega
  ·rename_i e1 e2
   intro hk;rcases(ht.new b hk).1 with hk | hk
   ·exact eO j i b (by omega) h hk
   ·have:=(cX j b h).2;omega
  ·exact eO j k b kG h
theorem oZ(i:Nat){p q:HP}(hi:H[i]? =some p)(hq:∀F w,p.sat F w→q.sat F w)(h:XK N w0 K e R (H.set i q)):XK N w0 K e R H:=fun a w hr st=>by
 obtain⟨F,hp,hlt,_,hk⟩:=st.chunk hi;exact h a w hr (hk w F q (hq F w hp) ⟨rfl,rfl,rfl,Nat.le_refl _,fun b hb=>⟨.inl hb,hlt b hb⟩,fun _ _ _=>rfl⟩)
theorem xM(i:Nat){el:TypeId}{sz n c:Nat}{A:Option Addr}{xs:List Value}{Φ:Piece→Prop}{hm:∀p q:Piece,p.Le q→Φ p→Φ q}(hi:H[i]? =some (HP.own el sz (.slice A n c) n xs))(hq:∀p,aI p sz A n xs→Φ p)(h:XK N w0 K e R (H.set i (HP.bR Φ hm))):XK N w0 K e R H:=
 oZ i hi (fun F w hs=>hq _ (aI.own (q:=⟨w,F⟩) ⟨F,hs,fun _ h=>h⟩)) h
theorem Je{Φ Ψ X : Piece → Prop}{h1 : ∀ p q : Piece, p.Le q → Φ p → Φ q}{h2 : ∀ p q : Piece, p.Le q → Ψ p → Ψ q}{h3 : ∀ p q : Piece, p.Le q → X p → X q}(hX : ∀ p, Φ p → Ψ p → X p)(h : XK N w0 K e R (HP.bR X h3 :: H)) : XK N w0 K e R (HP.bR Φ h1 :: HP.bR Ψ h2 :: H) := fun a w hr st => by
  obtain⟨Z,F,hz,cP,hs,cX,eO⟩:=st.ex;refine h a w hr ⟨st.os,st.tape,st.output,st.size,Z,fun j=>match j with | 0=>fun b=>F 0 b∨F 1 b | j+1=>F (j+2),hz,cP,fun j r hj=>?_,fun j b hb=>?_,fun j k b kG hj hk=>?_⟩
  · cases j with
    | zero =>
      simp at hj;subst hj;exact hX _ (h1 ⟨w,F 0⟩ _ (fun b hb=>⟨.inl hb,rfl⟩) (hs 0 _ rfl)) (h2 ⟨w,F 1⟩ _ (fun b hb=>⟨.inr hb,rfl⟩) (hs 1 _ rfl))
    | succ j=>exact hs (j+2) r (by simpa using hj)
  · cases j with
    | zero=>rcases hb with hb | hb<;>exact cX _ b hb
    | succ j=>exact cX _ b hb
  · cases j with
    | zero => cases k with
      | zero=>exact kG rfl
      | succ k => rcases hj with hj | hj
                  · exact eO 0 (k+2) b (by omega) hj hk
                  · exact eO 1 (k+2) b (by omega) hj hk
    | succ j => cases k with
      | zero => rcases hk with hk | hk
                · exact eO 0 (j+2) b (by omega) hk hj
                · exact eO 1 (j+2) b (by omega) hk hj
      | succ k=>exact eO (j+2) (k+2) b (by omega) hj hk
theorem Jd{q:Piece}{Φ:Piece→Prop}{hm:∀p q:Piece,p.Le q→Φ p→Φ q}(hf:qS w0 q)(hR:∀p∈R,∀b,p.Z b→b < w0.heap.size)(Ku:Φ q)(h:XK N w0 K e R (HP.bR Φ hm::H)):XK N w0 K e (q::R) H:=fun a w hr st=>by
 obtain⟨Z,F,hz,cP,hs,cX,eO⟩:=st.ex
 have hq:=cP q (by simp)
 refine h a w hr ⟨st.os,st.tape,st.output,st.size,fun b=>Z b∧¬q.Z b,fun j=>match j with | 0=>q.Z | j+1=>F j,fun b hb=>hz b hb.1,fun p hp b hb=>?_,fun j r hj=>?_,fun j b hb=>?_,fun j k b kG hj hk=>?_⟩
 ·refine⟨⟨(cP p (by simp[hp]) b hb).1,fun Uk=>?_⟩,(cP p (by simp[hp]) b hb).2⟩
  have h1:=hR p hp b hb
  have h2:=hf b Uk
  omega
 ·cases j with
  | zero=>
   simp at hj;subst hj;exact hm q _ (fun b hb=>⟨hb,(hq b hb).2⟩) Ku
  | succ j=>exact hs j r (by simpa using hj)
 ·cases j with
  | zero=>exact⟨fun hh=>hh.2 hb,hz b (hq b hb).1⟩
  | succ j=>exact⟨fun hh=>(cX j b hb).1 hh.1,(cX j b hb).2⟩
 ·cases j with
  | zero=>cases k with
   | zero=>exact kG rfl
   | succ k=>exact(cX k b hk).1 (hq b hj).1
  | succ j=>cases k with
   | zero=>exact(cX j b hj).1 (hq b hk).1
   | succ k=>exact eO j k b (by omega) hj hk
end
theorem St.bR{w0 w:World}{R:List Piece}{H:List HP}{Φ:Piece→Prop}{hm:∀p q:Piece,p.Le q→Φ p→Φ q}(t:St w0 R H w)(i:Nat)(hi:H[i]? =some (HP.bR Φ hm)):Φ (all w):=by
 obtain⟨F,h1,h2,_⟩:=t.chunk hi;exact hm ⟨w,F⟩ (all w) (fun b hb=>⟨h2 b hb,rfl⟩) h1
end
section
theorem get_some{α:Type}{l:List α}{i:Nat}(h:i < l.length):∃x,l[i]? =some x:=⟨l[i],List.getElem?_eq_getElem h⟩
theorem Sub.set{cs r:List Value}{o:Nat}(h:Sub cs o r)(k:Nat)(v:Value)(hk:k < r.length)(hl:o+k < cs.length):Sub (cs.set (o+k) v) o (r.set k v):=fun j hj=>by
 rw[List.length_set] at hj;rw[List.getElem?_set,List.getElem?_set]
 by_cases he:k=j
 ·subst he;simp[hk,hl]
 ·rw[if_neg (by omega),if_neg he];exact h j hj
def tC(cs cs':List Value)(o m:Nat):Prop:=cs'.length=cs.length∧∀j,(j < o∨o+m≤j)→cs'[j]? =cs[j]?
theorem tC.refl(cs:List Value)(o m:Nat):tC cs cs o m:=⟨rfl,fun _ _=>rfl⟩
theorem tC.set{cs cs':List Value}{o m:Nat}(h:tC cs cs' o m)(k:Nat)(v:Value)(hk:k < m):tC cs (cs'.set (o+k) v) o m:=
 ⟨by simpa using h.1,fun j hj=>by rw[List.getElem?_set,if_neg (by omega)];exact h.2 j hj⟩
theorem aRQ{w0:World}{R:List Piece}{H:List HP}{ps:List HP}{g o:Nat}{t:TypeId}{cs:List Value}{v:Value}(i j:Nat)(hi:H[i]? =some (HP.many ps))(hj:ps[j]? =some (HP.aE g t cs))(hv:cs[o]? =some v):Rd w0 R H g o v:=fun w st=>by
 obtain⟨F,G,g1,_⟩:=st.sat hi
 have:=(g1 j _ hj).2
 rw[this.cell]
 simpa using hv
theorem Py{sz:Nat}(rows:List (List Value))(hl:∀r∈rows,r.length=sz)(k f:Nat)(r:List Value)(hk:rows[k]? =some r)(hf:f < sz):rows.flatten[k*sz+f]? =r[f]? :=by
 have:=Px (fun x=>x) sz rows hl k f r hk hf
 rwa [List.flatMap_id'] at this
theorem Kj{sz:Nat}:∀(rows:List (List Value)),(∀r∈rows,r.length=sz)→rows.flatten.length=rows.length*sz
 | [],_=>by simp
 | r::rs,h=>by rw[List.flatten_cons,List.length_append,Kj rs (fun x hx=>h x (by simp[hx])),h r (by simp),List.length_cons,Nat.succ_mul,Nat.add_comm]
theorem Bg{sz n i:Nat}{cs cs' r':List Value}{rows:List (List Value)}(hc:cs.take (n*sz)=rows.flatten)(hn:rows.length=n)(hr:∀r∈rows,r.length=sz)(hi:i < n)(hl:n*sz≤cs.length)(hr':r'.length=sz)(hs:Sub cs' (i*sz) r')(hu:tC cs cs' (i*sz) sz):cs'.take (n*sz)=(rows.set i r').flatten:=by
 have Ug:∀r∈rows.set i r',r.length=sz:=fun r hrm=>by
  rcases List.mem_or_eq_of_mem_set hrm with h | h
  ·exact hr r h
  ·rw[h];exact hr'
 refine List.ext_getElem? fun j=>?_;rcases Nat.lt_or_ge j (n*sz) with hj | hj
 ·have hpos:0 < sz:=by
   rcases Nat.eq_zero_or_pos sz with h0 | h0
   ·rw[h0,Nat.mul_zero] at hj;omega
   ·exact h0
  have sM:j / sz*sz+j % sz=j:=by rw[Nat.mul_comm];exact Nat.div_add_mod j sz
  have hmod:j % sz < sz:=Nat.mod_lt _ hpos
  have hq:j / sz < n:=Nat.div_lt_of_lt_mul (by rw[Nat.mul_comm];exact hj)
  have hlen:=hu.1
  rw[List.getElem?_take_of_lt hj]
  by_cases he:j / sz=i
  ·have h1:(rows.set i r')[j / sz]? =some r':=by rw[he,List.getElem?_set_self (by omega)]
   have h2:=Py (rows.set i r') Ug (j / sz) (j % sz) r' h1 hmod
   rw[sM] at h2;rw[h2]
   have h3:=hs (j % sz) (by omega)
   rw[←he,sM] at h3;exact h3
  ·obtain⟨r,hrq⟩:=get_some (l:=rows) (i:=j / sz) (by omega)
   have h1:(rows.set i r')[j / sz]? =some r:=by rw[List.getElem?_set_ne (by omega)];exact hrq
   have h2:=Py (rows.set i r') Ug (j / sz) (j % sz) r h1 hmod
   have h3:=Py rows hr (j / sz) (j % sz) r hrq hmod
   rw[sM] at h2 h3;rw[h2,←h3,←hc,List.getElem?_take_of_lt hj];refine hu.2 j ?_;rcases Nat.lt_or_ge (j / sz) i with hlt | hge
   ·left
    have:=Nat.mul_le_mul_right sz (show j / sz+1≤i by omega)
    rw[Nat.add_mul,Nat.one_mul] at this;omega
   ·right
    have:=Nat.mul_le_mul_right sz (show i+1≤j / sz by omega)
    rw[Nat.add_mul,Nat.one_mul] at this;omega
 ·rw[List.getElem?_eq_none (by rw[List.length_take];omega),List.getElem?_eq_none (by rw[Kj _ Ug,List.length_set,hn];exact hj)]
theorem Dk{sz n i:Nat}{cs r:List Value}{rows:List (List Value)}(hc:cs.take (n*sz)=rows.flatten)(hn:rows.length=n)(hr:∀r∈rows,r.length=sz)(hi:rows[i]? =some r):Sub cs (i*sz) r:=fun k hk=>by
 have hlt:i < n:=by rw[←hn];exact(List.getElem?_eq_some_iff.1 hi).1
 have hrl:r.length=sz:=hr r (List.mem_of_getElem? hi)
 have h1:=Py rows hr i k r hi (by omega)
 have h2:i*sz+k < n*sz:=by
  have:=Nat.mul_le_mul_right sz (show i+1≤n by omega)
  rw[Nat.add_mul,Nat.one_mul] at this;omega
 rw[←h1,←hc,List.getElem?_take_of_lt h2]
def Ms(T el:TypeId)(sz t:Nat)(A:Option Addr)(n c:Nat)(rows:List (List Value)):HP:=HP.many [HP.aE t T [.slice A n c],HP.own el sz (.slice A n c) n rows.flatten]
structure Bv(w:World)(sz t:Nat)(A:Option Addr)(n c:Nat)(rows:List (List Value)):Prop where
 r0:fS w t 0 (.slice A n c)
 row:aI (all w) sz A n rows.flatten
section
variable{N:cF}{w0 w:World}{e:Env}{R:List Piece}{H:List HP}{K:Act→World→Prop}{T el:TypeId}{sz t n c:Nat}{A:Option Addr}{rows zW:List (List Value)}
theorem aIi{F:Nat→Prop}(h:(Ms T el sz t A n c rows).sat F w)(hF:∀b,F b→b < w.heap.size):Bv w sz t A n c rows:=by
 obtain⟨G,g1,g2,_⟩:=h
 have h0:=g1 0 _ rfl
 have h1:=g1 1 _ rfl
 obtain⟨A',c',he,hs⟩:=zF (Y:=fun b=>b < w.heap.size) h1 (fun b hb=>hF b (g2 1 b hb))
 injection he with he
 subst he;exact⟨⟨h0.2.lt,by rw[h0.2.cell];rfl⟩,hs⟩
theorem St.aBB(st:St w0 R H w)(i:Nat)(hi:H[i]? =some (Ms T el sz t A n c rows)):Bv w sz t A n c rows:=by
 obtain⟨F,h1,h2,_⟩:=st.chunk hi;exact aIi h1 h2
theorem Rd.row(i:Nat)(hi:H[i]? =some (Ms T el sz t A n c rows)):Rd w0 R H t 0 (.slice A n c):=fun w st=>(st.aBB i hi).r0.2
theorem Bv.at_(h:Bv w sz t A n c rows)(hr:∀r∈rows,r.length=sz){i:Nat}{r:List Value}(hi:rows[i]? =some r)(hn:i < n):∃b off,A=some ⟨b,off,none⟩∧dU w b (off+i*sz) r:=aI.row h.row hr hi hn
theorem Bv.below{w':World}(h:Bv w sz t A n c rows)(hb:Below w.heap.size w w'):Bv w' sz t A n c rows:=
 ⟨⟨Nat.lt_of_lt_of_le h.r0.1 hb.size,(hb.cell (p:=⟨_,0,none⟩) h.r0.1).trans h.r0.2⟩,h.row.le (kT hb)⟩
theorem aDu(i:Nat)(hi:H[i]? =some (Ms T el sz t A n c rows))(hn:0 < n)(h:∀g cs,A=some ⟨g,0,none⟩→cs.length=c*sz→cs.take (n*sz)=rows.flatten→n≤c→c≤maxLen→
  XK N w0 K e R (HP.aE g el cs::HP.aE t T [.slice (some ⟨g,0,none⟩) n c]::H.set i (HP.many [cG,cG]))):XK N w0 K e R H:=by
 have hlt:=wU hi
 refine qM i 0 hi rfl ?_;refine qM (i+1) 1 (by rw[List.getElem?_cons_succ,List.getElem?_set_self hlt]) rfl ?_;refine aAL 0 rfl hn fun g hA=>?_;rw[hA];refine Gj 0 rfl fun cs h1 h2 h3 h4=>?_
 have:=h g cs hA h1 h2 h3 h4
 simpa[List.set_cons_succ,List.set_set] using this
theorem Gm(i:Nat){g:Nat}{cs:List Value}(hA:A=some ⟨g,0,none⟩)(h1:cs.length=c*sz)(h2:cs.take (n*sz)=zW.flatten)(h3:n≤c)(h4:c≤maxLen)(hi:H[i]? =some (HP.many [cG,cG]))
  (h:XK N w0 K e R (H.set i (Ms T el sz t A n c zW))):XK N w0 K e R (HP.aE g el cs::HP.aE t T [.slice (some ⟨g,0,none⟩) n c]::H):=by
 have hlt:=wU hi
 subst hA;refine Ea 0 (n:=n) (c:=c) (sz:=sz) rfl h1 h2 h3 h4 ?_;dsimp only[List.set];refine qO (i+1) 1 (by rw[List.getElem?_cons_succ];exact hi) rfl ?_;dsimp only[List.set];refine qO i 0 (by rw[List.getElem?_set_self hlt]) rfl ?_
 simpa[List.set_set,Ms] using h
end
end
section
section
variable{N:cF}{w0:World}{e:Env}{R R0:List Piece}{H H0:List HP}{Q:Exit→Act→World→Prop}{ops:Array Oper}{rest:List Oper}{K:Act→World→Prop}{m fuel:Nat}{listed:Array Bool}
variable{d:Nat}{ty:TypeId}{pos:String}{aH:Array Edge}{op:Op}{v:Value}
theorem aPa{x:Operand}{t kt et:TypeId}{r:Nat}{l:List (Int×Value)}(ht:Tryz.prog.underlying t=some (.map kt et))(hx:e.ev x=some (.map (some r)))(hm:∀w,St w0 R H w→vP w r l):bQ Tryz.prog N w0 e R H ⟨some d,.call {callee:=.builtin .len,args:=#[x],argTypes:=#[t]},ty,pos,aH,none⟩ (.int .i64 l.length):=fun a w hr st=>by
 obtain⟨es,c,h1,h2⟩:=hm w st
 have hl:es.size=l.length:=by have:=congrArg List.length h2;simpa using this
 have h3:(execOp a.eval ⟨some d,.call {callee:=.builtin .len,args:=#[x],argTypes:=#[t]},ty,pos,aH,none⟩).run Tryz.prog w=.ok (.value (.int .i64 es.size)) w:=by
  simp[execOp,resolve,invoke,builtin,hr.ev hx,Builtin.len_,run_underlying ht,run_getObj_map h1,goInt]
 rw[h3,hl]
theorem Zu(i:Nat){f:FuncId}{x:Operand}{args:List Operand}{fi ca vs:List Value}{tys:Array TypeId}{p:HP}(q:HP)
  (hc:∀w F,St w0 R H w→p.sat F w→(∀b,F b→b < w.heap.size)→(∀q∈R,q.Le ⟨w,fun b=>b < w.heap.size∧¬F b⟩)→Calls Tryz.prog f (fi++vs++ca).toArray w fun y w'=>y=.returned v∧∃F',q.sat F' w'∧iC w w' F F')
  (k:XK N w0 (wpList Tryz.prog ops Q rest) ((d,v)::e) R (H.set i q)) (hi:H[i]? =some p:=by rfl) (hx:e.ev x=some (.func (.func f) fi.toArray ca.toArray):=by rfl) (ha:e.fM args=some vs:=by rfl) (hf:eY Tryz.prog f=true:=by kernel_rfl) (hd:d < N.n:=by decide):
  XK N w0 (wpList Tryz.prog ops Q (⟨some d,.call {callee:=.value x,args:=args.toArray,argTypes:=tys},ty,pos,aH,none⟩::rest)) e R H:=aEh (dst:=some d) (e':=(d,v)::e) i q hf hx ha hi ⟨hd,rfl⟩ hc k
theorem Zv(i:Nat){f:FuncId}{x:Operand}{args:List Operand}{vs:List Value}{tys:Array TypeId}{p:HP}(q:HP)
  (hc:∀w F,St w0 R H w→p.sat F w→(∀b,F b→b < w.heap.size)→(∀q∈R,q.Le ⟨w,fun b=>b < w.heap.size∧¬F b⟩)→Calls Tryz.prog f vs.toArray w fun y w'=>y=.returned v∧∃F',q.sat F' w'∧iC w w' F F')
  (k:XK N w0 (wpList Tryz.prog ops Q rest) ((d,v)::e) R (H.set i q)) (hi:H[i]? =some p:=by rfl) (hx:e.ev x=some (.func (.func f) #[] #[]):=by rfl) (ha:e.fM args=some vs:=by rfl) (hf:eY Tryz.prog f=true:=by kernel_rfl) (hd:d < N.n:=by decide):
  XK N w0 (wpList Tryz.prog ops Q (⟨some d,.call {callee:=.value x,args:=args.toArray,argTypes:=tys},ty,pos,aH,none⟩::rest)) e R H:=Zu (fi:=[]) (ca:=[]) i q (fun w F t h1 h2 h3=>by simpa using hc w F t h1 h2 h3) k hi hx ha hf hd
end
end
section
section
variable{P:Program}{ops:Array Oper}{Q:Exit→Act→World→Prop}{S:World→Prop}{Z:List Nat}
def Ek(ops:Array Oper)(Z:List Nat)(j:Nat):Bool:=match ops[j]? with
 | some o=>Z.all fun z=>(Qo ops ops.size (Tn o)).testBit z
 | none=>true
def Od(ops:Array Oper)(j:Nat):Bool:=match ops[j]? with
 | some o=>(match o.op with
  | .move _=>true
  | _=>false)
 | none=>false
def Cf(P:Program)(ops:Array Oper)(Q:Exit→Act→World→Prop)(S:World→Prop)(Z:List Nat):Nat→Array Bool→Act→World→Prop
 | 0,listed,a,w=>Region.ready .any ops listed=[]∧Q .normal a w
 | fuel+1,listed,a,w=>(Region.ready .any ops listed=[]→Q .normal a w)∧
  ∀i∈Region.ready .any ops listed,wpOp P ops Q i (fun a' w'=>(Ek ops Z i=false→(S w∨Od ops i=false)→S w')∧Cf P ops Q S Z fuel (listed.setIfInBounds i true) a' w') a w
theorem aBn:∀(fuel:Nat) (listed:Array Bool) (a:Act) (w:World),Cf P ops Q S Z fuel listed a w→wpAny P .any ops Q fuel listed a w
 | 0,_,_,_,h=>h
 | fuel+1,_,_,_,h=>⟨h.1,fun i hi=>wpOp_mono (fun a' w' h'=>aBn fuel _ a' w' h'.2) (h.2 i hi)⟩
theorem aBo{i:Nat}{oi:Oper}{v:Value}(hi:ops[i]? =some oi)(hsel:∀(j:Nat) (o:Oper) cs b,ops[j]? =some o→o.op≠.select cs b)
  (hQ:∀c a w,Q (.panic c) (a.put oi.dst v) w→Q (.panic c) a w) (Ak:i∈Z):
  ∀(fuel:Nat) (listed:Array Bool) (a:Act) (w:World),Down ops listed→
   (∀j oj,ops[j]? =some oj→j≠i→listed.getD j true=false→(∀e∈oj.after,Region.binds .any e=true→e.on≠i)→oi.apart ops oj=true)→
   i∈Region.ready .any ops listed→YieldsIf P ops S oi v a→S w→
   Cf P ops Q S Z fuel (listed.setIfInBounds i true) (a.put oi.dst v) w→Cf P ops Q S Z (fuel+1) listed a w:=by
 intro fuel
 induction fuel with
 | zero =>
  intro listed a w hdn _ hr hy hS H;refine⟨fun h=>(by rw[h] at hr;cases hr),fun j hj=>?_⟩
  by_cases hji:j=i
  ·subst hji;exact hy.wpOp hi hS ⟨fun _ _=>hS,H⟩
  ·have:=ready_mono hj hji
   rw[H.1] at this;cases this
 | succ fuel ih =>
  intro listed a w hdn hfree hr hy hS H;refine⟨fun h=>(by rw[h] at hr;cases hr),fun j hj=>?_⟩
  by_cases hji:j=i
  ·subst hji;exact hy.wpOp hi hS ⟨fun _ _=>hS,H⟩
  ·have h1:=H.2 j (ready_mono hj hji)
   obtain⟨Ie,oj,tZ,hall⟩:=mem_ready.1 hj
   have hun:∀k,k∈Region.ready .any ops listed→listed.getD k false=true→False:=fun k hk h=>by
    have h0:=(mem_ready.1 hk).1
    rcases Nat.lt_or_ge k listed.size with h' | h'
    ·simp[h'] at h0 h;rw[h0] at h;cases h
    ·simp[Array.getElem?_eq_none h'] at h
   have hjm:Ek ops Z j=false:=by
    cases hw:Ek ops Z j with
    | false=>rfl
    | true=>
     exfalso;unfold Ek at hw;rw[tZ] at hw;exact hun i hr (aDf hdn ops.size _ (aBF (P:=fun k=>listed.getD k false=true) fun x hx hb=>hall x hx hb) i (List.all_eq_true.1 hw i Ak))
   have hnot:∀e∈oj.after,Region.binds .any e=true→e.on≠i:=fun e he hb heq=>hun i hr (heq▸hall e he hb)
   have h2:=wpOp_putIf tZ (hfree j oj tZ hji Ie hnot) (fun cs b=>hsel i oi cs b hi) (fun cs b=>hsel j oj cs b tZ) hQ hy h1
   have Ux:∀k ok,ops[k]? =some ok→k≠i→(listed.setIfInBounds j true).getD k true=false→
     (∀e∈ok.after,Region.binds .any e=true→e.on≠i)→oi.apart ops ok=true:=fun k ok hk hki hun hno=>by
    refine hfree k ok hk hki ?_ hno
    by_cases kG:j=k
    ·subst kG;exact Ie
    ·rw[getD_set_ne true kG] at hun;exact hun
   refine wpOp_mono (fun a' w' h3=>⟨h3.2.1,ih (listed.setIfInBounds j true) a' w' (hdn.kY hj) Ux (ready_mono hr (Ne.symm hji)) h3.1 (h3.2.1 hjm (.inl hS)) ?_⟩) h2;rw[Array.setIfInBounds_comm _ _ hji];exact h3.2.2
theorem aIX{i:Nat}{oi:Oper}{v:Value}(hi:ops[i]? =some oi)(Ak:Od ops i=true)(hsel:∀(j:Nat) (o:Oper) cs b,ops[j]? =some o→o.op≠.select cs b)
  (hQ:∀c a w,Q (.panic c) (a.put oi.dst v) w→Q (.panic c) a w):
  ∀(fuel:Nat) (listed:Array Bool) (a:Act) (w:World),Down ops listed→
   (∀j oj,ops[j]? =some oj→j≠i→listed.getD j true=false→(∀e∈oj.after,Region.binds .any e=true→e.on≠i)→oi.apart ops oj=true)→
   i∈Region.ready .any ops listed→YieldsIf P ops (fun _=>True) oi v a→
   Cf P ops Q S Z fuel (listed.setIfInBounds i true) (a.put oi.dst v) w→Cf P ops Q S Z (fuel+1) listed a w:=by
 intro fuel
 induction fuel with
 | zero =>
  intro listed a w hdn _ hr hy H;refine⟨fun h=>(by rw[h] at hr;cases hr),fun j hj=>?_⟩
  by_cases hji:j=i
  ·subst hji;exact hy.wpOp hi trivial ⟨fun _ hw=>hw.resolve_right (by rw[Ak];decide),H⟩
  ·have:=ready_mono hj hji
   rw[H.1] at this;cases this
 | succ fuel ih =>
  intro listed a w hdn hfree hr hy H;refine⟨fun h=>(by rw[h] at hr;cases hr),fun j hj=>?_⟩
  by_cases hji:j=i
  ·subst hji;exact hy.wpOp hi trivial ⟨fun _ hw=>hw.resolve_right (by rw[Ak];decide),H⟩
  ·have h1:=H.2 j (ready_mono hj hji)
   obtain⟨Ie,oj,tZ,hall⟩:=mem_ready.1 hj
   have hun:∀k,k∈Region.ready .any ops listed→listed.getD k false=true→False:=fun k hk h=>by
    have h0:=(mem_ready.1 hk).1
    rcases Nat.lt_or_ge k listed.size with h' | h'
    ·simp[h'] at h0 h;rw[h0] at h;cases h
    ·simp[Array.getElem?_eq_none h'] at h
   have hnot:∀e∈oj.after,Region.binds .any e=true→e.on≠i:=fun e he hb heq=>hun i hr (heq▸hall e he hb)
   have h2:=wpOp_putIf tZ (hfree j oj tZ hji Ie hnot) (fun cs b=>hsel i oi cs b hi) (fun cs b=>hsel j oj cs b tZ) hQ hy h1
   have Ux:∀k ok,ops[k]? =some ok→k≠i→(listed.setIfInBounds j true).getD k true=false→
     (∀e∈ok.after,Region.binds .any e=true→e.on≠i)→oi.apart ops ok=true:=fun k ok hk hki hun hno=>by
    refine hfree k ok hk hki ?_ hno
    by_cases kG:j=k
    ·subst kG;exact Ie
    ·rw[getD_set_ne true kG] at hun;exact hun
   refine wpOp_mono (fun a' w' h3=>⟨h3.2.1,ih (listed.setIfInBounds j true) a' w' (hdn.kY hj) Ux (ready_mono hr (Ne.symm hji)) h3.1 ?_⟩) h2;rw[Array.setIfInBounds_comm _ _ hji];exact h3.2.2
end
section
variable{P:Program}{N:cF}{w0:World}{e e':Env}{R R' R0:List Piece}{H H' H0:List HP}{Q:Exit→Act→World→Prop}{ops:Array Oper}{Z:List Nat}{fuel:Nat}{listed:Array Bool}
structure Xl(ops:Array Oper)(listed:Array Bool):Prop where
 down:Down ops listed
 Hg:Region.noSelect ops=true
theorem Xl.kY{i:Nat}(h:Xl ops listed)(hi:i∈Region.ready .any ops listed):Xl ops (listed.setIfInBounds i true):=⟨h.down.kY hi,h.Hg⟩
def XB(P:Program)(N:cF)(w0:World)(ops:Array Oper)(Q:Exit→Act→World→Prop)(R0:List Piece)(H0:List HP)(Z:List Nat)(fuel:Nat)(listed:Array Bool)(e:Env)(R:List Piece)(H:List HP):Prop:=
 Xl ops listed→XK N w0 (Cf P ops Q (St w0 R0 H0) Z fuel listed) e R H
def Jh(P:Program)(w0:World)(ops:Array Oper)(Q:Exit→Act→World→Prop)(R0:List Piece)(H0:List HP)(Z:List Nat)(fuel:Nat)(listed:Array Bool)(i:Nat):Act→World→Prop:=
 fun a' w'=>(Ek ops Z i=false→St w0 R0 H0 w')∧(Xl ops (listed.setIfInBounds i true)→Cf P ops Q (St w0 R0 H0) Z fuel (listed.setIfInBounds i true) a' w')
theorem iX(Z:List Nat){id:Nat}{l:List Oper}(h:XB P N w0 l.toArray Q R H Z l.length (Array.replicate l.length false) e R H)(hm:P.follows .mixedOrders=true:=by kernel_rfl)(hc:Region.noSelect l.toArray=true:=by kernel_rfl):XK N w0 ((Code.region id l.toArray true).wp P Q) e R H:=fun a w hr st=>by
 have:=h ⟨Down.start _ _,hc⟩ a w.drew hr st.drew
 refine wp_region_any hm (aBn (S:=St w0 R H) (Z:=Z) _ _ _ _ ?_)
 simpa using this
theorem aD6(i:Nat){oi:Oper}{v:Value}{d:Nat}(hi:ops[i]? =some oi)(Au:oi.dst=some d)(hg:oi.guard=none)(hd:d < N.n)(cM:bQ P N w0 e R0 H0 oi v)
  (hc:(Region.free .any ops listed i&&(Region.ready .any ops listed).contains i&&Z.contains i)=true) (hQ:∀c a w,Q (.panic c) (a.put oi.dst v) w→Q (.panic c) a w)
  (hsub:∀w,St w0 R H w→St w0 R0 H0 w)
  (k:XB P N w0 ops Q R0 H0 Z fuel (listed.setIfInBounds i true) ((d,v)::e) R H):XB P N w0 ops Q R0 H0 Z (fuel+1) listed e R H:=by
 simp only[Bool.and_eq_true] at hc;obtain⟨⟨h2,h3⟩,h5⟩:=hc;intro up a w hr st
 have hp:=k (up.kY (by simpa using h3)) (a.put oi.dst v) w (by rw[Au];exact hr.put hd v) st
 refine aBo hi (Region.noSelect_spec up.Hg) hQ (by simpa using h5) fuel listed a w up.down (Region.free_spec hi h2) (by simpa using h3) (.inl ⟨by simp[Region.wanted,hg],fun w' hw'=>?_⟩) (hsub w st) hp;exact cM a w' hr hw'
theorem aHQ(i:Nat)(hmv:Od ops i=true){oi:Oper}{v:Value}{d:Nat}(hi:ops[i]? =some oi)(Au:oi.dst=some d)(hg:oi.guard=none)(hd:d < N.n)(cM:∀a w,eC N e a→(execOp a.eval oi).run P w=.ok (.value v) w)
  (hc:(Region.free .any ops listed i&&(Region.ready .any ops listed).contains i)=true) (hQ:∀c a w,Q (.panic c) (a.put oi.dst v) w→Q (.panic c) a w)
  (k:XB P N w0 ops Q R0 H0 Z fuel (listed.setIfInBounds i true) ((d,v)::e) R H):XB P N w0 ops Q R0 H0 Z (fuel+1) listed e R H:=by
 simp only[Bool.and_eq_true] at hc;obtain⟨h2,h3⟩:=hc;intro up a w hr st
 have hp:=k (up.kY (by simpa using h3)) (a.put oi.dst v) w (by rw[Au];exact hr.put hd v) st
 refine aIX hi hmv (Region.noSelect_spec up.Hg) hQ fuel listed a w up.down (Region.free_spec hi h2) (by simpa using h3) (.inl ⟨by simp[Region.wanted,hg],fun w' _=>?_⟩) hp;exact cM a w' hr
theorem aRC(i:Nat){oi:Oper}(hi:ops[i]? =some oi)(hr:Region.ready .any ops listed=[i])(k:XK N w0 (wpList P ops (Exit.then (Jh P w0 ops Q R0 H0 Z fuel listed i) Q) [oi]) e R H):XB P N w0 ops Q R0 H0 Z (fuel+1) listed e R H:=by
 intro up a w cQ st;refine⟨fun h=>(by rw[hr] at h;cases h),fun j hj=>?_⟩;rw[hr] at hj;simp at hj;subst hj;exact Cd hi (fun a w h=>⟨fun hw _=>h.1 hw,h.2 (up.kY (by rw[hr];simp))⟩) (k a w cQ st)
theorem vM(i j:Nat){oi oj:Oper}(hi:ops[i]? =some oi)(hj:ops[j]? =some oj)(hr:Region.ready .any ops listed=[i,j])
  (k1:XK N w0 (wpList P ops (Exit.then (Jh P w0 ops Q R0 H0 Z fuel listed i) Q) [oi]) e R H) (k2:XK N w0 (wpList P ops (Exit.then (Jh P w0 ops Q R0 H0 Z fuel listed j) Q) [oj]) e R H):XB P N w0 ops Q R0 H0 Z (fuel+1) listed e R H:=by
 intro up a w cQ st;refine⟨fun h=>(by rw[hr] at h;cases h),fun q hq=>?_⟩
 have nO:=hq
 rw[hr] at hq;simp at hq;rcases hq with rfl | rfl
 ·exact Cd hi (fun a w h=>⟨fun hw _=>h.1 hw,h.2 (up.kY nO)⟩) (k1 a w cQ st)
 ·exact Cd hj (fun a w h=>⟨fun hw _=>h.1 hw,h.2 (up.kY nO)⟩) (k2 a w cQ st)
theorem aRH{i:Nat}(hS:∀w,St w0 R H w→St w0 R0 H0 w)(h:XB P N w0 ops Q R0 H0 Z fuel (listed.setIfInBounds i true) e R H):XK N w0 (Jh P w0 ops Q R0 H0 Z fuel listed i) e R H:=fun a w hr st=>⟨fun _=>hS w st,fun up=>h up a w hr st⟩
theorem aRD(hr:Region.ready .any ops listed=[])(h:XK N w0 (Q .normal) e R H):XB P N w0 ops Q R0 H0 Z fuel listed e R H:=by
 intro up a w cQ st;cases fuel with
 | zero=>exact⟨hr,h a w cQ st⟩
 | succ fuel=>exact⟨fun _=>h a w cQ st,by rw[hr];simp⟩
theorem aRG{i:Nat}(h:XB P N w0 ops Q R0 H0 Z fuel (listed.setIfInBounds i true) e R H)(hl:Ek ops Z i=true:=by kernel_rfl):XK N w0 (Jh P w0 ops Q R0 H0 Z fuel listed i) e R H:=fun a w hr st=>⟨(fun h2=>by rw[hl] at h2;cases h2),fun up=>h up a w hr st⟩
theorem cE{i:Nat}(h:XB P N w0 ops Q R0 H0 Z fuel (listed.setIfInBounds i true) e R H)(hl:Ek ops Z i=true:=by kernel_rfl):XK N w0 (wpList P ops (Exit.then (Jh P w0 ops Q R0 H0 Z fuel listed i) Q) []) e R H:=gX (gP (aRG h hl))
theorem aZ{i:Nat}(h:XB P N w0 ops Q R0 H0 Z fuel (listed.setIfInBounds i true) e R H)(hS:∀w,St w0 R H w→St w0 R0 H0 w:=by first | exact fun _ h=>h | exact fun _ h=>h.tail | exact fun _ h=>h.aY | exact fun _ h=>h.tail.tail | exact fun _ h=>h.aY.tail | exact fun _ h=>h.aY.aY | exact fun _ h=>h.aY.tail.tail | exact fun _ h=>h.tail.tail.tail | exact fun _ h=>h.aY.tail.aY.tail):XK N w0 (wpList P ops (Exit.then (Jh P w0 ops Q R0 H0 Z fuel listed i) Q) []) e R H:=gX (gP (aRH hS h))
end
section
variable{N:cF}{w0:World}{e:Env}{R R0:List Piece}{H H0:List HP}{Q:Exit→Act→World→Prop}{ops:Array Oper}{Z:List Nat}{fuel:Nat}{listed:Array Bool}
variable{d:Nat}{ty:TypeId}{pos:String}{aH:Array Edge}{op:Op}{v:Value}
theorem aK(i:Nat)(k:XB Tryz.prog N w0 ops Q R0 H0 Z fuel (listed.setIfInBounds i true) ((d,v)::e) R H)(hi:ops[i]? =some ⟨some d,op,ty,pos,aH,none⟩:=by rfl)(cM:bQ Tryz.prog N w0 e R0 H0 ⟨some d,op,ty,pos,aH,none⟩ v:=by
  first
  | ((with_reducible apply Sm);exact lS rfl)
  | ((with_reducible apply Su);exact Wi rfl)
  | ((with_reducible apply Sn);(first | exact bH rfl | exact kB rfl | exact Wd rfl))
  | ((with_reducible apply Sq);exact Wg rfl)
  | ((with_reducible apply Sk);exact Vy rfl)
  | ((with_reducible apply Sj);(first | exact Vs rfl rfl | exact Vt rfl rfl))
  | ((with_reducible apply Ss);(first | exact Wa rfl rfl | exact Wc rfl rfl | exact We rfl rfl | exact Wf rfl rfl | exact Wh rfl rfl | exact Vz rfl rfl | exact Mb rfl rfl (iT (by omega)) | exact Lz rfl rfl (iT (by omega)) | exact Vv rfl | exact Vu rfl | exact Qj rfl))
  | ((with_reducible apply Si);(first | exact Vw rfl | exact Vx rfl))
  | ((with_reducible apply So);exact Wb rfl)
  | ((with_reducible apply Sr);exact Bm rfl rfl)
  | ((with_reducible apply Yn);exact aAy rfl rfl))(hd:d < N.n:=by decide)
  (hc:(Region.free .any ops listed i&&(Region.ready .any ops listed).contains i&&Z.contains i)=true:=by kernel_rfl) (hQ:∀c a w,Q (.panic c) (a.put (some d) v) w→Q (.panic c) a w:=by exact fun _ _ _ h=>h)
  (hsub:∀w,St w0 R H w→St w0 R0 H0 w:=by first | exact fun _ h=>h | exact fun _ h=>h.tail | exact fun _ h=>h.aY | exact fun _ h=>h.tail.tail | exact fun _ h=>h.aY.tail | exact fun _ h=>h.aY.aY):XB Tryz.prog N w0 ops Q R0 H0 Z (fuel+1) listed e R H:=aD6 i hi rfl rfl hd cM hc hQ hsub k
theorem bJ(i:Nat){y:Operand}(k:XB Tryz.prog N w0 ops Q R0 H0 Z fuel (listed.setIfInBounds i true) ((d,v)::e) R H)(hi:ops[i]? =some ⟨some d,.move y,ty,pos,aH,none⟩:=by rfl)(hx:e.ev y=some v:=by rfl)(hd:d < N.n:=by decide)
  (hc:(Region.free .any ops listed i&&(Region.ready .any ops listed).contains i)=true:=by kernel_rfl) (hQ:∀c a w,Q (.panic c) (a.put (some d) v) w→Q (.panic c) a w:=by exact fun _ _ _ h=>h)
  (hsub:∀w,St w0 R H w→St w0 R0 H0 w:=by first | exact fun _ h=>h | exact fun _ h=>h.tail | exact fun _ h=>h.aY | exact fun _ h=>h.tail.tail | exact fun _ h=>h.aY.tail | exact fun _ h=>h.aY.aY | exact fun _ h=>h.aY.tail.tail | exact fun _ h=>h.tail.tail.tail | exact fun _ h=>h.aY.tail.aY.tail):XB Tryz.prog N w0 ops Q R0 H0 Z (fuel+1) listed e R H:=aHQ i (by simp[Od,hi]) hi rfl rfl hd (fun a w hr=>by simp[execOp,hr.ev hx]) hc hQ k
end
end
section
section
variable{P:Program}{N:cF}{w0:World}{e:Env}{R R0:List Piece}{H H0:List HP}{Q:Exit→Act→World→Prop}{ops:Array Oper}{Z:List Nat}{fuel:Nat}{listed:Array Bool}
variable{d t j:Nat}{want:Bool}{op:Op}{ty:TypeId}{pos:String}{aH:Array Edge}
theorem aRE(i:Nat){v:Value}(hi:ops[i]? =some ⟨some d,op,ty,pos,aH,some (j,want)⟩)(hj:(ops[j]?).bind (·.dst)=some t)(ht:e.get t=some (.bool want))(hd:d < N.n)(cM:bQ P N w0 e R0 H0 ⟨some d,op,ty,pos,aH,none⟩ v)
  (hc:(Region.free .any ops listed i&&(Region.ready .any ops listed).contains i&&Z.contains i)=true) (hQ:∀c a w,Q (.panic c) (a.put (some d) v) w→Q (.panic c) a w)
  (hsub:∀w,St w0 R H w→St w0 R0 H0 w)
  (k:XB P N w0 ops Q R0 H0 Z fuel (listed.setIfInBounds i true) ((d,v)::e) R H):XB P N w0 ops Q R0 H0 Z (fuel+1) listed e R H:=by
 simp only[Bool.and_eq_true] at hc;obtain⟨⟨h2,h3⟩,h5⟩:=hc;intro up a w hr st
 have hp:=k (up.kY (by simpa using h3)) (a.put (some d) v) w (hr.put hd v) st
 refine aBo hi (Region.noSelect_spec up.Hg) hQ (by simpa using h5) fuel listed a w up.down (Region.free_spec hi h2) (by simpa using h3) (.inl ⟨?_,fun w' hw'=>?_⟩) (hsub w st) hp
 ·simp only[Region.wanted,yielded,hj,Option.bind_some,hr.get t _ ht];simp
 ·exact cM a w' hr hw'
end
section
variable{N:cF}{w0:World}{e:Env}{R R0:List Piece}{H H0:List HP}{Q:Exit→Act→World→Prop}{ops:Array Oper}{Z:List Nat}{fuel:Nat}{listed:Array Bool}
variable{d t j:Nat}{want:Bool}{ty:TypeId}{pos:String}{aH:Array Edge}{op:Op}{v:Value}
end
end
section
class eU(t:TypeId)(zs:outParam (List Value)):Prop where
 h:Cb Tryz.prog t zs:=by exact gY (by kernel_rfl)
class iZ(t:TypeId)(L:outParam (List (Nat×Nat))):Prop where
 h:Zs Tryz.prog t=some L:=by kernel_rfl
class Nc(t:TypeId)(sz bytes:outParam Nat):Prop where
 h:(Tryz.prog.info? t).map (fun i=>(i.zero.map (fun z=>z.cells.size),i.size,i.bytes))=some (some sz,sz,bytes):=by kernel_rfl
class Xr(t:TypeId)(k:outParam IntKind):Prop where
 h:Tryz.prog.underlying t=some (.int k):=by kernel_rfl
end
section
def Yy:Op→Bool
 | .assign _ | .pick .. | .load .. | .nilCheck _ | .binOp .. | .unOp .. | .convert .. | .fieldAddr .. | .field .. | .indexAddr .. | .index .. | .extract .. | .build .. | .makeFunc .. =>true
 | .call c=>match c.callee with
  | .builtin .len=>true
  | _=>false
 | _=>false
def aE2(op:Op):Bool:=Yy op||match op with
 | .move _=>true
 | _=>false
def aQT:Op→Bool
 | .alloc _ | .box .. | .buildSlice .. | .makeSlice .. =>true
 | _=>false
def Nf(ops:Array Oper):List Nat:=(List.range ops.size).filter fun i=>match ops[i]? with
 | some o=>Yy o.op&&(List.range ops.size).all fun j=> !((Qo ops ops.size (Tn o)).testBit j)||match ops[j]? with
  | some p=>aE2 p.op||aQT p.op
  | none=>true
 | none=>false
def lG(used:List Nat)(H H':List HP):Prop:=∃is:List Nat,yH is H=some H'∧is.Nodup∧∀i∈is,i∉used
theorem lG.nil{used:List Nat}{H:List HP}:lG used H []:=⟨[],rfl,List.nodup_nil,fun _ h=>by cases h⟩
theorem lG.cons(i:Nat){used:List Nat}{H r:List HP}{p:HP}(hu:i∉used)(hi:H[i]? =some p)(h:lG (i::used) H r):lG used H (p::r):=by
 obtain⟨is,h1,h2,h3⟩:=h;refine⟨i::is,?_,List.nodup_cons.2 ⟨fun hm=>h3 i hm (by simp),h2⟩,fun j hj=>?_⟩
 ·unfold yH;rw[hi,h1]
 ·rcases List.mem_cons.1 hj with rfl | hj
  ·exact hu
  ·exact fun hm=>h3 j hj (by simp[hm])
theorem Xn{H H':List HP}(h:lG [] H H':=by
  repeat (first | exact lG.nil | refine lG.cons 0 (by decide) rfl ?_ | refine lG.cons 1 (by decide) rfl ?_ | refine lG.cons 2 (by decide) rfl ?_ | refine lG.cons 3 (by decide) rfl ?_ | refine lG.cons 4 (by decide) rfl ?_ | refine lG.cons 5 (by decide) rfl ?_ | refine lG.cons 6 (by decide) rfl ?_ | refine lG.cons 7 (by decide) rfl ?_ | refine lG.cons 8 (by decide) rfl ?_ | refine lG.cons 9 (by decide) rfl ?_ | refine lG.cons 10 (by decide) rfl ?_ | refine lG.cons 11 (by decide) rfl ?_ | refine lG.cons 12 (by decide) rfl ?_ | refine lG.cons 13 (by decide) rfl ?_ | refine lG.cons 14 (by decide) rfl ?_ | refine lG.cons 15 (by decide) rfl ?_)):lG [] H H':=h
section
variable{P:Program}{N:cF}{w0:World}{e e':Env}{R R':List Piece}{H H':List HP}{Q:Exit→Act→World→Prop}{α:Type}
def LpK(N:cF)(w0:World)(n:Nat)(E:Nat→α→Env)(R:List Piece)(C:Nat→α→List HP)(G:Nat→α→Prop)(i:Nat):Act→World→Prop:=fun a w=>∃x,i < n∧G (i+1) x∧eC N (E (i+1) x) a∧St w0 R (C (i+1) x) w
theorem rK{c:Code}(E:Nat→α→Env)(C:Nat→α→List HP)(G:Nat→α→Prop)(n:Nat)(x0:α)(h0:G 0 x0)(hr:∀i x,i≤n→G i x→XK N w0 (c.wp P (Exit.then (LpK N w0 n E R C G i) Q)) (E i x) R (C i x))
  (hE:(E 0 x0).Sub e:=by repeat (first | exact trivial | refine⟨rfl,?_⟩)) (hC:lG [] H (C 0 x0):=by exact Xn):XK N w0 ((Code.loop c).wp P Q) e R H:=by
 obtain⟨is,h1,h2,_⟩:=hC;refine Ri (E 0 x0) hE (aT is h1 h2 (fun _ h=>h) ?_);refine eV (fun m e R' H'=>∃i x,i≤n∧m=n - i∧G i x∧e=E i x∧R'=R∧H'=C i x) n ⟨0,x0,by omega,rfl,h0,rfl,rfl,rfl⟩ fun m e R' H' hI=>?_;obtain⟨i,x,hi,rfl,hg,rfl,rfl,rfl⟩:=hI;intro a w cQ st;refine wp_mono (hr i x hi hg a w cQ st) fun y a' w' hq=>?_;cases y with
 | normal=>
  obtain⟨x',hl,hg',hr',st'⟩:=hq;exact⟨n - (i+1),_,_,_,⟨by omega,i+1,x',by omega,rfl,hg',rfl,rfl,rfl⟩,hr',st'⟩
 | _=>exact hq
theorem jW{n i:Nat}{E:Nat→α→Env}{C:Nat→α→List HP}{G:Nat→α→Prop}(x:α)(hE:(E (i+1) x).Sub e:=by repeat (first | exact trivial | refine⟨rfl,?_⟩))(hs:lG [] H (C (i+1) x):=by exact Xn)(hR:∀p∈R',p∈R:=by first | exact fun _ h=>h | simp)(hi:i < n:=by omega)(hg:G (i+1) x:=by first | trivial | omega | assumption | (simp;done)):XK N w0 (LpK N w0 n E R' C G i) e R H:=by
 obtain⟨is,h1,h2,_⟩:=hs;exact Ri _ hE (aT is h1 h2 hR fun a w hr st=>⟨x,hi,hg,hr,st⟩)
def Xu(N:cF)(w0:World)(E:α→Env)(R:List Piece)(C:α→List HP)(G:α→Prop):Act→World→Prop:=fun a w=>∃x,G x∧eC N (E x) a∧St w0 R (C x) w
theorem Gl{x y:Code}(E:α→Env)(C:α→List HP)(G:α→Prop)(h:XK N w0 (x.wp P (Exit.then (Xu N w0 E R C G) Q)) e R H)(hy:∀z,G z→XK N w0 (y.wp P Q) (E z) R (C z)):XK N w0 ((Code.seq x y).wp P Q) e R H:=fun a w hr st=>by
 refine wp_seq (wp_mono (h a w hr st) fun y' a' w' hq=>?_);cases y' with
 | normal=>
  obtain⟨z,hg,hr',st'⟩:=hq;exact hy z hg a' w' hr' st'
 | _=>exact hq
theorem Jf{x:Code}{K:Act→World→Prop}(E:α→Env)(C:α→List HP)(G:α→Prop)(h:XK N w0 (x.wp P (Exit.then (Xu N w0 E R C G) Q)) e R H)(hy:∀z,G z→XK N w0 K (E z) R (C z)):XK N w0 (x.wp P (Exit.then K Q)) e R H:=fun a w hr st=>by
 refine wp_mono (h a w hr st) fun y' a' w' hq=>?_;cases y' with
 | normal=>
  obtain⟨z,hg,hr',st'⟩:=hq;exact hy z hg a' w' hr' st'
 | _=>exact hq
theorem tA{id:Nat}{x:Code}{K:Act→World→Prop}(E:α→Env)(C:α→List HP)(G:α→Prop)(h:XK N w0 (x.wp P (Exit.inBlock id (Exit.then (Xu N w0 E R C G) Q))) e R H)(hy:∀z,G z→XK N w0 K (E z) R (C z)):XK N w0 (x.wp P (Exit.inBlock id (Exit.then K Q))) e R H:=fun a w hr st=>by
 have key:∀ex a' w',Exit.then (Xu N w0 E R C G) Q ex a' w'→Exit.then K Q ex a' w':=fun ex a' w' hq=>by
  cases ex with
  | normal=>
   obtain⟨z,hg,hr',st'⟩:=hq;exact hy z hg a' w' hr' st'
  | _=>exact hq
 refine wp_mono (h a w hr st) fun ex a' w' hq=>?_;cases ex with
 | exit j =>
  by_cases hj:j=id
  ·simp only[Exit.inBlock,if_pos hj] at hq⊢;exact key _ _ _ hq
  ·simp only[Exit.inBlock,if_neg hj] at hq⊢;exact key _ _ _ hq
 | normal=>exact key .normal a' w' hq
 | goto l=>exact key (.goto l) a' w' hq
 | ret=>exact key .ret a' w' hq
 | panic c=>exact key (.panic c) a' w' hq
 | outgrown=>exact key .outgrown a' w' hq
theorem dG{E:α→Env}{C:α→List HP}{G:α→Prop}(x:α)(hE:(E x).Sub e:=by repeat (first | exact trivial | refine⟨rfl,?_⟩))(hs:lG [] H (C x):=by exact Xn)(hR:∀p∈R',p∈R:=by first | exact fun _ h=>h | simp)(hg:G x:=by first | trivial | omega | assumption | (simp;done)):XK N w0 (Xu N w0 E R' C G) e R H:=by
 obtain⟨is,h1,h2,_⟩:=hs;exact Ri _ hE (aT is h1 h2 hR fun a w hr st=>⟨x,hg,hr,st⟩)
end
section
variable{N:cF}{w0:World}{e e':Env}{R R' R0 R0':List Piece}{H H' H0:List HP}{m fuel fuel' i:Nat}{listed aCg:Array Bool}{Q:Exit→Act→World→Prop}{ops:Array Oper}{rest:List Oper}{K K':Act→World→Prop}{Z:List Nat}
variable{d:Nat}{ty:TypeId}{pos:String}{aH:Array Edge}{op:Op}{j t:Nat}{want:Bool}{o:Oper}{v:Value}
theorem iN{t:TypeId}{ps:List (Nat×Operand)}{vs:List (Nat×Value)}{zs cs:List Value}{L:List (Nat×Nat)}[hZ:eU t zs][hL:iZ t L](hp:e.parts ps=some vs)(hf:fB L zs vs=some cs:=by first | (simp[fB,gB,Value.cells];done) | (simp[fB,gB,Value.cells];rfl) | rfl):
  bQ Tryz.prog N w0 e R H ⟨some d,.build t ps.toArray,ty,pos,aH,none⟩ (.agg cs.toArray):=kS hZ.h hL.h hp hf
theorem aPb{x ix:Operand}{t el:TypeId}{b off n c sz o:Nat}{kd:IntKind}{j:Int}[hT:lF t el sz](hx:e.ev x=some (.slice (some ⟨b,off,none⟩) n c))(hi:e.ev ix=some (.int kd j))(hlt:0≤j∧j < (n:Int):=by omega)
  (ho:off+j.toNat*sz=o:=by first | (simp only[Int.toNat_natCast,Int.reduceToNat,Nat.mul_one,Nat.zero_add,Nat.reduceMul,Nat.reduceAdd];rfl) | rfl):bQ Tryz.prog N w0 e R H ⟨some d,.indexAddr t x ix,ty,pos,aH,none⟩ (.pointer (some ⟨b,o,none⟩)):=dat j.toNat o hx hi (by omega) (by omega) ho
theorem aPc{x ix:Operand}{t el:TypeId}{b off n sz o:Nat}{kd:IntKind}{j:Int}[hT:Ef t n el sz](hx:e.ev x=some (.pointer (some ⟨b,off,none⟩)))(hi:e.ev ix=some (.int kd j))(hlt:0≤j∧j < (n:Int):=by omega)
  (ho:off+j.toNat*sz=o:=by first | (simp only[Int.toNat_natCast,Int.reduceToNat,Nat.mul_one,Nat.zero_add,Nat.reduceMul,Nat.reduceAdd];rfl) | rfl):bQ Tryz.prog N w0 e R H ⟨some d,.indexAddr t x ix,ty,pos,aH,none⟩ (.pointer (some ⟨b,o,none⟩)):=fN j.toNat o hx hi (by omega) (by omega) ho
theorem aPf{x:Operand}{kd ks:IntKind}{i c:Int}{src dst:TypeId}[hs:Xr src ks][ht:Xr dst kd](hx:e.ev x=some (.int ks i))(hw:kd.wrap i=c:=by first | exact iT (by omega) | exact wrap_u64 (by omega) | exact wrap_u32 (by omega) | rfl):bQ Tryz.prog N w0 e R H ⟨some d,.convert src dst x,ty,pos,aH,none⟩ (.int kd c):=Iv hs.h ht.h hx hw
theorem aJY{t:TypeId}{x:Array (Nat×Operand)}(h:bQ Tryz.prog N w0 e R H ⟨some d,.build t x,ty,pos,aH,none⟩ v):bQ Tryz.prog N w0 e R H ⟨some d,.build t x,ty,pos,aH,none⟩ v:=h
theorem aJS{x y:Operand}{t:TypeId}(h:bQ Tryz.prog N w0 e R H ⟨some d,.indexAddr t x y,ty,pos,aH,none⟩ v):bQ Tryz.prog N w0 e R H ⟨some d,.indexAddr t x y,ty,pos,aH,none⟩ v:=h
theorem aJX{x:Operand}{s t:TypeId}(h:bQ Tryz.prog N w0 e R H ⟨some d,.convert s t x,ty,pos,aH,none⟩ v):bQ Tryz.prog N w0 e R H ⟨some d,.convert s t x,ty,pos,aH,none⟩ v:=h
theorem aRR{b o:Nat}{ds:List Int}(hd:xU ds)(ho:o < 120)(hi:∃(i:Nat) (t:TypeId),H[i]? =some (HP.aE b t (aM ds)):=by
  first | exact⟨0,_,rfl⟩ | exact⟨1,_,rfl⟩ | exact⟨2,_,rfl⟩ | exact⟨3,_,rfl⟩ | exact⟨4,_,rfl⟩ | exact⟨5,_,rfl⟩ | exact⟨6,_,rfl⟩ | exact⟨7,_,rfl⟩ | exact⟨8,_,rfl⟩ | exact⟨9,_,rfl⟩ | exact⟨10,_,rfl⟩ | exact⟨11,_,rfl⟩ | exact⟨12,_,rfl⟩):Rd w0 R H b o (.int .i64 (dv ds o % 1000000)):=by
 rw[Int.emod_eq_of_lt (hd.bd o).1 (hd.bd o).2];exact aRS (hd.at_ o ho) hi
theorem aPh{x ix:Operand}{t:TypeId}{s:ByteArray}{kd:IntKind}{i:Nat}{j:Int}{b:UInt8}(hx:e.ev x=some (.string s))(hi:e.ev ix=some (.int kd j))(hb:s[i]? =some b)(ht:Tryz.prog.underlying t=some .string:=by kernel_rfl)(hj:j=(i:Int):=by omega):bQ Tryz.prog N w0 e R H ⟨some d,.index t x ix,ty,pos,aH,none⟩ (.int .u8 b.toNat):=aPg i ht hx hi hj hb
theorem aJT{x y:Operand}{t:TypeId}(h:bQ Tryz.prog N w0 e R H ⟨some d,.index t x y,ty,pos,aH,none⟩ v):bQ Tryz.prog N w0 e R H ⟨some d,.index t x y,ty,pos,aH,none⟩ v:=h
theorem dz(h:bQ Tryz.prog N w0 e R H o v:=by
  first
  | ((with_reducible apply Sm);exact lS rfl)
  | ((with_reducible apply Su);exact Wi rfl)
  | ((with_reducible apply Sn);(first | exact bH rfl | exact kB rfl | exact Wd rfl | exact bH rfl (Rd.own 0 rfl (by assumption)) | exact bH rfl (Rd.own 1 rfl (by assumption)) | exact bH rfl (Rd.own 2 rfl (by assumption)) | exact bH rfl (Rd.own 3 rfl (by assumption)) | exact bH rfl (Rd.own 4 rfl (by assumption)) | exact bH rfl (Rd.aE 9 rfl rfl) | exact bH rfl (Rd.aE 10 rfl rfl) | exact bH rfl (Rd.aE 11 rfl rfl) | exact bH rfl (aRR (by assumption) (by omega))))
  | ((with_reducible apply Sq);exact Wg rfl)
  | ((with_reducible apply aJS);(first | exact aPb rfl rfl | exact aPc rfl rfl))
  | ((with_reducible apply Sk);exact Vy rfl)
  | ((with_reducible apply Sj);(first | exact Vs rfl rfl | exact Vt rfl rfl))
  | ((with_reducible apply Ss);(first | exact Wa rfl rfl | exact Wc rfl rfl | exact We rfl rfl | exact Wf rfl rfl | exact Wh rfl rfl | exact Vz rfl rfl | exact Mb rfl rfl (iT (by omega)) | exact Lz rfl rfl (iT (by omega)) | exact aOZ rfl rfl (iT (by omega)) | exact aGM rfl rfl (by omega) (rem_in (by omega)) | exact aGN rfl rfl (by omega) (aLg (by omega) (by omega) (by omega)) | exact aGN rfl rfl (by omega) (iT (by assumption)) | exact Vv rfl | exact Vu rfl | exact aSw rfl | exact Qj rfl | exact aOX (by kernel_rfl) rfl rfl | exact aPe (by kernel_rfl) rfl rfl))
  | ((with_reducible apply Si);(first | exact Vw rfl | exact Vx rfl | exact aOY rfl (iT (by omega))))
  | ((with_reducible apply So);exact Wb rfl)
  | ((with_reducible apply Sr);exact Bm rfl rfl)
  | ((with_reducible apply Yn);exact aAy rfl rfl)
  | ((with_reducible apply aJY);exact iN rfl)
  | ((with_reducible apply aJX);exact aPf rfl)
  | ((with_reducible apply aJT);exact aPh rfl rfl (by assumption))
  | ((with_reducible apply aSa);exact aGQ rfl rfl)):bQ Tryz.prog N w0 e R H o v:=h
theorem kz(k:XK N w0 (wpList Tryz.prog ops Q rest) ((d,v)::e) R H)(h:bQ Tryz.prog N w0 e R H ⟨some d,op,ty,pos,aH,none⟩ v:=by exact dz)(hd:d < N.n:=by decide):XK N w0 (wpList Tryz.prog ops Q (⟨some d,op,ty,pos,aH,none⟩::rest)) e R H:=kd h k hd
theorem bX{t:TypeId}{cs:List Value}[hZ:eU t cs](k:∀g,XK N w0 (wpList Tryz.prog ops Q rest) ((d,.pointer (some ⟨g,0,none⟩))::e) R (HP.aE g t cs::H))(hd:d < N.n:=by decide):XK N w0 (wpList Tryz.prog ops Q (⟨some d,.alloc t,ty,pos,aH,none⟩::rest)) e R H:=aEl hZ.h hd k
theorem bN{x:Operand}{t:TypeId}{cs:List Value}(k:∀g,XK N w0 (wpList Tryz.prog ops Q rest) ((d,.pointer (some ⟨g,0,none⟩))::e) R (HP.aE g t cs::H))(hx:e.ev x=some v:=by rfl)(hc:v.cells.toList=cs:=by first | (simp only[Value.cells,List.toList_toArray];rfl) | rfl)(hd:d < N.n:=by decide):XK N w0 (wpList Tryz.prog ops Q (⟨some d,.box t x,ty,pos,aH,none⟩::rest)) e R H:=by
 subst hc;exact aIS hx hd k
theorem eK{t el:TypeId}{n sz:Nat}{ps:List (Nat×Operand)}{vs:List (Nat×Value)}{zs cs:List Value}[hT:lF t el sz][hZ:eU el zs](k:∀g,XK N w0 (wpList Tryz.prog ops Q rest) ((d,.slice (some ⟨g,0,none⟩) n n)::e) R (HP.aE g el cs::H))(hp:e.parts ps=some vs:=by rfl)(hzs:zs.length=sz:=by rfl)(hpos:0 < n*sz:=by decide)(dP:n*sz≤16777216:=by decide)
  (hf:fB ((List.range n).map fun i=>(i*sz,sz)) ((List.range (n*sz)).map fun i=>zs.getD (i % sz) undef) vs=some cs:=by first | (simp[fB,gB,Value.cells,List.range_succ,List.set];done) | (simp[fB,gB,Value.cells,List.range_succ,List.set];rfl) | rfl) (hd:d < N.n:=by decide):XK N w0 (wpList Tryz.prog ops Q (⟨some d,.buildSlice t n ps.toArray,ty,pos,aH,none⟩::rest)) e R H:=
 aDZ hT.h hZ.h hT.s hzs hpos dP hp hf hd k
theorem Hy(i:Nat){x y:Operand}{t el:TypeId}{sz bytes n m c' g:Nat}{v:Value}{xs news:List Value}[hT:lF t el sz][hB:Nc el sz bytes](k:∀A' k',XK N w0 (wpList Tryz.prog ops Q rest) ((d,.slice A' (n+m) k')::e) R (H.set i (HP.own el sz (.slice A' (n+m) k') (n+m) (xs++news))))(hi:H[i]? =some (HP.own el sz v n xs):=by rfl)(hx:e.ev x=some v:=by rfl)(hy:e.ev y=some (.slice (some ⟨g,0,none⟩) m c'):=by rfl)
  (hs:H[0]? =some (HP.aE g el news):=by rfl) (hl:news.length=m*sz:=by rfl) (h1:∀u∈news,u.oneCell'=true:=by simp[Value.oneCell']) (h63:n+m≤1000000:=by omega) (hb:bytes≤1000:=by decide) (hpos:0 < sz:=by decide) (hd:d < N.n:=by decide):
  XK N w0 (wpList Tryz.prog ops Q (⟨some d,.call {callee:=.builtin .append,args:=#[x,y],argTypes:=#[t,t]},ty,pos,aH,none⟩::rest)) e R H:=
 iF i sz bytes m hT.h hB.h hpos hi hx hy (mM 0 hs hl) h1 rfl (by omega) (by have:=Nat.mul_le_mul h63 hb;omega) hd k
theorem aRF(i:Nat){b:Bool}(hi:ops[i]? =some ⟨some d,op,ty,pos,aH,some (j,want)⟩)(hj:(ops[j]?).bind (·.dst)=some t)(ht:e.get t=some (.bool b))(hb:b= !want)(hd:d < N.n)
  (hc:(Region.free .any ops listed i&&(Region.ready .any ops listed).contains i&&Z.contains i)=true) (hQ:∀c a w,Q (.panic c) (a.put (some d) undef) w→Q (.panic c) a w) (hsub:∀w,St w0 R H w→St w0 R0 H0 w)
  (k:XB Tryz.prog N w0 ops Q R0 H0 Z fuel (listed.setIfInBounds i true) ((d,undef)::e) R H):XB Tryz.prog N w0 ops Q R0 H0 Z (fuel+1) listed e R H:=by
 simp only[Bool.and_eq_true] at hc;obtain⟨⟨h2,h3⟩,h5⟩:=hc;intro up a w hr st
 have hp:=k (up.kY (by simpa using h3)) (a.put (some d) undef) w (hr.put hd undef) st
 refine aBo hi (Region.noSelect_spec up.Hg) hQ (by simpa using h5) fuel listed a w up.down (Region.free_spec hi h2) (by simpa using h3) (.inr ⟨?_,rfl⟩) (hsub w st) hp;simp only[Region.wanted,yielded,hj,Option.bind_some,hr.get t _ ht,hb];simp
def XL(i:Nat)(N:cF)(w0:World)(ops:Array Oper)(Q:Exit→Act→World→Prop)(R0:List Piece)(H0:List HP)(Z:List Nat)(fuel:Nat)(listed:Array Bool)(e:Env)(R:List Piece)(H:List HP):Prop:=XB Tryz.prog N w0 ops Q R0 H0 Z fuel listed e R H
theorem Wx(k:XL (i+1) N w0 ops Q R0 H0 Z fuel (listed.setIfInBounds i true) ((d,v)::e) R H)(hz:(Z.contains i&&(Region.ready .any ops listed).contains i)=true:=by decide+kernel)(hi:ops[i]? =some ⟨some d,op,ty,pos,aH,none⟩:=by rfl)(cM:bQ Tryz.prog N w0 e R0 H0 ⟨some d,op,ty,pos,aH,none⟩ v:=by exact dz)(hd:d < N.n:=by decide)
  (hc:(Region.free .any ops listed i&&(Region.ready .any ops listed).contains i&&Z.contains i)=true:=by kernel_rfl) (hQ:∀c a w,Q (.panic c) (a.put (some d) v) w→Q (.panic c) a w:=by first | exact fun _ _ _ h=>h | exact fun _ _ _ h=>lQ rfl h)
  (hsub:∀w,St w0 R H w→St w0 R0 H0 w:=by first | exact fun _ h=>h | exact fun _ h=>h.tail):XL i N w0 ops Q R0 H0 Z (fuel+1) listed e R H:=aD6 i hi rfl rfl hd cM hc hQ hsub k
theorem Wv(k:XL (i+1) N w0 ops Q R0 H0 Z fuel (listed.setIfInBounds i true) ((d,v)::e) R H)(hz:(Z.contains i&&(Region.ready .any ops listed).contains i)=true:=by decide+kernel)(hi:ops[i]? =some ⟨some d,op,ty,pos,aH,some (j,want)⟩:=by rfl)(hj:(ops[j]?).bind (·.dst)=some t:=by rfl)(ht:e.get t=some (.bool want):=by rfl)(cM:bQ Tryz.prog N w0 e R0 H0 ⟨some d,op,ty,pos,aH,none⟩ v:=by exact dz)(hd:d < N.n:=by decide)
  (hc:(Region.free .any ops listed i&&(Region.ready .any ops listed).contains i&&Z.contains i)=true:=by kernel_rfl) (hQ:∀c a w,Q (.panic c) (a.put (some d) v) w→Q (.panic c) a w:=by first | exact fun _ _ _ h=>h | exact fun _ _ _ h=>lQ rfl h)
  (hsub:∀w,St w0 R H w→St w0 R0 H0 w:=by first | exact fun _ h=>h | exact fun _ h=>h.tail):XL i N w0 ops Q R0 H0 Z (fuel+1) listed e R H:=aRE i hi hj ht hd cM hc hQ hsub k
theorem Ww{b:Bool}(k:XL (i+1) N w0 ops Q R0 H0 Z fuel (listed.setIfInBounds i true) ((d,undef)::e) R H)(hz:(Z.contains i&&(Region.ready .any ops listed).contains i)=true:=by decide+kernel)(hi:ops[i]? =some ⟨some d,op,ty,pos,aH,some (j,want)⟩:=by rfl)(hj:(ops[j]?).bind (·.dst)=some t:=by rfl)(ht:e.get t=some (.bool b):=by rfl)(hb:b= !want:=by rfl)(hd:d < N.n:=by decide)
  (hc:(Region.free .any ops listed i&&(Region.ready .any ops listed).contains i&&Z.contains i)=true:=by kernel_rfl) (hQ:∀c a w,Q (.panic c) (a.put (some d) undef) w→Q (.panic c) a w:=by first | exact fun _ _ _ h=>h | exact fun _ _ _ h=>lQ rfl h)
  (hsub:∀w,St w0 R H w→St w0 R0 H0 w:=by first | exact fun _ h=>h | exact fun _ h=>h.tail):XL i N w0 ops Q R0 H0 Z (fuel+1) listed e R H:=aRF i hi hj ht hb hd hc hQ hsub k
theorem Wy{y:Operand}(k:XL (i+1) N w0 ops Q R0 H0 Z fuel (listed.setIfInBounds i true) ((d,v)::e) R H)(hi:ops[i]? =some ⟨some d,.move y,ty,pos,aH,none⟩:=by rfl)(hx:e.ev y=some v:=by rfl)(hd:d < N.n:=by decide)
  (hc:(Region.free .any ops listed i&&(Region.ready .any ops listed).contains i)=true:=by kernel_rfl) (hQ:∀c a w,Q (.panic c) (a.put (some d) v) w→Q (.panic c) a w:=by first | exact fun _ _ _ h=>h | exact fun _ _ _ h=>lQ rfl h):XL i N w0 ops Q R0 H0 Z (fuel+1) listed e R H:=aHQ i (by simp[Od,hi]) hi rfl rfl hd (fun a w hr=>by simp[execOp,hr.ev hx]) hc hQ k
theorem Wu(k:XL (i+1) N w0 ops Q R0 H0 Z fuel listed e R H)(hl:decide (i < ops.size)=true:=by rfl):XL i N w0 ops Q R0 H0 Z fuel listed e R H:=k
theorem Wz(k:XB Tryz.prog N w0 ops Q R0 H0 Z fuel listed e R H)(hl:decide (i < ops.size)=false:=by rfl):XL i N w0 ops Q R0 H0 Z fuel listed e R H:=k
theorem kU(i:Nat)(k:XB Tryz.prog N w0 ops Q R0 H0 Z fuel (listed.setIfInBounds i true) ((d,v)::e) R H)(hi:ops[i]? =some ⟨some d,op,ty,pos,aH,none⟩:=by rfl)(cM:bQ Tryz.prog N w0 e R0 H0 ⟨some d,op,ty,pos,aH,none⟩ v:=by exact dz)(hd:d < N.n:=by decide)
  (hc:(Region.free .any ops listed i&&(Region.ready .any ops listed).contains i&&Z.contains i)=true:=by kernel_rfl) (hQ:∀c a w,Q (.panic c) (a.put (some d) v) w→Q (.panic c) a w:=by first | exact fun _ _ _ h=>h | exact fun _ _ _ h=>lQ rfl h)
  (hsub:∀w,St w0 R H w→St w0 R0 H0 w:=by first | exact fun _ h=>h | exact fun _ h=>h.tail | exact fun _ h=>h.tail.tail | exact fun _ h=>h.tail.tail.tail | exact fun _ h=>h.aY | exact fun _ h=>h.aY.tail):XB Tryz.prog N w0 ops Q R0 H0 Z (fuel+1) listed e R H:=aD6 i hi rfl rfl hd cM hc hQ hsub k
theorem uL{id:Nat}{l:List Oper}(k:XB Tryz.prog N w0 ops Q R0 H0 Z fuel listed e' R' H')(hk:XB Tryz.prog N w0 ops Q R0 H0 Z fuel listed e' R' H'→XL 0 N w0 l.toArray Q R H (Nf l.toArray) l.length (Array.replicate l.length false) e R H:=by
  intro h
  repeat (first | refine Wy ?_ | refine Wx ?_ | refine Wv ?_ | refine Ww ?_ | refine aAG ?_ | refine Wu ?_ | refine Wz ?_)
  exact h)(hm:Tryz.prog.follows .mixedOrders=true:=by kernel_rfl)(hs:Region.noSelect l.toArray=true:=by kernel_rfl):XK N w0 ((Code.region id l.toArray true).wp Tryz.prog Q) e R H:=iX (Nf l.toArray) (hk k) hm hs
def Xy(ops:Array Oper):List Nat:=(List.range ops.size).filter fun i=>match ops[i]? with
 | some o=>Yy o.op
 | none=>false
theorem aDx{id:Nat}{l:List Oper}(k:XB Tryz.prog N w0 l.toArray Q R H (Xy l.toArray) fuel listed e' R' H')(hk:XB Tryz.prog N w0 l.toArray Q R H (Xy l.toArray) fuel listed e' R' H'→XL 0 N w0 l.toArray Q R H (Xy l.toArray) l.length (Array.replicate l.length false) e R H:=by
  intro h
  repeat (first | refine Wy ?_ | refine Wx ?_ | refine Wv ?_ | refine Ww ?_ | refine aAG ?_ | refine Wu ?_ | refine Wz ?_)
  exact h)(hm:Tryz.prog.follows .mixedOrders=true:=by kernel_rfl)(hs:Region.noSelect l.toArray=true:=by kernel_rfl):XK N w0 ((Code.region id l.toArray true).wp Tryz.prog Q) e R H:=iX (Xy l.toArray) (hk k) hm hs
theorem qQ(i:Nat){fuel':Nat}{aCg:Array Bool}(k:XB Tryz.prog N w0 ops Q R0 H0 Z fuel' aCg e' R' H')(hk:XB Tryz.prog N w0 ops Q R0 H0 Z fuel' aCg e' R' H'→XL i N w0 ops Q R0 H0 Z fuel listed e R H:=by
  intro h
  repeat (first | refine Wy ?_ | refine Wx ?_ | refine Wv ?_ | refine Ww ?_ | refine aAG ?_ | refine Wu ?_ | refine Wz ?_)
  exact h):XB Tryz.prog N w0 ops Q R0 H0 Z fuel listed e R H:=hk k
theorem aL(i:Nat){oi:Oper}(k:XK N w0 (wpList Tryz.prog ops (Exit.then (Jh Tryz.prog w0 ops Q R0 H0 Z fuel listed i) Q) [oi]) e R H)(hr:Region.ready .any ops listed=[i]:=by decide+kernel)(hi:ops[i]? =some oi:=by rfl):XB Tryz.prog N w0 ops Q R0 H0 Z (fuel+1) listed e R H:=aRC i hi hr k
theorem dW(k:XK N w0 (Q .normal) e R H)(hr:Region.ready .any ops listed=[]:=by decide+kernel):XB Tryz.prog N w0 ops Q R0 H0 Z fuel listed e R H:=aRD hr k
def Md(ops:Array Oper)(Z:List Nat):List Nat→Nat→Array Bool→Bool
 | [],_,listed=>(Region.ready .any ops listed).isEmpty
 | i::is,f+1,listed=>decide (Region.ready .any ops listed=[i])&&Ek ops Z i&&Md ops Z is f (listed.setIfInBounds i true)
 | _::_,0,_=>false
def zY(ops:Array Oper)(is:List Nat):List Oper:=is.filterMap fun i=>ops[i]?
theorem aEV{P:Program}{S:World→Prop}:∀(is:List Nat) (f:Nat) (listed:Array Bool) (a:Act) (w:World),Md ops Z is f listed=true→wpList P ops Q (zY ops is) a w→Cf P ops Q S Z f listed a w
 | [],0,listed,a,w,hc,h=>⟨by simpa[Md] using hc,h⟩
 | [],f+1,listed,a,w,hc,h=>by
  have hr:Region.ready .any ops listed=[]:=by simpa[Md] using hc
  exact⟨fun _=>h,fun i hi=>by rw[hr] at hi;cases hi⟩
 | i :: is, f + 1, listed, a, w, hc, h => by
  unfold Md at hc;simp only[Bool.and_eq_true,decide_eq_true_eq] at hc;obtain⟨⟨hr,hw⟩,hc⟩:=hc;refine⟨(fun h0=>by rw[hr] at h0;cases h0),fun j hj=>?_⟩;rw[hr] at hj;simp only[List.mem_singleton] at hj;subst hj
  have hk:∀a' w',wpList P ops Q (zY ops is) a' w'→(Ek ops Z j=false→(S w∨Od ops j=false)→S w')∧Cf P ops Q S Z f (listed.setIfInBounds j true) a' w':=fun a' w' h'=>⟨(fun h0=>by rw[hw] at h0;cases h0),aEV is f _ a' w' hc h'⟩
  refine wpOp_mono hk ?_;unfold wpOp;unfold zY at h;cases ho:ops[j]? with
  | none=>
   rw[List.filterMap_cons,ho] at h;exact h
  | some o=>
   rw[List.filterMap_cons,ho] at h;exact h
theorem uM(is:List Nat)(k:XK N w0 (wpList Tryz.prog ops Q (zY ops is)) e R H)(hc:Md ops Z is fuel listed=true:=by kernel_rfl):XB Tryz.prog N w0 ops Q R0 H0 Z fuel listed e R H:=fun _ a w hr st=>aEV _ _ _ _ _ hc (k a w hr st)
theorem aCm{i:Nat}{is is':List Nat}{ds:Option Nat}{gd:Option (Nat×Bool)}(k:XK N w0 (wpList Tryz.prog ops Q (⟨ds,op,ty,pos,aH,gd⟩::zY ops is')) e R H)(hs:is=i::is':=by rfl)(hi:ops[i]? =some ⟨ds,op,ty,pos,aH,gd⟩:=by rfl):XK N w0 (wpList Tryz.prog ops Q (zY ops is)) e R H:=by
 subst hs;unfold zY;rw[List.filterMap_cons,hi];exact k
theorem aFF{is:List Nat}(k:XK N w0 (Q .normal) e R H)(hs:is=[]:=by rfl):XK N w0 (wpList Tryz.prog ops Q (zY ops is)) e R H:=by
 subst hs;exact gX k
theorem aMI{is:List Nat}(k:XK N w0 (wpList Tryz.prog ops Q (zY ops is)) e R H):XK N w0 (wpList Tryz.prog ops Q (zY ops is)) e R H:=k
theorem Xe(is:List Nat){id:Nat}{l:List Oper}(k:XK N w0 (wpList Tryz.prog l.toArray Q (zY l.toArray is)) e' R' H')(hk:XB Tryz.prog N w0 l.toArray Q R H (Nf l.toArray) fuel listed e' R' H'→XL 0 N w0 l.toArray Q R H (Nf l.toArray) l.length (Array.replicate l.length false) e R H:=by
  intro h
  repeat (first | refine Wy ?_ | refine Wx ?_ | refine Wv ?_ | refine Ww ?_ | refine aAG ?_ | refine Wu ?_ | refine Wz ?_)
  exact h)(hc:Md l.toArray (Nf l.toArray) is fuel listed=true:=by kernel_rfl)(hm:Tryz.prog.follows .mixedOrders=true:=by kernel_rfl)(hs:Region.noSelect l.toArray=true:=by kernel_rfl):XK N w0 ((Code.region id l.toArray true).wp Tryz.prog Q) e R H:=iX (Nf l.toArray) (hk (uM is k hc)) hm hs
theorem aB(k:XK N w0 K' e' R' H')(hk:XK N w0 K' e' R' H'→XK N w0 K e R H:=by
    intro h
    repeat' (first
      | ((with_reducible refine kop ?_)
         first
         | refine kz ?_
         | refine jA rfl rfl ?_
         | refine jL rfl rfl rfl (by decide) ?_
         | refine aEe rfl rfl (by decide) ?_
         | ((with_reducible refine aFE ?_);first | (refine eN rfl rfl ?_;dsimp only[List.set]) | (refine eN rfl rfl ?_ (hs:=eJ.mk 9 rfl cO.h rfl (by simp));dsimp only[List.set]) | (refine eN rfl rfl ?_ (hs:=eJ.mk 10 rfl cO.h rfl (by simp));dsimp only[List.set]) | (refine eN rfl rfl ?_ (hs:=eJ.mk 11 rfl cO.h rfl (by simp));dsimp only[List.set]) | (refine kO 0 rfl ?_;dsimp only[List.set]) | (refine kO 1 rfl ?_;dsimp only[List.set]) | (refine kO 2 rfl ?_;dsimp only[List.set]) | (refine kO 3 rfl ?_;dsimp only[List.set])))
      | with_reducible refine gX ?_
      | ((with_reducible refine aMI ?_);first | refine aCm ?_ | refine aFF ?_)
      | with_reducible refine gP ?_
      | with_reducible refine aAI ?_
      | with_reducible refine aAH ?_
      | with_reducible refine aAR ?_
      | with_reducible refine aAT ?_
      | with_reducible refine aAQ ?_
      | ((with_reducible refine aAS ?_ ?_);rfl)
      | with_reducible refine eA ?_
      | with_reducible refine fR ?_
      | with_reducible refine oA ?_
      | with_reducible refine aDw ?_
      | with_reducible refine Re ?_
      | with_reducible refine xN ?_
      | ((with_reducible refine aFG ?_)
         first
         | (refine pE (b:=true) rfl (fun _=>?_) (fun h=>by cases h))
         | (refine pE (b:=false) rfl (fun h=>by cases h) (fun _=>?_))))
    exact h):XK N w0 K e R H:=hk k
end
end
section
section
variable{P:Program}{N:cF}{w0:World}{K:Act→World→Prop}{e:Env}{R:List Piece}{H H':List HP}{Q:Exit→Act→World→Prop}{ops:Array Oper}{rest:List Oper}{d:Nat}{ty:TypeId}{pos:String}{aH:Array Edge}
theorem aV(j i:Nat){ps:List HP}{p:HP}(h:XK N w0 K e R H')(hj:H[j]? =some (HP.many ps):=by rfl)(hi:ps[i]? =some p:=by rfl)(hH:p::H.set j (HP.many (ps.set i cG))=H':=by dsimp only[List.set];try rfl):XK N w0 K e R H:=qM j i hj hi (hH▸h)
theorem aJ(j i:Nat){ps:List HP}{p:HP}(h:XK N w0 K e R H')(hj:H[j]? =some (HP.many ps):=by rfl)(hi:ps[i]? =some cG:=by rfl)(hH:H.set j (HP.many (ps.set i p))=H':=by dsimp only[List.set];try rfl):XK N w0 K e R (p::H):=qO j i hj hi (hH▸h)
theorem iW(i:Nat){α:Type}{f:α→HP}{H':α→List HP}(h:∀a,XK N w0 K e R (H' a))(hi:H[i]? =some (HP.ex f):=by rfl)(hH:∀a,H.set i (f a)=H' a:=by intro a;dsimp only[List.set];try rfl):XK N w0 K e R H:=aAN i hi fun a=>hH a▸h a
theorem cR(i:Nat){α:Type}(f:α→HP)(x:α)(h:XK N w0 K e R H')(hi:H[i]? =some (f x):=by rfl)(hH:H.set i (HP.ex f)=H':=by dsimp only[List.set];try rfl):XK N w0 K e R H:=uK i x hi (hH▸h)
theorem bO(i:Nat){nn t:Nat}{fn:Func}{v:Value}{p:HP}{F:Nat→Prop}(hF:∀b,F b→b < w0.heap.size)(hr:fn.results=#[.tmp t]:=by rfl)(ht:e.get t=some v:=by rfl)(hi:H[i]? =some p:=by rfl)(hR:⟨w0,fun b=>b < w0.heap.size∧¬F b⟩∈R:=by simp):XK ⟨nn,[]⟩ w0 (bodyPost P fn (fun y w'=>y=.returned v∧∃F',p.sat F' w'∧iC w0 w' F F') .ret) e R H:=mI hr ht fun _ t=>⟨rfl,t.turns hF hR hi⟩
theorem fC(i:Nat){nn:Nat}{fn:Func}{p:HP}{F:Nat→Prop}{x:Exit}(hF:∀b,F b→b < w0.heap.size)(hx:x=.ret∨x=.normal:=by first | exact .inr rfl | exact .inl rfl)(hr:fn.results=#[]:=by rfl)(hi:H[i]? =some p:=by rfl)(hR:⟨w0,fun b=>b < w0.heap.size∧¬F b⟩∈R:=by simp):XK ⟨nn,[]⟩ w0 (bodyPost P fn (fun y w'=>y=.returned (.tuple #[])∧∃F',p.sat F' w'∧iC w0 w' F F') x) e R H:=aRk hx hr fun _ t=>⟨rfl,t.turns hF hR hi⟩
section
variable{f:FuncId}{x:Operand}{args:List Operand}{vs:List Value}{tys:Array TypeId}
theorem cZ{v0:Value}(hc:∀w,St w0 R H w→Calls P f vs.toArray w (Rt v0 w))(k:XK N w0 (wpList P ops Q rest) ((d,v0)::e) R H)(hx:e.ev x=some (.func (.func f) #[] #[]):=by rfl)(ha:e.fM args=some vs:=by rfl)(hf:eY P f=true:=by kernel_rfl)(hd:d < N.n:=by decide):
  XK N w0 (wpList P ops Q (⟨some d,.call {callee:=.value x,args:=args.toArray,argTypes:=tys},ty,pos,aH,none⟩::rest)) e R H:=xZ (fi:=[]) (ca:=[]) hf hx ha hd (fun w st=>by simpa using hc w st) k
theorem kcV(R':Value→Prop)(hc:∀w,St w0 R H w→Calls P f vs.toArray w fun y w'=>(∃v,y=.returned v∧R' v)∧Below w.heap.size w w')(k:∀v,R' v→XK N w0 (wpList P ops Q rest) ((d,v)::e) R H)(hx:e.ev x=some (.func (.func f) #[] #[]):=by rfl)(ha:e.fM args=some vs:=by rfl)(hf:eY P f=true:=by kernel_rfl)(hd:d < N.n:=by decide):
  XK N w0 (wpList P ops Q (⟨some d,.call {callee:=.value x,args:=args.toArray,argTypes:=tys},ty,pos,aH,none⟩::rest)) e R H:=aEg (fi:=[]) (ca:=[]) hf hx ha hd R' (fun w st=>by simpa using hc w st) k
theorem eX(Ok:Value→List HP→Piece→Prop)(hc:∀w,St w0 R H w→Calls P f vs.toArray w fun y w'=>(∃v hs q,y=.returned v∧q.w=w'∧Ok v hs q∧gI w hs q)∧Below w.heap.size w w')
  (k:∀v hs q,Ok v hs q→qS w0 q→XK N w0 (wpList P ops Q rest) ((d,v)::e) (q::R) (hs++H)) (hx:e.ev x=some (.func (.func f) #[] #[]):=by rfl) (ha:e.fM args=some vs:=by rfl) (hf:eY P f=true:=by kernel_rfl) (hd:d < N.n:=by decide):
  XK N w0 (wpList P ops Q (⟨some d,.call {callee:=.value x,args:=args.toArray,argTypes:=tys},ty,pos,aH,none⟩::rest)) e R H:=Sc (fi:=[]) (ca:=[]) hf hx ha hd Ok (fun w st=>by simpa using hc w st) k
theorem jN(ps:List Piece)(R':Value→World→World→Prop)(hc:∀w,St w0 R H w→Calls P f vs.toArray w fun y w'=>(∃v,y=.returned v∧R' v w w')∧Below w.heap.size w w')
  (k:∀v w q,R' v w q.w→(fresh w q.w).Le q→(∀p∈ps,p.Le q)→((∀p∈ps,qS w0 p)→qS w0 q)→XK N w0 (wpList P ops Q rest) ((d,v)::e) (q::R) H) (hps:∀p∈ps,p∈R:=by simp) (hx:e.ev x=some (.func (.func f) #[] #[]):=by rfl) (ha:e.fM args=some vs:=by rfl) (hf:eY P f=true:=by kernel_rfl) (hd:d < N.n:=by decide):
  XK N w0 (wpList P ops Q (⟨some d,.call {callee:=.value x,args:=args.toArray,argTypes:=tys},ty,pos,aH,none⟩::rest)) e R H:=aEi (fi:=[]) (ca:=[]) ps hf hx ha hd hps R' (fun w st=>by simpa using hc w st) k
theorem rA(p q0:Piece)(R':Value→World→World→Prop)(hc:∀w,St w0 R H w→Calls P f vs.toArray w fun y w'=>(∃v,y=.returned v∧R' v w w')∧Below w.heap.size w w')
  (k:∀v w q,R' v w q.w→(fresh w q.w).Le q→q0.Le q→Mv p w0 q→XK N w0 (wpList P ops Q rest) ((d,v)::e) (q::R) H) (hn:Mv p w0 q0:=by assumption) (hps:q0∈R:=by simp) (hx:e.ev x=some (.func (.func f) #[] #[]):=by first | rfl | exact Qb _ rfl rfl) (ha:e.fM args=some vs:=by first | rfl | exact Qa _ rfl rfl) (hf:eY P f=true:=by kernel_rfl) (hd:d < N.n:=by decide):
  XK N w0 (wpList P ops Q (⟨some d,.call {callee:=.value x,args:=args.toArray,argTypes:=tys},ty,pos,aH,none⟩::rest)) e R H:=aIR p q0 (fi:=[]) (ca:=[]) hf hx ha hd hps hn R' (fun w st=>by simpa using hc w st) k
end
end
end
section
abbrev Cz:FuncId→Array Value→World→(Ending→World→Prop)→Prop:=Calls Tryz.prog
abbrev Wr(v:Value)(q:HP)(w:World)(F:Nat→Prop):Ending→World→Prop:=fun y w'=>y=.returned v∧∃F',q.sat F' w'∧iC w w' F F'
section
variable{P:Program}{N:cF}{w0:World}{e:Env}{R R0:List Piece}{H H0:List HP}{Q:Exit→Act→World→Prop}{ops:Array Oper}{fuel m:Nat}{listed:Array Bool}
theorem cJ(i:Nat){oi:Oper}(k:XK N w0 (wpList P ops (Exit.then (rM P w0 ops Q R0 H0 m fuel listed i) Q) [oi]) e R H)(hr:Region.ready .any ops listed=[i]:=by decide+kernel)(hi:ops[i]? =some oi:=by rfl):XA P N w0 ops Q R0 H0 m (fuel+1) listed e R H:=aD7 i hi hr k
theorem kJ(k:XK N w0 (Q .normal) e R H)(hr:Region.ready .any ops listed=[]:=by decide+kernel):XA P N w0 ops Q R0 H0 m fuel listed e R H:=aRK hr k
end
section
variable{N:cF}{w0:World}{e:Env}{R:List Piece}{H H':List HP}{Q:Exit→Act→World→Prop}{ops:Array Oper}{rest:List Oper}{d:Nat}{ty:TypeId}{pos:String}{aH:Array Edge}{v:Value}
theorem bU(i:Nat){f:FuncId}{x:Operand}{args:List Operand}{vs:List Value}{tys:Array TypeId}{p:HP}(q:HP)
  (hc:∀w F,St w0 R H w→p.sat F w→(∀b,F b→b < w.heap.size)→(∀q∈R,q.Le ⟨w,fun b=>b < w.heap.size∧¬F b⟩)→Calls Tryz.prog f vs.toArray w fun y w'=>y=.returned v∧∃F',q.sat F' w'∧iC w w' F F')
  (k:XK N w0 (wpList Tryz.prog ops Q rest) ((d,v)::e) R H') (hi:H[i]? =some p:=by rfl) (hH:H.set i q=H':=by dsimp only[List.set];try rfl) (hx:e.ev x=some (.func (.func f) #[] #[]):=by rfl) (ha:e.fM args=some vs:=by rfl) (hf:eY Tryz.prog f=true:=by kernel_rfl) (hd:d < N.n:=by decide):
  XK N w0 (wpList Tryz.prog ops Q (⟨some d,.call {callee:=.value x,args:=args.toArray,argTypes:=tys},ty,pos,aH,none⟩::rest)) e R H:=Zv i q hc (hH▸k) hi hx ha hf hd
end
section
variable{N:cF}{w0:World}{e e':Env}{R R':List Piece}{H H':List HP}
theorem eP{I:Nat→Env→List Piece→List HP→Prop}{n:Nat}(m:Nat)(hI:I m e' R' H')(hm:m < n:=by omega)(hE:e'.Sub e:=by repeat (first | exact trivial | refine⟨rfl,?_⟩))(hs:lG [] H H':=by exact Xn)(hR:∀p∈R',p∈R:=by first | exact fun _ h=>h | simp):
  XK N w0 (fun a' w'=>∃m e' R' H',(m < n∧I m e' R' H')∧eC N e' a'∧St w0 R' H' w') e R H:=by
 obtain⟨is,h1,h2,_⟩:=hs;exact Ri _ hE (aT is h1 h2 hR (gQ m hm hI))
theorem nR{M:Env→List Piece→List HP→Prop}(hM:M e' R' H')(hE:e'.Sub e:=by repeat (first | exact trivial | refine⟨rfl,?_⟩))(hs:lG [] H H':=by exact Xn)(hR:∀p∈R',p∈R:=by first | exact fun _ h=>h | simp):
  XK N w0 (fun a' w'=>∃e' R' H',M e' R' H'∧eC N e' a'∧St w0 R' H' w') e R H:=by
 obtain⟨is,h1,h2,_⟩:=hs;exact Ri _ hE (aT is h1 h2 hR (Xd hM))
theorem dI{nn:Nat}{fn:Func}{t:Nat}{v v':Value}{w:World}(hv:v=v':=by rfl)(hR:all w∈R:=by simp)(hr:fn.results=#[.tmp t]:=by rfl)(ht:e.get t=some v:=by rfl):XK ⟨nn,[]⟩ w (bodyPost Tryz.prog fn (Rt v' w) .ret) e R H:=jI hR hv hr ht
theorem aP{nn:Nat}{fn:Func}{t:Nat}{v:Value}{w:World}{A:Ending→World→Prop}(hr:fn.results=#[.tmp t]:=by rfl)(ht:e.get t=some v:=by rfl)(h:∀w1,St w R H w1→A (.returned v) w1)(hR:all w∈R:=by simp):XK ⟨nn,[]⟩ w (bodyPost Tryz.prog fn (fun y w'=>A y w'∧Below w.heap.size w w') .ret) e R H:=mI hr ht fun w1 st=>⟨h w1 st,st.below hR⟩
end
theorem Mk{N:cF}{w0:World}{e:Env}{R:List Piece}{H:List HP}{K:Act→World→Prop}{b o:Nat}{v:Value}(h:Rd w0 R H b o v)(k:Rd w0 R H b o v→XK N w0 K e R H):XK N w0 K e R H:=k h
end
section
instance:eU 3 [iv 0]:={}
instance:Nc 3 1 8:={}
instance:Xr 3 .i64:={}
instance:eU 5 [.int .u8 0]:={}
instance:eU 37 [.int .u32 0]:={}
instance:Xr 37 .u32:={}
instance:eU 30 [sn,sn,sn,sn]:={}
instance:iZ 30 [(0,1),(1,1),(2,1),(3,1)]:={}
instance:eU 93 [iv 0,iv 0,iv 0,.int .u32 0,sn,sn]:={}
instance:Nc 93 6 80:={}
instance:iZ 93 [(0,1),(1,1),(2,1),(3,1),(4,1),(5,1)]:={}
instance:eU 42 [iv 0,.int .u32 0]:={}
instance:iZ 42 [(0,1),(1,1)]:={}
instance:eU 39 [.int .u8 0,iv 0,iv 0,.int .u32 0]:={}
instance:iZ 39 [(0,1),(1,1),(2,1),(3,1)]:={}
instance:eU 95 [.int .u32 0,.bool false]:={}
instance:Nc 95 2 8:={}
instance:iZ 95 [(0,1),(1,1)]:={}
instance:eU 88 [iv 0,iv 0,.bool false]:={}
instance:Nc 88 3 24:={}
instance:iZ 88 [(0,1),(1,1),(2,1)]:={}
instance:eU 118 [.nilFunc]:={}
instance:eU 140 [.nilFunc]:={}
instance:eU 44 [iv 0,iv 0,.bool false,.int .u32 0]:={}
instance:iZ 44 [(0,1),(1,1),(2,1),(3,1)]:={}
instance:eU 46 [.int .u8 0,iv 0,.int .u8 0,iv 0,iv 0,.int .u32 0,iv 0,.int .u32 0,iv 0,iv 0,.bool false,.int .u32 0,.bool false,sn]:={}
instance:iZ 46 [(0,1),(1,1),(2,4),(6,2),(8,4),(12,1),(13,1)]:={}
instance:eU 50 [.int .u8 0,iv 0]:={}
instance:iZ 50 [(0,1),(1,1)]:={}
instance:eU 55 [sn,sn,sn]:={}
instance:iZ 55 [(0,1),(1,1),(2,1)]:={}
instance:eU 58 [sn,sn,sn,sn,sn,sn]:={}
instance:eU 65 [.int .u8 0,iv 0,.int .u8 0,iv 0,iv 0,.int .u32 0,.int .u32 0,sn]:={}
instance:iZ 65 [(0,1),(1,1),(2,4),(6,1),(7,1)]:={}
instance:Xr 84 .u64:={}
instance:eU 86 [.int .u8 0,sn,.int .u64 0,iv 0,iv 0,iv 0]:={}
instance:Nc 86 6 64:={}
instance:iZ 86 [(0,1),(1,1),(2,1),(3,1),(4,1),(5,1)]:={}
instance:eU 90 [iv 0]:={}
instance:Nc 90 1 8:={}
instance:iZ 90 [(0,1)]:={}
instance:eU 210 [iv 0,iv 0,iv 0,.int .u32 0,.pointer none,.pointer none]:={}
instance:iZ 210 [(0,1),(1,1),(2,1),(3,1),(4,1),(5,1)]:={}
instance:eU 203 [.pointer none,.pointer none,.pointer none,.pointer none,sn]:={}
instance:iZ 203 [(0,1),(1,1),(2,1),(3,1),(4,1)]:={}
instance:eU 188 [sn]:={}
instance:eU 190 [.pointer none,.pointer none,sn,sn,sn,sn,.pointer none,sn,sn,sn,iv 0,.int .u8 0,iv 0,iv 0,.int .u32 0,iv 0,.int .u32 0,iv 0,iv 0,iv 0,iv 0,iv 0,iv 0,iv 0,.int .u8 0,iv 0,iv 0,.int .u32 0,iv 0,.int .u32 0,iv 0,iv 0,iv 0,iv 0,iv 0,iv 0,iv 0,.int .u8 0,iv 0,iv 0,.int .u32 0,iv 0,.int .u32 0,iv 0,iv 0,iv 0,iv 0,iv 0,iv 0,iv 0,sn,.bool false,.bool false,iv 0,iv 0]:={}
instance:iZ 190 [(0,1),(1,1),(2,4),(6,1),(7,3),(10,39),(49,1),(50,1),(51,1),(52,1),(53,1),(54,1)]:={}
instance:eU 172 [iv 0,sn]:={}
instance:iZ 172 [(0,1),(1,1)]:={}
instance:eU 175 [.pointer none,sn,sn,sn,sn,sn,sn,sn,sn,sn,sn,iv 0,sn,iv 0,sn,iv 0,iv 0,.int .u8 0,iv 0]:={}
instance:iZ 175 [(0,1),(1,4),(5,6),(11,4),(15,1),(16,1),(17,2)]:={}
instance:eU 242 [.int .u8 0,iv 0]:={}
instance:iZ 242 [(0,1),(1,1)]:={}
instance:eU 277 [sn,.map none,.bool false]:={}
instance:iZ 277 [(0,1),(1,1),(2,1)]:={}
instance:eU 83 [iv 0,iv 0,iv 0,iv 0]:={}
instance:iZ 83 [(0,1),(1,1),(2,1),(3,1)]:={}
instance:eU 103 [.pointer none,.pointer none,.pointer none,iv 0,iv 0,.int .u8 0,iv 0,iv 0,.int .u32 0,.int .u8 0,iv 0,iv 0,.int .u32 0,.int .u8 0,iv 0,iv 0,.int .u32 0,.bool false,.bool false,.bool false,sn]:={}
instance:iZ 103 [(0,1),(1,1),(2,1),(3,1),(4,1),(5,12),(17,3),(20,1)]:={}
instance:eU 251 [.int .u8 0,sn,.int .u64 0,iv 0,iv 0,iv 0,.bool false,iv 0,iv 0,iv 0,iv 0]:={}
instance:iZ 251 [(0,6),(6,1),(7,1),(8,1),(9,1),(10,1)]:={}
instance:eU 249 [sn]:={}
instance:iZ 249 [(0,1)]:={}
instance:eU 256 [iv 0,iv 0,.bool false,.int .u8 0,iv 0,.bool false,.bool false]:={}
instance:eU 261 [iv 0,iv 0,.bool false,.bool false]:={}
instance:eU 284 []:={}
instance:iZ 284 []:={}
instance:eU 285 []:={}
instance:iZ 285 []:={}
instance:eU 287 [.bool false]:={}
instance:iZ 287 [(0,1)]:={}
instance:eU 288 []:={}
instance:iZ 288 []:={}
instance:eU 289 []:={}
instance:iZ 289 []:={}
instance:eU 293 [iv 0,iv 0,.int .u32 0,.int .u32 0]:={}
instance:eU 306 [iv 0,.bool false,iv 0,.int .u32 0]:={}
instance:iZ 306 [(0,1),(1,1),(2,1),(3,1)]:={}
instance:eU 266 [iv 0,iv 0]:={}
instance:iZ 266 [(0,1),(1,1)]:={}
instance:eU 269 [sn,sn,iv 0]:={}
instance:iZ 269 [(0,1),(1,1),(2,1)]:={}
instance:eU 254 [sn]:={}
instance:iZ 254 [(0,1)]:={}
instance:eU 259 [.map none]:={}
instance:iZ 259 [(0,1)]:={}
instance:eU 159 [iv 0,iv 0,.int .u8 0,.int .u8 0,.int .u8 0]:={}
instance:eU 264 [sn,sn,sn,.bool false]:={}
instance:iZ 264 [(0,1),(1,1),(2,1),(3,1)]:={}
instance:eU 298 [.nilFunc]:={}
instance:eU 346 [.nilFunc]:={}
instance:eU 355 [sn]:={}
end
section
def Du(g:List (List Int)):Bool:=g.any fun l=>l.any fun u=>decide (u < 0)||decide ((g.length:Int)≤u)
def pR(g:List (List Int)):Int:=if 100 < g.length then 1 else if Du g then 4 else 0
def hstep(v:Nat)(s:List Int×List (List Int)×List Int)(u:Int):List Int×List (List Int)×List Int:=
 if s.2.2.contains u then s else(s.1.set v (s.1[v]?.getD 0+1),s.2.1.set u.toNat (s.2.1[u.toNat]?.getD []++[(v:Int)]),s.2.2++[u])
def hrow(v:Nat)(s:List Int×List (List Int))(l:List Int):List Int×List (List Int)×List Int:=l.foldl (hstep v) (s.1,s.2,[])
def fW(g:List (List Int)):Nat→List Int×List (List Int)
 | 0=>(List.replicate g.length 0,List.replicate g.length [])
 | k+1=>let r:=hrow k (fW g k) (g[k]?.getD []);(r.1,r.2.1)
def Hr(g:List (List Int))(M:List Nat):Option Nat:=(List.range g.length).find? fun v=> !(M.contains v)&&(g[v]?.getD []).all fun u=>M.contains u.toNat
def sE(g:List (List Int)):Nat→List Nat→Option (List Nat)
 | 0,M=>some M
 | k+1,M=>match Hr g M with
  | none=>none
  | some v=>sE g k (M++[v])
def Fv(l:List Int):List Int:=l.foldl (fun a u=>if a.contains u then a else a++[u]) []
theorem aHp{g:List (List Int)}{k j:Nat}{l:List Int}{u:Int}(hk:g[k]? =some l)(hj:l[j]? =some u)(hu:u < 0∨(g.length:Int)≤u):Du g=true:=by
 unfold Du;simp only[List.any_eq_true,Bool.or_eq_true,decide_eq_true_eq];exact⟨l,List.mem_of_getElem? hk,u,List.mem_of_getElem? hj,hu⟩
theorem aHq{g:List (List Int)}(h:∀(k:Nat) (l:List Int),g[k]? =some l→∀(j:Nat) (u:Int),l[j]? =some u→0≤u∧u < g.length):Du g=false:=by
 cases hb:Du g with
 | false=>rfl
 | true=>
  unfold Du at hb;simp only[List.any_eq_true,Bool.or_eq_true,decide_eq_true_eq] at hb;obtain⟨l,hl,u,hu,aGm⟩:=hb;obtain⟨k,hk⟩:=List.getElem?_of_mem hl;obtain⟨j,hj⟩:=List.getElem?_of_mem hu
  have:=h k l hk j u hj
  omega
def xS(g:List (List Int)):Prop:=∀l∈g,∀u∈l,0≤u∧u < g.length
theorem xS.of{g:List (List Int)}(h:Du g=false):xS g:=by
 intro l hl u hu
 by_cases h0:u < 0∨(g.length:Int)≤u
 ·have hb:Du g=true:=by
   unfold Du;simp only[List.any_eq_true,Bool.or_eq_true,decide_eq_true_eq];exact⟨l,hl,u,hu,h0⟩
  rw[h] at hb;cases hb
 ·omega
theorem aCr(v:Nat)(s:List Int×List (List Int)×List Int)(u:Int):(hstep v s u).1.length=s.1.length∧(hstep v s u).2.1.length=s.2.1.length:=by
 unfold hstep;split<;>simp
theorem aCv(v:Nat):∀(l:List Int) (s:List Int×List (List Int)×List Int),(l.foldl (hstep v) s).1.length=s.1.length∧(l.foldl (hstep v) s).2.1.length=s.2.1.length
 | [],s=>⟨rfl,rfl⟩
 | u::l,s=>by rw[List.foldl_cons];have h1:=aCv v l (hstep v s u);have h2:=aCr v s u;exact⟨h1.1.trans h2.1,h1.2.trans h2.2⟩
theorem Pp(g:List (List Int)):∀k,(fW g k).1.length=g.length∧(fW g k).2.length=g.length
 | 0=>by simp[fW]
 | k+1=>by
  have h:=Pp g k
  have h1:=aCv k (g[k]?.getD []) ((fW g k).1,(fW g k).2,[])
  exact⟨h1.1.trans h.1,h1.2.trans h.2⟩
theorem aFK(v:Nat)(s:List Int×List (List Int)×List Int)(u:Int):(hstep v s u).2.2=if s.2.2.contains u then s.2.2 else s.2.2++[u]:=by unfold hstep;split<;>rfl
theorem aFO(v:Nat):∀(l:List Int) (s:List Int×List (List Int)×List Int),(l.foldl (hstep v) s).2.2=l.foldl (fun a u=>if a.contains u then a else a++[u]) s.2.2
 | [],s=>rfl
 | u::l,s=>by rw[List.foldl_cons,List.foldl_cons,aFO v l,aFK]
theorem aCu(v:Nat):∀(l:List Int) (s:List Int×List (List Int)×List Int),v < s.1.length→s.1[v]? =some (s.2.2.length:Int)→(l.foldl (hstep v) s).1[v]? =some ((l.foldl (hstep v) s).2.2.length:Int)
 | [],s,_,h=>h
 | u :: l, s, hv, h => by
  rw[List.foldl_cons];refine aCu v l _ (by rw[(aCr v s u).1];exact hv) ?_;unfold hstep;split
  ·exact h
  ·simp only[h,Option.getD_some];rw[List.getElem?_set_self hv];simp
theorem aFM(v:Nat):∀(l:List Int) (s:List Int×List (List Int)×List Int) (x:Nat),x≠v→(l.foldl (hstep v) s).1[x]? =s.1[x]?
 | [],s,x,_=>rfl
 | u::l,s,x,hx=>by
  rw[List.foldl_cons,aFM v l _ x hx];unfold hstep;split
  ·rfl
  ·exact List.getElem?_set_ne (Ne.symm hx)
theorem aCt(v:Nat):∀(l:List Int) (s:List Int×List (List Int)×List Int) (x:Nat),(∀u∈l,0≤u∧u < s.2.1.length)→x < s.2.1.length→
  (l.foldl (hstep v) s).2.1[x]? =some (s.2.1[x]?.getD []++if(x:Int)∈l∧(x:Int)∉s.2.2 then[(v:Int)] else[])
 | [],s,x,_,hx=>by simp[List.getElem?_eq_getElem hx]
 | u :: l, s, x, hl, hx => by
  have hu:=hl u (by simp)
  have hlen:=(aCr v s u).2
  rw[List.foldl_cons,aCt v l (hstep v s u) x (fun y hy=>by rw[hlen];exact hl y (by simp[hy])) (by rw[hlen];exact hx)];unfold hstep
  by_cases hc:s.2.2.contains u=true
  ·have Lm:u∈s.2.2:=by simpa using hc
   simp only[hc,if_true,List.mem_cons]
   congr 2
   by_cases Ua:(x:Int)=u
   ·rw[Ua];simp[Lm]
   ·simp[Ua]
  ·have Lm:u∉s.2.2:=by simpa using hc
   simp only[hc,Bool.false_eq_true,if_false,List.mem_cons,List.mem_append,List.mem_singleton,List.not_mem_nil,or_false]
   by_cases Ua:(x:Int)=u
   ·subst Ua
    have e:((x:Int)).toNat=x:=by simp
    rw[e,List.getElem?_set_self hx];simp[Lm]
   ·have hne:u.toNat≠x:=by omega
    rw[List.getElem?_set_ne hne];simp[Ua]
theorem Vj{g:List (List Int)}(hg:xS g):∀k,k≤g.length→(∀v,v < g.length→(fW g k).1[v]? =some (if v < k then((Fv (g[v]?.getD [])).length:Int) else 0))∧
  ∀u,u < g.length→(fW g k).2[u]? =some (((List.range k).filter fun v=>(g[v]?.getD []).contains (u:Int)).map Int.ofNat)
 | 0,_=>by
  refine⟨fun v hv=>?_,fun u hu=>?_⟩
  ·simp[fW,hv]
  ·simp[fW,hu]
 | k + 1, hk => by
  obtain⟨h1,h2⟩:=Vj hg k (by omega)
  have hl:=Pp g k
  have hin:∀u∈g[k]?.getD [],0≤u∧u < (fW g k).2.length:=fun u hu=>by
   rw[hl.2]
   have:g[k]? =some (g[k]'(by omega)):=List.getElem?_eq_getElem _
   rw[this] at hu;exact hg _ (List.getElem_mem _) u hu
  refine⟨fun v hv=>?_,fun u hu=>?_⟩
  ·show(((g[k]?.getD []).foldl (hstep k) ((fW g k).1,(fW g k).2,[])).1)[v]? =_
   by_cases hvk:v=k
   ·subst hvk
    have:=aCu v (g[v]?.getD []) ((fW g v).1,(fW g v).2,[]) (by rw[hl.1];exact hv) (by rw[h1 v hv];simp)
    rw[this,aFO];simp[Fv]
   ·rw[aFM k _ _ v hvk,h1 v hv]
    congr 1
    by_cases h:v < k
    ·rw[if_pos h,if_pos (by omega)]
    ·rw[if_neg h,if_neg (by omega)]
  ·show(((g[k]?.getD []).foldl (hstep k) ((fW g k).1,(fW g k).2,[])).2.1)[u]? =_
   rw[aCt k _ _ u hin (by rw[hl.2];exact hu),h2 u hu,List.range_succ,List.filter_append,List.map_append];simp only[Option.getD_some,List.not_mem_nil,not_false_eq_true,and_true]
   congr 2
   by_cases h:(u:Int)∈g[k]?.getD []
   ·simp[h]
   ·simp[h]
theorem aNJ{g:List (List Int)}(hg:xS g){k u:Nat}(hk:k≤g.length){l:List Int}(hu:(fW g k).2[u]? =some l):l.length≤k:=by
 have hlt:u < g.length:=by
  rw[←(Pp g k).2];rcases Nat.lt_or_ge u (fW g k).2.length with h | h
  ·exact h
  ·rw[List.getElem?_eq_none h] at hu;cases hu
 rw[(Vj hg k hk).2 u hlt] at hu;cases hu;rw[List.length_map]
 have:=List.length_filter_le (fun v=>(g[v]?.getD []).contains (u:Int)) (List.range k)
 simpa using this
end
section
instance:eU 283 []:={}
instance:iZ 283 []:={}
def kZ(ks:List Int):List (Int×Value):=ks.map fun k=>(k,.agg #[])
theorem aBZ:∀(ks:List Int) (k:Int),mB (kZ ks) k=if ks.contains k then some (.agg #[]) else none
 | [],k=>by simp[kZ,mB]
 | a::ks,k=>by
  rw[kZ,List.map_cons,Of]
  have:=aBZ ks k
  rw[kZ] at this;rw[this]
  by_cases h:a=k
  ·subst h;simp
  ·simp[h,Ne.symm h]
theorem aFx:∀(ks:List Int) (k:Int),nL (kZ ks) k (.agg #[])=kZ (if ks.contains k then ks else ks++[k])
 | [],k=>by simp[kZ,nL]
 | a :: ks, k => by
  have ih:=aFx ks k
  rw[kZ,List.map_cons,nL];rw[kZ] at ih
  by_cases h:a=k
  ·subst h;simp[kZ]
  ·rw[if_neg h,ih]
   have hk:¬k=a:=fun e=>h e.symm
   by_cases hc:ks.contains k=true
   ·have:(a::ks).contains k=true:=by simp at hc⊢;exact .inr hc
    rw[if_pos hc,if_pos this];rfl
   ·have hm:k∉ks:=by simpa using hc
    have:¬(a::ks).contains k=true:=by simp[hk,hm]
    rw[if_neg hc,if_neg this];rfl
theorem aAD{p:Nat→Prop}{k:Nat}(h:∀i,i < k→p i)(hk:p k):∀i,i < k+1→p i:=fun i hi=>by
 rcases Nat.lt_or_ge i k with h1 | h1
 ·exact h i h1
 ·have:i=k:=by omega
  exact this▸hk
theorem aKa(ks:List Int)(k:Int):(mB (kZ ks) k).isSome=ks.contains k:=by rw[aBZ];split<;>simp_all
theorem aJZ(ks:List Int)(k:Int):(mB (kZ ks) k).getD (.agg #[])=.agg #[]:=by rw[aBZ];split<;>rfl
theorem Zn(r:Nat)(v:Int)(ks:List Int)(w:World)(hm:vP w r (kZ ks)):
  Cz 202 #[.map (some r),iv v] w (Rt (.bool (ks.contains v)) w):=by
 refine aN func202 ntmps202 ?_;refine aB ?_;refine Yc (kt:=3) (et:=283) (kd:=.i64) (z:=.agg #[]) (l:=kZ ks) true (by kernel_rfl) (by kernel_rfl) (by kernel_rfl) rfl rfl (fun w1 st=>hm.below (st.started (by simp))) (by decide) ?_;rw[aKa,aJZ];refine aB ?_;refine bX fun g1=>?_;refine rU rfl rfl ?_;simp only[fP,Value.cells,List.set,List.take,List.drop,List.nil_append,List.append_nil,List.length_cons,List.length_nil,List.cons_append,Nat.reduceAdd];refine aB ?_;exact aP (h:=fun _ _=>rfl)
theorem Zo(r:Nat)(v:Int)(ks:List Int)(w:World)(F:Nat→Prop)(hp:(HP.map r (kZ ks)).sat F w)(hF:∀b,F b→b < w.heap.size):
  Cz 203 #[.map (some r),iv v] w (Wr (.tuple #[]) (HP.map r (kZ (if ks.contains v then ks else ks++[v]))) w F):=by
 refine cS func203 ntmps203 hp hF ?_;refine fR ?_;refine dN rfl (by decide) ?_;refine dN rfl (by decide) ?_;refine kd (iN rfl) ?_;refine Gw (kt:=3) (et:=283) (kd:=.i64) (l:=kZ ks) 0 (by kernel_rfl) (by kernel_rfl) rfl rfl rfl rfl ?_;rw[aFx];refine fD ?_;exact fC 0 hF
theorem aLT(A:Option Addr)(n c:Nat)(g:List (List Int))(w:World)(hg:nH (all w) A n g)(hn:n=g.length)(hn2:(n:Int)≤9223372036854775806)(hlen:∀l∈g,(l.length:Int)≤9223372036854775806):
  Cz 200 #[.slice A n c] w (Rt (iv (pR g)) w):=by
 refine aN func200 ntmps200 ?_;refine aB ?_;refine aG rfl (fun h=>?_) (fun h=>?_)
 ·
  refine aB ?_;exact aP (h:=fun _ _=>by simp[pR,←hn];omega)
 ·
  refine aB ?_;refine bL [(12,iv 0),(11,iv n),(10,.slice A n c),(0,.slice A n c)] ?_;refine aB ?_;refine eV (fun m e R H=>∃k:Nat,k≤n∧m=n - k∧(∀(i:Nat),i < k→∀l:List Int,g[i]? =some l→∀(j:Nat) (u:Int),l[j]? =some u→0≤u∧u < g.length)∧e=[(12,iv k),(11,iv n),(10,.slice A n c),(0,.slice A n c)]∧R=[all w]∧H=[]) n ⟨0,by omega,rfl,(fun i h=>absurd h (by omega)),rfl,rfl,rfl⟩ fun m e R H hI=>?_;obtain⟨k,hk,rfl,hin,rfl,rfl,rfl⟩:=hI;refine aB ?_;refine aG rfl (fun h=>?_) (fun h=>?_)
  ·
   refine aB ?_
   have hkn:k < n:=by omega
   obtain⟨l,hl⟩:∃l,g[k]? =some l:=⟨g[k]'(by omega),List.getElem?_eq_getElem _⟩
   obtain⟨b,off,B,c2,rfl,c1,lJ⟩:=hg.row hl
   have nW:=hlen l (List.mem_of_getElem? hl)
   refine aB ?_;refine bL [(18,iv 0),(17,iv l.length),(16,.slice B l.length c2),(12,iv k),(11,iv n),(10,.slice (some ⟨b,off,none⟩) n c),(0,.slice (some ⟨b,off,none⟩) n c)] ?_;refine aB ?_;refine eV (fun m e R H=>∃j:Nat,j≤l.length∧m=l.length - j∧(∀(i:Nat),i < j→∀u:Int,l[i]? =some u→0≤u∧u < g.length)∧e=[(18,iv j),(17,iv l.length),(16,.slice B l.length c2),(12,iv k),(11,iv n),(10,.slice (some ⟨b,off,none⟩) n c),(0,.slice (some ⟨b,off,none⟩) n c)]∧R=[all w]∧H=[]) l.length ⟨0,by omega,rfl,(fun i h=>absurd h (by omega)),rfl,rfl,rfl⟩ fun m e R H hI=>?_;obtain⟨j,hj,rfl,Uq,rfl,rfl,rfl⟩:=hI;refine aB ?_;refine aG rfl (fun h=>?_) (fun h=>?_)
   ·
    refine aB ?_
    have hjl:j < l.length:=by omega
    obtain⟨b2,off2,rfl,oQ,nC⟩:=lJ.2 (by omega);obtain⟨u,hu⟩:∃u,l[j]? =some u:=⟨l[j]'(by omega),List.getElem?_eq_getElem _⟩
    have c3:fS w b2 (off2+j) (iv u):=⟨oQ,nC j _ (by simp[aM,hu])⟩
    refine aB ?_;refine bT (t:=24) rfl (fun hg=>?_) (fun hg=>?_)
    ·
     refine aB ?_;exact aP (h:=fun _ _=>by rw[show pR g=4 by simp[pR,←hn,aHp hl hu (by omega)];omega])
    ·
     refine aB ?_;refine aG rfl (fun h=>?_) (fun h=>?_)
     ·
      refine aB ?_;exact aP (h:=fun _ _=>by rw[show pR g=4 by simp[pR,←hn,aHp hl hu (by omega)];omega])
     ·
      refine aB ?_;exact eP (l.length - (j+1)) ⟨j+1,by omega,rfl,aAD Uq (fun x hx=>by rw[hu] at hx;cases hx;omega),rfl,rfl,rfl⟩
   ·
    refine aB ?_;exact eP (n - (k+1)) ⟨k+1,by omega,rfl,aAD hin (fun x hx j u hju=>by rw[hl] at hx;cases hx;exact Uq j (by have:=(List.getElem?_eq_some_iff.1 hju).1;omega) u hju),rfl,rfl,rfl⟩
  ·
   refine aB ?_;exact aP (h:=fun _ _=>by rw[show pR g=0 by simp[pR,←hn,aHq (fun i l hi=>hin i (by have:=(List.getElem?_eq_some_iff.1 hi).1;omega) l hi)];omega])
end
section
def HU(vals:List Value)(U:List (List Int)):List HP:=List.zipWith (fun v l=>HP.own 3 1 v l.length (aM l)) vals U
theorem aIx{vals:List Value}{U:List (List Int)}{i:Nat}{v:Value}{l:List Int}(hv:vals[i]? =some v)(hl:U[i]? =some l):(HU vals U)[i]? =some (HP.own 3 1 v l.length (aM l)):=by
 simp[HU,List.getElem?_zipWith,hv,hl]
theorem aIw:∀(vals:List Value) (U:List (List Int)) (i:Nat) (v:Value) (l:List Int),(HU vals U).set i (HP.own 3 1 v l.length (aM l))=HU (vals.set i v) (U.set i l)
 | [],U,i,v,l=>by cases U<;>simp[HU]
 | a::vals,[],i,v,l=>by cases i<;>simp[HU]
 | a::vals,b::U,0,v,l=>by simp[HU]
 | a::vals,b::U,i+1,v,l=>by
  have:=aIw vals U i v l
  simpa[HU] using this
theorem aRX(n:Nat):HU (List.replicate n (sn)) (List.replicate n [])=List.replicate n (HP.own 3 1 (sn) 0 []):=by
 simp[HU,aM]
theorem Zx(W:List Int)(i:Nat)(v:Int):(aM W).set i (iv v)=aM (W.set i v):=by simp[aM,List.map_set]
theorem Zy{W:List Int}{i:Nat}{v:Int}(h:W[i]? =some v):(aM W)[i]? =some (iv v):=by simp[aM,h]
theorem aMM(n:Nat):List.replicate n (Value.int .i64 0)=aM (List.replicate n 0):=by simp[aM]
theorem aFH(W:List Int)(v:Int):aM W++[iv v]=aM (W++[v]):=by simp[aM]
theorem nH.of{q:Piece}{gU n:Nat}{vals:List Value}{U:List (List Int)}(h1:∃F,(HP.aE gU 22 vals).sat F q.w∧∀b,F b→q.Z b)(h2:∃F,(HP.many (HU vals U)).sat F q.w∧∀b,F b→q.Z b)(hv:vals.length=n)(hU:U.length=n):nH q (some ⟨gU,0,none⟩) n U:=by
 obtain⟨F1,s1,z1⟩:=h1;obtain⟨F2,⟨G,s2,g2,_⟩,z2⟩:=h2;refine⟨vals.map fun v=>[v],?_,hU.symm,?_⟩
 ·have key:∀(vals:List Value) (U:List (List Int)),vals.length=U.length→(∀(i:Nat) (v:Value) (l:List Int),vals[i]? =some v→U[i]? =some l→tG (fJ q) l [v])→Rows (tG (fJ q)) 1 U (vals.map fun v=>[v]):=by
   intro vals
   induction vals with
   | nil=>intro U h _;cases U with
    | nil=>trivial
    | cons=>simp at h
   | cons v vals ih=>intro U h hk;cases U with
    | nil=>simp at h
    | cons l U=>exact⟨rfl,hk 0 v l rfl rfl,ih U (by simpa using h) (fun i v l h1 h2=>hk (i+1) v l (by simpa using h1) (by simpa using h2))⟩
  refine key vals U (hv.trans hU.symm) fun i v l h1 h2=>?_;obtain⟨A,c,rfl,hs⟩:=zF (Y:=q.Z) (s2 i _ (aIx h1 h2)) (fun b hb=>z2 b (g2 i b hb));exact⟨A,l.length,c,rfl,rfl,hs⟩
 ·rw[show(vals.map fun v=>[v]).flatten=vals by clear s1 s2 hv;induction vals<;>simp_all];exact qR (c:=0) s1 z1 (by omega)
theorem aFN(v:Nat):∀(l:List Int) (s:List Int×List (List Int)×List Int),(l.foldl (hstep v) s).2.2.length≤s.2.2.length+l.length
 | [],s=>by simp
 | u::l,s=>by
  have:=aFN v l (hstep v s u)
  have h2:(hstep v s u).2.2.length≤s.2.2.length+1:=by rw[aFK];split<;>simp
  simp only[List.foldl_cons,List.length_cons];omega
theorem aNK{g:List (List Int)}(hg:xS g){k j:Nat}{l:List Int}(hl:g[k]? =some l){s:List Int×List (List Int)×List Int}(hs:s=(l.take j).foldl (hstep k) ((fW g k).1,(fW g k).2,[])):
  s.1.length=g.length∧s.2.1.length=g.length∧s.1[k]? =some (s.2.2.length:Int)∧s.2.2.length≤j∧∀(u:Nat) x,s.2.1[u]? =some x→x.length≤k+1:=by
 have hk:k < g.length:=(List.getElem?_eq_some_iff.1 hl).1
 have h1:=aCv k (l.take j) ((fW g k).1,(fW g k).2,[])
 have h2:=Pp g k
 have h3:=Vj hg k (by omega)
 have hmem:∀u∈l,0≤u∧u < g.length:=hg l (List.mem_of_getElem? hl)
 subst hs;refine⟨h1.1.trans h2.1,h1.2.trans h2.2,?_,?_,fun u x hx=>?_⟩
 ·exact aCu k _ _ (by rw[h2.1];exact hk) (by rw[h3.1 k hk];simp)
 ·have:=aFN k (l.take j) ((fW g k).1,(fW g k).2,[])
  simp only[List.length_nil,List.length_take] at this;omega
 ·have hu:u < g.length:=by
   have:=(List.getElem?_eq_some_iff.1 hx).1
   rw[h1.2,h2.2] at this;exact this
  have h4:=aCt k (l.take j) ((fW g k).1,(fW g k).2,[]) u (fun y hy=>by rw[h2.2];exact hmem y (List.mem_of_mem_take hy)) (by rw[h2.2];exact hu)
  rw[h4] at hx;cases hx;obtain⟨z,hz⟩:∃z,(fW g k).2[u]? =some z:=⟨_,List.getElem?_eq_getElem (by rw[h2.2];exact hu)⟩
  have h5:=aNJ hg (by omega:k≤g.length) hz
  simp only[hz,Option.getD_some,List.length_append];split<;>simp<;>omega
theorem aNH{g:List (List Int)}{k j:Nat}{l:List Int}{u:Int}(hu:l[j]? =some u)(s0:List Int×List (List Int)×List Int):(l.take (j+1)).foldl (hstep k) s0=hstep k ((l.take j).foldl (hstep k) s0) u:=by
 rw[List.take_add_one,hu,Option.toList_some,List.foldl_append];rfl
theorem aNG{g:List (List Int)}{k:Nat}{l:List Int}(hl:g[k]? =some l):fW g (k+1)=(((l.take l.length).foldl (hstep k) ((fW g k).1,(fW g k).2,[])).1,((l.take l.length).foldl (hstep k) ((fW g k).1,(fW g k).2,[])).2.1):=by
 rw[List.take_length,fW,hl];rfl
def aIv(g:List (List Int))(n:Nat)(v:Value)(hs:List HP)(q:Piece):Prop:=∃gW gU:Nat,v=.tuple #[.slice (some ⟨gW,0,none⟩) n n,.slice (some ⟨gU,0,none⟩) n n]∧hs=[HP.aE gW 3 (aM (fW g n).1)]∧nH q (some ⟨gU,0,none⟩) n (fW g n).2
theorem aNI(A:Option Addr)(n c:Nat)(g:List (List Int))(w:World)(hg:nH (all w) A n g)(hn:n=g.length)(hn2:n≤100)(hin:xS g)(hlen:∀l∈g,(l.length:Int)≤9223372036854775806):
  Cz 201 #[.slice A n c] w (fun y w'=>(∃v hs q,y=.returned v∧q.w=w'∧aIv g n v hs q∧gI w hs q)∧Below w.heap.size w w'):=by
 refine aN func201 ntmps201 ?_;refine aB ?_;refine lY 8 (el:=3) (z:=iv 0) (by kernel_rfl) (by kernel_rfl) rfl rfl rfl (by omega) (by omega) (by decide) fun gW=>?_;refine aB ?_;refine lY 24 (el:=22) (z:=sn) (by kernel_rfl) (by kernel_rfl) rfl rfl rfl (by omega) (by omega) (by decide) fun gU=>?_;refine aB ?_;refine bL [(17,iv 0),(16,iv n),(15,.slice A n c),(3,.slice (some ⟨gU,0,none⟩) n n),(2,.slice (some ⟨gW,0,none⟩) n n)] ?_;refine aRo n 3 1 ?_;refine aB ?_;refine eV (fun m e R H=>∃(k:Nat) (vals:List Value),k≤n∧m=n - k∧vals.length=n∧e=[(17,iv k),(16,iv n),(15,.slice A n c),(3,.slice (some ⟨gU,0,none⟩) n n),(2,.slice (some ⟨gW,0,none⟩) n n)]∧R=[all w]∧H=[HP.many (HU vals (fW g k).2),HP.aE gU 22 vals,HP.aE gW 3 (aM (fW g k).1)]) n ⟨0,List.replicate n (sn),by omega,rfl,by simp,rfl,rfl,by rw[fW,←hn,aRX,←aMM]⟩ fun m e R H hI=>?_;obtain⟨k,vals,hk,rfl,hv,rfl,rfl,rfl⟩:=hI;refine aB ?_;refine aG rfl (fun h=>?_) (fun h=>?_)
 ·
  refine aB ?_
  have hkn:k < n:=by omega
  obtain⟨l,hl⟩:∃l,g[k]? =some l:=⟨g[k]'(by omega),List.getElem?_eq_getElem _⟩
  obtain⟨b,off,B,c2,rfl,c1,lJ⟩:=hg.row hl
  have nW:=hlen l (List.mem_of_getElem? hl)
  have hmem:=hin l (List.mem_of_getElem? hl)
  refine aB ?_;refine Ya (by decide) fun r=>?_;refine aB ?_;refine bL [(25,iv 0),(24,iv l.length),(23,.slice B l.length c2),(6,.map (some r)),(4,iv k),(17,iv k),(16,iv n),(15,.slice (some ⟨b,off,none⟩) n c),(3,.slice (some ⟨gU,0,none⟩) n n),(2,.slice (some ⟨gW,0,none⟩) n n)] ?_;refine aB ?_;refine eV (fun m e R H=>∃(j:Nat) (vals:List Value) (s:List Int×List (List Int)×List Int),j≤l.length∧m=l.length - j∧vals.length=n∧s=(l.take j).foldl (hstep k) ((fW g k).1,(fW g k).2,[])∧e=[(25,iv j),(24,iv l.length),(23,.slice B l.length c2),(6,.map (some r)),(4,iv k),(17,iv k),(16,iv n),(15,.slice (some ⟨b,off,none⟩) n c),(3,.slice (some ⟨gU,0,none⟩) n n),(2,.slice (some ⟨gW,0,none⟩) n n)]∧R=[all w]∧H=[HP.map r (kZ s.2.2),HP.many (HU vals s.2.1),HP.aE gU 22 vals,HP.aE gW 3 (aM s.1)]) l.length ⟨0,vals,_,by omega,rfl,hv,rfl,rfl,rfl,rfl⟩ fun m e R H hI=>?_;obtain⟨j,vals,s,hj,rfl,hv,hs,rfl,rfl,rfl⟩:=hI;refine aB ?_;refine aG rfl (fun h=>?_) (fun h=>?_)
  ·
   refine aB ?_
   have hjl:j < l.length:=by omega
   obtain⟨b2,off2,rfl,oQ,nC⟩:=lJ.2 (by omega);obtain⟨u,hu⟩:∃u,l[j]? =some u:=⟨l[j]'(by omega),List.getElem?_eq_getElem _⟩
   have c3:fS w b2 (off2+j) (iv u):=⟨oQ,nC j _ (by simp[aM,hu])⟩
   obtain⟨hW,hU,hWk,hM,hUl⟩:=aNK hin hl hs;obtain⟨hu0,hun⟩:=hmem u (List.mem_of_getElem? hu);obtain⟨vu,hvu⟩:∃v,vals[u.toNat]? =some v:=⟨_,List.getElem?_eq_getElem (by omega)⟩
   obtain⟨Uu,hUu⟩:∃x,s.2.1[u.toNat]? =some x:=⟨_,List.getElem?_eq_getElem (by omega)⟩
   have aSt:=hUl _ _ hUu
   have Fk:=aNH (g:=g) (k:=k) hu ((fW g k).1,(fW g k).2,[])
   rw[←hs] at Fk;refine aB ?_;refine cZ (fun w1 st=>Zn r u s.2.2 w1 (st.map (i:=0) rfl)) ?_;refine aB ?_;refine pE rfl (fun h=>?_) (fun h=>?_)
   ·
    refine aB ?_;exact bL [(25,iv (j+1)),(24,iv l.length),(23,.slice (some ⟨b2,off2,none⟩) l.length c2),(6,.map (some r)),(4,iv k),(17,iv k),(16,iv n),(15,.slice (some ⟨b,off,none⟩) n c),(3,.slice (some ⟨gU,0,none⟩) n n),(2,.slice (some ⟨gW,0,none⟩) n n)] (gQ (l.length - (j+1)) (by omega) ⟨j+1,vals,_,by omega,rfl,hv,Fk.symm,rfl,rfl,by rw[hstep,if_pos h]⟩)
   ·
    refine aB ?_;refine Sd (f:=203) (fi:=[]) (ca:=[]) 0 (HP.map r (kZ (if s.2.2.contains u then s.2.2 else s.2.2++[u]))) (by kernel_rfl) rfl rfl rfl ⟨by decide,rfl⟩ (fun w1 F st hp hF=>Zo r u s.2.2 w1 F hp hF) ?_;dsimp only[List.set];refine fD ?_;refine eA ?_;refine fR ?_;refine dN rfl (by decide) ?_;refine dN rfl (by decide) ?_;refine kd (dat (k) (k)) ?_;refine kV (by kernel_rfl) rfl (Rd.aE 3 rfl (Zy hWk)) (by decide) ?_;refine Ei rfl rfl (iT (by omega)) (by decide) ?_;refine kd (dat (k) (k)) ?_;refine rT 3 rfl (by kernel_rfl) rfl rfl rfl (by simp[aM];omega) ?_;dsimp only[List.set];rw[Zx];refine fD ?_;refine fR ?_;refine dN rfl (by decide) ?_;refine dN rfl (by decide) ?_;refine dN rfl (by decide) ?_;refine dN rfl (by decide) ?_;refine kd (dat (u.toNat) (u.toNat)) ?_;refine kV (by kernel_rfl) rfl (Rd.aE 2 rfl hvu) (by decide) ?_;refine qM 1 u.toNat rfl (aIx hvu hUu) ?_;dsimp only[List.set];refine dN rfl (by decide) ?_;refine eK fun g3=>?_;refine iF 1 1 8 1 (n':=Uu.length+1) (el:=3) (by kernel_rfl) (by kernel_rfl) (by decide) rfl rfl rfl (mM 0 rfl rfl) (by simp[Value.oneCell']) rfl (by omega) (by omega) (by decide) fun A' k'=>?_;dsimp only[List.set];rw[aFH];refine kd (dat (u.toNat) (u.toNat)) ?_;refine rT 4 rfl (by kernel_rfl) rfl rfl rfl (by omega) ?_;dsimp only[List.set];refine aT [1,2,3,4,5] rfl (by decide) (fun _ hp=>hp) ?_;refine qO 1 u.toNat rfl (by rw[List.getElem?_set_self (by simp[HU];omega)]) ?_;dsimp only[List.set];rw[List.set_set,show Uu.length+1=(Uu++[(k:Int)]).length by simp,aIw];refine aB ?_;exact bL [(25,iv (j+1)),(24,iv l.length),(23,.slice (some ⟨b2,off2,none⟩) l.length c2),(6,.map (some r)),(4,iv k),(17,iv k),(16,iv n),(15,.slice (some ⟨b,off,none⟩) n c),(3,.slice (some ⟨gU,0,none⟩) n n),(2,.slice (some ⟨gW,0,none⟩) n n)] (gQ (l.length - (j+1)) (by omega) ⟨j+1,vals.set u.toNat (.slice A' (Uu++[(k:Int)]).length k'),_,by omega,rfl,by simpa using hv,Fk.symm,rfl,rfl,by rw[hstep,if_neg (by rw[h];decide),if_neg (by rw[h];decide),hWk,hUu];rfl⟩)
  ·
   refine aB ?_;obtain rfl:j=l.length:=by omega
   have hrw:=aNG hl
   rw[←hs] at hrw;refine aB ?_;exact aT [1,2,3] rfl (by decide) (by simp) (bL [(17,iv (k+1)),(16,iv n),(15,.slice (some ⟨b,off,none⟩) n c),(3,.slice (some ⟨gU,0,none⟩) n n),(2,.slice (some ⟨gW,0,none⟩) n n)] (gQ (n - (k+1)) (by omega) ⟨k+1,vals,by omega,rfl,hv,rfl,rfl,by rw[hrw]⟩))
 ·
  refine aB ?_;obtain rfl:k=n:=by omega
  have hUl:=(Pp g k).2
  refine aB ?_;refine dF [] [0,1] [2] (by simp) rfl (by decide) (by decide) fun q hq _ hfr=>?_;refine fQ rfl rfl rfl fun w1 st=>⟨⟨_,_,⟨w1,q.Z⟩,rfl,rfl,⟨gW,gU,rfl,rfl,?_⟩,st.newR (by simp) (by simp) (hfr (by simp) (by simp))⟩,st.below (by simp)⟩
  exact(nH.of (hq 1 _ (by simp) rfl) (hq 0 _ (by simp) rfl) hv (by omega)).le fun b hb=>⟨hb,st.ro (by simp) hb⟩
end
section
def dO(M:List Nat):List Int:=M.map Int.ofNat
def tT(g:List (List Int))(M:List Nat)(v:Nat):Bool:= !(M.contains v)&&(g[v]?.getD []).all fun u=>M.contains u.toNat
def uR(g:List (List Int))(M:List Nat)(v:Nat):Nat:=((Fv (g[v]?.getD [])).filter fun u=> !(M.contains u.toNat)).length
def vZ(g:List (List Int))(M:List Nat):List Int:=(List.range g.length).map fun v=>(uR g M v:Int)
def rG(W:List Int)(us:List Int):List Int:=us.foldl (fun W u=>W.set u.toNat (W[u.toNat]?.getD 0 - 1)) W
def mA(g:List (List Int))(v:Nat):List Int:=((List.range g.length).filter fun x=>(g[x]?.getD []).contains (v:Int)).map Int.ofNat
def fK(g:List (List Int)):Int×List Nat:=if pR g≠0 then(pR g,[]) else match sE g g.length [] with
 | some M=>(0,M)
 | none=>(5,[])
theorem aFv(M:List Nat)(v:Nat):(dO M).contains (v:Int)=M.contains v:=by
 rw[Bool.eq_iff_iff];simp only[dO,List.contains_iff_mem,List.mem_map];constructor
 ·rintro⟨a,h,e⟩
  have:a=v:=Int.ofNat.inj e
  exact this▸h
 ·exact fun h=>⟨v,h,rfl⟩
theorem aBT(M:List Nat)(v:Nat):dO (M++[v])=dO M++[(v:Int)]:=by simp[dO]
theorem Sf{g:List (List Int)}{M:List Nat}{v:Nat}(h:v < g.length):(vZ g M)[v]? =some (uR g M v:Int):=by simp[vZ,h]
theorem Nj(g:List (List Int))(M:List Nat):(vZ g M).length=g.length:=by simp[vZ]
theorem aCV(l:List Int):∀(a:List Int),(∀u,u∈l.foldl (fun a u=>if a.contains u then a else a++[u]) a↔u∈a∨u∈l)∧(a.Nodup→(l.foldl (fun a u=>if a.contains u then a else a++[u]) a).Nodup)∧(l.foldl (fun a u=>if a.contains u then a else a++[u]) a).length≤a.length+l.length:=by
 induction l with
 | nil=>intro a;simp
 | cons x l ih =>
  intro a;rw[List.foldl_cons];obtain⟨h1,h2,h3⟩:=ih (if a.contains x then a else a++[x]);refine⟨fun u=>?_,fun hn=>h2 ?_,?_⟩
  ·rw [h1];split
   ·rename_i hc
    have:x∈a:=by simpa using hc
    constructor
    ·rintro(h | h)
     ·exact .inl h
     ·exact .inr (by simp[h])
    ·rintro(h | h)
     ·exact .inl h
     ·rcases List.mem_cons.1 h with rfl | h
      ·exact .inl this
      ·exact .inr h
   ·simp[or_assoc]
  ·split
   ·exact hn
   ·rename_i hc
    have:x∉a:=by simpa using hc
    rw[List.nodup_append];refine⟨hn,by simp,fun y hy z hz=>?_⟩;simp at hz;subst hz;exact fun e=>this (e▸hy)
  ·refine Nat.le_trans h3 ?_;split<;>simp<;>omega
theorem aAw(l:List Int)(u:Int):u∈Fv l↔u∈l:=by have:=(aCV l []).1 u;simpa[Fv] using this
theorem aOH(l:List Int):(Fv l).Nodup:=(aCV l []).2.1 List.nodup_nil
theorem aOI(l:List Int):(Fv l).length≤l.length:=by have:=(aCV l []).2.2;simpa[Fv] using this
theorem aJo(g:List (List Int))(M:List Nat)(v:Nat):uR g M v≤(g[v]?.getD []).length:=Nat.le_trans (List.length_filter_le _ _) (aOI _)
theorem aEr(g:List (List Int))(M:List Nat)(v:Nat):uR g M v=0↔((g[v]?.getD []).all fun u=>M.contains u.toNat)=true:=by
 unfold uR;rw[List.length_eq_zero_iff,List.filter_eq_nil_iff,List.all_eq_true];constructor
 ·intro h u hu
  have:=h u ((aAw _ _).2 hu)
  simpa using this
 ·intro h u hu
  have:=h u ((aAw _ _).1 hu)
  simpa using this
theorem aBO{g:List (List Int)}{M:List Nat}{v:Nat}(h:M.contains v=true):tT g M v=false:=by rw[tT,h];rfl
theorem aLM{g:List (List Int)}{M:List Nat}{v:Nat}(h:(uR g M v:Int)>0):tT g M v=false:=by
 have:¬uR g M v=0:=by omega
 rw[aEr] at this;rw[tT];simp only[Bool.not_eq_true] at this;rw[this,Bool.and_false]
theorem aLN{g:List (List Int)}{M:List Nat}{v:Nat}(h:M.contains v=false)(h2:¬(uR g M v:Int)>0):tT g M v=true:=by
 have:uR g M v=0:=by omega
 rw[aEr] at this;rw[tT,h,this];rfl
theorem aLY{g:List (List Int)}{M:List Nat}(h:∀j,j < g.length→tT g M j=false):Hr g M=none:=by
 unfold Hr;rw[List.find?_eq_none];intro x hx
 have:=h x (by simpa using hx)
 unfold tT at this;rw[this];simp
theorem aFt{g:List (List Int)}{M:List Nat}{v:Nat}(hv:v < g.length)(h:∀j,j < v→tT g M j=false)(hk:tT g M v=true):Hr g M=some v:=by
 unfold Hr;rw[List.find?_range_eq_some];refine⟨hk,by simpa using hv,fun j hj=>?_⟩
 have:=h j hj
 unfold tT at this;rw[this];rfl
theorem aLD{g:List (List Int)}{M:List Nat}{v k:Nat}(h:Hr g M=some v):sE g (k+1) M=sE g k (M++[v]):=by rw[sE,h]
theorem aLC{g:List (List Int)}{M:List Nat}{k:Nat}(h:Hr g M=none):sE g (k+1) M=none:=by rw[sE,h]
theorem aDb:∀(us W:List Int),(rG W us).length=W.length
 | [],W=>rfl
 | u::us,W=>by rw[rG,List.foldl_cons];have:=aDb us (W.set u.toNat (W[u.toNat]?.getD 0 - 1));rw[rG] at this;rw[this];simp
theorem aP2{us W:List Int}{j:Nat}{u:Int}(h:us[j]? =some u):rG W (us.take (j+1))=(rG W (us.take j)).set u.toNat ((rG W (us.take j))[u.toNat]?.getD 0 - 1):=by
 rw[List.take_add_one,h,Option.toList_some,rG,List.foldl_append];rfl
theorem aDc:∀(us W:List Int) (x:Nat),(∀u∈us,0≤u)→x < W.length→(rG W us)[x]? =some (W[x]?.getD 0 - (us.count (x:Int):Int))
 | [],W,x,_,h=>by simp[rG,h]
 | u :: us, W, x, hu, h => by
  rw[rG,List.foldl_cons]
  have:=aDc us (W.set u.toNat (W[u.toNat]?.getD 0 - 1)) x (fun y hy=>hu y (by simp[hy])) (by simpa using h)
  rw[rG] at this;rw[this]
  have h0:=hu u (by simp)
  congr 1
  by_cases e:u=(x:Int)
  ·subst e
   have e2:((x:Int)).toNat=x:=by simp
   rw[e2,List.getElem?_set_self h,List.count_cons_self];simp only[Option.getD_some];omega
  ·have e2:u.toNat≠x:=by omega
   rw[List.getElem?_set_ne e2,List.count_cons_of_ne e]
theorem aBs{g:List (List Int)}{v:Nat}{u:Int}(h:u∈mA g v):0≤u∧u < g.length:=by
 simp only[mA,List.mem_map,List.mem_filter,List.mem_range] at h;obtain⟨a,⟨h1,_⟩,rfl⟩:=h;simp;omega
theorem aJu(g:List (List Int))(v:Nat):(mA g v).length≤g.length:=by
 rw[mA,List.length_map]
 have:=List.length_filter_le (fun x=>(g[x]?.getD []).contains (v:Int)) (List.range g.length)
 simpa using this
theorem aJv{g:List (List Int)}{v x:Nat}(hx:x < g.length):(mA g v).count (x:Int)=if(g[x]?.getD []).contains (v:Int) then 1 else 0:=by
 have hnd:(mA g v).Nodup:=List.Pairwise.map _ (fun a b h e=>h (Int.ofNat.inj e)) (List.Pairwise.filter _ List.nodup_range)
 rw[List.Nodup.count hnd]
 have:((x:Int)∈mA g v)↔(g[x]?.getD []).contains (v:Int)=true:=by
  simp only[mA,List.mem_map,List.mem_filter,List.mem_range];constructor
  ·rintro⟨a,⟨_,h⟩,e⟩
   have:a=x:=Int.ofNat.inj e
   exact this▸h
  ·intro h;exact⟨x,⟨hx,h⟩,rfl⟩
 by_cases h:(g[x]?.getD []).contains (v:Int)=true
 ·rw[if_pos (this.2 h),if_pos h]
 ·rw[if_neg (fun e=>h (this.1 e)),if_neg h]
theorem filter_one{l:List Int}(hn:l.Nodup){p q:Int→Bool}{a:Int}(ha:p a=true)(hq:∀u∈l,q u=(p u&&decide (u≠a))):(l.filter p).length=(l.filter q).length+if l.contains a then 1 else 0:=by
 induction l with
 | nil=>simp
 | cons x l ih =>
  have hn':=List.nodup_cons.1 hn
  have ih:=ih hn'.2 (fun u hu=>hq u (by simp[hu]))
  have hx:=hq x (by simp)
  by_cases e:x=a
  ·subst e
   have hc:¬l.contains x=true:=by simpa using hn'.1
   rw[if_neg hc] at ih
   have nC:(x::l).contains x=true:=by simp
   rw[if_pos nC,List.filter_cons_of_pos ha,List.filter_cons_of_neg (by rw[hx];simp),List.length_cons,ih]
  ·have hc:(x::l).contains a=l.contains a:=by
    rw[List.contains_cons]
    have:(a==x)=false:=by simp;exact fun h=>e h.symm
    rw[this,Bool.false_or]
   rw[hc]
   by_cases hp:p x=true
   ·rw[List.filter_cons_of_pos hp,List.filter_cons_of_pos (by rw[hx,hp];simp[e]),List.length_cons,List.length_cons,ih];omega
   ·rw[List.filter_cons_of_neg hp,List.filter_cons_of_neg (by rw[hx];simp[hp]),ih]
theorem aJn{g:List (List Int)}(hg:xS g){M:List Nat}{v x:Nat}(hv:M.contains v=false)(hx:x < g.length):(uR g M x:Int) - (if(g[x]?.getD []).contains (v:Int) then 1 else 0)=uR g (M++[v]) x:=by
 have hin:∀u∈g[x]?.getD [],0≤u:=fun u hu=>by
  have h1:g[x]? =some (g[x]'hx):=List.getElem?_eq_getElem _
  rw[h1] at hu;exact(hg _ (List.getElem_mem _) u hu).1
 have key:=filter_one (aOH (g[x]?.getD [])) (p:=fun u=> !(M.contains u.toNat)) (q:=fun u=> !((M++[v]).contains u.toNat)) (a:=(v:Int)) (by simp only[Int.toNat_natCast];rw[hv];rfl) (fun u hu=>by
  have h0:=hin u ((aAw _ _).1 hu)
  have hiff:(u.toNat=v)↔u=(v:Int):=by omega
  simp only[List.contains_eq_mem,List.mem_append,List.mem_singleton,hiff,Bool.decide_or,Bool.not_or,decide_not])
 have hc:(Fv (g[x]?.getD [])).contains (v:Int)=(g[x]?.getD []).contains (v:Int):=by
  rw[Bool.eq_iff_iff];simp only[List.contains_iff_mem];exact aAw _ _
 rw[hc] at key;unfold uR;rw[key];split<;>omega
theorem aJl{g:List (List Int)}(hg:xS g){M:List Nat}{v:Nat}(hv:M.contains v=false):rG (vZ g M) (mA g v)=vZ g (M++[v]):=by
 apply List.ext_getElem?;intro x;rcases Nat.lt_or_ge x g.length with hx | hx
 ·rw[aDc _ _ _ (fun u hu=>(aBs hu).1) (by rw[Nj];exact hx),Sf hx,Sf hx,aJv hx]
  congr 1
  have:=aJn hg hv hx
  simp only[Option.getD_some];rw[←this];split<;>rfl
 ·rw[List.getElem?_eq_none (by rw[aDb,Nj];exact hx),List.getElem?_eq_none (by rw[Nj];exact hx)]
theorem aJk{g:List (List Int)}(hg:xS g):(fW g g.length).1=vZ g []:=by
 apply List.ext_getElem?;intro x;rcases Nat.lt_or_ge x g.length with hx | hx
 ·rw[(Vj hg g.length (Nat.le_refl _)).1 x hx,Sf hx,if_pos hx]
  congr 2
  unfold uR;rw[List.filter_eq_self.2 (by simp)]
 ·rw[List.getElem?_eq_none (by rw[(Pp g _).1];exact hx),List.getElem?_eq_none (by rw[Nj];exact hx)]
theorem aJt{g:List (List Int)}(hg:xS g){v:Nat}(hv:v < g.length):(fW g g.length).2[v]? =some (mA g v):=(Vj hg g.length (Nat.le_refl _)).2 v hv
end
section
theorem aJm(W us:List Int)(j:Nat)(u x:Int)(hj:us[j]? =some u)(hx:(rG W (us.take j))[u.toNat]? =some x):(aM (rG W (us.take j))).set u.toNat (iv (x - 1))=aM (rG W (us.take (j+1))):=by
 rw[Zx,aP2 hj,hx];rfl
theorem aLG{g:List (List Int)}(h:pR g≠0):fK g=(pR g,[]):=by unfold fK;rw[if_pos h]
theorem aLF{g:List (List Int)}(h0:pR g=0)(h:sE g g.length []=none):fK g=(5,[]):=by unfold fK;rw[if_neg (by simp[h0]),h]
theorem aLE{g:List (List Int)}{M:List Nat}(h0:pR g=0)(h:sE g g.length []=some M):fK g=(0,M):=by unfold fK;rw[if_neg (by simp[h0]),h]
theorem aLS{g:List (List Int)}(h:pR g=0):g.length≤100∧xS g:=by
 unfold pR at h;split at h
 ·cases h
 ·split at h
  ·cases h
  ·rename_i h1 h2;exact⟨by omega,xS.of (by simpa using h2)⟩
def Mu(w:World)(M:List Nat)(err:Int)(y:Ending)(w':World):Prop:=(∃A m c,y=.returned (.tuple #[.slice A m c,iv err])∧m=M.length∧aI (fresh w w') 1 A m (aM (dO M)))∧Below w.heap.size w w'
theorem Mu.nil{w w':World}{err:Int}(h:Below w.heap.size w w'):Mu w [] err (.returned (.tuple #[sn,iv err])) w':=⟨⟨none,0,0,rfl,rfl,aI.nil _ 1⟩,h⟩
theorem Ze(A:Option Addr)(n c:Nat)(g:List (List Int))(w:World)(hg:nH (all w) A n g)(hn:n=g.length)(hn2:(n:Int)≤9223372036854775806)(hlen:∀l∈g,(l.length:Int)≤9223372036854775806):
  Cz 168 #[.slice A n c] w (Mu w (fK g).2 (fK g).1):=by
 refine aN func168 ntmps168 ?_;refine aB ?_;refine cZ (fun w1 st=>aLT A n c g w1 (hg.le (kT (st.started (by simp)))) hn hn2 hlen) ?_;refine aB ?_;refine aG rfl (fun h=>?_) (fun h=>?_)
 ·
  refine aB ?_
  exact fQ rfl rfl rfl fun w1 st=>by
   rw[aLG h];exact Mu.nil (st.below (by simp))
 ·
  have h0:pR g=0:=Classical.byContradiction h
  obtain⟨aSh,hin⟩:=aLS h0;refine aB ?_;refine eX (aIv g n) (fun w1 st=>aNI A n c g w1 (hg.le (kT (st.started (by simp)))) hn (by omega) hin hlen) ?_;rintro _ _ q ⟨gW,gU,rfl,rfl,hq⟩ De;refine aB ?_;refine Ya (by decide) fun r=>?_;refine aB ?_;refine lU 3 1 ?_;refine bL [(8,sn),(7,.map (some r)),(6,.slice (some ⟨gU,0,none⟩) n n),(5,.slice (some ⟨gW,0,none⟩) n n),(0,.slice A n c)] ?_;refine aB ?_;refine eV (fun m e R H=>∃(M:List Nat) (A':Option Addr) (c':Nat),M.length≤n∧m=n - M.length∧sE g (n - M.length) M=sE g g.length []∧e=[(8,.slice A' M.length c'),(7,.map (some r)),(6,.slice (some ⟨gU,0,none⟩) n n),(5,.slice (some ⟨gW,0,none⟩) n n),(0,.slice A n c)]∧R=[q,all w]∧H=[HP.own 3 1 (.slice A' M.length c') M.length (aM (dO M)),HP.map r (kZ (dO M)),HP.aE gW 3 (aM (vZ g M))]) n ⟨[],none,0,by simp,rfl,by rw[hn];rfl,rfl,rfl,by rw[hn,aJk hin];rfl⟩ fun m e R H hI=>?_;obtain⟨M,A',c',hM,rfl,Ld,rfl,rfl,rfl⟩:=hI;refine aB ?_;refine aG rfl (fun h=>?_) (fun h=>?_)
  ·
   refine oA ?_;refine eB ?_;refine xN ?_;refine eA ?_;refine fR ?_;refine jM rfl (by decide) ?_;refine fD ?_;refine Rj (fun e R H=>∃v:Nat,v≤n∧(∀j,j < v→tT g M j=false)∧(v < n→tT g M v=true)∧e=[(9,iv v),(8,.slice A' M.length c'),(7,.map (some r)),(6,.slice (some ⟨gU,0,none⟩) n n),(5,.slice (some ⟨gW,0,none⟩) n n),(0,.slice A n c)]∧R=[q,all w]∧H=[HP.own 3 1 (.slice A' M.length c') M.length (aM (dO M)),HP.map r (kZ (dO M)),HP.aE gW 3 (aM (vZ g M))]) ?_ ?_
   ·
    refine bL [(9,iv 0),(8,.slice A' M.length c'),(7,.map (some r)),(6,.slice (some ⟨gU,0,none⟩) n n),(5,.slice (some ⟨gW,0,none⟩) n n),(0,.slice A n c)] ?_;refine aB ?_;refine eV (fun m e R H=>∃v:Nat,v≤n∧m=n - v∧(∀j,j < v→tT g M j=false)∧e=[(9,iv v),(8,.slice A' M.length c'),(7,.map (some r)),(6,.slice (some ⟨gU,0,none⟩) n n),(5,.slice (some ⟨gW,0,none⟩) n n),(0,.slice A n c)]∧R=[q,all w]∧H=[HP.own 3 1 (.slice A' M.length c') M.length (aM (dO M)),HP.map r (kZ (dO M)),HP.aE gW 3 (aM (vZ g M))]) n ⟨0,by omega,rfl,fun j h=>absurd h (by omega),rfl,rfl,rfl⟩ fun m e R H hI=>?_;obtain⟨v,hv,rfl,hno,rfl,rfl,rfl⟩:=hI;refine aB ?_;refine bT (t:=32) rfl (fun hlt=>?_) (fun hlt=>?_)
    ·
     refine aB ?_;refine cZ (fun w1 st=>(aFv M v)▸Zn r v (dO M) w1 (st.map (i:=1) rfl)) ?_;refine aB ?_;refine qD (t:=36) rfl (fun hc=>?_) (fun hc=>?_)
     ·
      refine aB ?_;exact eP (n - (v+1)) ⟨v+1,by omega,rfl,aAD hno (aBO hc),rfl,rfl,rfl⟩
     ·
      refine jA rfl rfl ?_;refine dN rfl (by decide) ?_;refine jA rfl rfl ?_;refine dN rfl (by decide) ?_
      have hvn:v < g.length:=by omega
      refine jA rfl rfl ?_;refine kd (dat (v) (v)) ?_;refine jA rfl rfl ?_;refine kV (by kernel_rfl) rfl (Rd.aE 2 rfl (Zy (Sf hvn))) (by decide) ?_;refine jA rfl rfl ?_;refine aIP rfl rfl (by decide) ?_;refine jA rfl rfl ?_;(first | refine rX rfl rfl (by decide) ?_ | refine rY rfl rfl (by decide) ?_)
      (first | refine rX rfl rfl (by decide) ?_ | refine rY rfl rfl (by decide) ?_)
      refine fD ?_;refine aG rfl (fun h=>?_) (fun h=>?_)
      ·
       refine aB ?_;exact eP (n - (v+1)) ⟨v+1,by omega,rfl,aAD hno (aLM h),rfl,rfl,rfl⟩
      ·
       refine aB ?_;exact nR ⟨v,hv,hno,fun _=>aLN hc h,rfl,rfl,rfl⟩
    ·
     refine aB ?_;exact nR ⟨v,hv,hno,fun h=>absurd h (by omega),rfl,rfl,rfl⟩
   rintro _ _ _ ⟨v,hv,hno,hok,rfl,rfl,rfl⟩;refine aB ?_;refine aG rfl (fun h=>?_) (fun h=>?_)
   ·
    refine aB ?_
    exact fQ rfl rfl rfl fun w1 st=>by
     have hnone:sE g g.length []=none:=by
      rw[←Ld,show n - M.length=(n - M.length - 1)+1 by omega];exact aLC (aLY fun j hj=>hno j (by omega))
     rw[aLF h0 hnone];exact Mu.nil (st.below (by simp))
   ·
    have hvn:v < n:=by omega
    have hv1:=hok hvn
    have hMv:M.contains v=false:=by
     cases hb:M.contains v with
     | false=>rfl
     | true=>rw[aBO hb] at hv1;cases hv1
    have Fk:=aFt (by omega:v < g.length) hno hv1
    have hU:=aJt hin (by omega:v < g.length)
    rw[←hn] at hU;obtain⟨b1,o1,B1,d1,hA1,mE,aN8,hs1⟩:=hq.tP hU;cases hA1
    have Ow:=aJu g v
    refine aB ?_;refine Sd (f:=203) (fi:=[]) (ca:=[]) 1 (HP.map r (kZ (if(dO M).contains (v:Int) then dO M else dO M++[(v:Int)]))) (by kernel_rfl) rfl rfl rfl ⟨by decide,rfl⟩ (fun w1 F st hp hF=>Zo r v (dO M) w1 F hp hF) ?_;dsimp only[List.set];rw[if_neg (by rw[aFv,hMv];decide),←aBT];refine aB ?_;refine eK fun g1=>?_;refine iF 1 1 8 1 (n':=(M++[v]).length) (el:=3) (by kernel_rfl) (by kernel_rfl) (by decide) rfl rfl rfl (mM 0 rfl rfl) (by simp[Value.oneCell']) (by simp) (by simp;omega) (by simp;omega) (by decide) fun A2 c2=>?_;dsimp only[List.set];rw[aFH,←aBT];refine jM rfl (by decide) ?_;refine fD ?_;refine eA ?_;refine fR ?_;refine dN rfl (by decide) ?_;refine dN rfl (by decide) ?_;refine kd (dat (v) (v)) ?_;refine kV (by kernel_rfl) rfl (Rd.ro (p:=q) (by simp) mE (by simpa using aN8)) (by decide) ?_;refine Js (el:=3) (by kernel_rfl) rfl (by decide) ?_;refine dN rfl (by decide) ?_;refine fD ?_;refine aT [1,2,3] rfl (by decide) (fun _ hp=>hp) ?_;refine bL [(62,iv 0),(61,iv (mA g v).length),(60,.slice B1 (mA g v).length d1),(8,.slice A2 (M++[v]).length c2),(7,.map (some r)),(6,.slice (some ⟨gU,0,none⟩) n n),(5,.slice (some ⟨gW,0,none⟩) n n),(0,.slice A n c)] ?_;refine aA ?_;refine eV (fun m e R H=>∃j:Nat,j≤(mA g v).length∧m=(mA g v).length - j∧e=[(62,iv j),(61,iv (mA g v).length),(60,.slice B1 (mA g v).length d1),(8,.slice A2 (M++[v]).length c2),(7,.map (some r)),(6,.slice (some ⟨gU,0,none⟩) n n),(5,.slice (some ⟨gW,0,none⟩) n n),(0,.slice A n c)]∧R=[q,all w]∧H=[HP.own 3 1 (.slice A2 (M++[v]).length c2) (M++[v]).length (aM (dO (M++[v]))),HP.map r (kZ (dO (M++[v]))),HP.aE gW 3 (aM (rG (vZ g M) ((mA g v).take j)))]) (mA g v).length ⟨0,by omega,rfl,rfl,rfl,rfl⟩ fun m e R H hI=>?_;obtain⟨j,hj,rfl,rfl,rfl,rfl⟩:=hI;refine aB ?_;refine aG rfl (fun h=>?_) (fun h=>?_)
    ·
     refine oA ?_;refine eB ?_;refine eA ?_;refine xN ?_;refine eA ?_
     have hjl:j < (mA g v).length:=by omega
     obtain⟨b2,off2,rfl,oQ,nC⟩:=hs1.2 (by omega);obtain⟨u,hu⟩:∃u,(mA g v)[j]? =some u:=⟨_,List.getElem?_eq_getElem hjl⟩
     have c3:=nC j _ (Zy hu)
     obtain⟨hu0,hun⟩:=aBs (List.mem_of_getElem? hu)
     have hug:u.toNat < g.length:=by omega
     have hx:=aDc ((mA g v).take j) (vZ g M) u.toNat (fun y hy=>(aBs (List.mem_of_mem_take hy)).1) (by rw[Nj];exact hug)
     rw[Sf hug] at hx
     have aSp:((mA g v).take j).count ((u.toNat:Nat):Int)≤j:=Nat.le_trans List.count_le_length (by simp;omega)
     obtain⟨x,hxe⟩:∃x:Int,x=(some (uR g M u.toNat:Int)).getD 0 - (((mA g v).take j).count ((u.toNat:Nat):Int):Int):=⟨_,rfl⟩
     rw[←hxe] at hx
     have wR:=aJo g M u.toNat
     have oJ:((g[u.toNat]?.getD []).length:Int)≤9223372036854775806:=by
      rw[List.getElem?_eq_getElem hug];exact hlen _ (List.getElem_mem _)
     simp only[Option.getD_some] at hxe;refine fR ?_;refine kd (dat (j) (off2+j)) ?_;refine kV (by kernel_rfl) rfl (Rd.ro (p:=q) (by simp) oQ c3) (by decide) ?_;refine jM rfl (by decide) ?_;refine fD ?_;refine fR ?_;refine dN rfl (by decide) ?_;refine dN rfl (by decide) ?_;refine kd (dat (u.toNat) (u.toNat)) ?_;refine kV (by kernel_rfl) rfl (Rd.aE 2 rfl (Zy hx)) (by decide) ?_;refine Xz rfl rfl (iT (by omega)) (by decide) ?_;refine kd (dat (u.toNat) (u.toNat)) ?_;refine rT 2 rfl (by kernel_rfl) rfl rfl rfl (by rw[show(aM (rG (vZ g M) ((mA g v).take j))).length=g.length by simp[aM,aDb,Nj]];exact hug) ?_;dsimp only[List.set];rw[aJm _ _ j u x hu hx];refine aB ?_;exact eP ((mA g v).length - (j+1)) ⟨j+1,by omega,rfl,rfl,rfl,rfl⟩
    ·
     refine aB ?_;exact bL [(8,.slice A2 (M++[v]).length c2),(7,.map (some r)),(6,.slice (some ⟨gU,0,none⟩) n n),(5,.slice (some ⟨gW,0,none⟩) n n),(0,.slice A n c)] (gQ (n - (M++[v]).length) (by simp;omega) ⟨M++[v],A2,c2,(by simp;omega),rfl,by rw[←Ld,show n - M.length=(n - (M++[v]).length)+1 by simp;omega,aLD Fk],rfl,rfl,by rw[show j=(mA g v).length by omega,List.take_length,aJl hin hMv]⟩)
  ·
   refine aB ?_;refine dF [] [0] [] (by simp) rfl (by decide) (by decide) fun p hp _ hfr=>?_;refine fQ rfl rfl rfl fun w1 st=>?_
   have hsome:sE g g.length []=some M:=by rw[←Ld,show n - M.length=0 by omega];rfl
   rw[aLE h0 hsome];exact⟨⟨_,_,_,rfl,rfl,(aI.own (hp 0 _ (by simp) rfl)).le (st.mT (by simp) (hfr (by simp) (by simp)))⟩,st.below (by simp)⟩
end
section
theorem Nd{es:List Int}{k:Nat}(hz:∀j,j < k→es[j]? =some 0)(h:es[k]? =some 0):∀j,j < k+1→es[j]? =some 0:=fun j hj=>by
 rcases Nat.lt_or_ge j k with h1 | h1
 ·exact hz j h1
 ·have:j=k:=by omega
  rw[this];exact h
theorem uQ(b:Bool)(e:Int)(w:World):
  Cz 111 #[.bool b,iv e] w (Rt (iv (iO b e)) w):=by
 refine aN func111 ntmps111 ?_;refine aB ?_;refine pE rfl (fun h=>?_) (fun h=>?_)
 ·
  refine aB ?_;exact aP (h:=fun _ _=>by simp[iO,h])
 ·
  refine aB ?_;exact aP (h:=fun _ _=>by simp[iO,h])
theorem tL(n lo hi:Int)(w:World):
  Cz 117 #[iv n,iv lo,iv hi] w (Rt (.bool (iK n lo hi)) w):=by
 refine aN func117 ntmps117 ?_;refine aB ?_;refine bT (t:=10) rfl (fun hg=>?_) (fun hg=>?_)
 ·
  refine aB ?_;exact aP (h:=fun _ _=>by simp[iK,hg])
 ·
  refine aB ?_;exact aP (h:=fun _ _=>by simp[iK,hg])
theorem aAs(A:Option Addr)(n c:Nat)(fs:List (FuncId×List Value))(es:List Int)(w:World)(hs:aI (all w) 1 A n (fs.map fun f=>.func (.func f.1) #[] f.2.toArray))(hn:fs.length=n)(hl:es.length=n)(hn2:(n:Int)≤9223372036854775806)(hc:∀f∈fs,eY Tryz.prog f.1=true)
  (hf:∀(i:Nat) (f:FuncId×List Value) (e:Int),fs[i]? =some f→es[i]? =some e→∀w',Below w.heap.size w w'→Cz f.1 f.2.toArray w' (Rt (iv e) w')):
  Cz 53 #[.slice A n c] w (Rt (iv (kH es)) w):=by
 refine aN func53 ntmps53 ?_;refine aB ?_;refine bL [(8,iv 0),(7,iv n),(6,.slice A n c)] ?_;refine aB ?_;refine eV (fun m e R H=>∃k:Nat,k≤n∧m=n - k∧(∀j,j < k→es[j]? =some 0)∧e=[(8,iv k),(7,iv n),(6,.slice A n c)]∧R=[all w]∧H=[]) n ⟨0,by omega,rfl,fun j hj=>absurd hj (by omega),rfl,rfl,rfl⟩ fun m e R H hI=>?_;obtain⟨k,hk,rfl,hz,rfl,rfl,rfl⟩:=hI;refine aB ?_;refine aG rfl (fun h=>?_) (fun h=>?_)
 ·
  refine aB ?_
  have hkn:k < n:=by omega
  obtain⟨f,gH⟩:∃f,fs[k]? =some f:=⟨fs[k]'(by omega),List.getElem?_eq_getElem _⟩
  obtain⟨e1,gO⟩:∃e,es[k]? =some e:=⟨es[k]'(by omega),List.getElem?_eq_getElem _⟩
  obtain⟨b,off,rfl,fG,Po⟩:=hs.2 (by omega)
  have c1:fS w b (off+k) (.func (.func f.1) #[] f.2.toArray):=⟨fG,Po k _ (by simp[gH])⟩
  refine aB ?_;refine xZ (f:=f.1) (fi:=[]) (ca:=f.2) (hc f (List.mem_of_getElem? gH)) rfl rfl (by decide) (fun w1 st=>by have:=hf k f e1 gH gO w1 (st.started (by simp));simpa using this) ?_;refine aB ?_;refine aG rfl (fun h=>?_) (fun h=>?_)
  ·
   refine aB ?_;exact aP (h:=fun _ _=>by rw[Lv hz gO h])
  ·
   refine aB ?_;exact eP (n - (k+1)) ⟨k+1,by omega,rfl,(Nd hz (by rw[gO,show e1=0 by omega])),rfl,rfl,rfl⟩
 ·
  refine aB ?_;exact aP (h:=fun _ _=>by rw[Io (fun j hj=>hz j (by omega))])
theorem aGE(A:Option Addr)(n c:Nat)(id:FuncId)(ca:List Value)(rows:List (List Value))(es:List Int)(w:World)(hs:aI (all w) 1 A n rows.flatten)(hr:∀r∈rows,r.length=1)(hn:rows.length=n)(hl:es.length=n)(hn2:(n:Int)≤9223372036854775806)(hc:eY Tryz.prog id=true)
  (hf:∀(i:Nat) (r:List Value) (e:Int),rows[i]? =some r→es[i]? =some e→∀w',Below w.heap.size w w'→Cz id (r++ca).toArray w' (Rt (iv e) w')):
  Cz 115 #[.slice A n c,.func (.func id) #[] ca.toArray] w (Rt (iv (kH es)) w):=by
 refine aN func115 ntmps115 ?_;refine aA ?_;refine bL [(10,iv 0),(9,iv n),(8,.slice A n c),(1,.func (.func id) #[] ca.toArray)] ?_;refine aA ?_;refine eV (fun m e R H=>∃k:Nat,k≤n∧m=n - k∧(∀j,j < k→es[j]? =some 0)∧e=[(10,iv k),(9,iv n),(8,.slice A n c),(1,.func (.func id) #[] ca.toArray)]∧R=[all w]∧H=[]) n ⟨0,by omega,rfl,fun j hj=>absurd hj (by omega),rfl,rfl,rfl⟩ fun m e R H hI=>?_;obtain⟨k,hk,rfl,hz,rfl,rfl,rfl⟩:=hI;refine aA ?_;refine aG rfl (fun h=>?_) (fun h=>?_)
 ·
  refine aA ?_
  have hkn:k < n:=by omega
  obtain⟨r,dQ⟩:∃r,rows[k]? =some r:=⟨rows[k]'(by omega),List.getElem?_eq_getElem _⟩
  obtain⟨e1,gO⟩:∃e,es[k]? =some e:=⟨es[k]'(by omega),List.getElem?_eq_getElem _⟩
  obtain⟨b,off,rfl,c1⟩:=hs.row hr dQ hkn
  have fV:=hr r (List.mem_of_getElem? dQ)
  obtain⟨v,rfl⟩:∃v,r=[v]:=by match r,fV with | [v],_=>exact⟨v,rfl⟩
  have c2:=c1.at_ (j:=0) rfl
  refine aA ?_;refine kd (dat (k) (off+k*1)) ?_;refine aA ?_;refine xZ (f:=id) (fi:=[]) (ca:=ca) hc rfl rfl (by decide) (fun w1 st=>by have:=hf k [v] e1 dQ gO w1 (st.started (by simp));simpa using this) ?_;refine aA ?_;refine aG rfl (fun h=>?_) (fun h=>?_)
  ·
   refine aA ?_;exact aP (h:=fun _ _=>by rw[Lv hz gO h])
  ·
   refine aA ?_;exact eP (n - (k+1)) ⟨k+1,by omega,rfl,(Nd hz (by rw[gO,show e1=0 by omega])),rfl,rfl,rfl⟩
 ·
  refine aA ?_;exact aP (h:=fun _ _=>by rw[Io (fun j hj=>hz j (by omega))])
theorem aOC(A:Option Addr)(n c:Nat)(id:FuncId)(ca:List Value)(rows:List (List Value))(es:List Int)(w:World)(hs:aI (all w) 6 A n rows.flatten)(hr:∀r∈rows,r.length=6)(hone:∀r∈rows,∀u∈r,u.oneCell'=true)(hn:rows.length=n)(hl:es.length=n)(hn2:(n:Int)≤9223372036854775806)(hc:eY Tryz.prog id=true)
  (hf:∀(i:Nat) (r:List Value) (e:Int),rows[i]? =some r→es[i]? =some e→∀w',Below w.heap.size w w'→Cz id ([Value.agg r.toArray]++ca).toArray w' (Rt (iv e) w')):
  Cz 57 #[.slice A n c,.func (.func id) #[] ca.toArray] w (Rt (iv (kH es)) w):=by
 refine aN func57 ntmps57 ?_;refine aB ?_;refine bL [(10,iv 0),(9,iv n),(8,.slice A n c),(1,.func (.func id) #[] ca.toArray)] ?_;refine aB ?_;refine eV (fun m e R H=>∃k:Nat,k≤n∧m=n - k∧(∀j,j < k→es[j]? =some 0)∧e=[(10,iv k),(9,iv n),(8,.slice A n c),(1,.func (.func id) #[] ca.toArray)]∧R=[all w]∧H=[]) n ⟨0,by omega,rfl,fun j hj=>absurd hj (by omega),rfl,rfl,rfl⟩ fun m e R H hI=>?_;obtain⟨k,hk,rfl,hz,rfl,rfl,rfl⟩:=hI;refine aB ?_;refine aG rfl (fun h=>?_) (fun h=>?_)
 ·
  refine oA ?_;refine eB ?_;refine eA ?_;refine xN ?_;refine eA ?_
  have hkn:k < n:=by omega
  obtain⟨r,dQ⟩:∃r,rows[k]? =some r:=⟨rows[k]'(by omega),List.getElem?_eq_getElem _⟩
  obtain⟨e1,gO⟩:∃e,es[k]? =some e:=⟨es[k]'(by omega),List.getElem?_eq_getElem _⟩
  obtain⟨b,off,rfl,c1⟩:=hs.row hr dQ hkn
  have fV:=hr r (List.mem_of_getElem? dQ)
  refine fR ?_;refine kd (dat (k) (off+k*6)) ?_;refine xX 6 (by kernel_rfl) rfl (by first | assumption | exact aO.whole 0 rfl | exact aO.whole 1 rfl | exact aO.whole 2 rfl | exact aO.whole 3 rfl | exact aO.whole 4 rfl | exact aO.whole 5 rfl | exact aO.whole 6 rfl | exact aO.whole 7 rfl | exact aO.whole 8 rfl | exact xQ (by simp) (by assumption)) fV (by decide) ?_;refine bX fun g1=>?_;refine qC 0 rfl rfl rfl (by rw[show(Value.agg r.toArray).cells.size=6 by simp[Value.cells,fV]];kernel_rfl) (hone r (List.mem_of_getElem? dQ)) (by simp[Value.cells,fV]) ?_;rw[Tm (by simp[Value.cells,fV])];dsimp only[List.set,Value.cells];refine fD ?_;refine eA ?_;refine fR ?_;refine dN rfl (by decide) ?_;refine xX 6 (by kernel_rfl) rfl (by first | assumption | exact aO.whole 0 rfl | exact aO.whole 1 rfl | exact aO.whole 2 rfl | exact aO.whole 3 rfl | exact aO.whole 4 rfl | exact aO.whole 5 rfl | exact aO.whole 6 rfl | exact aO.whole 7 rfl | exact aO.whole 8 rfl | exact xQ (by simp) (by assumption)) fV (by decide) ?_;refine xZ (f:=id) (fi:=[]) (ca:=ca) hc rfl rfl (by decide) (fun w1 st=>by have:=hf k r e1 dQ gO w1 (st.started (by simp));simpa using this) ?_;refine aB ?_;refine aG rfl (fun h=>?_) (fun h=>?_)
  ·
   refine aB ?_;exact aP (h:=fun _ _=>by rw[Lv hz gO h])
  ·
   refine aB ?_;exact eP (n - (k+1)) ⟨k+1,by omega,rfl,(Nd hz (by rw[gO,show e1=0 by omega])),rfl,rfl,rfl⟩
 ·
  refine aB ?_;exact aP (h:=fun _ _=>by rw[Io (fun j hj=>hz j (by omega))])
theorem aOB(A:Option Addr)(n c:Nat)(id:FuncId)(ca:List Value)(rows:List (List Value))(es:List Int)(w:World)(hs:aI (all w) 3 A n rows.flatten)(hr:∀r∈rows,r.length=3)(hone:∀r∈rows,∀u∈r,u.oneCell'=true)(hn:rows.length=n)(hl:es.length=n)(hn2:(n:Int)≤9223372036854775806)(hc:eY Tryz.prog id=true)
  (hf:∀(i:Nat) (r:List Value) (e:Int),rows[i]? =some r→es[i]? =some e→∀w',Below w.heap.size w w'→Cz id ([Value.agg r.toArray]++ca).toArray w' (Rt (iv e) w')):
  Cz 64 #[.slice A n c,.func (.func id) #[] ca.toArray] w (Rt (iv (kH es)) w):=by
 refine aN func64 ntmps64 ?_;refine aB ?_;refine bL [(10,iv 0),(9,iv n),(8,.slice A n c),(1,.func (.func id) #[] ca.toArray)] ?_;refine aB ?_;refine eV (fun m e R H=>∃k:Nat,k≤n∧m=n - k∧(∀j,j < k→es[j]? =some 0)∧e=[(10,iv k),(9,iv n),(8,.slice A n c),(1,.func (.func id) #[] ca.toArray)]∧R=[all w]∧H=[]) n ⟨0,by omega,rfl,fun j hj=>absurd hj (by omega),rfl,rfl,rfl⟩ fun m e R H hI=>?_;obtain⟨k,hk,rfl,hz,rfl,rfl,rfl⟩:=hI;refine aB ?_;refine aG rfl (fun h=>?_) (fun h=>?_)
 ·
  refine oA ?_;refine eB ?_;refine eA ?_;refine xN ?_;refine eA ?_
  have hkn:k < n:=by omega
  obtain⟨r,dQ⟩:∃r,rows[k]? =some r:=⟨rows[k]'(by omega),List.getElem?_eq_getElem _⟩
  obtain⟨e1,gO⟩:∃e,es[k]? =some e:=⟨es[k]'(by omega),List.getElem?_eq_getElem _⟩
  obtain⟨b,off,rfl,c1⟩:=hs.row hr dQ hkn
  have fV:=hr r (List.mem_of_getElem? dQ)
  refine fR ?_;refine kd (dat (k) (off+k*3)) ?_;refine xX 3 (by kernel_rfl) rfl (by first | assumption | exact aO.whole 0 rfl | exact aO.whole 1 rfl | exact aO.whole 2 rfl | exact aO.whole 3 rfl | exact aO.whole 4 rfl | exact aO.whole 5 rfl | exact aO.whole 6 rfl | exact aO.whole 7 rfl | exact aO.whole 8 rfl | exact xQ (by simp) (by assumption)) fV (by decide) ?_;refine bX fun g1=>?_;refine qC 0 rfl rfl rfl (by rw[show(Value.agg r.toArray).cells.size=3 by simp[Value.cells,fV]];kernel_rfl) (hone r (List.mem_of_getElem? dQ)) (by simp[Value.cells,fV]) ?_;rw[Tm (by simp[Value.cells,fV])];dsimp only[List.set,Value.cells];refine fD ?_;refine eA ?_;refine fR ?_;refine dN rfl (by decide) ?_;refine xX 3 (by kernel_rfl) rfl (by first | assumption | exact aO.whole 0 rfl | exact aO.whole 1 rfl | exact aO.whole 2 rfl | exact aO.whole 3 rfl | exact aO.whole 4 rfl | exact aO.whole 5 rfl | exact aO.whole 6 rfl | exact aO.whole 7 rfl | exact aO.whole 8 rfl | exact xQ (by simp) (by assumption)) fV (by decide) ?_;refine xZ (f:=id) (fi:=[]) (ca:=ca) hc rfl rfl (by decide) (fun w1 st=>by have:=hf k r e1 dQ gO w1 (st.started (by simp));simpa using this) ?_;refine aB ?_;refine aG rfl (fun h=>?_) (fun h=>?_)
  ·
   refine aB ?_;exact aP (h:=fun _ _=>by rw[Lv hz gO h])
  ·
   refine aB ?_;exact eP (n - (k+1)) ⟨k+1,by omega,rfl,(Nd hz (by rw[gO,show e1=0 by omega])),rfl,rfl,rfl⟩
 ·
  refine aB ?_;exact aP (h:=fun _ _=>by rw[Io (fun j hj=>hz j (by omega))])
theorem aOA(A:Option Addr)(n c:Nat)(id:FuncId)(ca:List Value)(rows:List (List Value))(es:List Int)(w:World)(hs:aI (all w) 1 A n rows.flatten)(hr:∀r∈rows,r.length=1)(hone:∀r∈rows,∀u∈r,u.oneCell'=true)(hn:rows.length=n)(hl:es.length=n)(hn2:(n:Int)≤9223372036854775806)(hc:eY Tryz.prog id=true)
  (hf:∀(i:Nat) (r:List Value) (e:Int),rows[i]? =some r→es[i]? =some e→∀w',Below w.heap.size w w'→Cz id ([Value.agg r.toArray]++ca).toArray w' (Rt (iv e) w')):
  Cz 70 #[.slice A n c,.func (.func id) #[] ca.toArray] w (Rt (iv (kH es)) w):=by
 refine aN func70 ntmps70 ?_;refine aB ?_;refine bL [(10,iv 0),(9,iv n),(8,.slice A n c),(1,.func (.func id) #[] ca.toArray)] ?_;refine aB ?_;refine eV (fun m e R H=>∃k:Nat,k≤n∧m=n - k∧(∀j,j < k→es[j]? =some 0)∧e=[(10,iv k),(9,iv n),(8,.slice A n c),(1,.func (.func id) #[] ca.toArray)]∧R=[all w]∧H=[]) n ⟨0,by omega,rfl,fun j hj=>absurd hj (by omega),rfl,rfl,rfl⟩ fun m e R H hI=>?_;obtain⟨k,hk,rfl,hz,rfl,rfl,rfl⟩:=hI;refine aB ?_;refine aG rfl (fun h=>?_) (fun h=>?_)
 ·
  refine oA ?_;refine eB ?_;refine eA ?_;refine xN ?_;refine eA ?_
  have hkn:k < n:=by omega
  obtain⟨r,dQ⟩:∃r,rows[k]? =some r:=⟨rows[k]'(by omega),List.getElem?_eq_getElem _⟩
  obtain⟨e1,gO⟩:∃e,es[k]? =some e:=⟨es[k]'(by omega),List.getElem?_eq_getElem _⟩
  obtain⟨b,off,rfl,c1⟩:=hs.row hr dQ hkn
  have fV:=hr r (List.mem_of_getElem? dQ)
  refine fR ?_;refine kd (dat (k) (off+k*1)) ?_;refine xX 1 (by kernel_rfl) rfl (by first | assumption | exact aO.whole 0 rfl | exact aO.whole 1 rfl | exact aO.whole 2 rfl | exact aO.whole 3 rfl | exact aO.whole 4 rfl | exact aO.whole 5 rfl | exact aO.whole 6 rfl | exact aO.whole 7 rfl | exact aO.whole 8 rfl | exact xQ (by simp) (by assumption)) fV (by decide) ?_;refine bX fun g1=>?_;refine qC 0 rfl rfl rfl (by rw[show(Value.agg r.toArray).cells.size=1 by simp[Value.cells,fV]];kernel_rfl) (hone r (List.mem_of_getElem? dQ)) (by simp[Value.cells,fV]) ?_;rw[Tm (by simp[Value.cells,fV])];dsimp only[List.set,Value.cells];refine fD ?_;refine eA ?_;refine fR ?_;refine dN rfl (by decide) ?_;refine xX 1 (by kernel_rfl) rfl (by first | assumption | exact aO.whole 0 rfl | exact aO.whole 1 rfl | exact aO.whole 2 rfl | exact aO.whole 3 rfl | exact aO.whole 4 rfl | exact aO.whole 5 rfl | exact aO.whole 6 rfl | exact aO.whole 7 rfl | exact aO.whole 8 rfl | exact xQ (by simp) (by assumption)) fV (by decide) ?_;refine xZ (f:=id) (fi:=[]) (ca:=ca) hc rfl rfl (by decide) (fun w1 st=>by have:=hf k r e1 dQ gO w1 (st.started (by simp));simpa using this) ?_;refine aB ?_;refine aG rfl (fun h=>?_) (fun h=>?_)
  ·
   refine aB ?_;exact aP (h:=fun _ _=>by rw[Lv hz gO h])
  ·
   refine aB ?_;exact eP (n - (k+1)) ⟨k+1,by omega,rfl,(Nd hz (by rw[gO,show e1=0 by omega])),rfl,rfl,rfl⟩
 ·
  refine aB ?_;exact aP (h:=fun _ _=>by rw[Io (fun j hj=>hz j (by omega))])
theorem aGF(A:Option Addr)(n c:Nat)(id:FuncId)(ca:List Value)(rows:List (List Value))(es:List Int)(w:World)(hs:aI (all w) 6 A n rows.flatten)(hr:∀r∈rows,r.length=6)(hone:∀r∈rows,∀u∈r,u.oneCell'=true)(hn:rows.length=n)(hl:es.length=n)(hn2:(n:Int)≤9223372036854775806)(hc:eY Tryz.prog id=true)
  (hf:∀(i:Nat) (r:List Value) (e:Int),rows[i]? =some r→es[i]? =some e→∀w',Below w.heap.size w w'→Cz id ([Value.agg r.toArray]++ca).toArray w' (Rt (iv e) w')):
  Cz 73 #[.slice A n c,.func (.func id) #[] ca.toArray] w (Rt (iv (kH es)) w):=by
 refine aN func73 ntmps73 ?_;refine aB ?_;refine bL [(10,iv 0),(9,iv n),(8,.slice A n c),(1,.func (.func id) #[] ca.toArray)] ?_;refine aB ?_;refine eV (fun m e R H=>∃k:Nat,k≤n∧m=n - k∧(∀j,j < k→es[j]? =some 0)∧e=[(10,iv k),(9,iv n),(8,.slice A n c),(1,.func (.func id) #[] ca.toArray)]∧R=[all w]∧H=[]) n ⟨0,by omega,rfl,fun j hj=>absurd hj (by omega),rfl,rfl,rfl⟩ fun m e R H hI=>?_;obtain⟨k,hk,rfl,hz,rfl,rfl,rfl⟩:=hI;refine aB ?_;refine aG rfl (fun h=>?_) (fun h=>?_)
 ·
  refine oA ?_;refine eB ?_;refine eA ?_;refine xN ?_;refine eA ?_
  have hkn:k < n:=by omega
  obtain⟨r,dQ⟩:∃r,rows[k]? =some r:=⟨rows[k]'(by omega),List.getElem?_eq_getElem _⟩
  obtain⟨e1,gO⟩:∃e,es[k]? =some e:=⟨es[k]'(by omega),List.getElem?_eq_getElem _⟩
  obtain⟨b,off,rfl,c1⟩:=hs.row hr dQ hkn
  have fV:=hr r (List.mem_of_getElem? dQ)
  refine fR ?_;refine kd (dat (k) (off+k*6)) ?_;refine xX 6 (by kernel_rfl) rfl (by first | assumption | exact aO.whole 0 rfl | exact aO.whole 1 rfl | exact aO.whole 2 rfl | exact aO.whole 3 rfl | exact aO.whole 4 rfl | exact aO.whole 5 rfl | exact aO.whole 6 rfl | exact aO.whole 7 rfl | exact aO.whole 8 rfl | exact xQ (by simp) (by assumption)) fV (by decide) ?_;refine bX fun g1=>?_;refine qC 0 rfl rfl rfl (by rw[show(Value.agg r.toArray).cells.size=6 by simp[Value.cells,fV]];kernel_rfl) (hone r (List.mem_of_getElem? dQ)) (by simp[Value.cells,fV]) ?_;rw[Tm (by simp[Value.cells,fV])];dsimp only[List.set,Value.cells];refine fD ?_;refine eA ?_;refine fR ?_;refine dN rfl (by decide) ?_;refine xX 6 (by kernel_rfl) rfl (by first | assumption | exact aO.whole 0 rfl | exact aO.whole 1 rfl | exact aO.whole 2 rfl | exact aO.whole 3 rfl | exact aO.whole 4 rfl | exact aO.whole 5 rfl | exact aO.whole 6 rfl | exact aO.whole 7 rfl | exact aO.whole 8 rfl | exact xQ (by simp) (by assumption)) fV (by decide) ?_;refine xZ (f:=id) (fi:=[]) (ca:=ca) hc rfl rfl (by decide) (fun w1 st=>by have:=hf k r e1 dQ gO w1 (st.started (by simp));simpa using this) ?_;refine aB ?_;refine aG rfl (fun h=>?_) (fun h=>?_)
  ·
   refine aB ?_;exact aP (h:=fun _ _=>by rw[Lv hz gO h])
  ·
   refine aB ?_;exact eP (n - (k+1)) ⟨k+1,by omega,rfl,(Nd hz (by rw[gO,show e1=0 by omega])),rfl,rfl,rfl⟩
 ·
  refine aB ?_;exact aP (h:=fun _ _=>by rw[Io (fun j hj=>hz j (by omega))])
end
end Go.Proofs.YtkgekojkboingaaGreatDoor
