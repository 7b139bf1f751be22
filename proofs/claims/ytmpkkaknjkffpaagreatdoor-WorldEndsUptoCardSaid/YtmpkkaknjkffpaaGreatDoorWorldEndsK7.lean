/- The chip, its firmware and its tasks: what holds always. No walk in sight. -/
import Derived.Test.YtmpkkaknjkffpaaGreatDoorWorldEndsK6
namespace Go.Proofs.YtmpkkaknjkffpaaGreatDoor
set_option linter.all false
set_option maxHeartbeats 4000000
set_option maxRecDepth 20000
open Go.RowKit Go.Proofs.Tryz
variable{s:aG}{n:Nat}{N:cO}{w0:World}{e:Env}{R:List Piece}{H:List HP}
theorem aN2:([(4,17),(7,20),(4,22)]:List (Int×Int)).all (fun q=>(List.range 1024).all fun k=>aB3 q.1 q.2 k)=true:=by decide+kernel
def Jn(p:dV):Prop:=(p.msg=4∧p.pr=17)∨(p.msg=7∧p.pr=20)∨(p.msg=4∧p.pr=22)
theorem aB2{p:dV}(h:Jn p){k:Int}(l:0≤k)(o:k < 1024):(dH p.msg 0 p.pr k).2=0∧cT (dH p.msg 0 p.pr k).1 28 4=0∧cT (dH p.msg 0 p.pr k).1 0 8=p.msg∧cT (dH p.msg 0 p.pr k).1 8 2=0∧cT (dH p.msg 0 p.pr k).1 10 8=p.pr:=by
 have c:=aN2
 rw[List.all_eq_true] at c;obtain⟨n,rfl⟩:∃n:Nat,k=n:=⟨k.toNat,aA⟩
 have a:aB3 p.msg p.pr (n:Int)=true:=by
  have b:=c (p.msg,p.pr) (by
   obtain⟨m,msg,id,v⟩:=p;dsimp only[Jn] at h⊢
   rcases h with⟨rfl,rfl⟩ | ⟨rfl,rfl⟩ | ⟨rfl,rfl⟩<;>simp)
  rw[List.all_eq_true] at b;exact b n (List.mem_range.2 aA)
 obtain⟨e,i,j,d,f,_⟩:=of_decide_eq_true a;exact⟨e,i,j,d,f⟩
theorem aE7(m t p k:Int):0≤(dH m t p k).1∧(dH m t p k).1 < 4294967296:=by
 unfold dH
 repeat' split
 all_goals first | exact aE0 _ _ _ _ | exact⟨Int.le_refl 0,(by decide:(0:Int) < 4294967296)⟩
theorem aR7{s:aG}{x y:bL}:∀p∈allM s x y,Jn p:=by
 intro p a;unfold allM sG at a;simp only[List.mem_append,jM,List.mem_map] at a;rcases a with⟨i,_,rfl⟩ | ⟨i,_,rfl⟩ | ⟨i,_,rfl⟩ | ⟨i,_,rfl⟩ | ⟨i,_,rfl⟩ | ⟨i,_,rfl⟩
 all_goals simp[Jn]
theorem aRl{s:aG}{x:aP}{l:List Int}{st:Int}(hl:mJ l):mJ (uR s x l st):=by
 have d:0≤l.headD 0∧l.headD 0 < 4294967296:=by
  cases l with
  | nil=>exact⟨aC,aC⟩
  | cons a r=>exact hl a aD
 have c : mJ (oY s x l) := by
  intro v b;unfold oY at b;dsimp only at b;split at b
  ·simp at b;subst b;decide
  ·split at b
   ·simp at b;subst b;exact Kj _
   ·split at b
    ·simp at b;subst b;unfold Fq
     repeat' split
     all_goals decide
    ·split at b
     ·simp at b;rcases b with rfl | rfl<;>exact Kj _
     ·cases b
 intro v b;unfold uR at b;rw[List.mem_cons,List.mem_cons] at b;rcases b with rfl | rfl | b
 ·exact d
 ·exact Kj _
 ·split at b
  ·exact c v b
  ·cases b
theorem aRm{s:aG}{x:aP}{l:List Int}{st:Int}:2≤(uR s x l st).length∧(uR s x l st).length≤4:=by
 have:=aEU s x l
 unfold uR;split<;>simp<;>omega
theorem aG1{s:aG}{x y:bL}{wt:List Int}{ag:Nat}{l:List Int}(c:mJ l):((fM s x y wt ag l).2.1=0∧((fM s x y wt ag l).1=0→sK l))∨((fM s x y wt ag l).1=0∧(fM s x y wt ag l).2=(cP s l).2∧(cP s l).1=0∧(fM s x y wt ag l).2.1≠0∧sK l∧Jy s (fM s x y wt ag l).2.1 (fM s x y wt ag l).2.2):=by
 unfold fM
 by_cases h:(cP s l).1≠0∨(cP s l).2.1=0∨iZ (if ag=0 then x else y) (cP s l).2.1 (cP s l).2.2=decide (gE (cP s l).2.1)
 ·rw[if_pos h];exact .inl ⟨rfl,fun h=>aEv c h⟩
 ·rw[if_neg h]
  have j:(cP s l).1=0:=Classical.byContradiction fun i=>h (.inl i)
  have m:(cP s l).2.1≠0:=fun i=>h (.inr (.inl i))
  have n:=aEv c j
  have b:Jy s (cP s l).2.1 (cP s l).2.2:=by
   rcases Vd (s:=s) c with⟨p,_⟩ | ⟨_,b,d,a,_,_⟩
   ·exact absurd p m
   ·refine⟨by unfold xY at b;omega,fun f=>⟨d,?_⟩⟩;rw[f] at a
    simpa[qJ,uK] using a
  have no:∀e:Int,e≠0→e=0→sK l:=fun _ h k=>absurd k h
  by_cases o:gE (cP s l).2.1
  ·rw[if_pos o];split
   ·exact .inl ⟨rfl,no _ aC⟩
   ·exact .inr ⟨rfl,rfl,j,m,n,b⟩
  ·rw[if_neg o];split
   ·exact .inl ⟨rfl,no _ aC⟩
   ·split
    ·exact .inl ⟨rfl,no _ aC⟩
    ·exact .inr ⟨rfl,rfl,j,m,n,b⟩
theorem aHj(s:aG)(x:aP)(k id:Int):(fX s x k id).1.wt=x.wt∧(fX s x k id).1.aS=x.aS:=by
 unfold fX lE pE qH lF yF
 repeat' split
 all_goals exact⟨rfl,rfl⟩
structure FwB(s:aG)(y:bN):Prop where
 fm:Ch s y
 ax:y.x.of s
 ay:y.y.of s
 h0:y.h0=0∨y.h0=1∨y.h0=2
 h1:y.h1=0∨y.h1=1∨y.h1=2
 r0:y.h0=2→2≤y.w0.length
 r1:y.h1=2→2≤y.w1.length
structure mL(s:aG)(y:bN):Prop extends FwB s y where
 at_:y.at_= -1∨∃a:Nat,y.at_=(a:Int)∧a < 2∧kB y a=1∧Jy s y.kind y.id∧sK (jO y a)
theorem mL.step{s:aG}{x:aP}{y:bN}(h:mL s y)(hx:cR s x):aHG s x y:=by
 refine⟨hx,h.fm,?_,fun _ a _ c e=>?_,fun _ a _ c=>?_⟩
 ·rcases h.at_ with c | ⟨a,c,e,_,b,d⟩
  ·exact .inl aA
  ·exact .inr ⟨a,c,e,b,d⟩
 ·rcases aG1 (s:=s) (x:=y.x) (y:=y.y) (wt:=jS s x) (ag:=a) (h.fm.box a).1 with⟨_,b⟩ | ⟨_,_,_,b,_⟩
  ·exact b e
  ·exact absurd c b
 ·rcases aG1 (s:=s) (x:=y.x) (y:=y.y) (wt:=jS s x) (ag:=a) (h.fm.box a).1 with⟨b,_⟩ | ⟨_,_,_,_,d,f⟩
  ·exact absurd b c
  ·exact⟨f,d⟩
theorem aIh{s:aG}{x:aP}{y:bN}(h:FwB s y)(c:y.at_= -1){a:Nat}(i:a < 2)(st:Int):mL s (mP s x y a st):=by
 have f:=h.fm.box a
 have e:=aRl (s:=s) (x:=x) (st:=st) f.1
 have d:=aRm (s:=s) (x:=x) (l:=jO y a) (st:=st)
 have b:(uR s x (jO y a) st).length≤1000000:=Nat.le_trans d.2 aC
 unfold mP Vj;split
 ·exact⟨⟨⟨h.fm.la,e,h.fm.u1,b,h.fm.n1,h.fm.sx,h.fm.sy⟩,h.ax,h.ay,.inr (.inr rfl),h.h1,fun _=>d.1,h.r1⟩,.inl c⟩
 ·exact⟨⟨⟨h.fm.la,h.fm.u0,e,h.fm.n0,b,h.fm.sx,h.fm.sy⟩,h.ax,h.ay,h.h0,.inr (.inr rfl),h.r0,fun _=>d.1⟩,.inl c⟩
theorem Ut{s:aG}{x:bL}(h:x.of s)(k id:Int):(gI x k id).of s:=by
 obtain⟨b,e,a⟩:=aDW x k id;exact⟨b.trans h.d,e.trans h.c,a.trans h.l⟩
theorem mL.end_{s:aG}{y:bN}(h:mL s y){a:Nat}(b:y.at_=(a:Int))(c:a < 2)(r:aP×Bool):mL s (pO s y r):=by
 unfold pO;split
 ·rw[b,Int.toNat_natCast];exact aIh (y:={y with at_:= -1}) ⟨⟨h.fm.la,h.fm.u0,h.fm.u1,h.fm.n0,h.fm.n1,h.fm.sx,h.fm.sy⟩,h.ax,h.ay,h.h0,h.h1,h.r0,h.r1⟩ rfl c 0
 ·exact h
theorem mL.next{s:aG}{x:aP}{y:bN}(p:s.dF)(h:mL s y)(hx:cR s x):mL s (eB s x y).1∧cR s (eB s x y).2∧(eB s x y).2.wt=x.wt∧(eB s x y).2.aS=x.aS:=by
 unfold eB;dsimp only;rcases h.at_ with d | ⟨a,d,i,_⟩
 ·have b:y.at_ < 0:=aA
  cases c:nK y with
  | none=>
   have m:iP s x y=(y,false):=by unfold iP;rw[c]
   rw[m,if_pos ⟨b,rfl⟩];exact⟨h,hx,rfl,rfl⟩
  | some a =>
   have i:=La h.fm.la c
   have n:kB y a=1:=by
    unfold nK at c;split at c
    ·cases c;assumption
    ·split at c
     ·cases c;assumption
     ·cases c
   have f:(a:Int)=0∨(a:Int)=1:=by omega
   have m:iP s x y=kD s x y a:=by unfold iP;rw[c]
   rw[m]
   by_cases hd:(bX s x y a).2.1=0
   ·have e:kD s x y a=(mP s x {y with last:=a} a (bX s x y a).1,false):=by
     unfold kD;dsimp only;rw[if_pos hd]
    rw[e,if_pos ⟨b,rfl⟩];exact⟨aIh (y:={y with last:=a}) ⟨⟨f,h.fm.u0,h.fm.u1,h.fm.n0,h.fm.n1,h.fm.sx,h.fm.sy⟩,h.ax,h.ay,h.h0,h.h1,h.r0,h.r1⟩ d i _,hx,rfl,rfl⟩
   ·have e:kD s x y a=({y with last:=a,x:=eF y.x a (bX s x y a).2.1 (bX s x y a).2.2,y:=fW y.y a (bX s x y a).2.1 (bX s x y a).2.2,at_:=a,kind:=(bX s x y a).2.1,id:=(bX s x y a).2.2},true):=by
     unfold kD;dsimp only;rw[if_neg hd]
    rw[e,if_neg aD,if_pos b];dsimp only;obtain⟨r,u⟩:=(h.step hx).new b a c hd
    have k:(eF y.x a (bX s x y a).2.1 (bX s x y a).2.2).of s:=by
     unfold eF;split
     ·exact Ut h.ax _ _
     ·exact h.ax
    have o:(fW y.y a (bX s x y a).2.1 (bX s x y a).2.2).of s:=by
     unfold fW;split
     ·exact h.ay
     ·exact Ut h.ay _ _
    obtain⟨l,j⟩:=aHj s x (bX s x y a).2.1 (bX s x y a).2.2
    exact⟨mL.end_ (y:={y with last:=a,x:=eF y.x a (bX s x y a).2.1 (bX s x y a).2.2,y:=fW y.y a (bX s x y a).2.1 (bX s x y a).2.2,at_:=a,kind:=(bX s x y a).2.1,id:=(bX s x y a).2.2})
     ⟨⟨⟨f,h.fm.u0,h.fm.u1,h.fm.n0,h.fm.n1,aPq h.fm.sx _ _ _,aPp h.fm.sy _ _ _⟩,k,o,h.h0,h.h1,h.r0,h.r1⟩,.inr ⟨a,rfl,i,n,r,u⟩⟩ rfl i _,Ym p hx _ _,l,j⟩
 ·have b:¬y.at_ < 0:=aA
  rw[if_neg (fun t=>b t.1),if_neg b];obtain⟨l,j⟩:=aHj s x y.kind y.id;exact⟨h.end_ d i _,Ym p hx _ _,l,j⟩
theorem mL.send{s:aG}{y:bN}(h:mL s y)(a:Int){l:List Int}(i:mJ l)(f:l.length≤1000000):mL s (fI y a l).2:=by
 have j:∀b:Nat,y.at_= -1∨(∃c:Nat,y.at_=(c:Int)∧c < 2∧kB y c=1∧Jy s y.kind y.id∧sK (jO y c)):=fun _=>h.at_
 unfold fI;split
 ·exact h
 ·split
  ·split
   ·exact h
   ·rename_i d
    have d:y.h0=0:=Classical.byContradiction d
    refine⟨⟨⟨h.fm.la,i,h.fm.u1,f,h.fm.n1,h.fm.sx,h.fm.sy⟩,h.ax,h.ay,.inr (.inl rfl),h.h1,(fun h=>absurd (show(1:Int)=2 from h) aC),h.r1⟩,?_⟩;rcases h.at_ with e | ⟨c,e,h2,h3,h4,h5⟩
    ·exact .inl e
    ·refine .inr ⟨c,e,h2,?_⟩;obtain rfl | rfl:c=0∨c=1:=by omega
     ·exact absurd (d.symm.trans h3) aC
     ·exact⟨h3,h4,h5⟩
  ·split
   ·exact h
   ·rename_i d
    have d:y.h1=0:=Classical.byContradiction d
    refine⟨⟨⟨h.fm.la,h.fm.u0,i,h.fm.n0,f,h.fm.sx,h.fm.sy⟩,h.ax,h.ay,h.h0,.inr (.inl rfl),h.r0,fun h=>absurd (show(1:Int)=2 from h) aC⟩,?_⟩;rcases h.at_ with e | ⟨c,e,h2,h3,h4,h5⟩
    ·exact .inl e
    ·refine .inr ⟨c,e,h2,?_⟩;obtain rfl | rfl:c=0∨c=1:=by omega
     ·exact⟨h3,h4,h5⟩
     ·exact absurd (d.symm.trans h3) aC
theorem mL.read{s:aG}{y:bN}(h:mL s y)(a:Int):mL s (fU y a):=by
 unfold fU;split
 ·split
  ·rename_i e
   refine⟨⟨⟨h.fm.la,(fun _ d=>by cases d),h.fm.u1,Nat.zero_le _,h.fm.n1,h.fm.sx,h.fm.sy⟩,h.ax,h.ay,.inl rfl,h.h1,(fun h=>absurd (show(0:Int)=2 from h) aC),h.r1⟩,?_⟩;rcases h.at_ with b | ⟨c,b,hc,h3,h4,h5⟩
   ·exact .inl b
   ·refine .inr ⟨c,b,hc,?_⟩;obtain rfl | rfl:c=0∨c=1:=by omega
    ·exact absurd (e.symm.trans h3) aC
    ·exact⟨h3,h4,h5⟩
  ·exact h
 ·split
  ·split
   ·rename_i e
    refine⟨⟨⟨h.fm.la,h.fm.u0,(fun _ d=>by cases d),h.fm.n0,Nat.zero_le _,h.fm.sx,h.fm.sy⟩,h.ax,h.ay,h.h0,.inl rfl,h.r0,fun h=>absurd (show(0:Int)=2 from h) aC⟩,?_⟩;rcases h.at_ with b | ⟨c,b,hc,h3,h4,h5⟩
    ·exact .inl b
    ·refine .inr ⟨c,b,hc,?_⟩;obtain rfl | rfl:c=0∨c=1:=by omega
     ·exact⟨h3,h4,h5⟩
     ·exact absurd (e.symm.trans h3) aC
   ·exact h
  ·exact h
theorem FwB.ans{s:aG}{y:bN}(h:FwB s y){b:Int}{a:List Int}(c:jC y b=some a):2≤a.length:=by
 unfold jC at c;split at c
 ·split at c
  ·cases c;exact h.r0 (by assumption)
  ·cases c
 ·split at c
  ·split at c
   ·cases c;exact h.r1 (by assumption)
   ·cases c
  ·cases c
theorem aO6{s:aG}(b:s.wH):mL s (tK s):=
 ⟨⟨⟨.inr rfl,(fun _ a=>by simp[tK] at a),(fun _ a=>by simp[tK] at a),by simp[tK],by simp[tK],aDf b,aDf b⟩,⟨by simp[tK,dI],by simp[tK,dI],by simp[tK,dI]⟩,⟨by simp[tK,dI],by simp[tK,dI],by simp[tK,dI]⟩,.inl rfl,.inl rfl,(fun h=>by simp[tK] at h),(fun h=>by simp[tK] at h)⟩,.inl rfl⟩
theorem aBF:∀(l:List (Int×Int)) (k v j:Int),jE (zB l k v) j=if j=k then v else jE l j
 | [], k, v, j => by
  by_cases h:j=k
  ·subst h;simp[jE,zB]
  ·rw[if_neg h]
   have f:¬k=j:=fun e=>h e.symm
   simp[jE,zB,f]
 | (a, b) :: l, k, v, j => by
  have ih:=aBF l k v j
  unfold zB
  by_cases c:a=k
  ·subst c;rw[if_pos rfl]
   by_cases h:j=a
   ·subst h;simp[jE]
   ·have f:¬a=j:=fun e=>h e.symm
    simp[jE,h,f]
  ·rw[if_neg c]
   by_cases d:a=j
   ·subst d;rw[if_neg c];simp[jE]
   ·have i:∀m,jE ((a,b)::m) j=jE m j:=fun m=>by simp[jE,d]
    rw[i,i,ih]
theorem nN(a b:Int){p:Prop}(h:a=b)(c:a≠b:=by decide):p:=absurd h c
theorem Cw{z:bB}{i j:Nat}{t:qN}(hi:T3 i)(hj:T3 j):(z.jB j t).tk i=if i=j then t else z.tk i:=by
 rcases hi with rfl | rfl | rfl<;>rcases hj with rfl | rfl | rfl<;>rfl
structure RwB(s:aG)(z:bB):Prop where
 wn:z.wn.of s
 len:∀j,T3 j→(z.tk j).hs.length=6
 nn:∀j,T3 j→∀i,0≤hG (z.tk j) i
 cnt:∀i:Nat,hG (z.tk 0) i+hG (z.tk 1) i+hG (z.tk 2) i=jE z.cn.l (i:Int)
 c7:∀i:Nat,jE z.cn.l (i:Int)≤7
 call:∀j,T3 j→(z.tk j).st=1→vH (z.tk j).kind
 st:∀j,T3 j→0≤(z.tk j).st∧(z.tk j).st≤3
 val:∀j,T3 j→0≤(z.tk j).val∧(z.tk j).val < 4294967296
 many:0≤z.many∧z.many < 1024
 zA:∀p∈z.steps,Jn p∧p.ok
def Zm(z:bB):Prop:=(z.cJ= -1∧(∀j,T3 j→(z.tk j).st≠2)∧z.aS=false∧z.steps=[]∧z.sent=false)∨(∃j:Nat,T3 j∧z.cJ=(j:Int)∧(∀i,T3 i→((z.tk i).st=2↔i=j))∧(z.aS=false→z.steps≠[]))
structure oL(s:aG)(z:bB):Prop extends RwB s z where
 cJ:Zm z
theorem aNW{s:aG}{z:bB}(h:RwB s z){j:Nat}(hj:T3 j)(i:Nat):hG (z.tk j) i≤7:=by
 have b:=h.nn 0 (.inl rfl) i
 have d:=h.nn 1 (.inr (.inl rfl)) i
 have e:=h.nn 2 (.inr (.inr rfl)) i
 have a:=h.cnt i
 have c:=h.c7 i
 rcases hj with rfl | rfl | rfl<;>omega
theorem RwB.rp{s:aG}{z:bB}(h:RwB s z):Ob s z:=⟨h.wn,fun j a=>⟨h.len j a,fun i=>⟨h.nn j a i,by have:=aNW h a i;omega⟩⟩⟩
theorem RwB.jB{s:aG}{z:bB}(h:RwB s z){j:Nat}(hj:T3 j){t:qN}(l:t.hs=(z.tk j).hs)(hs:0≤t.st∧t.st≤3)(d:0≤t.val∧t.val < 4294967296)(f:t.st=1→vH t.kind):RwB s (z.jB j t):=by
 have c:∀i,T3 i→((z.jB j t).tk i).hs=(z.tk i).hs:=fun i a=>by
  rw[Cw a hj];split
  ·rename_i e;subst e;exact l
  ·rfl
 have b:∀i,T3 i→∀k,hG ((z.jB j t).tk i) k=hG (z.tk i) k:=fun i a k=>by unfold hG;rw[c i a]
 refine⟨h.wn,fun i a=>by rw[c i a];exact h.len i a,fun i a k=>by rw[b i a];exact h.nn i a k,fun i=>?_,h.c7,fun i a=>?_,fun i a=>?_,fun i a=>?_,h.many,h.zA⟩
 ·rw[b 0 (.inl rfl),b 1 (.inr (.inl rfl)),b 2 (.inr (.inr rfl))];exact h.cnt i
 ·rw[Cw a hj];split
  ·exact f
  ·exact h.call i a
 ·rw[Cw a hj];split
  ·exact hs
  ·exact h.st i a
 ·rw[Cw a hj];split
  ·exact d
  ·exact h.val i a
theorem RwB.qR{s:aG}{z:bB}(h:RwB s z){j:Nat}(hj:T3 j){d:Nat}(hd:d < 6){k:Int}{c:Cn}(p:∀i:Nat,jE c.l (i:Int)=if i=d then jE z.cn.l (d:Int)+k else jE z.cn.l (i:Int))(r:0≤hG (z.tk j) d+k)(h7:jE z.cn.l (d:Int)+k≤7):RwB s {z.jB j (qR (z.tk j) d k) with cn:=c}:=by
 have f:∀i,T3 i→({z.jB j (Go.Proofs.YtmpkkaknjkffpaaGreatDoor.qR (z.tk j) d k) with cn:=c}:bB).tk i=if i=j then Go.Proofs.YtmpkkaknjkffpaaGreatDoor.qR (z.tk j) d k else z.tk i:=fun i a=>(show _=(z.jB j (Go.Proofs.YtmpkkaknjkffpaaGreatDoor.qR (z.tk j) d k)).tk i from rfl).trans (Cw a hj)
 have t:∀i,hG (Go.Proofs.YtmpkkaknjkffpaaGreatDoor.qR (z.tk j) d k) i=if d=i then hG (z.tk j) d+k else hG (z.tk j) i:=fun i=>aFC (h.len j hj) hd
 have m:∀i,T3 i→∀n,hG (({z.jB j (Go.Proofs.YtmpkkaknjkffpaaGreatDoor.qR (z.tk j) d k) with cn:=c}:bB).tk i) n=hG (z.tk i) n+(if i=j∧n=d then k else 0):=fun i a n=>by
  rw[f i a]
  by_cases e:i=j
  ·subst e;rw[if_pos rfl,t]
   by_cases o:d=n
   ·subst o;simp
   ·rw[if_neg o,if_neg (fun b=>o b.2.symm)];omega
  ·rw[if_neg e,if_neg (fun b=>e b.1)];omega
 refine⟨h.wn,fun i a=>?_,fun i a n=>?_,fun n=>?_,fun n=>?_,fun i a=>?_,fun i a=>?_,fun i a=>?_,h.many,h.zA⟩
 ·rw[f i a];split
  ·show((z.tk j).hs.set _ _).length=6
   rw[List.length_set];exact h.len j hj
  ·exact h.len i a
 ·rw[m i a]
  have:=h.nn i a n
  split
  ·rename_i e
   obtain⟨rfl,rfl⟩:=e;exact r
  ·omega
 ·rw[m 0 (.inl rfl),m 1 (.inr (.inl rfl)),m 2 (.inr (.inr rfl))]
  show _=jE c.l (n:Int)
  rw[p]
  have:=h.cnt n
  by_cases e:n=d
  ·subst e;rcases hj with rfl | rfl | rfl<;>simp<;>omega
  ·rw[if_neg e,if_neg (fun b=>e b.2),if_neg (fun b=>e b.2),if_neg (fun b=>e b.2)];omega
 ·show jE c.l (n:Int)≤7
  rw[p];split
  ·exact h7
  ·exact h.c7 n
 ·rw[f i a];split
  ·rename_i e;subst e;exact h.call _ a
  ·exact h.call i a
 ·rw[f i a];split
  ·rename_i e;subst e;exact h.st _ a
  ·exact h.st i a
 ·rw[f i a];split
  ·rename_i e;subst e;exact h.val _ a
  ·exact h.val i a
theorem aQG{n:Nat}{c:Cn}{d:Int}(h:(sE n c d).1=0)(f:0≤jE c.l d):c.sF=false∧0≤d∧d < n∧jE c.l d < 7∧(sE n c d).2=⟨zB c.l d (jE c.l d+1),c.sF⟩:=by
 unfold sE at h⊢;split at h
 ·simp at h
 ·rename_i a
  split at h
  ·simp at h
  ·rename_i b
   split at h
   ·simp at h
   ·rename_i e
    rw[if_neg a,if_neg b,if_neg e,iY aA];exact⟨by simpa using a,aA,aA,aA,rfl⟩
theorem aQa{n:Nat}{c:Cn}{d:Int}(h:(uO n c d).1=0)(h7:jE c.l d≤7):c.sF=false∧0≤d∧d < n∧0 < jE c.l d∧(uO n c d).2=⟨zB c.l d (jE c.l d - 1),c.sF⟩:=by
 unfold uO at h⊢;split at h
 ·simp at h
 ·rename_i a
  split at h
  ·simp at h
  ·rename_i b
   split at h
   ·simp at h
   ·rename_i e
    rw[if_neg a,if_neg b,if_neg e,iY aA];exact⟨by simpa using a,aA,aA,aA,rfl⟩
theorem RwB.want{s:aG}{z:bB}(hm:s.made)(h:RwB s z):RwB s (uB s z):=
 ⟨aIS s z,h.len,h.nn,h.cnt,h.c7,h.call,h.st,h.val,h.many,fun p a=>⟨aR7 p a,aR8 hm _ _ p a⟩⟩
theorem RwB.same{s:aG}{z:bB}(h:RwB s z)(c:Cn)(a:c.l=z.cn.l):RwB s {z with cn:=c}:=
 ⟨h.wn,h.len,h.nn,fun i=>by show _=jE c.l _;rw[a];exact h.cnt i,fun i=>by show jE c.l _≤7;rw[a];exact h.c7 i,h.call,h.st,h.val,h.many,h.zA⟩
structure aCW(s:aG)(z:bB)(x:aP)(r:Int×bB×aP):Prop where
 b:RwB s r.2.1
 st:∀i,(r.2.1.tk i).st=(z.tk i).st
 err:r.1≠0→r.2.1=z∧r.2.2=x
 x_:r.2.1.aS=false→r.2.2=x
 po:r.2.1.aS=true→z.aS=true∨∃(d:Nat) (wr:Bool) (rg v:Int) (dv:cH),s.aH[d]? =some dv∧0≤rg∧rg < dv.aX.length∧0≤v∧v < 4294967296∧r.2.1.id=x.aS∧r.2.2=Fo x d wr rg v
theorem aGg{s:aG}(hm:s.made){z:bB}(h:RwB s z)(x:aP){j:Nat}(hj:T3 j)(k:Int):aCW s z x (mY s x z j k):=by
 have B:=Vo s
 have C:=hm.nv
 have same:∀e:Int,aCW s z x (e,z,x):=fun e=>⟨h,fun _=>rfl,fun _=>⟨rfl,rfl⟩,fun _=>rfl,fun f=>.inl f⟩
 have yZ:∀(d:Nat) (q:Int) (c:Cn) (i:Nat),((uB s {z.jB j (qR (z.tk j) d q) with cn:=c}).tk i).st=(z.tk i).st:=fun d q c i=>by
  show((z.jB j (qR (z.tk j) d q)).tk i).st=_
  rcases hj with rfl | rfl | rfl
  all_goals
   match i with
   | 0=>rfl
   | 1=>rfl
   | n+2=>rfl
 have acc : ∀ t : Bool, aCW s z x (nY s x z j t) := fun t => by
  unfold nY;split
  ·exact same 4
  ·rename_i r
   split
   ·exact same 6
   ·split
    ·refine⟨⟨h.wn,h.len,h.nn,h.cnt,h.c7,h.call,h.st,h.val,h.many,h.zA⟩,fun _=>rfl,fun h=>absurd rfl h,(fun h=>by cases h),fun _=>.inr ?_⟩
     have a:bO s.aH.length (z.tk j).dev=true:=by
      cases p:bO s.aH.length (z.tk j).dev with
      | true=>rfl
      | false=>exact absurd (.inl p) r
     have A:=of_decide_eq_true a
     obtain⟨dv,o⟩:=get_some (l:=s.aH) (i:=(z.tk j).dev.toNat) aA
     have w:¬(z.tk j).bZ < 0:=fun p=>r (.inr (.inl p))
     have m:¬Pv s (z.tk j).dev≤(z.tk j).bZ:=fun p=>r (.inr (.inr p))
     unfold Pv at m;rw[o] at m;simp only[Option.map_some,Option.getD_some] at m;exact⟨_,t,(z.tk j).bZ,(z.tk j).val,dv,o,aA,aA,(h.val j hj).1,(h.val j hj).2,rfl,rfl⟩
    ·exact same 6
 unfold mY;split
 ·unfold zP;split
  ·exact same _
  ·rename_i a
   have a:(sE (dQ s).length z.cn (z.tk j).dev).1=0:=Classical.byContradiction a
   have u:=aGH a
   obtain⟨d,hd⟩:∃d:Nat,(z.tk j).dev=d:=⟨(z.tk j).dev.toNat,aA⟩
   rw[hd] at a u⊢;obtain⟨_,_,A,w,m⟩:=aQG a (by have:=h.cnt d;have:=h.nn 0 (.inl rfl) d;have:=h.nn 1 (.inr (.inl rfl)) d;have:=h.nn 2 (.inr (.inr rfl)) d;omega);rw[m,Int.toNat_natCast];refine⟨RwB.want hm (h.qR hj aA (fun i=>?_) (by have:=h.nn j hj d;omega) aA),yZ _ _ _,fun h=>absurd rfl h,fun _=>rfl,fun f=>.inl f⟩;dsimp only;rw[aBF]
   by_cases e:i=d
   ·subst e;simp
   ·rw[if_neg aA,if_neg e]
 ·split
  ·unfold zG;split
   ·exact same _
   ·rename_i b
    split
    ·exact same _
    ·rename_i y
     split
     ·exact same _
     ·rename_i a
      have a:(uO (dQ s).length z.cn (z.tk j).dev).1=0:=Classical.byContradiction a
      have b:bO s.aH.length (z.tk j).dev=true:=by simpa using b
      have b:=of_decide_eq_true b
      obtain⟨d,hd⟩:∃d:Nat,(z.tk j).dev=d:=⟨(z.tk j).dev.toNat,aA⟩
      rw[hd] at a y b⊢;rw[Int.toNat_natCast] at y⊢;obtain⟨_,_,A,w,m⟩:=aQa a (h.c7 d);rw[m];refine⟨RwB.want hm (h.qR hj aA (fun i=>?_) (by have:=h.nn j hj d;omega) (by have:=h.c7 d;omega)),yZ _ _ _,fun h=>absurd rfl h,fun _=>rfl,fun f=>.inl f⟩;dsimp only;rw[aBF]
      by_cases e:i=d
      ·subst e;simp;omega
      ·rw[if_neg aA,if_neg e]
  ·split
   ·exact acc false
   ·split
    ·exact acc true
    ·split
     ·unfold yY;split
      ·exact same _
      ·rename_i a
       refine⟨RwB.want hm (h.same _ ?_),fun _=>rfl,fun h=>absurd rfl h,fun _=>rfl,fun f=>.inl f⟩;unfold wR;split<;>rfl
     ·unfold zF;split
      ·exact same _
      ·refine⟨RwB.want hm (h.same _ ?_),fun _=>rfl,fun h=>absurd rfl h,fun _=>rfl,fun f=>.inl f⟩;unfold wS;split<;>rfl
theorem RwB.end_{s:aG}{z:bB}(h:RwB s z){j:Nat}(hj:T3 j)(l:∀i,T3 i→(z.tk i).st=2→i=j)(e r:Int):oL s (mX z j e r):=by
 have b:=h.jB hj (t:={z.tk j with st:=3,err:=e,res:=r}) rfl ⟨by show(0:Int)≤3;decide,by show(3:Int)≤3;decide⟩ (h.val j hj) (fun k=>nN 3 1 k)
 refine⟨⟨b.wn,b.len,b.nn,b.cnt,b.c7,b.call,b.st,b.val,b.many,fun p f=>by cases f⟩,.inl ⟨rfl,fun i d a=>?_,rfl,rfl,rfl⟩⟩
 have a:((z.jB j {z.tk j with st:=3,err:=e,res:=r}).tk i).st=2:=a
 rw[Cw d hj] at a;split at a
 ·exact nN 3 2 a
 ·rename_i c
  exact c (l i d a)
theorem aLR{z:bB}{i j:Nat}(hi:T3 i)(hj:T3 j):(nJ z j).tk i=if i=j then {z.tk j with st:=2} else z.tk i:=Cw hi hj
theorem aRb{s:aG}(hm:s.made){z:bB}(h:oL s z)(m:z.cJ < 0)(x:aP){j:Nat}(hj:T3 j):oL s (iB s x z j).1∧z.aS=false∧((iB s x z j).1.aS=false→(iB s x z j).2=x)∧((iB s x z j).1.aS=true→∃(d:Nat) (K:Bool) (A v:Int) (dv:cH),s.aH[d]? =some dv∧0≤A∧A < dv.aX.length∧0≤v∧v < 4294967296∧(iB s x z j).1.id=x.aS∧(iB s x z j).2=Fo x d K A v):=by
 obtain⟨_,u,a,G,I⟩:z.cJ= -1∧(∀j,T3 j→(z.tk j).st≠2)∧z.aS=false∧z.steps=[]∧z.sent=false:=by
  rcases h.cJ with D | ⟨i,_,D,_⟩
  ·exact D
  ·omega
 have B:RwB s (nJ z j):=by
  have:=h.toRwB.jB hj (t:={z.tk j with st:=2}) rfl ⟨by show(0:Int)≤2;decide,by show(2:Int)≤3;decide⟩ (h.val j hj) (fun m=>nN 2 1 m)
  exact⟨this.wn,this.len,this.nn,this.cnt,this.c7,this.call,this.st,this.val,this.many,this.zA⟩
 have E:∀i,T3 i→(((nJ z j).tk i).st=2↔i=j):=fun i c=>by
  rw[aLR c hj];split
  ·rename_i e;exact⟨fun _=>e,fun _=>rfl⟩
  ·rename_i e;exact⟨fun m=>absurd m (u i c),fun m=>absurd m e⟩
 have f:=aGg hm B x hj (z.tk j).kind
 have n:=aGh s x (nJ z j) j (z.tk j).kind
 have o:(nJ z j).aS=false:=a
 unfold iB;dsimp only;generalize mY s x (nJ z j) j (z.tk j).kind=r at f n;split
 ·rename_i w
  obtain⟨H,J⟩:=f.err w;rw[H,J];exact⟨B.end_ hj (fun i c k=>(E i c).1 k) _ _,a,fun _=>rfl,fun l=>by cases l⟩
 ·have C:∀i,T3 i→((r.2.1.tk i).st=2↔i=j):=fun i c=>by rw[f.st i];exact E i c
  split
  ·rename_i y
   exact⟨f.b.end_ hj (fun i c k=>(C i c).1 k) _ _,a,fun _=>f.x_ y.1,fun l=>by cases l⟩
  ·rename_i y
   refine⟨⟨f.b,.inr ⟨j,hj,n,C,fun l F=>y ⟨l,by rw[F];rfl⟩⟩⟩,a,f.x_,fun l=>?_⟩;rcases f.po l with p | p
   ·rw[o] at p;cases p
   ·exact p
theorem aRF{s:aG}{z:bB}{y:bN}(h:oL s z)(hy:mL s y){j:Nat}(hj:T3 j)(e:(z.tk j).st=2)(b:z.aS=false):oL s (fN z y j).1∧mL s (fN z y j).2∧(fN z y j).1.aS=false:=by
 obtain⟨x,d,o⟩:z.cJ=(j:Int)∧(∀i,T3 i→((z.tk i).st=2↔i=j))∧z.steps≠[]:=by
  rcases h.cJ with⟨_,r,_⟩ | ⟨i,l,r,d,A⟩
  ·exact absurd e (r j hj)
  ·obtain rfl:=(d j hj).1 e;exact⟨r,d,A b⟩
 unfold fN;split
 ·cases H:jC y 0 with
  | none=>exact⟨h,hy.read 0,b⟩
  | some a =>
   dsimp only
   have t:RwB s (oN z a):=by
    unfold oN;split
    ·exact⟨h.wn,h.len,h.nn,h.cnt,h.c7,h.call,h.st,h.val,h.many,fun p C=>h.zA p (List.mem_of_mem_tail C)⟩
    ·exact⟨h.wn,h.len,h.nn,h.cnt,h.c7,h.call,h.st,h.val,h.many,h.zA⟩
   have w:∀i,(oN z a).tk i=z.tk i:=fun i=>by unfold oN;split<;>rfl
   have m:(oN z a).cJ=z.cJ:=by unfold oN;split<;>rfl
   have n:(oN z a).aS=z.aS:=by unfold oN;split<;>rfl
   split
   ·exact⟨t.end_ hj (fun i l c=>by rw[w] at c;exact(d i l).1 c) _ _,hy.read 0,rfl⟩
   ·rename_i D
    exact⟨⟨t,.inr ⟨j,hj,m.trans x,fun i l=>by rw[w];exact d i l,fun _ c=>D (by rw[c];rfl)⟩⟩,hy.read 0,n.trans b⟩
 ·cases c:z.steps with
  | nil=>exact absurd c o
  | cons p tl =>
   dsimp only;obtain⟨G,k⟩:=h.zA p (by rw[c];simp)
   have F:mJ (kA p z.many):=fun v u=>by
    simp only[kA,List.mem_cons,List.not_mem_nil,or_false] at u;rcases u with rfl | rfl | rfl
    ·exact aE7 _ _ _ _
    ·exact k.id
    ·exact k.v
   have f:=hy.send 0 F (by simp[kA])
   split
   ·refine⟨⟨⟨h.wn,h.len,h.nn,h.cnt,h.c7,h.call,h.st,h.val,?_,fun q B=>h.zA q (by rw[c];exact B)⟩,.inr ⟨j,hj,x,d,fun _ E=>by cases E⟩⟩,f,b⟩
    have:=h.many
    show 0≤(z.many+1) % 1024∧(z.many+1) % 1024 < 1024
    omega
   ·exact⟨h,f,b⟩
theorem aJE{s:aG}{z:bB}(h:oL s z)(t k d r v:Int)(w:0≤v∧v < 4294967296):oL s (oO z t k d r v).2∧(oO z t k d r v).2.aS=z.aS∧(oO z t k d r v).2.id=z.id:=by
 unfold oO;split
 ·exact⟨h,rfl,rfl⟩
 ·rename_i m
  obtain⟨j,rfl,p⟩:=vI (t:=t) (by simpa using m);rw[Int.toNat_natCast];split
  ·exact⟨h,rfl,rfl⟩
  ·rename_i l
   have l:(z.tk j).st=0:=Classical.byContradiction l
   split
   ·exact⟨h,rfl,rfl⟩
   ·rename_i b
    have b:vH k:=Classical.byContradiction b
    refine⟨⟨h.toRwB.jB p rfl ⟨by show(0:Int)≤1;decide,by show(1:Int)≤3;decide⟩ w (fun _=>b),?_⟩,rfl,rfl⟩
    have c:∀i,T3 i→(((z.jB j {z.tk j with st:=1,kind:=k,dev:=d,bZ:=r,val:=v}).tk i).st=2↔(z.tk i).st=2):=fun i a=>by
     rw[Cw a p];split
     ·rename_i e;subst e
      rw[l];exact⟨fun h=>nN 1 2 h,fun h=>nN 0 2 h⟩
     ·exact Iff.rfl
    rcases h.cJ with⟨n,o,f⟩ | ⟨i,a,n,o,f⟩
    ·exact .inl ⟨n,fun i a u=>o i a ((c i a).1 u),f⟩
    ·exact .inr ⟨i,a,n,fun k b=>(c k b).trans (o k b),f⟩
theorem aPl{s:aG}{z:bB}(h:oL s z)(t:Int):oL s (fV z t).2∧(fV z t).2.aS=z.aS∧(fV z t).2.id=z.id:=by
 unfold fV;split
 ·exact⟨h,rfl,rfl⟩
 ·rename_i f
  obtain⟨j,rfl,o⟩:=vI (t:=t) (by simpa using f);rw[Int.toNat_natCast];split
  ·exact⟨h,rfl,rfl⟩
  ·rename_i d
   have d:(z.tk j).st=3:=Classical.byContradiction d
   refine⟨⟨h.toRwB.jB o rfl ⟨by show(0:Int)≤0;decide,by show(0:Int)≤3;decide⟩ ⟨by show(0:Int)≤0;decide,by show(0:Int) < 4294967296;decide⟩ (fun h=>nN 0 1 h),?_⟩,rfl,rfl⟩
   have b:∀i,T3 i→(((z.jB j {z.tk j with st:=0,kind:=0,dev:=0,bZ:=0,val:=0,err:=0,res:=0}).tk i).st=2↔(z.tk i).st=2):=fun i a=>by
    rw[Cw a o];split
    ·rename_i e;subst e
     rw[d];exact⟨fun h=>nN 0 2 h,fun h=>nN 3 2 h⟩
    ·exact Iff.rfl
   rcases h.cJ with⟨l,m,c⟩ | ⟨i,a,l,m,c⟩
   ·exact .inl ⟨l,fun i a p=>m i a ((b i a).1 p),c⟩
   ·exact .inr ⟨i,a,l,fun k n=>(b k n).trans (m k n),c⟩
theorem aRo{s:aG}{z:bB}(h:oL s z)(a:fS):oL s (pX z a):=by
 unfold pX;split
 ·exact h
 ·rename_i l
  obtain⟨j,n,m,d⟩:∃j:Nat,T3 j∧z.cJ=(j:Int)∧∀i,T3 i→((z.tk i).st=2↔i=j):=by
   rcases h.cJ with⟨_,_,c,_⟩ | ⟨i,b,c,d,_⟩
   ·exact absurd c l
   ·exact⟨i,b,c,d⟩
  have f:∀e r,oL s (mX z z.cJ.toNat e r):=fun e r=>by
   rw[m,Int.toNat_natCast];exact h.toRwB.end_ n (fun i b k=>(d i b).1 k) e r
  split
  ·exact h
  ·split
   ·exact f _ _
   ·exact f _ _
theorem aHd{s:aG}:∀(l:List fS) {z:bB},oL s z→oL s (nA z l)
 | [],_,h=>h
 | a::l,_,h=>aHd l (aRo h a)
theorem oL.po{s:aG}{z:bB}(h:oL s z):Js z:=fun b=>by
 rcases h.cJ with⟨_,_,a,_⟩ | ⟨i,c,a,_⟩
 ·rw[a] at b;cases b
 ·exact⟨i,a,c⟩
theorem oL.go{s:aG}{z:bB}{y:bN}(h:oL s z)(hy:FwB s y):aHN s z y:=by
 refine⟨h.rp,h.call,fun j d b=>?_,h.many,fun p f=>(aB2 (h.zA p f).1 h.many.1 h.many.2).1,fun a l=>hy.ans l⟩;rcases h.cJ with⟨_,c,_⟩ | ⟨i,m,c,k,e⟩
 ·exact absurd b (c j d)
 ·obtain rfl:=(k j d).1 b;exact⟨c,e⟩
theorem aK7{s:aG}:oL s (Pr s):=by
 have b:∀j,T3 j→(Pr s).tk j=Oz:=by rintro j (rfl | rfl | rfl)<;>rfl
 have c:∀i,hG Oz i=0:=fun i=>by
  match i with
  | 0 | 1 | 2 | 3 | 4 | 5=>rfl
  | n+6=>rfl
 refine⟨⟨aAh s [],fun j a=>by rw[b j a];rfl,fun j a i=>by rw[b j a,c];decide,fun i=>?_,fun i=>?_,fun j a h=>?_,fun j a=>?_,fun j a=>?_,⟨by show(0:Int)≤0;decide,by show(0:Int) < 1024;decide⟩,fun p d=>by cases d⟩,.inl ⟨rfl,fun j a h=>?_,rfl,rfl,rfl⟩⟩
 ·rw[b 0 (.inl rfl),b 1 (.inr (.inl rfl)),b 2 (.inr (.inr rfl)),c];rfl
 ·show(0:Int)≤7
  decide
 ·rw[b j a] at h;exact nN 0 1 h
 ·rw[b j a];decide
 ·rw[b j a];decide
 ·rw[b j a] at h;exact nN 0 2 h
theorem aSB{w0:World}{R:List Piece}{H:List HP}{q:Piece}{A:Option Addr}{es:List (Int×Nat)}{j:Nat}{p:Int×Nat}(d:q∈R)(hs:aM q 2 A es.length (es.flatMap Bu))(hj:es[j]? =some p):∃b off,A=some ⟨b,off,none⟩∧aV w0 R H b (off+j*2) (Bu p):=by
 have a:=(List.getElem?_eq_some_iff.1 hj).1
 obtain⟨b,off,h,c,f⟩:=aM.vC (rows:=es.map Bu) (sz:=2) (k:=j) (r:=Bu p) (n:=es.length) (by rw[←List.flatMap_def];exact hs) (fun r i=>by
  obtain⟨x,_,rfl⟩:=List.mem_map.1 i
  rfl) (by rw[List.getElem?_map,hj];rfl) a
 exact⟨b,off,h,.of fun k v e=>Rd.ro d c (f k v e)⟩
def eO(s:aG)(x:aP):Nat→aP×List fS
 | 0=>(x,[])
 | n+1=>((eP s (eO s x n).1 n).1,(eO s x n).2++(eP s (eO s x n).1 n).2.toList)
def lQ(s:aG)(x:aP)(a:Int):aP×List fS:=(jA s (eO s x s.aH.length).1 a,(eO s x s.aH.length).2)
theorem Gp{s:aG}{x:aP}(b:cR s x)(a:Ah s x):∀n,cR s (eO s x n).1∧Ah s (eO s x n).1
 | 0=>⟨b,a⟩
 | n+1=>⟨aRu (Gp b a n).1 (Gp b a n).2 n,aRr (Gp b a n).2 n⟩
theorem Yg{s:aG}{x:aP}:∀n,(eO s x n).2.length≤n
 | 0=>Nat.le_refl _
 | n+1=>by
  have:=Yg (s:=s) (x:=x) n
  show((eO s x n).2++_).length≤_
  rw[List.length_append];cases(eP s (eO s x n).1 n).2<;>simp<;>omega
theorem Yf{s:aG}{x:aP}{i:Nat}(h:(x.wt[i]?).join=none):eP s x i=(x,none):=by
 unfold eP;rw[h]
theorem aCr{s:aG}{x:aP}{i:Nat}{t:jH}(b:cR s x)(hi:i < s.aH.length)(h:(x.wt[i]?).join=some t):∃a,(eP s x i).2=some a∧(eP s x i).1.wt=x.wt.set i none:=by
 obtain⟨d,hd⟩:=get_some hi;obtain⟨p,c⟩:=get_some (l:=x.dv) (i:=i) (by have:=b.dv;omega);unfold eP;rw[h,hd,c];dsimp only;split<;>exact⟨_,rfl,rfl⟩
theorem aRv{s:aG}{x:aP}(b:cR s x)(i j:Nat)(h:j=i∨(x.wt[j]?).join=none):((eP s x i).1.wt[j]?).join=none:=by
 cases c:(x.wt[i]?).join with
 | none=>
  rw[Yf c];rcases h with rfl | h
  ·exact c
  ·exact h
 | some t =>
  have e:i < s.aH.length:=by
   have:=b.wt
   rcases Nat.lt_or_ge i x.wt.length with h | h
   ·omega
   ·rw[List.getElem?_eq_none h] at c;cases c
  obtain⟨a,_,k⟩:=aCr b e c;rw[k];cases d:((x.wt.set i none)[j]?).join with
  | none=>rfl
  | some t' =>
   have f:=aAz d
   rcases h with rfl | h
   ·rw[List.getElem?_set] at d;simp at d;split at d<;>cases d
   ·rw[h] at f;cases f
theorem aHc{s:aG}{x:aP}(a:cR s x)(b:Ah s x):∀n j,j < n→((eO s x n).1.wt[j]?).join=none
 | 0,_,h=>absurd h aA
 | n+1,j,h=>aRv (Gp a b n).1 n j (by
  by_cases hj:j=n
  ·exact .inl hj
  ·exact .inr (aHc a b n j aA))
theorem aGY{s:aG}{x:aP}(b:cR s x)(a:Ah s x)(i:Nat):kS (eO s x s.aH.length).1.wt i=0:=by
 have h:=(Gp b a s.aH.length).1.wt
 unfold kS;rcases Nat.lt_or_ge i s.aH.length with c | c
 ·rw[aHc b a _ i c];rfl
 ·rw[List.getElem?_eq_none aA];rfl
theorem aNA(L:HL)(s:aG)(C:aP)(w:World)(hH:s.dF)(I:gQ L s)(aB1:cR s C)(aFp:Ah s C)(k:Int)(hd:0≤k∧k < 4294967296)(F:Nat→Prop)(hp:(dS L s C).sat F w)(hF:∀b,F b→b < w.heap.size):
  Cz 82 #[.pointer (some ⟨L.h,0,none⟩),.int .u32 k] w (fun y w'=>∃a:Option Addr×Nat,y=.returned (.slice a.1 (lQ s C k).2.length a.2)∧True∧∃F',(HP.many [dS L s (lQ s C k).1,HP.own 49 4 (.slice a.1 (lQ s C k).2.length a.2) (lQ s C k).2.length ((lQ s C k).2.flatMap fS.cells)]).sat F' w'∧iI w w' F F'):=by
 have Dl:=hH.t.nv
 have hnd:=hH.t.nd
 have hls:=I.ds
 refine dD func82 ntmps82 hp hF ?_;generalize hR0:(⟨w,fun b=>b < w.heap.size∧¬F b⟩:Piece)=R0;refine aB ?_;refine aZ (fun K t=>zO L s C K (t.mU 0 rfl I aB1)) ?_;refine aB ?_;refine kd (bP rfl (qE 0 rfl rfl)) ?_;refine aB ?_;refine mH 49 4 ?_;refine bT [(24,iv 0),(23,iv s.aH.length),(5,sn),(0,.pointer (some ⟨L.h,0,none⟩)),(1,.int .u32 k)] ?_;refine fG (fun m e R H=>∃(i:Nat) (A:Option Addr) (c:Nat),i≤s.aH.length∧m=s.aH.length - i∧e=[(24,iv i),(23,iv s.aH.length),(5,.slice A (eO s C i).2.length c),(0,.pointer (some ⟨L.h,0,none⟩)),(1,.int .u32 k)]∧R=[R0]∧H=[HP.own 49 4 (.slice A (eO s C i).2.length c) (eO s C i).2.length ((eO s C i).2.flatMap fS.cells),dS L s (eO s C i).1]) s.aH.length ⟨0,none,0,aA,rfl,rfl,rfl,rfl⟩ fun m e R H hI=>?_;obtain⟨i,A0,c0,hi,rfl,rfl,rfl,rfl⟩:=hI;obtain⟨z,Y⟩:=Gp aB1 aFp i
 have X:=Yg (s:=s) (x:=C) i
 refine aB ?_;refine aK rfl (fun o=>?_) (fun hge=>?_)
 ·have o:i < s.aH.length:=aA
  have n:eO s C (i+1)=((eP s (eO s C i).1 i).1,(eO s C i).2++(eP s (eO s C i).1 i).2.toList):=rfl
  generalize hr:eO s C i=r at z Y X n⊢;obtain⟨xi,l⟩:=r;dsimp only at z Y X n⊢;cases hj:(xi.wt[i]?).join with
  | none=>
   rw[Yf hj] at n;refine aB ?_;refine aZ (fun K t=>aNI L s xi i o (by unfold kS;rw[hj];rfl) K (t.mU 1 rfl I z)) ?_;refine aB ?_;refine cQ fun g1=>?_;refine aB ?_;refine aY [1,2] rfl aC (fun _ h=>h) ?_;refine bT [(24,iv (i+1:Nat)),(23,iv s.aH.length),(5,.slice A0 l.length c0),(0,.pointer (some ⟨L.h,0,none⟩)),(1,.int .u32 k)] ?_;exact iD (s.aH.length - (i+1)) aA ⟨i+1,A0,c0,o,rfl,by rw[n];simp,rfl,by rw[n];simp⟩
  | some t=>
   obtain⟨d,u⟩:=get_some o;obtain⟨a,ha,_⟩:=aCr z o hj;obtain⟨aid,aHe,aRG,aRd⟩:=a;rw[ha] at n;refine aB ?_;refine We (v:=.tuple #[.agg #[iv aid,iv aHe,.bool aRG,.int .u32 aRd],.bool true]) 1 (dS L s (eP s xi i).1) (fun K F1 st h1 h2 h3=>aNH L s xi K hH I z Y i d u t hj _ ha F1 h1 h2) ?_;dsimp only[List.set];refine aB ?_;refine cQ fun g1=>?_;refine aB ?_;refine eT fun g4=>?_;refine aB ?_;refine iL 2 4 24 1 (n':=l.length+1) (el:=49) aF aF aC rfl rfl rfl (nH 0 rfl rfl) (by simp[Value.oneCell']) rfl aA aA aC fun An cn=>?_;dsimp only[List.set];refine aB ?_;refine aY [2,3] rfl aC (fun _ h=>h) ?_;refine bT [(24,iv (i+1:Nat)),(23,iv s.aH.length),(5,.slice An (l.length+1) cn),(0,.pointer (some ⟨L.h,0,none⟩)),(1,.int .u32 k)] ?_;exact iD (s.aH.length - (i+1)) aA ⟨i+1,An,cn,o,rfl,by rw[n];simp,rfl,by rw[n];simp[fS.cells]⟩
 obtain rfl:i=s.aH.length:=by omega
 have Wi:=aGY aB1 aFp
 have U:lQ s C k=(jA s (eO s C s.aH.length).1 k,(eO s C s.aH.length).2):=rfl
 generalize hr:eO s C s.aH.length=r at z Y X Wi U⊢;obtain⟨x,l⟩:=r;dsimp only at z Wi X U⊢;rw[U]
 have E:=z
 have pM:=E.dv
 refine aY [1,0] rfl aC (fun _ h=>h) ?_;generalize hT:HP.own 49 4 (.slice A0 l.length c0) l.length (l.flatMap fS.cells)=T;generalize hTv:Value.slice A0 l.length c0=tv;refine aB ?_;refine kd (bP rfl (qE 0 rfl rfl)) ?_;refine aB ?_
 have hq0:xU x k 0=x.dv:=Lh _ _
 refine bT [(44,iv 0),(43,iv s.aH.length),(42,.slice L.A s.aH.length L.c),(5,tv),(0,.pointer (some ⟨L.h,0,none⟩)),(1,.int .u32 k)] ?_;refine fG (fun m e R H=>∃i:Nat,i≤s.aH.length∧m=s.aH.length - i∧e=[(44,iv i),(43,iv s.aH.length),(42,.slice L.A s.aH.length L.c),(5,tv),(0,.pointer (some ⟨L.h,0,none⟩)),(1,.int .u32 k)]∧R=[R0]∧H=[dS L s {x with dv:=xU x k i},T]) s.aH.length ⟨0,aA,rfl,rfl,rfl,by rw[hq0]⟩ fun m e R H hI=>?_;obtain⟨i,hi,rfl,rfl,rfl,rfl⟩:=hI
 have D:=aBb hH E k i
 refine aB ?_;refine aK rfl (fun o=>?_) (fun hge=>?_)
 ·have o:i < s.aH.length:=aA
  obtain⟨d,u⟩:=get_some o;obtain⟨l,V⟩:=get_some (l:=L.ds) (i:=i) aA;obtain⟨p,N⟩:=get_some (l:=x.dv) (i:=i) aA
  have O:(xU x k i)[i]? =some p:=Lj N
  have hstep:(xU x k i).set i (p.1,sZ p.2 (decide (0 < kS x.wt i)) (Ea k i))=xU x k (i+1):=Li (f:=fun i p=>(p.1,sZ p.2 (decide (0 < kS x.wt i)) (Ea k i))) N
  have hw0:decide (0 < kS x.wt i)=false:=by rw[Wi i];rfl
  rw[hw0] at hstep;refine Jh 0 rfl I D aA fun b off hA=>?_;refine aB ?_;refine kd (dat i (off+i*6) (hx:=by rw[←hA];rfl)) ?_;refine kd (kO rfl (aV.dev 0 rfl I D hA u V rfl)) ?_;refine cQ fun g1=>?_;refine aB ?_;refine jG [0,1,3,4,5,11,12,13] ?_;refine bQ 2 ?_;refine bQ 6 ?_;refine bQ 9 ?_;refine bQ 10 ?_;refine aO 0 ?_;refine aO 1 ?_;refine aO 3 ?_;refine aO 4 ?_;refine aO 5 ?_ (dG:=bP rfl (qE 1 rfl rfl));refine aO 11 ?_ (dG:=aGq rfl rfl (c:=k.fdiv (2 ^ min i 32)) aA rfl);refine aO 12 ?_ (dG:=aGx (c:=Yi (k.fdiv (2 ^ min i 32)) 1) rfl rfl (fun _=>rfl) aD);refine aO 13 ?_;refine aQ 7 ?_;refine aZ (fun K t=>aGK L.B (kF s) x.wt x.aS i (by rw[Dh];exact o) K (t.mU 1 rfl I D).Yd) ?_;refine bH ?_;refine aQ 8 ?_;refine bJ ?_;refine bH ?_;refine aQ 14 ?_;refine Nl 1 i rfl u V O ?_;dsimp only[List.set];refine bE 0 1 ?_;refine cG 0 (tT l.2 (sZ p.2 (decide ((kS x.wt i:Int)>0)) (Ea k i))) (fun K F1 t h1 h2 h3=>aLi _ _ h1 h2) ?_;refine aN 0 1 ?_;refine Nu 1 i rfl u V O (p':=(p.1,sZ p.2 (decide ((kS x.wt i:Int)>0)) (Ea k i))) ?_;dsimp only[List.set]
  have hw1:decide ((kS x.wt i:Int)>0)=false:=by rw[Wi i];rfl
  rw[hw1,hstep];refine cS ?_;refine eM ?_;refine aB ?_;refine aY [1,2] rfl aC (fun _ h=>h) ?_;exact fA (s.aH.length - (i+1)) ⟨i+1,o,rfl,rfl,rfl,rfl⟩
 obtain rfl:i=s.aH.length:=by omega
 have Z:=aBb hH E k s.aH.length
 generalize hdv:xU x k s.aH.length=zU at Z⊢;refine aB ?_;refine kd (bP rfl (qE 0 rfl rfl)) ?_;refine aB ?_;refine bE 0 1 ?_;refine cG 0 (qA L.T s (lD s x.ck)) (fun K F1 t h1 h2 h3=>aQp L.T s x.ck hH I.fa E.ck K F1 h1 h2) ?_;refine aN 0 1 ?_
 change XK _ _ _ _ _ [dS L s {x with ck:=lD s x.ck,dv:=zU},T]
 refine aB ?_;refine kd (bP rfl (qE 0 rfl rfl)) ?_;refine aB ?_;refine bE 0 2 ?_;refine vX (α:=Option Addr×Nat) 0 (f:=146) (fi:=[]) (ca:=[]) (fun a=>.slice a.1 (lH x.dm s.domains.length).length a.2) (fun a=>HP.many [uX L.G s (pI x.dm),HP.own 258 2 (.slice a.1 (lH x.dm s.domains.length).length a.2) (lH x.dm s.domains.length).length ((lH x.dm s.domains.length).flatMap Bu)]) (fun _=>True) aF rfl rfl rfl aC (fun K F1 t h1 h2 h3=>aLs L.G s x.dm E.dm aA K F1 h1 h2) ?_;rintro⟨Ae,ce⟩ _;dsimp only[List.set];refine bE 0 0 ?_;refine aN 1 2 ?_;refine bE 0 1 ?_;refine dK [] [0] [2,3] aD rfl aC aC fun q hq _ hfr=>?_;obtain⟨F2,sf2,Zs⟩:=hq 0 _ aD rfl
 have hev:aM q 2 Ae (lH x.dm s.domains.length).length ((lH x.dm s.domains.length).flatMap Bu):=aM.own ⟨F2,sf2,Zs⟩
 have aNs:cR s {x with ck:=lD s x.ck,dm:=pI x.dm,dv:=zU}:=⟨aAs hH E.ck,aAr E.dm,E.ln,Z.dv,Z.each,E.wt⟩
 have hel:(lH x.dm s.domains.length).length≤1000:=Nat.le_trans (aGb x.dm s.domains.length) aA
 generalize hes:lH x.dm s.domains.length=es at hev hel⊢
 change XK _ _ _ _ _ [dS L s {x with ck:=lD s x.ck,dm:=pI x.dm,dv:=zU},T]
 refine aB ?_;refine bT [(76,iv 0),(75,iv es.length),(74,.slice Ae es.length ce),(5,tv),(0,.pointer (some ⟨L.h,0,none⟩))] ?_;refine fG (fun m e R H=>∃j:Nat,j≤es.length∧m=es.length - j∧e=[(76,iv j),(75,iv es.length),(74,.slice Ae es.length ce),(5,tv),(0,.pointer (some ⟨L.h,0,none⟩))]∧R=[q,R0]∧H=[dS L s {x with ck:=lD s x.ck,dm:=pI x.dm,dv:=(es.take j).foldl (rB s) zU},T]) es.length ⟨0,aA,rfl,rfl,rfl,rfl⟩ fun m e R H hI=>?_;obtain⟨j,hj,rfl,rfl,rfl,rfl⟩:=hI
 have aB0:cR s {x with ck:=lD s x.ck,dm:=pI x.dm,dv:=(es.take j).foldl (rB s) zU}:=aBH hH (es.take j) _ aNs
 refine aB ?_;refine aK rfl (fun o=>?_) (fun hge=>?_)
 ·have o:j < es.length:=aA
  obtain⟨p,N⟩:=get_some o
  have n:(es.take (j+1)).foldl (rB s) zU=rB s ((es.take j).foldl (rB s) zU) p:=by
   rw[List.take_add_one,N,List.foldl_append];rfl
  generalize hx3:({x with ck:=lD s x.ck,dm:=pI x.dm,dv:=(es.take j).foldl (rB s) zU}:aP)=x3 at aB0
  have hx4:({x with ck:=lD s x.ck,dm:=pI x.dm,dv:=(es.take (j+1)).foldl (rB s) zU}:aP)={x3 with dv:=rB s x3.dv p}:=by rw[n,←hx3]
  have aSU:=aB0.dv
  obtain⟨be,aLV,hAe,hrd⟩:=aSB (w0:=w) (R:=[q,R0]) (H:=[dS L s x3,T]) aD hev N;obtain⟨J,M⟩:=p;refine aB ?_;refine kd (dat j (aLV+j*2) (hx:=by rw[←hAe];rfl)) ?_;refine kd (kO rfl hrd) ?_;refine cQ fun g1=>?_;refine aB ?_;refine aZ (fun K t=>aNF J K) ?_
  by_cases hk:J=115∨J=114∨J=108∨J=110
  ·obtain⟨f,aB4,hcb,aB7⟩:=aPT hk;rw[aB4];refine aB ?_;refine kd (aGw rfl (.inr ⟨⟨_,_,_,rfl⟩,rfl⟩)) ?_;refine aB ?_;refine kd (bP rfl (qE 1 rfl rfl)) ?_;refine aB ?_
   have hm0:zJ s x3.dv (J,M) 0=x3.dv:=Lh _ _
   refine bT [(90,iv 0),(89,iv s.aH.length),(88,.slice L.A s.aH.length L.c),(13,.func (.func f) #[] #[]),(12,pt g1),(76,iv j),(75,iv es.length),(74,.slice Ae es.length ce),(5,tv),(0,.pointer (some ⟨L.h,0,none⟩))] ?_;refine fG (fun m e R H=>∃i:Nat,i≤s.aH.length∧m=s.aH.length - i∧e=[(90,iv i),(89,iv s.aH.length),(88,.slice L.A s.aH.length L.c),(13,.func (.func f) #[] #[]),(12,pt g1),(76,iv j),(75,iv es.length),(74,.slice Ae es.length ce),(5,tv),(0,.pointer (some ⟨L.h,0,none⟩))]∧R=[q,R0]∧H=[HP.aI g1 258 [.int .u8 J,iv (M:Int)],dS L s {x3 with dv:=zJ s x3.dv (J,M) i},T]) s.aH.length ⟨0,aA,rfl,rfl,rfl,by rw[hm0];rfl⟩ fun m e R H hI=>?_;obtain⟨i,hi,rfl,rfl,rfl,rfl⟩:=hI
   have D:=aEW hH aB0 (J,M) i
   refine aB ?_;refine aK rfl (fun o=>?_) (fun hge=>?_)
   ·have o:i < s.aH.length:=aA
    obtain⟨d,u⟩:=get_some o;obtain⟨l,V⟩:=get_some (l:=L.ds) (i:=i) aA;obtain⟨p,N⟩:=get_some (l:=x3.dv) (i:=i) aA
    have O:(zJ s x3.dv (J,M) i)[i]? =some p:=Lj N
    have hstep:(zJ s x3.dv (J,M) i).set i (Bx s (J,M) i p)=zJ s x3.dv (J,M) (i+1):=Li (f:=Bx s (J,M)) N
    have hfo:=(D.each i d p u O).1
    refine Jh 1 rfl I D aA fun b off hA=>?_;refine aB ?_;refine kd (dat i (off+i*6) (hx:=by rw[←hA];rfl)) ?_;refine kd (kO rfl (aV.dev 1 rfl I D hA u V rfl)) ?_;refine cQ fun g2=>?_;refine aB ?_;refine aK rfl (fun he=>?_) (fun he=>?_)
    ·have Qu:Bx s (J,M) i p=(Ec J d p.1,p.2):=by
      unfold Bx;rw[u];exact if_pos he
     refine aB ?_;refine Nl 2 i rfl u V O ?_;dsimp only[List.set];refine bE 0 0 ?_;refine Wd 0 (fi:=[]) (ca:=[]) (iF l.1 d (Ec J d p.1)) (fun K F1 t h1 h2 h3=>by simpa using aB7 l.1 d p.1 (by have:=(hH.t.aH i d u).2.2.2.2.2.2.2.2.1;omega) hfo K F1 h1 h2) ?_ (hf:=hcb);dsimp only[List.set];refine aN 0 0 ?_;refine Nu 2 i rfl u V O (p':=(Ec J d p.1,p.2)) ?_;dsimp only[List.set];rw[←Qu,hstep];refine aB ?_;refine aY [1,2,3] rfl aC (fun _ h=>h) ?_;exact fA (s.aH.length - (i+1)) ⟨i+1,o,rfl,rfl,rfl,rfl⟩
    ·have Qu:Bx s (J,M) i p=p:=by
      unfold Bx;rw[u];exact if_neg he
     rw[Qu,wE O] at hstep;rw[hstep];refine aB ?_;refine aY [1,2,3] rfl aC (fun _ h=>h) ?_;exact fA (s.aH.length - (i+1)) ⟨i+1,o,rfl,rfl,rfl,rfl⟩
   obtain rfl:i=s.aH.length:=by omega
   refine aB ?_;refine aY [1,2] rfl aC (fun _ h=>h) ?_;refine bT [(76,iv (j+1:Nat)),(75,iv es.length),(74,.slice Ae es.length ce),(5,tv),(0,.pointer (some ⟨L.h,0,none⟩))] ?_;exact iD (es.length - (j+1)) aA ⟨j+1,aA,rfl,rfl,rfl,by rw[hx4];rfl⟩
  ·have aB4:Eb J=.nilFunc:=by
    rw[Eb,if_neg aA,if_neg aA,if_neg aA]
   rw[aB4];refine aB ?_;refine kd (aGw rfl (.inl ⟨rfl,rfl⟩)) ?_;refine aB ?_;refine aY [1,2] rfl aC (fun _ h=>h) ?_;refine bT [(76,iv (j+1:Nat)),(75,iv es.length),(74,.slice Ae es.length ce),(5,tv),(0,.pointer (some ⟨L.h,0,none⟩))] ?_;exact iD (es.length - (j+1)) aA ⟨j+1,aA,rfl,rfl,rfl,by rw[hx4,aM0 hk,←hx3]⟩
 obtain rfl:j=es.length:=by omega
 rw[List.take_length];refine aB ?_;refine kd (bP rfl (qE 0 rfl rfl)) ?_;refine aB ?_;refine bE 0 3 ?_;refine vX (α:=Option Addr×Nat×Nat) 0 (f:=148) (fi:=[]) (ca:=[]) (fun a=>.slice a.1 a.2.1 a.2.2) (fun _=>pP L.R s (yX x.ln)) (fun _=>True) aF rfl rfl rfl aC (fun K F1 t h1 h2 h3=>aKx L.R s x.ln hH E.ln K F1 h1 h2) ?_;rintro _ _;dsimp only[List.set];refine aN 0 3 ?_
 change XK _ _ _ _ _ [dS L s {x with ck:=lD s x.ck,dm:=pI x.dm,ln:=yX x.ln,dv:=es.foldl (rB s) zU},T]
 have aN0:({x with ck:=lD s x.ck,dm:=pI x.dm,ln:=yX x.ln,dv:=es.foldl (rB s) zU}:aP)=jA s x k:=by rw[jA,hdv,hes]
 rw[aN0];refine aB ?_;subst hR0;subst hT;subst hTv;refine nM ?_;exact nB rfl rfl fun K t=>⟨(A0,c0),rfl,trivial,t.turns hF aD (i:=0) rfl⟩
structure eC where
 z:bB
 y:bN
 x:aP
def eC.start(m:eC)(t k d r v:Int):eC:=⟨(oO m.z t k d r v).2,m.y,m.x⟩
def eC.done(m:eC)(t:Int):eC:=⟨(fV m.z t).2,m.y,m.x⟩
def eC.step(s:aG)(m:eC)(t:Int):eC:=⟨(kL s m.z m.y m.x t).1,(kL s m.z m.y m.x t).2.1,(kL s m.z m.y m.x t).2.2⟩
def eC.cK(s:aG)(m:eC):eC:=⟨m.z,(eB s m.x m.y).1,(eB s m.x m.y).2⟩
def eC.tick(s:aG)(m:eC)(a:Int):eC:=⟨nA m.z (lQ s m.x a).2,m.y,(lQ s m.x a).1⟩
structure fC(s:aG)(n:Nat)(m:eC):Prop where
 nI:oL s m.z
 fw:mL s m.y
 hw:cR s m.x
 wt:Ah s m.x
 po:0≤m.x.aS∧m.x.aS≤n
 w0:m.z.aS=false→∀i:Nat,(m.x.wt[i]?).join=none
 w1:m.z.aS=true→∃(i:Nat) (t:jH),i < s.aH.length∧(m.x.wt[i]?).join=some t∧t.id=m.z.id∧∀k:Nat,k≠i→(m.x.wt[k]?).join=none
section
variable{m:eC}
theorem fC.le{k:Nat}(h:fC s n m)(hk:n≤k):fC s k m:=⟨h.nI,h.fw,h.hw,h.wt,by have:=h.po;omega,h.w0,h.w1⟩
theorem fC.start(h:fC s n m)(t k d r v:Int)(e:0≤v∧v < 4294967296):fC s n (m.start t k d r v):=by
 obtain⟨i,b,c⟩:=aJE h.nI t k d r v e;refine⟨i,h.fw,h.hw,h.wt,h.po,fun a=>h.w0 (b.symm.trans a),fun a=>?_⟩
 have f:=h.w1 (b.symm.trans a)
 rwa [←c] at f
theorem fC.done(h:fC s n m)(t:Int):fC s n (m.done t):=by
 obtain⟨c,b,d⟩:=aPl h.nI t;refine⟨c,h.fw,h.hw,h.wt,h.po,fun a=>h.w0 (b.symm.trans a),fun a=>?_⟩
 have e:=h.w1 (b.symm.trans a)
 rwa [←d] at e
theorem fC.cK(hm:s.made)(h:fC s n m):fC s n (m.cK s):=by
 obtain⟨e,f,b,c⟩:=h.fw.next hm.dF h.hw;refine⟨h.nI,e,f,fun i d t hd j=>h.wt i d t hd (by rw[←b];exact j),by rw[show(m.cK s).x.aS=m.x.aS from c];exact h.po,fun a i=>?_,fun a=>?_⟩
 ·show((eB s m.x m.y).2.wt[i]?).join=none
  rw[b];exact h.w0 a i
 ·show ∃i t,i < s.aH.length∧((eB s m.x m.y).2.wt[i]?).join=some t∧t.id=m.z.id∧∀k:Nat,k≠i→((eB s m.x m.y).2.wt[k]?).join=none
  rw[b];exact h.w1 a
theorem fC.idle(h:fC s n m)(hp:m.z.aS=false)(a:n≤1000000000):Zl s m.x:=⟨h.hw,h.w0 hp,by have:=h.po;omega⟩
theorem fC.free(h:fC s n m)(b:m.z.cJ < 0):m.z.aS=false:=by
 rcases h.nI.cJ with⟨_,_,a,_⟩ | ⟨i,_,a,_⟩
 ·exact a
 ·omega
theorem fC.step(hm:s.made)(h:fC s n m)(t:Int):fC s (n+1) (m.step s t):=by
 have same:fC s (n+1) ⟨m.z,m.y,m.x⟩:=h.le aA
 unfold eC.step kL;split
 ·exact same
 ·rename_i G
  obtain⟨j,rfl,K⟩:=vI (t:=t) (by simpa using G);rw[Int.toNat_natCast];split
  ·split
   ·rename_i B
    have A:=h.free B
    have hw0:=h.w0 A
    obtain⟨o,J,u,E⟩:=aRb hm h.nI B m.x K;dsimp only;generalize iB s m.x m.z j=r at o u E;obtain⟨O,V⟩:=r;dsimp only at o u E⊢;cases c:O.aS with
    | false=>
     cases u c;exact⟨o,h.fw,h.hw,h.wt,by have:=h.po;dsimp only;omega,fun _=>hw0,fun b=>by dsimp only at b;rw[c] at b;cases b⟩
    | true =>
     obtain⟨d,l,p,v,dv,w,r0,N,R,M,H,rfl⟩:=E c
     have F:=(List.getElem?_eq_some_iff.1 w).1
     have L:=h.hw.wt
     have f:∀k:Nat,(((m.x.wt.set d (some ⟨m.x.aS,l,p,v⟩))[k]?).join)=if k=d then some ⟨m.x.aS,l,p,v⟩ else none:=fun k=>by
      rw[List.getElem?_set]
      by_cases e:d=k
      ·subst e;rw[if_pos rfl,if_pos aA,if_pos rfl];rfl
      ·rw[if_neg e,if_neg (fun B=>e B.symm)];exact hw0 k
     refine⟨o,h.fw,Zx h.hw d _ _,fun i e t I T=>?_,?_,fun b=>?_,fun _=>⟨d,⟨m.x.aS,l,p,v⟩,F,?_,H.symm,fun k U=>?_⟩⟩
     ·have a:((m.x.wt.set d (some ⟨m.x.aS,l,p,v⟩))[i]?).join=some t:=T
      rw[f] at a
      by_cases D:i=d
      ·rw[if_pos D] at a;cases a;rw[D,w] at I;cases I;exact⟨r0,N,R,M⟩
      ·rw[if_neg D] at a;cases a
     ·have:=h.po
      show 0≤m.x.aS+1∧m.x.aS+1≤((n+1:Nat):Int)
      omega
     ·dsimp only at b;rw[c] at b;cases b
     ·show((m.x.wt.set d (some ⟨m.x.aS,l,p,v⟩))[d]?).join=_
      rw[f,if_pos rfl]
     ·show((m.x.wt.set d (some ⟨m.x.aS,l,p,v⟩))[k]?).join=_
      rw[f,if_neg U]
   ·exact same
  ·split
   ·rename_i C
    split
    ·rename_i A
     obtain⟨o,J,u⟩:=aRF h.nI h.fw K C A;exact⟨o,J,h.hw,h.wt,by have:=h.po;dsimp only;omega,fun _=>h.w0 A,fun b=>by dsimp only at b;rw[u] at b;cases b⟩
    ·exact same
   ·exact same
theorem Yh{x:aP}:∀n:Nat,(∀k,k < n→(x.wt[k]?).join=none)→eO s x n=(x,[])
 | 0,_=>rfl
 | n+1,h=>by
  have ih:=Yh n fun k b=>h k aA
  have a:=Yf (s:=s) (h n aA)
  show((eP s (eO s x n).1 n).1,(eO s x n).2++(eP s (eO s x n).1 n).2.toList)=_
  rw[ih];dsimp only;rw[a];rfl
theorem aRx{x:aP}(c:cR s x){i:Nat}{t:jH}(hi:i < s.aH.length)(h:(x.wt[i]?).join=some t)(ho:∀k:Nat,k≠i→(x.wt[k]?).join=none):
  ∃a,(eP s x i).2=some a∧a.id=t.id∧a.dev=i∧∀d,eO s x (i+1+d)=((eP s x i).1,[a]):=by
 obtain⟨a,b,f⟩:=aCr c hi h;refine⟨a,b,?_,?_,fun d=>?_⟩
 ·obtain⟨d,hd⟩:=get_some hi;obtain⟨p,e⟩:=get_some (l:=x.dv) (i:=i) (by have:=c.dv;omega);unfold eP at b;rw[h,hd,e] at b;dsimp only at b;split at b<;>cases b<;>rfl
 ·obtain⟨d,hd⟩:=get_some hi;obtain⟨p,e⟩:=get_some (l:=x.dv) (i:=i) (by have:=c.dv;omega);unfold eP at b;rw[h,hd,e] at b;dsimp only at b;split at b<;>cases b<;>rfl
 ·induction d with
  | zero=>
   show((eP s (eO s x i).1 i).1,(eO s x i).2++(eP s (eO s x i).1 i).2.toList)=_
   rw[Yh i fun k m=>ho k aA];dsimp only;rw[b];rfl
  | succ d ih =>
   show((eP s (eO s x (i+1+d)).1 (i+1+d)).1,(eO s x (i+1+d)).2++(eP s (eO s x (i+1+d)).1 (i+1+d)).2.toList)=_
   rw[ih];dsimp only
   have j:eP s (eP s x i).1 (i+1+d)=((eP s x i).1,none):=Yf (by
    rw[f,List.getElem?_set,if_neg aA]
    exact ho _ aA)
   rw[j];rfl
theorem fC.ans(h:fC s n m)(b:Int):(m.z.aS=false→(lQ s m.x b).2=[])∧(m.z.aS=true→∃a,(lQ s m.x b).2=[a]∧a.id=m.z.id):=by
 refine⟨fun e=>?_,fun e=>?_⟩
 ·show(eO s m.x s.aH.length).2=[]
  rw[Yh _ fun k _=>h.w0 e k]
 ·obtain⟨i,t,j,l,c,p⟩:=h.w1 e;obtain⟨a,_,o,_,f⟩:=aRx h.hw j l p;obtain⟨d,hd⟩:∃d,s.aH.length=i+1+d:=⟨s.aH.length - (i+1),aA⟩
  refine⟨a,?_,o.trans c⟩
  show(eO s m.x s.aH.length).2=[a]
  rw[hd,f d]
theorem fC.Uj(h:fC s n m)(b:Int):(m.tick s b).z.aS=false:=by
 obtain⟨i,j⟩:=h.ans b
 show(nA m.z (lQ s m.x b).2).aS=false
 cases c:m.z.aS with
 | false=>rw[i c];exact c
 | true=>
  obtain⟨a,d,e⟩:=j c;rw[d]
  show(pX m.z a).aS=false
  unfold pX;rw[if_neg (by rw[c];simp),if_neg (fun f=>f e)];split<;>rfl
theorem aRt(s:aG)(x:aP)(i:Nat):(eP s x i).1.aS=x.aS:=by
 unfold eP;split
 ·split<;>rfl
 ·rfl
theorem aHb(s:aG)(x:aP):∀n,(eO s x n).1.aS=x.aS
 | 0=>rfl
 | n+1=>(aRt s _ n).trans (aHb s x n)
theorem fC.tick(hm:s.made)(h:fC s n m)(a:Int):fC s n (m.tick s a):=by
 obtain⟨f,k⟩:=Gp h.hw h.wt s.aH.length
 have c:∀i:Nat,(((m.tick s a).x.wt)[i]?).join=none:=fun i=>by
  have:=aGY h.hw h.wt i
  show((eO s m.x s.aH.length).1.wt[i]?).join=none
  unfold kS at this;cases j:((eO s m.x s.aH.length).1.wt[i]?).join with
  | none=>rfl
  | some t=>rw[j] at this;simp at this
 refine⟨aHd _ h.nI,h.fw,aDH hm.dF f a,(fun i d t _ e=>by rw[c i] at e;cases e),?_,fun _=>c,fun b=>by rw[h.Uj a] at b;cases b⟩
 show 0≤(eO s m.x s.aH.length).1.aS∧(eO s m.x s.aH.length).1.aS≤n
 rw[aHb];exact h.po
end
def vG(s:aG):eC:=⟨Pr s,tK s,hw0 s⟩
theorem aFe{s:aG}(hm:s.made):fC s 0 (vG s):=by
 have c:=aFq hm.dF
 have hw:∀i:Nat,((hw0 s).wt[i]?).join=none:=fun i=>by
  show((s.aH.map fun _=>(none:Option jH))[i]?).join=none
  rw[List.getElem?_map];cases s.aH[i]? <;>rfl
 exact⟨aK7,aO6 hm.wH,c,(fun i d t _ b=>by
  have:=(hw i).symm.trans b
  cases this),⟨Int.le_refl 0,Int.le_refl 0⟩,fun _=>hw,fun a=>by cases a⟩
theorem Ra{P:Program}{fn:FuncId}{args:Array Value}{w:World}{ps:List HP}(i:Nat){p p':HP}{v:Value}{F:Nat→Prop}(hi:ps[i]? =some p)(h:∀B,p.sat B w→(∀b,B b→b < w.heap.size)→(∀b,B b→F b)→Calls P fn args w fun y w'=>y=.returned v∧∃d,p'.sat d w'∧iI w w' B d)
  (hp:(HP.many ps).sat F w) (hF:∀b,F b→b < w.heap.size):Calls P fn args w fun y w'=>y=.returned v∧∃d,(HP.many (ps.set i p')).sat d w'∧iI w w' F d:=by
 obtain⟨G,H,f,C⟩:=hp
 have D:=(List.getElem?_eq_some_iff.1 hi).1
 refine(h (G i) (H i p hi) (fun b a=>hF b (f i b a)) (f i)).mono fun y w' ⟨J,d,L,c⟩=>⟨J,fun b=>d b∨∃k,k≠i∧k < ps.length∧G k b,⟨fun k=>if k=i then d else fun b=>k < ps.length∧G k b,fun k r t=>?_,fun k b a=>?_,fun j k b u x l=>?_⟩,⟨c.os,c.tape,c.output,c.size,fun b a=>?_,fun b a K=>?_⟩⟩
 ·by_cases e:i=k
  ·subst e;rw[List.getElem?_set_self D] at t;cases t
   simpa using L
  ·rw[List.getElem?_set_ne e] at t
   have l:=(List.getElem?_eq_some_iff.1 t).1
   simp only[if_neg (Ne.symm e)];rw[show(fun b=>k < ps.length∧G k b)=G k by funext b;simp[l]];exact r.loc _ _ _ (H k r t) fun b a=>c.old b (hF b (f k b a)) fun o=>C i k b e o a
 ·dsimp only at a;split at a
  ·exact .inl a
  ·exact .inr ⟨k,by assumption,a.1,a.2⟩
 ·have n:∀k b,k≠i→d b→G k b→False:=fun k b E o I=>by
   rcases(c.new b o).1 with m | m
   ·exact C i k b (Ne.symm E) m I
   ·have:=hF b (f k b I)
    omega
  dsimp only at x l;split at x<;>split at l
  ·rename_i z A;exact u (z.trans A.symm)
  ·rename_i z A;exact n k b A x l.2
  ·rename_i z A;exact n j b z l x.2
  ·exact C j k b u x.2 l.2
 ·rcases a with a | ⟨k,_,_,a⟩
  ·refine⟨?_,(c.new b a).2⟩;rcases(c.new b a).1 with m | m
   ·exact .inl (f i b m)
   ·exact .inr m
  ·exact⟨.inl (f k b a),Nat.lt_of_lt_of_le (hF b (f k b a)) c.size⟩
 ·exact c.old b a fun o=>K (f i b o)
theorem aML{a b c:HP}{F:Nat→Prop}{w:World}(h:(HP.many [a,b,c]).sat F w):(HP.many [a,HP.many [b,c]]).sat F w:=by
 obtain⟨G,n,o,m⟩:=h
 have u:=n 1 b rfl
 have x:=n 2 c rfl
 have r:∀k,k < 3→(fun b=>k < 3∧G k b)=G k:=fun k t=>by funext b;simp[t]
 refine⟨fun i=>match i with | 0=>G 0 | 1=>fun b=>G 1 b∨G 2 b | _=>fun _=>False,fun i p d=>?_,fun i b e=>?_,fun i j b l d f=>?_⟩
 ·match i,d with
  | 0,d=>cases d;exact n 0 _ rfl
  | 1, d =>
   cases d;refine⟨fun i=>match i with | 0=>G 1 | 1=>G 2 | _=>fun _=>False,fun i p d=>?_,fun i b e=>?_,fun i j b l d f=>?_⟩
   ·match i,d with
    | 0,d=>cases d;exact u
    | 1,d=>cases d;exact x
    | i+2,d=>simp at d
   ·match i,e with
    | 0,e=>exact .inl e
    | 1,e=>exact .inr e
    | i+2,e=>exact e.elim
   ·match i,j,d,f with
    | 0,0,_,_=>exact absurd rfl l
    | 0,1,d,f=>exact m 1 2 b aC d f
    | 1,0,d,f=>exact m 2 1 b aC d f
    | 1,1,_,_=>exact absurd rfl l
    | i+2,_,d,_=>exact d.elim
    | _,j+2,_,f=>exact f.elim
  | i+2,d=>simp at d
 ·match i,e with
  | 0,e=>exact o 0 b e
  | 1,e=>rcases e with e | e<;>exact o _ b e
  | i+2,e=>exact e.elim
 ·match i,j,d,f with
  | 0,0,_,_=>exact absurd rfl l
  | 0,1,d,f=>rcases f with f | f<;>exact m _ _ b aC d f
  | 1,0,d,f=>rcases d with d | d<;>exact m _ _ b aC d f
  | 1,1,_,_=>exact absurd rfl l
  | i+2,_,d,_=>exact d.elim
  | _,j+2,_,f=>exact f.elim
theorem aMK{a b c:HP}{F:Nat→Prop}{w:World}(h:(HP.many [a,HP.many [b,c]]).sat F w):(HP.many [a,b,c]).sat F w:=by
 obtain⟨G,r,n,l⟩:=h;obtain⟨I,t,k,o⟩:=r 1 _ rfl;refine⟨fun i=>match i with | 0=>G 0 | 1=>I 0 | 2=>I 1 | _=>fun _=>False,fun i p d=>?_,fun i b f=>?_,fun i j b m d e=>?_⟩
 ·match i,d with
  | 0,d=>cases d;exact r 0 _ rfl
  | 1,d=>cases d;exact t 0 _ rfl
  | 2,d=>cases d;exact t 1 _ rfl
  | i+3,d=>simp at d
 ·match i,f with
  | 0,f=>exact n 0 b f
  | 1,f=>exact n 1 b (k 0 b f)
  | 2,f=>exact n 1 b (k 1 b f)
  | i+3,f=>exact f.elim
 ·match i,j,d,e with
  | 0,0,_,_ | 1,1,_,_ | 2,2,_,_=>exact absurd rfl m
  | 0,1,d,e=>exact l 0 1 b aC d (k 0 b e)
  | 0,2,d,e=>exact l 0 1 b aC d (k 1 b e)
  | 1,0,d,e=>exact l 0 1 b aC e (k 0 b d)
  | 2,0,d,e=>exact l 0 1 b aC e (k 1 b d)
  | 1,2,d,e=>exact o 0 1 b aC d e
  | 2,1,d,e=>exact o 0 1 b aC e d
  | i+3,_,d,_=>exact d.elim
  | _,j+3,_,e=>exact e.elim
def iR(g f:Nat)(hL:HL)(s:aG)(m:eC):HP:=Zh g f hL s m.z m.y m.x
def aHB(g f:Nat)(hL:HL)(s:aG)(m:eC)(l:List fS)(a:Option Addr×Nat):HP:=HP.many [iR g f hL s m,HP.own 49 4 (.slice a.1 l.length a.2) l.length (l.flatMap fS.cells)]
theorem St.mac{w0 w:World}{R:List Piece}{H:List HP}{g f:Nat}{hL:HL}{s:aG}{m:eC}(t:St w0 R H w)(i:Nat)(hi:H[i]? =some (iR g f hL s m)):∃L,Oa w g hL.h f L s m.z:=by
 obtain⟨F,e,j,_⟩:=t.chunk hi;obtain⟨G,c,d,_⟩:=e;obtain⟨L,hL⟩:=c 0 _ rfl;exact⟨L,aHL hL fun b a=>j b (d 0 b a)⟩
section
variable(g f:Nat)(hL:HL)(s:aG)(n:Nat)(m:eC)(w:World)(F:Nat→Prop)
theorem aMB(t k d r v:Int)(hp:(iR g f hL s m).sat F w)(hF:∀b,F b→b < w.heap.size):
  Cz 73 #[pt g,iv t,.agg #[.int .u8 k,iv d,iv r,.int .u32 v]] w (Wr (iv (oO m.z t k d r v).1) (iR g f hL s (m.start t k d r v)) w F):=
 Ra 0 rfl (fun c a e _=>aK4 g hL.h f s m.z w c t k d r v a e) hp hF
theorem aME(t:Int)(hp:(iR g f hL s m).sat F w)(hF:∀b,F b→b < w.heap.size):
  Cz 125 #[pt g,iv t] w (Wr (.tuple #[.agg #[iv (fV m.z t).1.1,.int .u32 (fV m.z t).1.2.1],.bool (fV m.z t).1.2.2]) (iR g f hL s (m.done t)) w F):=
 Ra 0 rfl (fun c a d _=>aKA g hL.h f s m.z w c t a d) hp hF
theorem Fw(hm:s.made)(c:gQ hL s)(a:fC s n m)(e:n≤1000000000)(t:Int)(hp:(iR g f hL s m).sat F w)(hF:∀b,F b→b < w.heap.size)(d:eV ⟨w,fun b=>b < w.heap.size∧¬F b⟩):
  Cz 75 #[pt g,iv t] w (Wr (.tuple #[]) (iR g f hL s (m.step s t)) w F):=
 aK3 g f hL s m.z m.y m.x w F t hm c (fun h=>a.idle (a.free h) e) (a.nI.go a.fw.toFwB) hp hF d
theorem aMD(hm:s.made)(e:gQ hL s)(a:fC s n m)(hp:(iR g f hL s m).sat F w)(hF:∀b,F b→b < w.heap.size)(h:eV ⟨w,fun b=>b < w.heap.size∧¬F b⟩):
  Cz 45 #[pt f] w (Wr (.tuple #[]) (iR g f hL s (m.cK s)) w F):=
 (Ra 1 rfl (fun p c d k=>aOt f hL s m.y m.x w hm.dF e (a.fw.step a.hw) p c d (eV.le h fun b i=>⟨⟨i.1,fun l=>i.2 (k b l)⟩,rfl⟩)) (aML hp) hF).mono fun _ _ ⟨o,j,c,d⟩=>⟨o,j,aMK c,d⟩
theorem aMA(hm:s.made)(E:gQ hL s)(A:fC s n m)(k:Int)(hd:0≤k∧k < 4294967296)(hp:(iR g f hL s m).sat F w)(hF:∀b,F b→b < w.heap.size):
  Cz 82 #[.pointer (some ⟨hL.h,0,none⟩),.int .u32 k] w (fun y w'=>∃a:Option Addr×Nat,y=.returned (.slice a.1 (lQ s m.x k).2.length a.2)∧True∧∃t,(aHB g f hL s ⟨m.z,m.y,(lQ s m.x k).1⟩ (lQ s m.x k).2 a).sat t w'∧iI w w' F t):=by
 obtain⟨G,H,C,u⟩:=hp
 have hG:∀i b,G i b→b < w.heap.size:=fun i b d=>hF b (C i b d)
 have O:=H 0 _ rfl
 have N:=H 1 _ rfl
 refine(aNA hL s m.x w hm.dF E A.hw A.wt k hd (G 2) (H 2 _ rfl) (hG 2)).mono fun y w' ⟨a,L,_,t,⟨I,K,o,J⟩,l⟩=>⟨a,L,trivial,fun b=>t b∨G 0 b∨G 1 b,⟨fun i=>match i with | 0=>fun b=>I 0 b∨G 0 b∨G 1 b | 1=>I 1 | _=>fun _=>False,fun i p c=>?_,fun i b d=>?_,fun i j b r c e=>?_⟩,⟨l.os,l.tape,l.output,l.size,fun b d=>?_,fun b d M=>?_⟩⟩
 ·have B:∀i,i≠2→∀b,G i b→w'.heap[b]? =w.heap[b]? :=fun i c b d=>l.old b (hG i b d) fun h=>u 2 i b (Ne.symm c) h d
  have fr:∀i,i≠2→∀b,t b→¬G i b:=fun i c b d D=>by
   rcases(l.new b d).1 with h | h
   ·exact u 2 i b (Ne.symm c) h D
   ·have:=hG i b D
    omega
  match i,c with
  | 0, c =>
   cases c;refine⟨fun i=>match i with | 0=>G 0 | 1=>G 1 | 2=>I 0 | _=>fun _=>False,fun i p c=>?_,fun i b d=>?_,fun i j b r c e=>?_⟩
   ·match i,c with
    | 0,c=>cases c;exact HP.loc _ _ _ _ O (B 0 aC)
    | 1,c=>cases c;exact HP.loc _ _ _ _ N (B 1 aC)
    | 2,c=>cases c;exact K 0 _ rfl
    | i+3,c=>simp at c
   ·match i,d with
    | 0,d=>exact .inr (.inl d)
    | 1,d=>exact .inr (.inr d)
    | 2,d=>exact .inl d
    | i+3,d=>exact d.elim
   ·match i,j,c,e with
    | 0,0,_,_ | 1,1,_,_ | 2,2,_,_=>exact absurd rfl r
    | 0,1,c,e=>exact u 0 1 b aC c e
    | 1,0,c,e=>exact u 1 0 b aC c e
    | 0,2,c,e=>exact fr 0 aC b (o 0 b e) c
    | 2,0,c,e=>exact fr 0 aC b (o 0 b c) e
    | 1,2,c,e=>exact fr 1 aC b (o 0 b e) c
    | 2,1,c,e=>exact fr 1 aC b (o 0 b c) e
    | i+3,_,c,_=>exact c.elim
    | _,j+3,_,e=>exact e.elim
  | 1,c=>cases c;exact K 1 _ rfl
  | i+2,c=>simp at c
 ·match i,d with
  | 0,d=>
   rcases d with d | d
   ·exact .inl (o 0 b d)
   ·exact .inr d
  | 1,d=>exact .inl (o 1 b d)
  | i+2,d=>exact d.elim
 ·have fr:∀i,i≠2→∀b,t b→¬G i b:=fun i c b d D=>by
   rcases(l.new b d).1 with h | h
   ·exact u 2 i b (Ne.symm c) h D
   ·have:=hG i b D
    omega
  match i,j,c,e with
  | 0,0,_,_ | 1,1,_,_=>exact absurd rfl r
  | 0,1,c,e=>
   rcases c with c | c | c
   ·exact J 0 1 b aC c e
   ·exact fr 0 aC b (o 1 b e) c
   ·exact fr 1 aC b (o 1 b e) c
  | 1,0,c,e=>
   rcases e with e | e | e
   ·exact J 0 1 b aC e c
   ·exact fr 0 aC b (o 1 b c) e
   ·exact fr 1 aC b (o 1 b c) e
  | i+2,_,c,_=>exact c.elim
  | _,j+2,_,e=>exact e.elim
 ·rcases d with d | d | d
  ·refine⟨?_,(l.new b d).2⟩;rcases(l.new b d).1 with h | h
   ·exact .inl (C 2 b h)
   ·exact .inr h
  ·exact⟨.inl (C 0 b d),Nat.lt_of_lt_of_le (hG 0 b d) l.size⟩
  ·exact⟨.inl (C 1 b d),Nat.lt_of_lt_of_le (hG 1 b d) l.size⟩
 ·exact l.old b d fun h=>M (C 2 b h)
theorem aMF(t:Int){w0:World}{R:List Piece}{H:List HP}(i:Nat)(st:St w0 R H w)(hi:H[i]? =some (iR g f hL s m)):Cz 27 #[pt g,iv t] w (Rt (.bool (pW m.z t)) w):=by
 obtain⟨L,a⟩:=st.mac i hi;exact aKE g hL.h f L s m.z w t a
theorem aBf{w0:World}{R:List Piece}{H:List HP}(i:Nat)(st:St w0 R H w)(hi:H[i]? =some (iR g f hL s m)):Cz 74 #[pt g] w (Rt (iv m.z.cJ) w):=by
 obtain⟨L,a⟩:=st.mac i hi;exact aK8 g hL.h f L s m.z w a
end
structure rR where
 k:Int
 d:Int
 r:Int
 v:Int
instance:DecidableEq rR:=fun a b=>decidable_of_iff (a.k=b.k∧a.d=b.d∧a.r=b.r∧a.v=b.v) ⟨fun h=>by
 obtain⟨a1,a2,a3,a4⟩:=a;obtain⟨b1,b2,b3,b4⟩:=b;obtain⟨rfl,rfl,rfl,rfl⟩:=h
 rfl,fun h=>by subst h;exact⟨rfl,rfl,rfl,rfl⟩⟩
def tM:rR:=⟨0,0,0,0⟩
structure jR where
 kind:Int
 task:Int
 c:rR
 err:Int
 res:Int
 an:fS
 alive:Bool
 words:List Int
def Mk:jR:=⟨0,0,tM,0,0,⟨0,0,false,0⟩,false,[]⟩
structure aU where
 m:eC
 cl:Nat→rR
 wt:Nat→Bool
 es:List jR
def gJ{α:Type}(f:Nat→α)(j:Nat)(a:α):Nat→α:=fun i=>if i=j then a else f i
def Hp(s:aG):aU:=⟨vG s,fun _=>tM,fun _=>false,[]⟩
def vM(w:aU)(t:Int):jR:={Mk with kind:=101,task:=t,c:=w.cl t.toNat,err:=(fV w.m.z t).1.1,res:=(fV w.m.z t).1.2.1}
def aU.end_(w:aU)(t:Int):aU:=if(fV w.m.z t).1.2.2=true then {w with m:=w.m.done t,es:=w.es++[vM w t]} else {w with m:=w.m.done t}
def aU.call(w:aU)(t:Int)(c:rR):Int×aU:=((oO w.m.z t c.k c.d c.r c.v).1,if(oO w.m.z t c.k c.d c.r c.v).1≠0 then {w with m:=w.m.start t c.k c.d c.r c.v} else {w with m:=w.m.start t c.k c.d c.r c.v,cl:=gJ w.cl t.toNat c,wt:=gJ w.wt t.toNat true})
def aU.mZ(w:aU)(t:Int):Bool:=bO 3 t&&(w.wt t.toNat&&decide (w.m.z.cJ < 0))
def nX(w:aU)(t:Int):jR:={Mk with kind:=98,task:=t,c:=w.cl t.toNat}
def aU.kT(s:aG)(w:aU)(t:Int):aU:=if w.mZ t then {w with m:=w.m.step s t,wt:=gJ w.wt t.toNat false,es:=w.es++[nX w t]} else {w with m:=w.m.step s t}
def aU.task(s:aG)(w:aU)(t:Int):aU:=(w.kT s t).end_ t
def aU.cK(s:aG)(w:aU):aU:={w with m:=w.m.cK s}
def sC(s:aG)(x:aP)(a:fS):jR:={Mk with kind:=100,an:=a,alive:=wU s x a.dev.toNat}
def aU.nF(s:aG)(w:aU)(a:Int):aU:={w with m:=w.m.tick s a,es:=w.es++(lQ s w.m.x a).2.map (sC s w.m.x)}
def aU.tick(s:aG)(w:aU)(a:Int):aU:=(((w.nF s a).end_ 0).end_ 1).end_ 2
def aU.send(w:aU)(l:List Int):Int×aU:=((fI w.m.y 1 l).1,if(fI w.m.y 1 l).1≠0 then {w with m:=⟨w.m.z,(fI w.m.y 1 l).2,w.m.x⟩} else {w with m:=⟨w.m.z,(fI w.m.y 1 l).2,w.m.x⟩,es:=w.es++[{Mk with kind:=115,words:=l}]})
def aU.take(w:aU):aU:=match jC w.m.y 1 with
 | some l=>{w with m:=⟨w.m.z,fU w.m.y 1,w.m.x⟩,es:=w.es++[{Mk with kind:=114,words:=l}]}
 | none=>{w with m:=⟨w.m.z,fU w.m.y 1,w.m.x⟩}
structure yS where
 kind:Int
 task:Int
 c:rR
 Jc:Int
 words:List Int
def aU.kX(s:aG)(w:aU)(p:yS):Int×aU:=
 if p.kind=99 then w.call p.task p.c else if p.kind=116 then(0,w.task s p.task) else if p.kind=102 then(0,w.cK s) else if p.kind=104 then(0,w.tick s p.Jc)
 else if p.kind=109 then w.send p.words else if p.kind=97 then(0,w.take) else(1,w)
def aU.round(s:aG)(w:aU)(a:Int):aU:=((((w.task s 0).task s 1).task s 2).cK s).tick s a
def aU.idle(w:aU):Bool:= !pW w.m.z 0&&(!pW w.m.z 1&&(!pW w.m.z 2&&(decide (w.m.y.at_ < 0)&& !decide (w.m.y.h1=1))))
structure iE(s:aG)(n:Nat)(w:aU):Prop where
 m:fC s n w.m
 es:w.es.length≤13*n
 wd:∀e∈w.es,mJ e.words∧e.words.length≤1000000
section
variable{w:aU}
theorem iE.le{k:Nat}(h:iE s n w)(hk:n≤k):iE s k w:=⟨h.m.le hk,by have:=h.es;omega,h.wd⟩
theorem Ua(hm:s.made):iE s 0 (Hp s):=⟨aFe hm,Nat.zero_le _,fun _ h=>by cases h⟩
theorem iE.end_{b:Nat}(h:fC s n w.m)(c:w.es.length≤b)(hw:∀e∈w.es,mJ e.words∧e.words.length≤1000000)(t:Int):fC s n (w.end_ t).m∧(w.end_ t).es.length≤b+1∧∀e∈(w.end_ t).es,mJ e.words∧e.words.length≤1000000:=by
 unfold aU.end_;split
 ·refine⟨h.done t,by show(w.es++[_]).length≤_;rw[List.length_append];exact Nat.add_le_add_right c 1,fun e a=>?_⟩;rcases List.mem_append.1 a with a | a
  ·exact hw e a
  ·rw[List.mem_singleton] at a;subst a;exact⟨(fun _ h=>by cases h),Nat.zero_le _⟩
 ·exact⟨h.done t,by show w.es.length≤_;omega,hw⟩
theorem iE.kT(hm:s.made)(h:iE s n w)(t:Int):fC s (n+1) (w.kT s t).m∧(w.kT s t).es.length≤13*n+1∧∀e∈(w.kT s t).es,mJ e.words∧e.words.length≤1000000:=by
 have a:=h.es
 unfold aU.kT;split
 ·refine⟨h.m.step hm t,by show(w.es++[_]).length≤_;rw[List.length_append];exact Nat.add_le_add_right a 1,fun e hm=>?_⟩;rcases List.mem_append.1 hm with hm | hm
  ·exact h.wd e hm
  ·rw[List.mem_singleton] at hm;subst hm;exact⟨(fun _ h=>by cases h),Nat.zero_le _⟩
 ·exact⟨h.m.step hm t,by show w.es.length≤_;omega,h.wd⟩
theorem iE.task(hm:s.made)(h:iE s n w)(t:Int):iE s (n+1) (w.task s t):=by
 obtain⟨c,d,a⟩:=h.kT hm t;obtain⟨e,f,b⟩:=iE.end_ c d a t;exact⟨e,by show(aU.end_ _ _).es.length≤_;omega,b⟩
theorem iE.nF(hm:s.made)(h:iE s n w)(b:Int):fC s n (w.nF s b).m∧(w.nF s b).es.length≤13*n+4∧∀e∈(w.nF s b).es,mJ e.words∧e.words.length≤1000000:=by
 have d:=h.es
 have f:=Yg (s:=s) (x:=w.m.x) s.aH.length
 have c:=hm.nv
 refine⟨h.m.tick hm b,by show(w.es++List.map _ (eO s w.m.x s.aH.length).2).length≤_;rw[List.length_append,List.length_map];omega,fun e hm=>?_⟩;rcases List.mem_append.1 hm with hm | hm
 ·exact h.wd e hm
 ·obtain⟨a,_,rfl⟩:=List.mem_map.1 hm;exact⟨(fun _ h=>by cases h),Nat.zero_le _⟩
theorem iE.tick(hm:s.made)(h:iE s n w)(a:Int):fC s n (w.tick s a).m∧(w.tick s a).es.length≤13*n+7∧∀e∈(w.tick s a).es,mJ e.words∧e.words.length≤1000000:=by
 obtain⟨i,k,c⟩:=h.nF hm a;obtain⟨o,j,d⟩:=iE.end_ i k c 0;obtain⟨l,f,b⟩:=iE.end_ o j d 1;exact iE.end_ l f b 2
theorem iE.cK(hm:s.made)(h:iE s n w):iE s n (w.cK s):=⟨h.m.cK hm,h.es,h.wd⟩
theorem fC.Xe{m:eC}(h:fC s n m){y':bN}(hy:mL s y'):fC s n ⟨m.z,y',m.x⟩:=⟨h.nI,hy,h.hw,h.wt,h.po,h.w0,h.w1⟩
theorem aLb{y:bN}(h:Ch s y){l:List Int}(hl:jC y 1=some l):mJ l∧l.length≤1000000:=by
 unfold jC at hl;rw[if_neg aC,if_pos rfl] at hl;split at hl
 ·cases hl;exact⟨h.u1,h.n1⟩
 ·cases hl
def yS.ok(p:yS):Prop:=(0≤p.c.v∧p.c.v < 4294967296)∧(0≤p.Jc∧p.Jc < 4294967296)∧mJ p.words∧p.words.length≤1000000
theorem iE.kX(hm : s.made)(h : iE s n w){p : yS}(hp : p.ok) : iE s (n + 1) (w.kX s p).2 := by
 obtain⟨j,hd,f,b⟩:=hp
 have u:=h.es
 unfold aU.kX;split
 ·unfold aU.call;dsimp only
  have:=h.m.start p.task p.c.k p.c.d p.c.r p.c.v j
  split<;>exact⟨this.le aA,by show w.es.length≤_;omega,h.wd⟩
 ·split
  ·exact h.task hm _
  ·split
   ·exact(h.cK hm).le aA
   ·split
    ·obtain⟨o,x,i⟩:=h.tick hm p.Jc;exact⟨o.le aA,by show(aU.tick _ _ _).es.length≤_;omega,i⟩
    ·split
     ·unfold aU.send;dsimp only
      have a:=h.m.Xe (h.m.fw.send 1 f b)
      split
      ·exact⟨a.le aA,by show w.es.length≤_;omega,h.wd⟩
      ·refine⟨a.le aA,by show(w.es++[_]).length≤_;rw[List.length_append];simp;omega,fun e hm=>?_⟩;rcases List.mem_append.1 hm with hm | hm
       ·exact h.wd e hm
       ·rw[List.mem_singleton] at hm;subst hm;exact⟨f,b⟩
     ·split
      ·unfold aU.take
       have a:=h.m.Xe (h.m.fw.read 1)
       split
       ·rename_i l t
        refine⟨a.le aA,by show(w.es++[_]).length≤_;rw[List.length_append];simp;omega,fun e hm=>?_⟩;rcases List.mem_append.1 hm with hm | hm
        ·exact h.wd e hm
        ·rw[List.mem_singleton] at hm;subst hm;exact aLb h.m.fw.fm t
       ·exact⟨a.le aA,by show w.es.length≤_;omega,h.wd⟩
      ·exact h.le aA
theorem iE.round(hm:s.made)(h:iE s n w)(a:Int):iE s (n+4) (w.round s a):=by
 have b:=((((h.task hm 0).task hm 1).task hm 2).cK hm)
 obtain⟨d,e,c⟩:=b.tick hm a;exact⟨d.le aA,by show(aU.tick _ _ _).es.length≤_;omega,c⟩
end
def Ie(r:Int):Int:=[17,20,22,17,20,22,16,19].getD r.toNat 0
def Vp(p r:Int):Int:=if p=20∧r < 3 then 7 else[4,4,5,7,7,6,0,1,2].getD r.toNat 0
structure gH where
 op:Int
 task:Int
 kind:Int
 dev:Int
 bZ:Int
 v:Int
 ag:Int
 pr:Int
 ms:Int
 id:Int
 aw:Int
 od:Int
def gH.cells(a:gH):List Value:=[iv a.op,iv a.task,iv a.kind,iv a.dev,iv a.bZ,.int .u32 a.v,iv a.ag,iv a.pr,iv a.ms,iv a.id,iv a.aw,iv a.od]
def xD(a:Int):Prop:= -9223372036854775808≤a∧a≤9223372036854775807
structure gH.ok(a:gH):Prop where
 op:xD a.op
 task:xD a.task
 kind:xD a.kind
 dev:xD a.dev
 bZ:xD a.bZ
 v:0≤a.v∧a.v < 4294967296
 pr:xD a.pr
 ms:xD a.ms
 id:xD a.id
 aw:xD a.aw
 od:xD a.od
theorem gH.len(a:gH):a.cells.length=12:=rfl
def fE(c n:Int):Int:=(if c < 0 then 0 - (c+1) else c) % n
theorem zH(c n:Int)(a:0 < n):0≤fE c n∧fE c n < n:=⟨Int.emod_nonneg _ aA,Int.emod_lt_of_pos _ a⟩
def aBq(r:Int):Int:=([103,103,103,112,112,114,119,114,119,115,109,109,120]:List Int).getD r.toNat 0
theorem aNe{r:Int}(b:0≤r)(c:r < 13):([.int .u8 103,.int .u8 103,.int .u8 103,.int .u8 112,.int .u8 112,.int .u8 114,.int .u8 119,.int .u8 114,.int .u8 119,.int .u8 115,.int .u8 109,.int .u8 109,.int .u8 120]:List Value)[r.toNat]? =some (.int .u8 (aBq r)):=by
 obtain⟨n,rfl⟩:∃n:Nat,r=(n:Int):=⟨r.toNat,aA⟩
 have a:n < 13:=by omega
 unfold aBq;rw[Int.toNat_natCast]
 match n,a with
 | 0,_ | 1,_ | 2,_ | 3,_ | 4,_ | 5,_ | 6,_ | 7,_ | 8,_ | 9,_ | 10,_ | 11,_ | 12,_=>rfl
 | n+13,h=>omega
def Nc(a:gH):Int:=aBq (fE a.kind 13)
def Nd(a:gH)(many:Int):Int:=fE a.dev (many+1)
def Nb(a:gH):Int:=fE a.bZ 4
def Vr(a:gH):Int:=Ie (fE a.pr 8)
def Fv(a:gH):Int:=Vp (Vr a) (fE a.ms 9)
def uG(a:gH):List Int:=[(dH (Fv a) 0 (Vr a) (fE a.aw 1024)).1]++((if Fv a≠0∧Fv a≠1 then[fE a.id 10] else[])++(if Fv a=4∨Fv a=7 then[fE a.aw 4] else[]))
def tG(a:gH):List Int:=
 if fE a.od 30=0 then uG a++[0] else if fE a.od 30=1 then(uG a).take ((uG a).length - 1) else if fE a.od 30=2 then(uG a).set 0 (zI ((uG a).headD 0) 268435456) else if fE a.od 30=3 then(uG a).set 0 (zI ((uG a).headD 0) 256) else uG a
theorem aMs(a:gH):mJ (uG a)∧1≤(uG a).length∧(uG a).length≤3:=by
 have d:=zH a.id 10 aC
 have e:=zH a.aw 4 aC
 have c:=aE7 (Fv a) 0 (Vr a) (fE a.aw 1024)
 unfold uG;constructor
 ·intro v b;simp only[List.mem_append,List.mem_singleton] at b;rcases b with rfl | b | b
  ·exact c
  ·split at b
   ·rw[List.mem_singleton] at b;omega
   ·cases b
  ·split at b
   ·rw[List.mem_singleton] at b;omega
   ·cases b
 ·split<;>split<;>simp
theorem aEQ(a:gH):mJ (tG a)∧(tG a).length≤4:=by
 obtain⟨c,f,e⟩:=aMs a
 have mA:∀v:Int,0≤v∧v < 4294967296→mJ ((uG a).set 0 v):=fun v b u d=>by
  rcases List.mem_or_eq_of_mem_set d with h | h
  ·exact c u h
  ·rw[h];exact b
 unfold tG;split
 ·refine⟨fun v b=>?_,by rw[List.length_append];simp;omega⟩;rcases List.mem_append.1 b with h | h
  ·exact c v h
  ·rw[List.mem_singleton] at h;subst h;decide
 ·split
  ·exact⟨fun v b=>c v (List.mem_of_mem_take b),by rw[List.length_take];omega⟩
  ·split
   ·exact⟨mA _ (aAN _ _),by rw[List.length_set];omega⟩
   ·split
    ·exact⟨mA _ (aAN _ _),by rw[List.length_set];omega⟩
    ·exact⟨c,aA⟩
def opK(r:Int):Int:=if r < 4 then 99 else if r < 12 then 116 else if r < 19 then 102 else if r < 26 then 104 else if r=26 then 109 else if r=27 then 97 else 0
def Fp(a:gH)(many:Int):yS:=⟨opK (fE a.op 30),if fE a.bZ 40=39 then fE a.task 6 - 2 else fE a.task 3,⟨Nc a,Nd a many,Nb a,a.v⟩,a.v,tG a⟩
theorem aAK{a:gH}(b:a.ok)(many:Int):(Fp a many).ok:=⟨b.v,b.v,(aEQ a).1,Nat.le_trans (aEQ a).2 aC⟩
def Nj(s:aG)(w:aU)(a:gH):aU:=if fE a.op 30=28 then w.round s a.v else(w.kX s (Fp a s.aH.length)).2
def runN(s:aG)(dY:List gH)(n:Nat):aU:=(dY.take n).foldl (Nj s) (Hp s)
theorem aA6{s:aG}{dY:List gH}{n:Nat}{a:gH}(h:dY[n]? =some a):runN s dY (n+1)=Nj s (runN s dY n) a:=by
 have b:=(List.getElem?_eq_some_iff.1 h).1
 unfold runN;rw[List.take_succ,h,List.foldl_append];rfl
theorem aRI{s:aG}(hm:s.made){w:aU}{n:Nat}(h:iE s n w){a:gH}(b:a.ok):iE s (n+4) (Nj s w a):=by
 unfold Nj;split
 ·exact h.round hm _
 ·exact(h.kX hm (aAK b _)).le aA
theorem nU(c n:Int)(w:World)(a:xD c)(b:0 < n):Cz 8 #[iv c,iv n] w (Rt (iv (fE c n)) w):=by
 unfold xD at a;refine aT func8 ntmps8 ?_;refine aE ?_;refine aK rfl (fun h=>?_) (fun h=>?_)
 ·refine aE ?_;refine iV aD ?_;rw[fE,if_pos h]
 ·refine aE ?_;refine iV aD ?_;rw[fE,if_neg h]
def Hg(cs:List eN)(rows:List (List Value))(p:Piece):Prop:=Rows (rQ (fT p)) 6 cs rows
theorem Hg.le{cs:List eN}{rows:List (List Value)}(p q:Piece)(h:p.Le q)(k:Hg cs rows p):Hg cs rows q:=Rows.mono (fun _ _=>rQ.mono (kU h)) k
def He(vs:List cH)(rows:List (List Value))(p:Piece):Prop:=Rows (qO (fT p)) 6 vs rows
theorem He.le{vs:List cH}{rows:List (List Value)}(p q:Piece)(h:p.Le q)(k:He vs rows p):He vs rows q:=Rows.mono (fun _ _=>qO.mono (kU h)) k
def qC(sz:Nat)(A:Option Addr)(n:Nat)(xs:List Value)(p:Piece):Prop:=aM p sz A n xs
theorem qC.le{sz n:Nat}{A:Option Addr}{xs:List Value}(p q:Piece)(h:p.Le q)(k:qC sz A n xs p):qC sz A n xs q:=aM.le k h
def qM(cs:List eN)(rows:List (List Value)):HP:=HP.cI (Hg cs rows) (Hg.le (cs:=cs) (rows:=rows))
def Bv(vs:List cH)(rows:List (List Value)):HP:=HP.cI (He vs rows) (He.le (vs:=vs) (rows:=rows))
section
variable{K:Act→World→Prop}
theorem aHz{p:HP}(hp:∀w,p.sat (fun _=>False) w)(h:XK N w0 K e R (p::H)):XK N w0 K e R H:=fun a w t st=>by
 obtain⟨Z,F,n,k,m,d,f⟩:=st.ex;refine h a w t ⟨st.os,st.tape,st.output,st.size,Z,fun i=>match i with | 0=>fun _=>False | i+1=>F i,n,k,fun i r c=>?_,fun i b l=>?_,fun i j b o c=>?_⟩
 ·cases i with
  | zero=>simp at c;subst c;exact hp w
  | succ i=>exact m i r (by simpa using c)
 ·cases i with
  | zero=>exact l.elim
  | succ i=>exact d i b l
 ·cases i with
  | zero=>exact c.elim
  | succ i=>cases j with
   | zero=>exact id
   | succ j=>exact f i j b aA c
theorem aSg{cs:List eN}{rows:List (List Value)}{cl:eN}{A:Option Addr}{c:Nat}(h:XK N w0 K e R (qM (cs++[cl]) (rows++[[.int .u8 cl.kind,.slice A cl.src.length c,.int .u64 cl.rate,iv cl.mul,iv cl.div,iv cl.lock]])::H)):XK N w0 K e R (HP.own 3 1 (.slice A cl.src.length c) cl.src.length (aR cl.src)::qM cs rows::H):=
 wW 0 (Φ:=qC 1 A cl.src.length (aR cl.src)) (hm:=qC.le) rfl (fun _ h=>h) (Gs (X:=Hg (cs++[cl]) (rows++[_])) (h3:=Hg.le) (fun p a b=>b.snoc rfl ⟨A,_,c,rfl,rfl,a⟩) h)
theorem aSe{vs:List cH}{rows:List (List Value)}{d:cH}{A A':Option Addr}{c f:Nat}(h:XK N w0 K e R (Bv (vs++[d]) (rows++[[iv d.clock,iv d.domain,iv d.reset,.int .u32 d.vP,.slice A d.aX.length c,.slice A' d.jD.length f]])::H)):XK N w0 K e R (HP.own 82 2 (.slice A d.aX.length c) d.aX.length (d.aX.flatMap Rg.cells)::HP.own 3 1 (.slice A' d.jD.length f) d.jD.length (aR d.jD)::Bv vs rows::H):=
 wW 0 (Φ:=qC 2 A d.aX.length (d.aX.flatMap Rg.cells)) (hm:=qC.le) rfl (fun _ h=>h) (wW 1 (Φ:=qC 1 A' d.jD.length (aR d.jD)) (hm:=qC.le) rfl (fun _ h=>h) (Gs (X:=fun p=>qC 2 A d.aX.length (d.aX.flatMap Rg.cells) p∧qC 1 A' d.jD.length (aR d.jD) p) (h3:=fun p q i h=>⟨qC.le p q i h.1,qC.le p q i h.2⟩) (fun p a b=>⟨a,b⟩) (Gs (X:=He (vs++[d]) (rows++[_])) (h3:=He.le) (fun p a b=>b.snoc rfl ⟨A,_,c,A',_,f,rfl,rfl,rfl,a.1,a.2⟩) h)))
end
def aDa(v:Value)(hs:List HP)(_:Piece):Prop:=∃(s:aG) (a c b d:Option Addr×Nat) (i f h e:List (List Value)),v=.agg #[.slice a.1 s.aJ.length a.2,.slice c.1 s.domains.length c.2,.slice b.1 s.bA.length b.2,.slice d.1 s.aH.length d.2]∧s.made∧Rows tX 3 s.domains f∧Rows wY 1 s.bA h∧
 hs=[HP.own 73 6 (.slice a.1 s.aJ.length a.2) s.aJ.length i.flatten,qM s.aJ i,HP.own 75 3 (.slice c.1 s.domains.length c.2) s.domains.length f.flatten,HP.own 77 1 (.slice b.1 s.bA.length b.2) s.bA.length h.flatten,HP.own 80 6 (.slice d.1 s.aH.length d.2) s.aH.length e.flatten,Bv s.aH e]
theorem gX.tail{w:World}{p:HP}{hs:List HP}{q:Piece}(h:gX w (p::hs) q):gX w hs q:=by
 obtain⟨F,f,k,c,a⟩:=h;exact⟨fun i=>F (i+1),fun i r e=>f (i+1) r (by simpa using e),fun i=>k (i+1),fun i j b d=>c (i+1) (j+1) b aA,a⟩
theorem aDa.weak{w w':World}{v:Value}{hs:List HP}{q:Piece}(h:aDa v hs q)(z:q.w=w')(E:gX w hs q):∃cs s,v=.agg cs∧uV (fT (fresh w w')) s cs∧s.made:=by
 obtain⟨s,f,k,o,p,C,D,B,u,rfl,x,G,y,rfl⟩:=h;obtain⟨F,a,r,_⟩:=E;subst z
 have e:∀i,(⟨q.w,F i⟩:Piece).Le (fresh w q.w):=fun i b j=>⟨⟨(r i b j).1,(r i b j).2.1⟩,rfl⟩
 have d:∀{i:Nat} {t:TypeId} {l n c:Nat} {A:Option Addr} {m:List Value},(HP.own t l (.slice A n c) n m).sat (F i) q.w→aM (fresh w q.w) l A n m:=fun {i} _ _ _ _ _ _ hs=>(aM.own (q:=⟨q.w,F i⟩) ⟨F i,hs,fun _ h=>h⟩).le (e i)
 exact⟨_,s,rfl,⟨f.1,_,f.2,k.1,_,k.2,o.1,_,o.2,p.1,_,p.2,rfl,⟨C,Hg.le _ _ (e 1) (a 1 _ rfl),rfl,d (a 0 _ rfl)⟩,⟨D,G,rfl,d (a 2 _ rfl)⟩,⟨B,y,rfl,d (a 3 _ rfl)⟩,⟨u,He.le _ _ (e 5) (a 5 _ rfl),rfl,d (a 4 _ rfl)⟩⟩,x⟩
theorem aLq{r:Int}(a:0≤r)(b:r < 8):([iv 17,iv 20,iv 22,iv 17,iv 20,iv 22,iv 16,iv 19]:List Value)[r.toNat]? =some (iv (Ie r)):=by
 rcases(by omega:r=0∨r=1∨r=2∨r=3∨r=4∨r=5∨r=6∨r=7) with rfl | rfl | rfl | rfl | rfl | rfl | rfl | rfl<;>rfl
def Vq(r:Int):Int:=([4,4,5,7,7,6,0,1,2]:List Int).getD r.toNat 0
theorem aMr{r:Int}(a:0≤r)(b:r < 9):([iv 4,iv 4,iv 5,iv 7,iv 7,iv 6,iv 0,iv 1,iv 2]:List Value)[r.toNat]? =some (iv (Vq r)):=by
 rcases(by omega:r=0∨r=1∨r=2∨r=3∨r=4∨r=5∨r=6∨r=7∨r=8) with rfl | rfl | rfl | rfl | rfl | rfl | rfl | rfl | rfl<;>rfl
theorem aLp{r:Int}(a:0≤r)(b:r < 8):0≤Ie r∧Ie r < 256:=by
 rcases(by omega:r=0∨r=1∨r=2∨r=3∨r=4∨r=5∨r=6∨r=7) with rfl | rfl | rfl | rfl | rfl | rfl | rfl | rfl<;>decide
theorem aMq{r:Int}(a:0≤r)(b:r < 9):0≤Vq r∧Vq r < 256:=by
 rcases(by omega:r=0∨r=1∨r=2∨r=3∨r=4∨r=5∨r=6∨r=7∨r=8) with rfl | rfl | rfl | rfl | rfl | rfl | rfl | rfl | rfl<;>decide
theorem aMp{p r:Int}(a:0≤r)(b:r < 9):0≤Vp p r∧Vp p r < 256:=by
 unfold Vp;split
 ·decide
 ·exact aMq a b
def Hj(A:Option Addr)(l:List Int):HP:=HP.cI (qC 1 A l.length (eJ l)) qC.le
def Of(l:List Int)(v:Value)(hs:List HP)(_:Piece):Prop:=∃A c,v=.slice A l.length c∧hs=[Hj A l]
theorem aHv{nn:Nat}{fn:Func}{t n c:Nat}{A:Option Addr}{w0:World}{e:Env}{R:List Piece}{H:List HP}(l:List Int)(d:n=l.length)(hi:H[0]? =some (Hj A l):=by rfl)(j:fn.results=#[.tmp t]:=by rfl)(f:e.get t=some (.slice A n c):=by rfl)(b:all w0∈R:=by simp):
  XK ⟨nn,[]⟩ w0 (bodyPost Tryz.prog fn (fun y w'=>(∃v hs q,y=.returned v∧q.w=w'∧Of l v hs q∧gX w0 hs q)∧Below w0.heap.size w0 w') .ret) e R H:=by
 subst d;refine aY [0] (H':=[Hj A l]) ?_ aC (fun _ h=>h) ?_
 ·unfold xQ;rw[hi];rfl
 refine dK [] [] [0] aD rfl aC aC fun q _ _ a=>?_;exact nB j f fun i st=>⟨⟨_,_,⟨i,q.Z⟩,rfl,rfl,⟨A,c,rfl,rfl⟩,st.newR (by simp[b]) aD (a b aD)⟩,st.below (by simp[b])⟩
theorem Yr{nn:Nat}{fn:Func}{t n c:Nat}{A:Option Addr}{xs:List Value}{w0:World}{e:Env}{R:List Piece}{H:List HP}(l:List Int)(a:n=l.length)(hx:xs=eJ l)(hi:H[0]? =some (HP.own 36 1 (.slice A n c) n xs):=by rfl)(f:fn.results=#[.tmp t]:=by rfl)(b:e.get t=some (.slice A n c):=by rfl)(d:all w0∈R:=by simp):
  XK ⟨nn,[]⟩ w0 (bodyPost Tryz.prog fn (fun y w'=>(∃v hs q,y=.returned v∧q.w=w'∧Of l v hs q∧gX w0 hs q)∧Below w0.heap.size w0 w') .ret) e R H:=by
 subst a;subst hx;refine wW 0 (Φ:=qC 1 A l.length (eJ l)) (hm:=qC.le) hi (fun _ h=>h) ?_;exact aHv l rfl (List.getElem?_set_self (wK hi)) f b d
theorem aBe(a:gH)(M:a.ok)(w:World):
  Cz 50 #[.agg #[iv a.ag,iv a.pr,iv a.ms,iv a.id,iv a.aw,iv a.od]] w (fun y w'=>(∃v hs q,y=.returned v∧q.w=w'∧Of (tG a) v hs q∧gX w hs q)∧Below w.heap.size w w'):=by
 have T:=zH a.pr 8 aC
 have R:=zH a.ms 9 aC
 have b3:=zH a.id 10 aC
 have b4:=zH a.aw 4 aC
 have b5:=zH a.aw 1024 aC
 have hP:=aLq T.1 T.2
 have hM:=aMr R.1 R.2
 have O:=aLp T.1 T.2
 have hmb:=aMp (p:=Ie (fE a.pr 8)) R.1 R.2
 have h1:=M.pr
 have h2:=M.ms
 have h3:=M.id
 have h4:=M.aw
 have h5:=M.od
 have l:Fv a=if Ie (fE a.pr 8)=20∧fE a.ms 9 < 3 then 7 else Vq (fE a.ms 9):=rfl
 obtain⟨m,hm⟩:∃m,Fv a=m:=⟨_,rfl⟩
 obtain⟨p,hp⟩:∃p,Ie (fE a.pr 8)=p:=⟨_,rfl⟩
 obtain⟨e,i⟩:∃t,(if m≠0∧m≠1 then[fE a.id 10] else[])=t:=⟨_,rfl⟩
 obtain⟨f,j⟩:∃t,(if m=4∨m=7 then[fE a.aw 4] else[])=t:=⟨_,rfl⟩
 obtain⟨d,L⟩:∃x,(dH m 0 p (fE a.aw 1024)).1=x:=⟨_,rfl⟩
 have hl1:e.length≤1:=by rw[←i];split<;>simp
 have hl2:f.length≤1:=by rw[←j];split<;>simp
 have V:uG a=d::(e++f):=by
  unfold uG;rw[hm,show Vr a=p from hp,L,i,j];rfl
 have J:tG a=if fE a.od 30=0 then(d::(e++f))++[0] else if fE a.od 30=1 then(d::(e++f)).take ((d::(e++f)).length - 1) else if fE a.od 30=2 then(d::(e++f)).set 0 (zI d 268435456) else if fE a.od 30=3 then(d::(e++f)).set 0 (zI d 256) else d::(e++f):=by
  unfold tG;rw[V];rfl
 obtain⟨od,N⟩:∃o,fE a.od 30=o:=⟨_,rfl⟩
 rw[N] at J;rw[J];rw[hp] at hP l O;rw[hm] at l
 have K:0≤m∧m < 256:=by rw[←hm];exact hmb
 have Z:=aL4 K O b5
 have hlen:(d::(e++f)).length=e.length+f.length+1:=by simp
 refine aT func50 ntmps50 ?_;refine aE ?_;refine bY fun I=>?_;refine aE ?_;refine eT fun g2=>?_;refine aE ?_;refine aZ (fun r t=>nU _ 8 r h1 aC) ?_;refine aE ?_;refine kd (bP rfl (Rd.aI 0 rfl hP)) ?_;refine aE ?_;refine eT fun g3=>?_;refine aE ?_;refine aZ (fun r t=>nU _ 9 r h2 aC) ?_;refine aE ?_;refine kd (bP rfl (Rd.aI 0 rfl hM)) ?_;refine bJ ?_;refine fP ?_;refine El (α:=Unit) (fun _=>[(6,iv m),(4,iv p),(1,pt I)]) (fun _=>[HP.aI I 84 [iv a.ag,iv a.pr,iv a.ms,iv a.id,iv a.aw,iv a.od]]) (fun _=>True) ?_ fun _ _=>?_
 ·refine aE ?_;refine cN (t:=25) rfl (fun z=>?_) (fun z=>?_)
  ·refine aE ?_;refine aZ (fun r t=>nU _ 9 r h2 aC) ?_;refine aE ?_;refine aK rfl (fun h=>?_) (fun h=>?_)
   ·rw[if_pos ⟨z,h⟩] at l;subst l;refine aE ?_;exact dO ()
   ·rw[if_neg (fun A=>h A.2)] at l;subst l;refine aE ?_;exact dO ()
  ·rw[if_neg (fun A=>z A.1)] at l;subst l;refine aE ?_;exact dO ()
 refine aE ?_;refine aZ (fun r t=>nU _ 1024 r h4 aC) ?_;refine aE ?_
 refine fK (aCY [d]) (fun r t=>by
  have:=aG4 m 0 p (fE a.aw 1024) none 0 0 [] r (aM.nil _ _) rfl aA Z
  rwa [L] at this) ?_
 rintro _ _ q1 ⟨A1,c1,rfl,rfl⟩ _;dsimp only[List.cons_append,List.nil_append];refine vS (R':=[all w]) aD ?_;refine bJ ?_;refine bJ ?_;refine bJ ?_;refine bJ ?_;refine bJ ?_;refine fP ?_;refine El (α:=Option Addr×Nat) (fun b=>[(7,.slice b.1 (d::e).length b.2),(6,iv m),(1,pt I)]) (fun b=>[HP.own 36 1 (.slice b.1 (d::e).length b.2) (d::e).length (eJ (d::e)),HP.aI I 84 [iv a.ag,iv a.pr,iv a.ms,iv a.id,iv a.aw,iv a.od]]) (fun _=>True) ?_ fun b _=>?_
 ·refine aE ?_;refine cN (t:=43) rfl (fun z=>?_) (fun z=>?_)
  ·refine aE ?_;refine aK rfl (fun h=>?_) (fun h=>?_)
   ·rw[if_pos ⟨z,h⟩] at i;subst i;refine aE ?_;refine aZ (fun r t=>nU _ 10 r h3 aC) ?_;refine aE ?_;refine eT fun g5=>?_;refine iL 1 1 4 1 (n':=([d,fE a.id 10]).length) (el:=36) aF aF aC rfl rfl rfl (nH 0 rfl rfl) (by simp[Value.oneCell']) aD (by first | (simp;done) | (simp;omega)) (by first | (simp;done) | (simp;omega)) aC fun H c2=>?_;dsimp only[List.set];refine aE ?_;rw[show eJ ([d])++[.int .u32 (fE a.id 10)]=eJ ([d,fE a.id 10]) by simp[eJ]];exact dO (H,c2)
   ·rw[if_neg (fun A=>h A.2)] at i;subst i;refine aE ?_;exact dO (A1,c1)
  ·rw[if_neg (fun A=>z A.1)] at i;subst i;refine aE ?_;exact dO (A1,c1)
 refine El (α:=Option Addr×Nat) (fun b=>[(7,.slice b.1 (d::(e++f)).length b.2),(6,iv m),(1,pt I)]) (fun b=>[HP.own 36 1 (.slice b.1 (d::(e++f)).length b.2) (d::(e++f)).length (eJ (d::(e++f))),HP.aI I 84 [iv a.ag,iv a.pr,iv a.ms,iv a.id,iv a.aw,iv a.od]]) (fun _=>True) ?_ fun b _=>?_
 ·refine aE ?_;refine cN (t:=56) rfl (fun z=>?_) (fun z=>?_)
  ·rw[if_pos (.inl z)] at j;subst j;refine aE ?_;refine aZ (fun r t=>nU _ 4 r h4 aC) ?_;refine aE ?_;refine eT fun g5=>?_;refine iL 1 1 4 1 (n':=(d::(e++[fE a.aw 4])).length) (el:=36) aF aF aC rfl rfl rfl (nH 0 rfl rfl) (by simp[Value.oneCell']) aD (by first | (simp;done) | (simp;omega)) (by first | (simp;done) | (simp;omega)) aC fun H c2=>?_;dsimp only[List.set];refine aE ?_;rw[show eJ (d::e)++[.int .u32 (fE a.aw 4)]=eJ (d::(e++[fE a.aw 4])) by simp[eJ]];exact dO (H,c2)
  ·refine aE ?_;refine aK rfl (fun h=>?_) (fun h=>?_)
   ·rw[if_pos (.inr h)] at j;subst j;refine aE ?_;refine aZ (fun r t=>nU _ 4 r h4 aC) ?_;refine aE ?_;refine eT fun g5=>?_;refine iL 1 1 4 1 (n':=(d::(e++[fE a.aw 4])).length) (el:=36) aF aF aC rfl rfl rfl (nH 0 rfl rfl) (by simp[Value.oneCell']) aD (by first | (simp;done) | (simp;omega)) (by first | (simp;done) | (simp;omega)) aC fun H c2=>?_;dsimp only[List.set];refine aE ?_;rw[show eJ (d::e)++[.int .u32 (fE a.aw 4)]=eJ (d::(e++[fE a.aw 4])) by simp[eJ]];exact dO (H,c2)
   ·rw[if_neg (fun A=>A.elim z h)] at j;subst j;rw[List.append_nil];refine aE ?_;exact dO b
 refine aE ?_;refine aZ (fun r t=>nU _ 30 r h5 aC) ?_;rw[N];refine aE ?_;refine aK rfl (fun h=>?_) (fun h=>?_)
 ·rw[if_pos h];refine aE ?_;refine eT fun g7=>?_;refine iL 1 1 4 1 (n':=((d::(e++f))++[0]).length) (el:=36) aF aF aC rfl rfl rfl (nH 0 rfl rfl) (by simp[Value.oneCell']) (by simp[Nat.add_assoc]) (by first | (simp;done) | (simp;omega)) (by first | (simp;done) | (simp;omega)) aC fun H c2=>?_;dsimp only[List.set];refine aE ?_;refine aY [1] rfl aC (fun _ h=>h) ?_;exact Yr _ rfl (aJj _ _)
 rw[if_neg h];refine aE ?_;refine aK rfl (fun h=>?_) (fun h=>?_)
 ·rw[if_pos h];refine aRT 0 rfl fun hcap=>?_;refine aE ?_;refine aIv ((d::(e++f)).length - 1) (el:=36) (sz:=1) aF aF rfl rfl aA aA aC fun A3 hA3=>?_;refine aE ?_
  refine pY (q:=Hj A3 ((d::(e++f)).take ((d::(e++f)).length - 1))) 0 rfl (fun F w h=>by
   obtain⟨A9,c9,hB,U⟩:=yQ (Y:=F) h (fun _ h=>h)
   injection hB with e1
   subst e1
   have:=U.aJ1 (k:=(d::(e++f)).length - 1) aA hA3
   rw[Nat.mul_one,eJ,←List.map_take] at this
   show aM _ 1 A3 (List.length _) (eJ _)
   rw[List.length_take,Nat.min_eq_left aA]
   exact this) ?_
  exact aHv _ (by rw[List.length_take,Nat.min_eq_left aA])
 rw[if_neg h];refine aE ?_;refine aK rfl (fun h=>?_) (fun h=>?_)
 ·rw[if_pos h];refine Yt 0 rfl aD ?_;rintro⟨gb,C⟩;rw[C];refine Ej 0 rfl fun X E u G D=>?_;dsimp only[List.set]
  have B:X[0]? =some (.int .u32 d):=by
   rw[Nat.mul_one] at u;rw[←List.getElem?_take_of_lt (show 0 < (d::(e++f)).length by simp),u];rfl
  refine aE ?_;refine kd (bP rfl (Rd.aI 0 rfl B)) ?_;refine Ov rfl rfl (fun w=>aEc _ d 268435456 w) aD aC ?_;refine aE ?_;refine Ce 0 (n:=(d::(e++f)).length) (c:=b.2) (sz:=1) (xs:=eJ ((d::(e++f)).set 0 (zI d 268435456))) rfl (by simpa using E) (by rw[←aDB,←u,List.take_set]) G D ?_;dsimp only[List.set];exact Yr (n:=(d::(e++f)).length) _ aD rfl
 rw[if_neg h];refine aE ?_;refine aK rfl (fun h=>?_) (fun h=>?_)
 ·rw[if_pos h];refine Yt 0 rfl aD ?_;rintro⟨gb,C⟩;rw[C];refine Ej 0 rfl fun X E u G D=>?_;dsimp only[List.set]
  have B:X[0]? =some (.int .u32 d):=by
   rw[Nat.mul_one] at u;rw[←List.getElem?_take_of_lt (show 0 < (d::(e++f)).length by simp),u];rfl
  refine aE ?_;refine kd (bP rfl (Rd.aI 0 rfl B)) ?_;refine Ov rfl rfl (fun w=>aEc _ d 256 w) aD aC ?_;refine aE ?_;refine Ce 0 (n:=(d::(e++f)).length) (c:=b.2) (sz:=1) (xs:=eJ ((d::(e++f)).set 0 (zI d 256))) rfl (by simpa using E) (by rw[←aDB,←u,List.take_set]) G D ?_;dsimp only[List.set];exact Yr (n:=(d::(e++f)).length) _ aD rfl
 rw[if_neg h];refine aE ?_;exact Yr _ rfl rfl
def aHQ(p:yS)(v:Value)(hs:List HP)(_:Piece):Prop:=∃A c a,v=.agg #[.int .u8 p.kind,iv p.task,.int .u8 p.c.k,iv p.c.d,iv p.c.r,.int .u32 p.c.v,.int .u32 p.Jc,.slice A p.words.length c]∧hs=[a,Hj A p.words]
theorem aLy(a:gH)(many:Int)(w:World)(e:a.ok)(hm:0≤many∧many≤1000):
  Cz 26 #[.agg a.cells.toArray,iv many] w (fun y w'=>(∃v hs q,y=.returned v∧q.w=w'∧aHQ (Fp a many) v hs q∧gX w hs q)∧Below w.heap.size w w'):=by
 have C:=zH a.kind 13 aC
 have I:=zH a.dev (many+1) aA
 have J:=zH a.task 6 aC
 have D:=aNe C.1 C.2
 have E:=e.kind
 have A:=e.dev
 have l:=e.bZ
 have x:=e.task
 have G:=e.op
 unfold Fp;obtain⟨K,d⟩:∃K,opK (fE a.op 30)=K:=⟨_,rfl⟩
 rw[d];unfold opK at d;refine aT func26 ntmps26 ?_;refine aE ?_;refine bY fun k=>?_;refine cQ fun j=>?_;refine aE ?_;refine eT fun L=>?_;refine aE ?_;refine Nr (α:=Nat) (fun c=>[(6,pt c),(4,pt j),(2,pt k)]) (fun c=>[HP.aI c 44 [.int .u8 (Nc a),iv (Nd a many),iv (Nb a),.int .u32 a.v],HP.aI j 70 [.int .u8 0,iv 0,.int .u8 0,iv 0,iv 0,.int .u32 0,.int .u32 0,sn],HP.aI k 86 a.cells]) (fun _=>True) ?_ fun c _=>?_
 ·refine aH0 ?_;refine yN 3 17 rfl rfl aF ?_ ?_
  ·refine aZ (fun b t=>nU _ 13 b E aC) ?_;refine bH ?_;refine nZ 4 ?_;refine nZ 5 ?_ (dG:=bP rfl (Rd.aI 0 rfl D));refine yN 10 17 rfl rfl aF ?_ ?_
   ·refine aZ (fun b t=>nU _ (many+1) b A aA) ?_;refine bH ?_;refine yN 13 17 rfl rfl aF ?_ ?_
    ·refine aZ (fun b t=>nU _ 4 b l aC) ?_;refine bH ?_;refine nZ 16 ?_;refine aQ 17 ?_;refine cQ fun c=>?_;refine bH ?_;refine aQ 18 ?_;refine mF 0 rfl ?_;dsimp only[List.set];refine cS ?_;refine eM ?_;refine aE ?_;exact dO c
    ·refine cQ fun c=>?_;refine bH ?_;refine aQ 13 ?_;refine aZ (fun b t=>nU _ 4 b l aC) ?_;refine bH ?_;refine nZ 16 ?_;refine aQ 18 ?_;refine mF 0 rfl ?_;dsimp only[List.set];refine cS ?_;refine eM ?_;refine aE ?_;exact dO c
   ·refine cQ fun c=>?_;refine bH ?_;refine aQ 10 ?_;refine aZ (fun b t=>nU _ (many+1) b A aA) ?_;refine bH ?_;refine aQ 13 ?_;refine aZ (fun b t=>nU _ 4 b l aC) ?_;refine bH ?_;refine nZ 16 ?_;refine aQ 18 ?_;refine mF 0 rfl ?_;dsimp only[List.set];refine cS ?_;refine eM ?_;refine aE ?_;exact dO c
  ·refine cQ fun c=>?_;refine bH ?_;refine aQ 3 ?_;refine aZ (fun b t=>nU _ 13 b E aC) ?_;refine bH ?_;refine nZ 4 ?_;refine nZ 5 ?_ (dG:=bP rfl (Rd.aI 0 rfl D));refine aQ 10 ?_;refine aZ (fun b t=>nU _ (many+1) b A aA) ?_;refine bH ?_;refine aQ 13 ?_;refine aZ (fun b t=>nU _ 4 b l aC) ?_;refine bH ?_;refine nZ 16 ?_;refine aQ 18 ?_;refine mF 0 rfl ?_;dsimp only[List.set];refine cS ?_;refine eM ?_;refine aE ?_;exact dO c
 refine aE ?_;refine Nr (α:=Nat×Option Addr×Nat) (fun z=>[(7,pt z.1),(4,pt j),(2,pt k)]) (fun z=>[HP.aI z.1 70 [.int .u8 0,iv (fE a.task 3),.int .u8 (Nc a),iv (Nd a many),iv (Nb a),.int .u32 a.v,.int .u32 a.v,.slice z.2.1 (tG a).length z.2.2],Hj z.2.1 (tG a),HP.aI j 70 [.int .u8 0,iv 0,.int .u8 0,iv 0,iv 0,.int .u32 0,.int .u32 0,sn],HP.aI k 86 a.cells]) (fun _=>True) ?_ fun z _=>?_
 ·refine aH0 ?_;refine nZ 7 ?_ (dG:=kO rfl (xB (vs:=[iv a.ag,iv a.pr,iv a.ms,iv a.id,iv a.aw,iv a.od]) 2 rfl rfl));refine yN 2 10 rfl rfl aF ?_ ?_
  ·refine aZ (fun b t=>nU _ 3 b x aC) ?_;refine bH ?_;refine yN 8 10 rfl rfl aF ?_ ?_
   ·refine fK (Of (tG a)) (fun b t=>aBe a e b) ?_;rintro _ _ B ⟨n,m,rfl,rfl⟩ _;dsimp only[List.cons_append,List.nil_append];refine vS (R':=[all w]) aD ?_;refine bH ?_;refine nZ 9 ?_;refine aQ 10 ?_;refine cQ fun o=>?_;refine bH ?_;refine aQ 11 ?_;refine mF 0 rfl ?_;dsimp only[List.set];refine cS ?_;refine eM ?_;refine aE ?_;exact dO (o,n,m)
   ·refine cQ fun o=>?_;refine bH ?_;refine aQ 8 ?_;refine fK (Of (tG a)) (fun b t=>aBe a e b) ?_;rintro _ _ B ⟨n,m,rfl,rfl⟩ _;dsimp only[List.cons_append,List.nil_append];refine vS (R':=[all w]) aD ?_;refine bH ?_;refine nZ 9 ?_;refine aQ 11 ?_;refine mF 1 rfl ?_;dsimp only[List.set];refine cS ?_;refine eM ?_;refine aE ?_;exact dO (o,n,m)
  ·refine cQ fun o=>?_;refine bH ?_;refine aQ 2 ?_;refine aZ (fun b t=>nU _ 3 b x aC) ?_;refine bH ?_;refine aQ 8 ?_;refine fK (Of (tG a)) (fun b t=>aBe a e b) ?_;rintro _ _ B ⟨n,m,rfl,rfl⟩ _;dsimp only[List.cons_append,List.nil_append];refine vS (R':=[all w]) aD ?_;refine bH ?_;refine nZ 9 ?_;refine aQ 11 ?_;refine mF 1 rfl ?_;dsimp only[List.set];refine cS ?_;refine eM ?_;refine aE ?_;exact dO (o,n,m)
 refine aE ?_;refine aZ (fun b t=>nU _ 30 b G aC) ?_;refine aE ?_;refine sH (α:=Unit) (fun _=>[(7,pt z.1),(4,pt j),(2,pt k)]) (fun _=>[HP.aI z.1 70 [.int .u8 K,iv (fE a.task 3),.int .u8 (Nc a),iv (Nd a many),iv (Nb a),.int .u32 a.v,.int .u32 a.v,.slice z.2.1 (tG a).length z.2.2],Hj z.2.1 (tG a),HP.aI j 70 [.int .u8 0,iv 0,.int .u8 0,iv 0,iv 0,.int .u32 0,.int .u32 0,sn],HP.aI k 86 a.cells]) (fun _=>True) ?_ fun _ _=>?_
 ·refine aE ?_;refine aK rfl (fun h=>?_) (fun i=>?_)
  ·obtain rfl:99=K:=by rw[←d,if_pos h]
   refine aE ?_;exact dO ()
  refine aE ?_;refine aK rfl (fun h=>?_) (fun p=>?_)
  ·obtain rfl:116=K:=by rw[←d,if_neg i,if_pos h]
   refine aE ?_;exact dO ()
  refine aE ?_;refine aK rfl (fun h=>?_) (fun r=>?_)
  ·obtain rfl:102=K:=by rw[←d,if_neg i,if_neg p,if_pos h]
   refine aE ?_;exact dO ()
  refine aE ?_;refine aK rfl (fun h=>?_) (fun u=>?_)
  ·obtain rfl:104=K:=by rw[←d,if_neg i,if_neg p,if_neg r,if_pos h]
   refine aE ?_;exact dO ()
  refine aE ?_;refine aK rfl (fun h=>?_) (fun F=>?_)
  ·obtain rfl:109=K:=by rw[←d,if_neg i,if_neg p,if_neg r,if_neg u,if_pos h]
   refine aE ?_;exact dO ()
  refine aE ?_;refine aK rfl (fun h=>?_) (fun H=>?_)
  ·obtain rfl:97=K:=by rw[←d,if_neg i,if_neg p,if_neg r,if_neg u,if_neg F,if_pos h]
   refine aE ?_;exact dO ()
  obtain rfl:0=K:=by rw[←d,if_neg i,if_neg p,if_neg r,if_neg u,if_neg F,if_neg H]
  refine aE ?_;exact dO ()
 refine aE ?_;refine aZ (fun b t=>nU _ 40 b l aC) ?_;refine aE ?_;refine aK rfl (fun h=>?_) (fun h=>?_)
 ·rw[if_pos h];refine aE ?_;refine aZ (fun b t=>nU _ 6 b x aC) ?_;refine aE ?_;refine aY [2,1] rfl aC (fun _ h=>h) ?_;refine dK [] [] [0,1] aD rfl aC aC fun q _ _ f=>?_;exact Ji (vs:=[.int .u8 K,iv (fE a.task 6 - 2),.int .u8 (Nc a),iv (Nd a many),iv (Nb a),.int .u32 a.v,.int .u32 a.v,.slice z.2.1 (tG a).length z.2.2]) rfl aF rfl rfl (aV.whole 0 rfl) fun b st=>⟨⟨_,_,⟨b,q.Z⟩,rfl,rfl,⟨_,_,_,rfl,rfl⟩,st.newR aD aD (f aD aD)⟩,st.below aD⟩
 ·rw[if_neg h];refine aE ?_;refine aY [2,1] rfl aC (fun _ h=>h) ?_;refine dK [] [] [0,1] aD rfl aC aC fun q _ _ f=>?_;exact Ji (vs:=[.int .u8 K,iv (fE a.task 3),.int .u8 (Nc a),iv (Nd a many),iv (Nb a),.int .u32 a.v,.int .u32 a.v,.slice z.2.1 (tG a).length z.2.2]) rfl aF rfl rfl (aV.whole 0 rfl) fun b st=>⟨⟨_,_,⟨b,q.Z⟩,rfl,rfl,⟨_,_,_,rfl,rfl⟩,st.newR aD aD (f aD aD)⟩,st.below aD⟩
def jR.row(e:jR)(A:Option Addr)(c:Nat):List Value:=[.int .u8 e.kind,iv e.task,.int .u8 e.c.k,iv e.c.d,iv e.c.r,.int .u32 e.c.v,iv e.err,.int .u32 e.res,iv e.an.id,iv e.an.dev,.bool e.an.dead,.int .u32 e.an.val,.bool e.alive,.slice A e.words.length c]
def Tm(S:tS)(e:jR)(r:List Value):Prop:=∃A c,r=e.row A c∧S 36 1 A e.words.length (eJ e.words)
theorem Tm.mono{S S':tS}(h:∀t sz A n xs,S t sz A n xs→S' t sz A n xs){e:jR}{r:List Value}(k:Tm S e r):Tm S' e r:=by
 obtain⟨A,c,a,b⟩:=k;exact⟨A,c,a,h _ _ _ _ _ b⟩
def lY(es:List jR)(rows:List (List Value))(p:Piece):Prop:=Rows (Tm (fT p)) 14 es rows
theorem lY.le{es:List jR}{rows:List (List Value)}(p q:Piece)(h:p.Le q)(k:lY es rows p):lY es rows q:=Rows.mono (fun _ _=>Tm.mono (kU h)) k
theorem aCL{α:Type}{R:α→List Value→Prop}{sz:Nat}:∀{es b:List α} {c a:List (List Value)},Rows R sz es c→Rows R sz b a→Rows R sz (es++b) (c++a)
 | [],_,[],_,_,h=>h
 | [],_,_::_,_,h,_=>h.elim
 | _::_,_,[],_,h,_=>h.elim
 | _::_,_,_::_,_,h,k=>⟨h.1,h.2.1,aCL h.2.2 k⟩
theorem lY.one{e:jR}{A:Option Addr}{c:Nat}{p:Piece}(h:aM p 1 A e.words.length (eJ e.words)):lY [e] [e.row A c] p:=⟨rfl,⟨A,c,rfl,h⟩,trivial⟩
theorem lY.no{e:jR}{p:Piece}(h:e.words=[]):lY [e] [e.row none 0] p:=⟨rfl,⟨none,0,rfl,by rw[h];exact aM.nil _ _⟩,trivial⟩
def mW(es:List jR)(rows:List (List Value)):HP:=HP.cI (lY es rows) (lY.le (es:=es) (rows:=rows))
structure jJ where
 A:Option Addr
 c:Nat
 rows:List (List Value)
def lO(f r:Nat)(hL:HL)(s:aG)(w:aU)(L:jJ):List Value:=
  [.pointer (some ⟨hL.h,0,none⟩),pt f,pt r,iv s.aH.length,iv (s.domains.length+s.aJ.length+s.bA.length:Nat),
   .int .u8 (w.cl 0).k,iv (w.cl 0).d,iv (w.cl 0).r,.int .u32 (w.cl 0).v,.int .u8 (w.cl 1).k,iv (w.cl 1).d,iv (w.cl 1).r,.int .u32 (w.cl 1).v,.int .u8 (w.cl 2).k,iv (w.cl 2).d,iv (w.cl 2).r,.int .u32 (w.cl 2).v,
   .bool (w.wt 0),.bool (w.wt 1),.bool (w.wt 2),.slice L.A w.es.length L.c]
def kI(g f r:Nat)(hL:HL)(s:aG)(w:aU)(L:jJ):HP:=HP.many [HP.aI g 94 (lO f r hL s w L),iR r f hL s w.m,HP.own 52 14 (.slice L.A w.es.length L.c) w.es.length L.rows.flatten,mW w.es L.rows]
def dM(g f r:Nat)(hL:HL)(s:aG)(w:aU):HP:=HP.ex fun L:jJ=>kI g f r hL s w L
theorem aOP(t:TypeId)(sz:Nat)(w:World):(HP.own t sz (.slice none 0 0) 0 []).sat (fun _=>False) w:=⟨fun g h=>by simp[Value.ownBlock] at h,aD,.inl ⟨rfl,rfl⟩⟩
theorem aOR(w:World):(mW [] []).sat (fun _=>False) w:=(trivial:lY [] [] ⟨w,fun _=>False⟩)
def aCF(s:aG)(v:Value)(hs:List HP)(_:Piece):Prop:=∃(g f r:Nat) (a:HL),v=.tuple #[pt g,iv 0]∧hs=[dM g f r a s (Hp s)]∧gQ a s
theorem aD0(s:aG)(A1 A2 A3 A4:Option Addr)(n1 k1 n2 k2 n3 k3 n4 k4:Nat)(w:World)(hW:iJ w s A1 n1 A2 n2 A3 n3 A4 n4)(hm:s.made):
  Cz 23 #[.agg #[.slice A1 n1 k1,.slice A2 n2 k2,.slice A3 n3 k3,.slice A4 n4 k4]] w (fun y w'=>(∃v hs q,y=.returned v∧q.w=w'∧aCF s v hs q∧gX w hs q)∧Below w.heap.size w w'):=by
 have i:=hm.dF
 have l:=hm.nc
 have j:=hm.nd
 have k:=hm.nr
 obtain rfl:=hW.rY;obtain rfl:=hW.rX;obtain rfl:=hW.uI;obtain rfl:=hW.tH;refine aT func23 ntmps23 ?_;refine aE ?_;refine bY fun u=>?_;refine aE ?_;refine fK (aHZ s) (fun a t=>aNO s i A1 A2 A3 A4 _ k1 _ k2 _ k3 _ k4 a (hW.le (t.started aD))) ?_;rintro _ _ m ⟨b,rfl,rfl,d,c⟩ _;dsimp only[List.cons_append,List.nil_append];refine aE ?_;refine fK (aIi b.h s) (fun a t=>aO7 b.h s i A1 A2 A3 A4 _ k1 _ k2 _ k3 _ k4 a (hW.le (t.started aD))) ?_;rintro _ _ o ⟨f,rfl,rfl⟩ _;dsimp only[List.cons_append,List.nil_append];refine aE ?_;refine fK (aHK b.h f s) (fun a t=>aK1 s A1 A2 A3 A4 _ k1 _ k2 _ k3 _ k4 a b.h f hm (hW.le (t.started aD))) ?_;rintro _ _ n ⟨r,rfl,rfl⟩ _;dsimp only[List.cons_append,List.nil_append];refine aE ?_;refine bY fun g=>?_;refine aE ?_;refine aY [1,2,3,0] rfl aC (R':=[all w]) aD ?_;refine vT ?_;refine pH (p:=mW [] []) aOR ?_;refine pH (p:=HP.own 52 14 (.slice none 0 0) 0 []) (aOP _ _) ?_;refine aY [3,2,0,1] rfl aC (R':=[all w]) aD ?_;refine nM ?_;refine rH ?_;refine rH ?_;refine uS 0 (f:=fun L:jJ=>kI g f r b s (Hp s) L) ⟨none,0,[]⟩ rfl ?_;dsimp only[List.set];refine dK [] [] [0] aD rfl aC aC fun q _ _ e=>?_;exact gF rfl rfl rfl fun a t=>⟨⟨_,_,⟨a,q.Z⟩,rfl,rfl,⟨g,f,r,b,rfl,rfl,⟨d,c⟩⟩,t.newR aD aD (e aD aD)⟩,t.below aD⟩
def aHC(g f r:Nat)(hL:HL)(s:aG)(W:aU)(b:Nat)(a:List jR)(zD:List (List Value)):HP:=HP.many [dM g f r hL s W,HP.aI b 52 zD.flatten,mW a zD]
section
variable(g f r:Nat)(hL:HL)(s:aG)(W:aU)(w:World)(F:Nat→Prop)
theorem aDz(a:List jR)(zD:List (List Value))(i m c:Nat)(hm:a.length=m)(hl:zD.flatten.length=m*14)(e:∀u∈zD.flatten,u.oneCell'=true)(n:W.es.length+a.length≤1000000000)
  (hp:(aHC g f r hL s W i a zD).sat F w) (hF:∀b,F b→b < w.heap.size):
  Cz 49 #[pt g,.slice (some ⟨i,0,none⟩) m c] w (Wr (.tuple #[]) (dM g f r hL s {W with es:=W.es++a}) w F):=by
 have d:(W.es++a).length=W.es.length+m:=by rw[List.length_append,hm]
 refine dD func49 ntmps49 hp hF ?_;refine bE 0 0 ?_;refine bE 1 1 ?_;refine bE 2 2 ?_;refine iQ 2 fun L=>?_;refine bE 2 0 ?_;refine bE 3 2 ?_;refine bE 4 3 ?_;dsimp only[lO];refine aE ?_;refine iL 1 14 120 m (n':=(W.es++a).length) (el:=52) aF aF aC rfl rfl rfl (nH 4 rfl hl) e (by rw[List.length_append,hm]) (by have:=d;omega) (by have:=d;omega) aC fun j l=>?_;dsimp only[List.set];rw[←List.flatten_append];refine aE ?_;refine aY [0,3,1,2,5] rfl aC (fun _ h=>h) ?_;refine Gs (X:=lY (W.es++a) (L.rows++zD)) (h3:=lY.le) (fun p e k=>aCL e k) ?_;refine aN 2 3 ?_;refine aN 1 2 ?_;refine aN 0 0 ?_;refine cY 0 (fun L:jJ=>kI g f r hL s {W with es:=W.es++a} L) ⟨j,l,L.rows++zD⟩ ?_;exact fO 0 hF
theorem Fa(e:jR)(A:Option Addr)(k a:Nat)(c:W.es.length≤900000000)(hp:(aHC g f r hL s W a [e] [e.row A k]).sat F w)(hF:∀b,F b→b < w.heap.size):
  Cz 49 #[pt g,.slice (some ⟨a,0,none⟩) 1 1] w (Wr (.tuple #[]) (dM g f r hL s {W with es:=W.es++[e]}) w F):=
 aDz g f r hL s W w F [e] [e.row A k] a 1 1 rfl rfl (by simp[jR.row,Value.oneCell']) (by simp;omega) hp hF
theorem Mm(e:jR)(h:e.words=[])(w:World):(mW [e] [e.row none 0]).sat (fun _=>False) w:=lY.no (p:=⟨w,fun _=>False⟩) h
theorem aJF{z:bB}{t k d r v:Int}(h:(oO z t k d r v).1=0):t=0∨t=1∨t=2:=by
 unfold oO at h;split at h
 ·simp at h
 ·rename_i a
  obtain⟨j,rfl,b⟩:=vI (t:=t) (by simpa using a);omega
theorem aIO(t k d q v:Int)(hp:(dM g f r hL s W).sat F w)(hF:∀b,F b→b < w.heap.size):
  Cz 43 #[pt g,iv t,.agg #[.int .u8 k,iv d,iv q,.int .u32 v]] w (Wr (iv (W.call t ⟨k,d,q,v⟩).1) (dM g f r hL s (W.call t ⟨k,d,q,v⟩).2) w F):=by
 unfold aU.call;refine dD func43 ntmps43 hp hF ?_;refine aE ?_;refine bY fun p=>?_;refine aE ?_;refine iQ 1 fun L=>?_;refine bE 1 0 ?_;refine bE 2 1 ?_;dsimp only[lO];refine Ek [1,2,3,5] ?_;refine bQ 0 ?_ (hsub:=fun _ h=>h.bR);refine aO 1 ?_ (hsub:=fun _ h=>h.bR);refine aO 2 ?_ (hsub:=fun _ h=>h.bR);refine aO 3 ?_ (hsub:=fun _ h=>h.bR);refine bQ 4 ?_ (hsub:=fun _ h=>h.bR);refine aO 5 ?_ (hsub:=fun _ h=>h.bR);refine aQ 6 ?_;refine cG 0 (iR r f hL s (W.m.start t k d q v)) (fun e i n j l o=>aMB r f hL s W.m e i t k d q v j l) ?_;refine bH ?_ (hS:=fun _ h=>h.bR);refine uU [7] ?_;refine aE ?_;refine aK rfl (fun a=>?_) (fun a=>?_)
 ·rw[if_pos a];refine aE ?_;refine aN 2 1 ?_;refine aN 1 0 ?_;refine cY 1 (fun L:jJ=>kI g f r hL s {W with m:=W.m.start t k d q v} L) L ?_;exact bU 1 hF
 ·have c:=Decidable.not_not.1 a
  rw[if_neg a,c];rcases aJF c with rfl | rfl | rfl
  ·refine aE ?_;refine aY [1,0,2,3] rfl aC (fun _ h=>h) ?_;refine Ek [4,5,6,7,9,10] ?_;refine bQ 0 ?_ (hsub:=fun _ h=>h.bR);refine bQ 1 ?_ (hsub:=fun _ h=>h.bR);refine bQ 2 ?_ (hsub:=fun _ h=>h.bR);refine bQ 3 ?_ (hsub:=fun _ h=>h.bR);refine aO 4 ?_ (hsub:=fun _ h=>h.bR);refine aO 5 ?_ (hsub:=fun _ h=>h.bR);refine aO 6 ?_ (hsub:=fun _ h=>h.bR);refine aO 7 ?_ (hsub:=fun _ h=>h.bR) (dG:=by exact fQ 0 5);refine aO 9 ?_ (hsub:=fun _ h=>h.bR);refine aO 10 ?_ (hsub:=fun _ h=>h.bR);refine aQ 8 ?_;refine Bk 0 rfl ?_;dsimp only[List.set];simp only[gD,List.take,List.drop,List.nil_append,List.append_nil,List.length_cons,List.length_nil,List.cons_append,Nat.reduceAdd];refine bH ?_ (hS:=fun _ h=>h.bR);refine aQ 11 ?_;refine kd (fQ 0 17) ?_;refine bH ?_ (hS:=fun _ h=>h.bR);refine aQ 12 ?_;refine eZ rfl rfl ?_;dsimp only[List.set];refine bH ?_ (hS:=fun _ h=>h.bR);refine eM ?_;refine aE ?_;refine pY (q:=HP.aI g 94 (lO f r hL s {W with m:=W.m.start 0 k d q v,cl:=gJ W.cl (0:Int).toNat ⟨k,d,q,v⟩,wt:=gJ W.wt (0:Int).toNat true} L)) 0 rfl (fun F w h=>by simpa[lO,gJ] using h) ?_;dsimp only[List.set];refine aN 2 0 ?_;refine aN 1 1 ?_;refine cY 1 (fun L:jJ=>kI g f r hL s {W with m:=W.m.start 0 k d q v,cl:=gJ W.cl (0:Int).toNat ⟨k,d,q,v⟩,wt:=gJ W.wt (0:Int).toNat true} L) L ?_;exact bU 1 hF
  ·refine aE ?_;refine aY [1,0,2,3] rfl aC (fun _ h=>h) ?_;refine Ek [4,5,6,7,9,10] ?_;refine bQ 0 ?_ (hsub:=fun _ h=>h.bR);refine bQ 1 ?_ (hsub:=fun _ h=>h.bR);refine bQ 2 ?_ (hsub:=fun _ h=>h.bR);refine bQ 3 ?_ (hsub:=fun _ h=>h.bR);refine aO 4 ?_ (hsub:=fun _ h=>h.bR);refine aO 5 ?_ (hsub:=fun _ h=>h.bR);refine aO 6 ?_ (hsub:=fun _ h=>h.bR);refine aO 7 ?_ (hsub:=fun _ h=>h.bR) (dG:=by exact fQ 1 9);refine aO 9 ?_ (hsub:=fun _ h=>h.bR);refine aO 10 ?_ (hsub:=fun _ h=>h.bR);refine aQ 8 ?_;refine Bk 0 rfl ?_;dsimp only[List.set];simp only[gD,List.take,List.drop,List.nil_append,List.append_nil,List.length_cons,List.length_nil,List.cons_append,Nat.reduceAdd];refine bH ?_ (hS:=fun _ h=>h.bR);refine aQ 11 ?_;refine kd (fQ 1 18) ?_;refine bH ?_ (hS:=fun _ h=>h.bR);refine aQ 12 ?_;refine eZ rfl rfl ?_;dsimp only[List.set];refine bH ?_ (hS:=fun _ h=>h.bR);refine eM ?_;refine aE ?_;refine pY (q:=HP.aI g 94 (lO f r hL s {W with m:=W.m.start 1 k d q v,cl:=gJ W.cl (1:Int).toNat ⟨k,d,q,v⟩,wt:=gJ W.wt (1:Int).toNat true} L)) 0 rfl (fun F w h=>by simpa[lO,gJ] using h) ?_;dsimp only[List.set];refine aN 2 0 ?_;refine aN 1 1 ?_;refine cY 1 (fun L:jJ=>kI g f r hL s {W with m:=W.m.start 1 k d q v,cl:=gJ W.cl (1:Int).toNat ⟨k,d,q,v⟩,wt:=gJ W.wt (1:Int).toNat true} L) L ?_;exact bU 1 hF
  ·refine aE ?_;refine aY [1,0,2,3] rfl aC (fun _ h=>h) ?_;refine Ek [4,5,6,7,9,10] ?_;refine bQ 0 ?_ (hsub:=fun _ h=>h.bR);refine bQ 1 ?_ (hsub:=fun _ h=>h.bR);refine bQ 2 ?_ (hsub:=fun _ h=>h.bR);refine bQ 3 ?_ (hsub:=fun _ h=>h.bR);refine aO 4 ?_ (hsub:=fun _ h=>h.bR);refine aO 5 ?_ (hsub:=fun _ h=>h.bR);refine aO 6 ?_ (hsub:=fun _ h=>h.bR);refine aO 7 ?_ (hsub:=fun _ h=>h.bR) (dG:=by exact fQ 2 13);refine aO 9 ?_ (hsub:=fun _ h=>h.bR);refine aO 10 ?_ (hsub:=fun _ h=>h.bR);refine aQ 8 ?_;refine Bk 0 rfl ?_;dsimp only[List.set];simp only[gD,List.take,List.drop,List.nil_append,List.append_nil,List.length_cons,List.length_nil,List.cons_append,Nat.reduceAdd];refine bH ?_ (hS:=fun _ h=>h.bR);refine aQ 11 ?_;refine kd (fQ 2 19) ?_;refine bH ?_ (hS:=fun _ h=>h.bR);refine aQ 12 ?_;refine eZ rfl rfl ?_;dsimp only[List.set];refine bH ?_ (hS:=fun _ h=>h.bR);refine eM ?_;refine aE ?_;refine pY (q:=HP.aI g 94 (lO f r hL s {W with m:=W.m.start 2 k d q v,cl:=gJ W.cl (2:Int).toNat ⟨k,d,q,v⟩,wt:=gJ W.wt (2:Int).toNat true} L)) 0 rfl (fun F w h=>by simpa[lO,gJ] using h) ?_;dsimp only[List.set];refine aN 2 0 ?_;refine aN 1 1 ?_;refine cY 1 (fun L:jJ=>kI g f r hL s {W with m:=W.m.start 2 k d q v,cl:=gJ W.cl (2:Int).toNat ⟨k,d,q,v⟩,wt:=gJ W.wt (2:Int).toNat true} L) L ?_;exact bU 1 hF
theorem aPn{z:bB}{t:Int}(h:(fV z t).1.2.2=true):t=0∨t=1∨t=2:=by
 unfold fV at h;split at h
 ·simp at h
 ·rename_i a
  obtain⟨j,rfl,b⟩:=vI (t:=t) (by simpa using a);omega
theorem xL(n:W.es.length≤900000000)(t:Int)(hp:(dM g f r hL s W).sat F w)(hF:∀b,F b→b < w.heap.size):
  Cz 76 #[pt g,iv t] w (Wr (.tuple #[]) (dM g f r hL s (W.end_ t)) w F):=by
 unfold aU.end_;refine dD func76 ntmps76 hp hF ?_;refine iQ 0 fun L=>?_;refine bE 0 0 ?_;refine bE 1 1 ?_;dsimp only[lO];refine aE ?_;refine cG 0 (iR r f hL s (W.m.done t)) (fun a c l e i o=>aME r f hL s W.m a c t e i) ?_;refine aE ?_;refine cQ fun x=>?_;refine aE ?_;cases u:(fV W.m.z t).1.2.2 with
 | false=>
  rw[if_neg aC];refine aE ?_;refine aY [1,2,3] rfl aC (fun _ h=>h) ?_;refine aN 1 1 ?_;refine aN 0 0 ?_;refine cY 0 (fun L:jJ=>kI g f r hL s {W with m:=W.m.done t} L) L ?_;exact fO 0 hF
 | true =>
  rw[if_pos rfl];refine aE ?_;rcases aPn u with rfl | rfl | rfl
  ·refine uT ?_;refine nZ 7 ?_ (dG:=kO rfl (xB (vs:=[.int .u8 (W.cl 0).k,iv (W.cl 0).d,iv (W.cl 0).r,.int .u32 (W.cl 0).v]) 2 rfl rfl));refine nZ 9 ?_;refine aQ 10 ?_;refine eT fun j=>?_;refine bH ?_;refine uU [11] ?_;refine aY [2,3,4,0] rfl aC (fun _ h=>h) ?_;refine aN 1 1 ?_;refine aN 0 0 ?_;refine cY 0 (fun L:jJ=>kI g f r hL s {W with m:=W.m.done 0} L) L ?_;refine pH (p:=mW [vM W 0] [(vM W 0).row none 0]) (Mm _ rfl) ?_;refine aY [1,2,0] rfl aC (fun _ h=>h) ?_;refine vT ?_;refine cG 0 (dM g f r hL s {W with m:=W.m.done 0,es:=W.es++[vM W 0]}) (fun a c l e i o=>Fa g f r hL s {W with m:=W.m.done 0} a c (vM W 0) none 0 j n e i) ?_;exact fO 0 hF
  ·refine uT ?_;refine nZ 7 ?_ (dG:=kO rfl (xB (vs:=[.int .u8 (W.cl 1).k,iv (W.cl 1).d,iv (W.cl 1).r,.int .u32 (W.cl 1).v]) 2 rfl rfl));refine nZ 9 ?_;refine aQ 10 ?_;refine eT fun j=>?_;refine bH ?_;refine uU [11] ?_;refine aY [2,3,4,0] rfl aC (fun _ h=>h) ?_;refine aN 1 1 ?_;refine aN 0 0 ?_;refine cY 0 (fun L:jJ=>kI g f r hL s {W with m:=W.m.done 1} L) L ?_;refine pH (p:=mW [vM W 1] [(vM W 1).row none 0]) (Mm _ rfl) ?_;refine aY [1,2,0] rfl aC (fun _ h=>h) ?_;refine vT ?_;refine cG 0 (dM g f r hL s {W with m:=W.m.done 1,es:=W.es++[vM W 1]}) (fun a c l e i o=>Fa g f r hL s {W with m:=W.m.done 1} a c (vM W 1) none 0 j n e i) ?_;exact fO 0 hF
  ·refine uT ?_;refine nZ 7 ?_ (dG:=kO rfl (xB (vs:=[.int .u8 (W.cl 2).k,iv (W.cl 2).d,iv (W.cl 2).r,.int .u32 (W.cl 2).v]) 2 rfl rfl));refine nZ 9 ?_;refine aQ 10 ?_;refine eT fun j=>?_;refine bH ?_;refine uU [11] ?_;refine aY [2,3,4,0] rfl aC (fun _ h=>h) ?_;refine aN 1 1 ?_;refine aN 0 0 ?_;refine cY 0 (fun L:jJ=>kI g f r hL s {W with m:=W.m.done 2} L) L ?_;refine pH (p:=mW [vM W 2] [(vM W 2).row none 0]) (Mm _ rfl) ?_;refine aY [1,2,0] rfl aC (fun _ h=>h) ?_;refine vT ?_;refine cG 0 (dM g f r hL s {W with m:=W.m.done 2,es:=W.es++[vM W 2]}) (fun a c l e i o=>Fa g f r hL s {W with m:=W.m.done 2} a c (vM W 2) none 0 j n e i) ?_;exact fO 0 hF
end
section
variable(g f r:Nat)(hL:HL)(s:aG)(n:Nat)(W:aU)(w:World)(F:Nat→Prop)
theorem aIL(hm:s.made)(A:gQ hL s)(y:iE s n W)(H:n≤50000000)(t:Int)(z:eV ⟨w,fun b=>b < w.heap.size∧¬F b⟩)(hp:(dM g f r hL s W).sat F w)(hF:∀b,F b→b < w.heap.size):
  Cz 44 #[pt g,iv t] w (Wr (.tuple #[]) (dM g f r hL s (W.task s t)) w F):=by
 have D:=y.es
 have l:W.es.length≤900000000:=by omega
 refine dD func44 ntmps44 hp hF ?_;refine iQ 0 fun L=>?_;refine bE 0 0 ?_;refine bE 1 1 ?_;dsimp only[lO];refine aE ?_;refine cN (t:=7) rfl (fun G=>?_) (fun G=>?_)
 ·refine aE ?_;refine cN (t:=11) rfl (fun j=>?_) (fun j=>?_)
  ·rcases(show t=0∨t=1∨t=2 by omega) with rfl | rfl | rfl
   ·refine aE ?_;refine qQ (t:=19) rfl (fun hw=>?_) (fun hw=>?_)
    ·refine aE ?_;refine aZ (fun a u=>aBf r f hL s W.m a 0 u rfl) ?_;refine aE ?_;refine cG 0 (iR r f hL s (W.m.step s 0)) (fun a c u e i j=>Fw r f hL s n W.m a c hm A y.m aA 0 e i (eV.le z (j _ aD))) ?_;refine aE ?_;refine aK rfl (fun B=>?_) (fun C=>?_)
     ·have x:W.mZ 0=true:=by unfold aU.mZ;rw[show W.wt (0:Int).toNat=W.wt 0 from rfl,hw,decide_eq_true B];rfl
      have o:(W.es++[nX W 0]).length≤900000000:=by rw[List.length_append];exact Nat.le_trans (Nat.add_le_add_right D 1) aA
      refine aE ?_;refine kd (kO rfl (xB (vs:=[.int .u8 (W.cl 0).k,iv (W.cl 0).d,iv (W.cl 0).r,.int .u32 (W.cl 0).v]) 1 rfl rfl)) ?_;refine aE ?_;refine eT fun E=>?_;refine aE ?_;refine aY [1,2,3,0] rfl aC (fun _ h=>h) ?_;refine pY (q:=HP.aI g 94 (lO f r hL s {W with m:=W.m.step s 0,wt:=gJ W.wt (0:Int).toNat false} L)) 1 rfl (fun F w h=>by simpa[lO,gJ] using h) ?_;dsimp only[List.set];refine aN 1 1 ?_;refine aN 0 0 ?_;refine cY 0 (fun L:jJ=>kI g f r hL s {W with m:=W.m.step s 0,wt:=gJ W.wt (0:Int).toNat false} L) L ?_;refine pH (p:=mW [nX W 0] [(nX W 0).row none 0]) (Mm _ rfl) ?_;refine aY [1,2,0] rfl aC (fun _ h=>h) ?_;refine vT ?_;refine cG 0 (dM g f r hL s {W with m:=W.m.step s 0,wt:=gJ W.wt (0:Int).toNat false,es:=W.es++[nX W 0]}) (fun a c u e i j=>Fa g f r hL s {W with m:=W.m.step s 0,wt:=gJ W.wt (0:Int).toNat false} a c (nX W 0) none 0 E l e i) ?_;refine aE ?_
      refine cG 0 (dM g f r hL s (W.task s 0)) (fun a c u e i j=>by
       have:=xL g f r hL s {W with m:=W.m.step s 0,wt:=gJ W.wt (0:Int).toNat false,es:=W.es++[nX W 0]} a c (by first | exact l | exact o) 0 e i
       rwa [show aU.end_ {W with m:=W.m.step s 0,wt:=gJ W.wt (0:Int).toNat false,es:=W.es++[nX W 0]} 0=W.task s 0 by unfold aU.task aU.kT;rw[x];rfl] at this) ?_
      exact fO 0 hF
     ·have x:W.mZ 0=false:=by unfold aU.mZ;rw[show W.wt (0:Int).toNat=W.wt 0 from rfl,hw,decide_eq_false C];rfl
      refine aE ?_;refine aN 1 1 ?_;refine aN 0 0 ?_;refine cY 0 (fun L:jJ=>kI g f r hL s {W with m:=W.m.step s 0} L) L ?_;refine aE ?_
      refine cG 0 (dM g f r hL s (W.task s 0)) (fun a c u e i j=>by
       have:=xL g f r hL s {W with m:=W.m.step s 0} a c (by first | exact l | exact o) 0 e i
       rwa [show aU.end_ {W with m:=W.m.step s 0} 0=W.task s 0 by unfold aU.task aU.kT;rw[x];rfl] at this) ?_
      exact fO 0 hF
    ·have x:W.mZ 0=false:=by unfold aU.mZ;rw[show W.wt (0:Int).toNat=W.wt 0 from rfl,hw];rfl
     refine aE ?_;refine cG 0 (iR r f hL s (W.m.step s 0)) (fun a c u e i j=>Fw r f hL s n W.m a c hm A y.m aA 0 e i (eV.le z (j _ aD))) ?_;refine aE ?_;refine aN 1 1 ?_;refine aN 0 0 ?_;refine cY 0 (fun L:jJ=>kI g f r hL s {W with m:=W.m.step s 0} L) L ?_;refine aE ?_
     refine cG 0 (dM g f r hL s (W.task s 0)) (fun a c u e i j=>by
      have:=xL g f r hL s {W with m:=W.m.step s 0} a c (by first | exact l | exact o) 0 e i
      rwa [show aU.end_ {W with m:=W.m.step s 0} 0=W.task s 0 by unfold aU.task aU.kT;rw[x];rfl] at this) ?_
     exact fO 0 hF
   ·refine aE ?_;refine qQ (t:=19) rfl (fun hw=>?_) (fun hw=>?_)
    ·refine aE ?_;refine aZ (fun a u=>aBf r f hL s W.m a 0 u rfl) ?_;refine aE ?_;refine cG 0 (iR r f hL s (W.m.step s 1)) (fun a c u e i j=>Fw r f hL s n W.m a c hm A y.m aA 1 e i (eV.le z (j _ aD))) ?_;refine aE ?_;refine aK rfl (fun B=>?_) (fun C=>?_)
     ·have x:W.mZ 1=true:=by unfold aU.mZ;rw[show W.wt (1:Int).toNat=W.wt 1 from rfl,hw,decide_eq_true B];rfl
      have o:(W.es++[nX W 1]).length≤900000000:=by rw[List.length_append];exact Nat.le_trans (Nat.add_le_add_right D 1) aA
      refine aE ?_;refine kd (kO rfl (xB (vs:=[.int .u8 (W.cl 1).k,iv (W.cl 1).d,iv (W.cl 1).r,.int .u32 (W.cl 1).v]) 1 rfl rfl)) ?_;refine aE ?_;refine eT fun E=>?_;refine aE ?_;refine aY [1,2,3,0] rfl aC (fun _ h=>h) ?_;refine pY (q:=HP.aI g 94 (lO f r hL s {W with m:=W.m.step s 1,wt:=gJ W.wt (1:Int).toNat false} L)) 1 rfl (fun F w h=>by simpa[lO,gJ] using h) ?_;dsimp only[List.set];refine aN 1 1 ?_;refine aN 0 0 ?_;refine cY 0 (fun L:jJ=>kI g f r hL s {W with m:=W.m.step s 1,wt:=gJ W.wt (1:Int).toNat false} L) L ?_;refine pH (p:=mW [nX W 1] [(nX W 1).row none 0]) (Mm _ rfl) ?_;refine aY [1,2,0] rfl aC (fun _ h=>h) ?_;refine vT ?_;refine cG 0 (dM g f r hL s {W with m:=W.m.step s 1,wt:=gJ W.wt (1:Int).toNat false,es:=W.es++[nX W 1]}) (fun a c u e i j=>Fa g f r hL s {W with m:=W.m.step s 1,wt:=gJ W.wt (1:Int).toNat false} a c (nX W 1) none 0 E l e i) ?_;refine aE ?_
      refine cG 0 (dM g f r hL s (W.task s 1)) (fun a c u e i j=>by
       have:=xL g f r hL s {W with m:=W.m.step s 1,wt:=gJ W.wt (1:Int).toNat false,es:=W.es++[nX W 1]} a c (by first | exact l | exact o) 1 e i
       rwa [show aU.end_ {W with m:=W.m.step s 1,wt:=gJ W.wt (1:Int).toNat false,es:=W.es++[nX W 1]} 1=W.task s 1 by unfold aU.task aU.kT;rw[x];rfl] at this) ?_
      exact fO 0 hF
     ·have x:W.mZ 1=false:=by unfold aU.mZ;rw[show W.wt (1:Int).toNat=W.wt 1 from rfl,hw,decide_eq_false C];rfl
      refine aE ?_;refine aN 1 1 ?_;refine aN 0 0 ?_;refine cY 0 (fun L:jJ=>kI g f r hL s {W with m:=W.m.step s 1} L) L ?_;refine aE ?_
      refine cG 0 (dM g f r hL s (W.task s 1)) (fun a c u e i j=>by
       have:=xL g f r hL s {W with m:=W.m.step s 1} a c (by first | exact l | exact o) 1 e i
       rwa [show aU.end_ {W with m:=W.m.step s 1} 1=W.task s 1 by unfold aU.task aU.kT;rw[x];rfl] at this) ?_
      exact fO 0 hF
    ·have x:W.mZ 1=false:=by unfold aU.mZ;rw[show W.wt (1:Int).toNat=W.wt 1 from rfl,hw];rfl
     refine aE ?_;refine cG 0 (iR r f hL s (W.m.step s 1)) (fun a c u e i j=>Fw r f hL s n W.m a c hm A y.m aA 1 e i (eV.le z (j _ aD))) ?_;refine aE ?_;refine aN 1 1 ?_;refine aN 0 0 ?_;refine cY 0 (fun L:jJ=>kI g f r hL s {W with m:=W.m.step s 1} L) L ?_;refine aE ?_
     refine cG 0 (dM g f r hL s (W.task s 1)) (fun a c u e i j=>by
      have:=xL g f r hL s {W with m:=W.m.step s 1} a c (by first | exact l | exact o) 1 e i
      rwa [show aU.end_ {W with m:=W.m.step s 1} 1=W.task s 1 by unfold aU.task aU.kT;rw[x];rfl] at this) ?_
     exact fO 0 hF
   ·refine aE ?_;refine qQ (t:=19) rfl (fun hw=>?_) (fun hw=>?_)
    ·refine aE ?_;refine aZ (fun a u=>aBf r f hL s W.m a 0 u rfl) ?_;refine aE ?_;refine cG 0 (iR r f hL s (W.m.step s 2)) (fun a c u e i j=>Fw r f hL s n W.m a c hm A y.m aA 2 e i (eV.le z (j _ aD))) ?_;refine aE ?_;refine aK rfl (fun B=>?_) (fun C=>?_)
     ·have x:W.mZ 2=true:=by unfold aU.mZ;rw[show W.wt (2:Int).toNat=W.wt 2 from rfl,hw,decide_eq_true B];rfl
      have o:(W.es++[nX W 2]).length≤900000000:=by rw[List.length_append];exact Nat.le_trans (Nat.add_le_add_right D 1) aA
      refine aE ?_;refine kd (kO rfl (xB (vs:=[.int .u8 (W.cl 2).k,iv (W.cl 2).d,iv (W.cl 2).r,.int .u32 (W.cl 2).v]) 1 rfl rfl)) ?_;refine aE ?_;refine eT fun E=>?_;refine aE ?_;refine aY [1,2,3,0] rfl aC (fun _ h=>h) ?_;refine pY (q:=HP.aI g 94 (lO f r hL s {W with m:=W.m.step s 2,wt:=gJ W.wt (2:Int).toNat false} L)) 1 rfl (fun F w h=>by simpa[lO,gJ] using h) ?_;dsimp only[List.set];refine aN 1 1 ?_;refine aN 0 0 ?_;refine cY 0 (fun L:jJ=>kI g f r hL s {W with m:=W.m.step s 2,wt:=gJ W.wt (2:Int).toNat false} L) L ?_;refine pH (p:=mW [nX W 2] [(nX W 2).row none 0]) (Mm _ rfl) ?_;refine aY [1,2,0] rfl aC (fun _ h=>h) ?_;refine vT ?_;refine cG 0 (dM g f r hL s {W with m:=W.m.step s 2,wt:=gJ W.wt (2:Int).toNat false,es:=W.es++[nX W 2]}) (fun a c u e i j=>Fa g f r hL s {W with m:=W.m.step s 2,wt:=gJ W.wt (2:Int).toNat false} a c (nX W 2) none 0 E l e i) ?_;refine aE ?_
      refine cG 0 (dM g f r hL s (W.task s 2)) (fun a c u e i j=>by
       have:=xL g f r hL s {W with m:=W.m.step s 2,wt:=gJ W.wt (2:Int).toNat false,es:=W.es++[nX W 2]} a c (by first | exact l | exact o) 2 e i
       rwa [show aU.end_ {W with m:=W.m.step s 2,wt:=gJ W.wt (2:Int).toNat false,es:=W.es++[nX W 2]} 2=W.task s 2 by unfold aU.task aU.kT;rw[x];rfl] at this) ?_
      exact fO 0 hF
     ·have x:W.mZ 2=false:=by unfold aU.mZ;rw[show W.wt (2:Int).toNat=W.wt 2 from rfl,hw,decide_eq_false C];rfl
      refine aE ?_;refine aN 1 1 ?_;refine aN 0 0 ?_;refine cY 0 (fun L:jJ=>kI g f r hL s {W with m:=W.m.step s 2} L) L ?_;refine aE ?_
      refine cG 0 (dM g f r hL s (W.task s 2)) (fun a c u e i j=>by
       have:=xL g f r hL s {W with m:=W.m.step s 2} a c (by first | exact l | exact o) 2 e i
       rwa [show aU.end_ {W with m:=W.m.step s 2} 2=W.task s 2 by unfold aU.task aU.kT;rw[x];rfl] at this) ?_
      exact fO 0 hF
    ·have x:W.mZ 2=false:=by unfold aU.mZ;rw[show W.wt (2:Int).toNat=W.wt 2 from rfl,hw];rfl
     refine aE ?_;refine cG 0 (iR r f hL s (W.m.step s 2)) (fun a c u e i j=>Fw r f hL s n W.m a c hm A y.m aA 2 e i (eV.le z (j _ aD))) ?_;refine aE ?_;refine aN 1 1 ?_;refine aN 0 0 ?_;refine cY 0 (fun L:jJ=>kI g f r hL s {W with m:=W.m.step s 2} L) L ?_;refine aE ?_
     refine cG 0 (dM g f r hL s (W.task s 2)) (fun a c u e i j=>by
      have:=xL g f r hL s {W with m:=W.m.step s 2} a c (by first | exact l | exact o) 2 e i
      rwa [show aU.end_ {W with m:=W.m.step s 2} 2=W.task s 2 by unfold aU.task aU.kT;rw[x];rfl] at this) ?_
     exact fO 0 hF
  ·have x:W.mZ t=false:=by unfold aU.mZ;rw[show bO 3 t=false from decide_eq_false aA];rfl
   refine aE ?_;refine cG 0 (iR r f hL s (W.m.step s t)) (fun a c u e i j=>Fw r f hL s n W.m a c hm A y.m aA t e i (eV.le z (j _ aD))) ?_;refine aE ?_;refine aN 1 1 ?_;refine aN 0 0 ?_;refine cY 0 (fun L:jJ=>kI g f r hL s {W with m:=W.m.step s t} L) L ?_;refine aE ?_
   refine cG 0 (dM g f r hL s (W.task s t)) (fun a c u e i j=>by
    have:=xL g f r hL s {W with m:=W.m.step s t} a c (by first | exact l | exact o) t e i
    rwa [show aU.end_ {W with m:=W.m.step s t} t=W.task s t by unfold aU.task aU.kT;rw[x];rfl] at this) ?_
   exact fO 0 hF
 ·have x:W.mZ t=false:=by unfold aU.mZ;rw[show bO 3 t=false from decide_eq_false aA];rfl
  refine aE ?_;refine cG 0 (iR r f hL s (W.m.step s t)) (fun a c u e i j=>Fw r f hL s n W.m a c hm A y.m aA t e i (eV.le z (j _ aD))) ?_;refine aE ?_;refine aN 1 1 ?_;refine aN 0 0 ?_;refine cY 0 (fun L:jJ=>kI g f r hL s {W with m:=W.m.step s t} L) L ?_;refine aE ?_
  refine cG 0 (dM g f r hL s (W.task s t)) (fun a c u e i j=>by
   have:=xL g f r hL s {W with m:=W.m.step s t} a c (by first | exact l | exact o) t e i
   rwa [show aU.end_ {W with m:=W.m.step s t} t=W.task s t by unfold aU.task aU.kT;rw[x];rfl] at this) ?_
  exact fO 0 hF
end
theorem aMN{z:Array Value}{n sz:Nat}(b:z.size=sz)(a:0 < sz):madeCells z (n*sz)=(List.replicate n z.toList).flatten.toArray:=by
 have d:∀r∈List.replicate n z.toList,r.length=sz:=fun r l=>by rw[List.eq_of_mem_replicate l];simpa using b
 unfold madeCells;refine Array.ext (by simp[Hz _ d]) fun j k m=>?_
 have h:j < n*sz:=by simpa using k
 have f:j / sz < n:=Nat.div_lt_of_lt_mul (by rw[Nat.mul_comm];exact h)
 have e:j % sz < sz:=Nat.mod_lt _ a
 have:=Md (sz:=sz) (List.replicate n z.toList) d (j / sz) (j % sz) z.toList (by rw[List.getElem?_replicate,if_pos f]) e
 rw[show j / sz*sz+j % sz=j by rw[Nat.mul_comm];exact Nat.div_add_mod j sz] at this;rw[←Option.some_inj]
 have i:some ((List.replicate n z.toList).flatten.toArray[j])=(List.replicate n z.toList).flatten[j]? :=by rw[List.getElem_toArray,List.getElem?_eq_getElem]
 rw[i,this]
 have c:j % z.size < z.size:=by rw[b];exact e
 rw[Array.getElem_map,Array.getElem_range,getElem!_pos z _ c];subst b;simp
theorem aLl{sz i:Nat}{rows:List (List Value)}{r':List Value}(c:∀r∈rows,r.length=sz)(hi:i < rows.length)(a:r'.length=sz):gD rows.flatten (i*sz) r'=(rows.set i r').flatten:=by
 have f:rows=rows.take i++rows[i]::rows.drop (i+1):=by rw[←List.drop_eq_getElem_cons hi,List.take_append_drop]
 have b:(rows.take i).flatten.length=i*sz:=by rw[Hz _ (fun r h=>c r (List.mem_of_mem_take h)),List.length_take,Nat.min_eq_left aA]
 have d:rows[i].length=sz:=c _ (List.getElem_mem hi)
 have e:rows.flatten=(rows.take i).flatten++(rows[i]++(rows.drop (i+1)).flatten):=by
  have:=congrArg List.flatten f
  rwa [List.flatten_append,List.flatten_cons] at this
 unfold gD;rw[List.set_eq_take_append_cons_drop,if_pos hi,e,List.take_left' b,←List.drop_drop,List.drop_left' b,List.drop_left' (d.trans a.symm),List.flatten_append,List.flatten_cons,List.append_assoc]
theorem aEV{α:Type}{new old:List α}{i:Nat}{x:α}(hx:new[i]? =some x)(hl:old.length=new.length):(new.take i++old.drop i).set i x=new.take (i+1)++old.drop (i+1):=by
 obtain⟨a,rfl⟩:=List.getElem?_eq_some_iff.1 hx;rw[List.take_succ_eq_append_getElem a,List.drop_eq_getElem_cons (i:=i) (l:=old) aA,List.set_append_right _ _ (by rw[List.length_take];omega),show i - (new.take i).length=0 by rw[List.length_take];omega,List.set_cons_zero,List.append_assoc];rfl
section
variable{P:Program}{Q:Exit→Act→World→Prop}{ops:Array Oper}{rest:List Oper}{d:Nat}{ty:TypeId}{pos:String}{aL:Array Edge}
theorem aIz(sz b:Nat){x y:Operand}{t el:TypeId}{n:Nat}{zs:List Value}{kd pT:IntKind}(r:P.underlying t=some (.slice el))(u:(P.info? el).map (fun i=>(i.zero.map (fun z=>z.cells.toList),i.size,i.bytes))=some (some zs,sz,b))(f:zs.length=sz)(c:0 < sz)(hx:e.ev x=some (.int kd (n:Int)))(hy:e.ev y=some (.int pT (n:Int)))
  (B:b*n≤281474976710656) (l:(n:Int)≤9223372036854775807) (hd:d < N.n) (k:∀g,XK N w0 (wpList P ops Q rest) ((d,.slice (some ⟨g,0,none⟩) n n)::e) R (HP.aI g el (List.replicate n zs).flatten::H)):
  XK N w0 (wpList P ops Q (⟨some d,.makeSlice t x y,ty,pos,aL,none⟩::rest)) e R H:=by
 obtain⟨i,p,h⟩:=Option.map_eq_some_iff.1 u;simp only[Prod.mk.injEq] at h;obtain⟨A,o,rfl⟩:=h;obtain⟨z,m,rfl⟩:=Option.map_eq_some_iff.1 A;refine Oo (val:=fun g=>.slice (some ⟨g,0,none⟩) n n) rfl rfl hd (fun a w j st=>?_) k
 have:=run_make (P:=P) w t el i z r p m kd pT n n aA (Int.le_refl _) (by rw[←Int.natCast_mul];omega) l
 simp only[Int.toNat_natCast,o,aMN (n:=n) (show z.cells.size=sz by simpa using f) c] at this;simp only[execOp,j.ev hx,j.ev hy,Sem.run_bind,this,Result.andThen_ok,Sem.run_pure]
end
def Aq(j:Nat)(z z':bB):Prop:=∀i,T3 i→(z'.tk i).kind=(z.tk i).kind∧(z'.tk i).dev=(z.tk i).dev∧(z'.tk i).bZ=(z.tk i).bZ∧(z'.tk i).val=(z.tk i).val∧(i≠j→(z'.tk i).st=(z.tk i).st)
theorem Aq.trans{j:Nat}{a b c:bB}(h:Aq j a b)(k:Aq j b c):Aq j a c:=fun i e=>by
 obtain⟨r,o,u,t,p⟩:=h i e;obtain⟨n,f,l,m,w⟩:=k i e;exact⟨n.trans r,f.trans o,l.trans u,m.trans t,fun d=>(w d).trans (p d)⟩
section
variable{x:aP}{y:bN}{z:bB}{j:Nat}
theorem Gc(hj:T3 j)(e r:Int):Aq j z (mX z j e r)∧((mX z j e r).tk j).st=3:=by
 constructor
 ·intro i a;rcases hj with rfl | rfl | rfl<;>rcases a with rfl | rfl | rfl<;>exact⟨rfl,rfl,rfl,rfl,fun h=>by first | rfl | exact absurd rfl h⟩
 ·rcases hj with rfl | rfl | rfl<;>rfl
theorem aOo(hj:T3 j):Aq j z (nJ z j):=fun i a=>by
 rcases hj with rfl | rfl | rfl<;>rcases a with rfl | rfl | rfl<;>exact⟨rfl,rfl,rfl,rfl,fun h=>by first | rfl | exact absurd rfl h⟩
def Cf(z z':bB):Prop:=∀i,T3 i→(z'.tk i).kind=(z.tk i).kind∧(z'.tk i).dev=(z.tk i).dev∧(z'.tk i).bZ=(z.tk i).bZ∧(z'.tk i).val=(z.tk i).val∧(z'.tk i).st=(z.tk i).st
theorem Cf.fr{z z':bB}(h:Cf z z')(j:Nat):Aq j z z':=fun i a=>⟨(h i a).1,(h i a).2.1,(h i a).2.2.1,(h i a).2.2.2.1,fun _=>(h i a).2.2.2.2⟩
theorem Hw(z:bB):Cf z z:=fun _ _=>⟨rfl,rfl,rfl,rfl,rfl⟩
theorem aEa(hj:T3 j)(i:Nat)(k:Int)(c:Cn):Cf z (uB s {z.jB j (qR (z.tk j) i k) with cn:=c}):=fun i a=>by
 rcases hj with rfl | rfl | rfl<;>rcases a with rfl | rfl | rfl<;>exact⟨rfl,rfl,rfl,rfl,rfl⟩
theorem aEb(hj:T3 j)(k:Int):Cf z (mY s x z j k).2.1:=by
 have e:∀c:Cn,Cf z (uB s {z with cn:=c}):=fun c i a=>by rcases a with rfl | rfl | rfl<;>exact⟨rfl,rfl,rfl,rfl,rfl⟩
 have d:∀b,Cf z (nY s x z j b).2.1:=fun b=>by
  unfold nY
  repeat' split
  all_goals exact fun i a=>by rcases a with rfl | rfl | rfl<;>exact⟨rfl,rfl,rfl,rfl,rfl⟩
 unfold mY;split
 ·unfold zP;split
  ·exact Hw z
  ·exact aEa hj _ _ _
 ·split
  ·unfold zG
   repeat' split
   all_goals first | exact Hw z | exact aEa hj _ _ _
  ·split
   ·exact d _
   ·split
    ·exact d _
    ·split
     ·unfold yY;split
      ·exact Hw z
      ·exact e _
     ·unfold zF;split
      ·exact Hw z
      ·exact e _
theorem aFI(hj:T3 j):Aq j z (iB s x z j).1∧(((iB s x z j).1.tk j).st=2∨((iB s x z j).1.tk j).st=3):=by
 have a:=(aOo (z:=z) hj).trans ((aEb (s:=s) (x:=x) (z:=nJ z j) hj (z.tk j).kind).fr j)
 unfold iB;dsimp only;split
 ·exact⟨a.trans (Gc hj _ _).1,.inr (Gc hj _ _).2⟩
 ·split
  ·exact⟨a.trans (Gc hj _ _).1,.inr (Gc hj _ _).2⟩
  ·refine⟨a,.inl ?_⟩;rw[(aEb (s:=s) (x:=x) (z:=nJ z j) hj (z.tk j).kind j hj).2.2.2.2,aAR hj]
theorem aFJ(hj:T3 j)(f:(z.tk j).st=2):Aq j z (fN z y j).1∧(((fN z y j).1.tk j).st=2∨((fN z y j).1.tk j).st=3):=by
 have d:∀a,Cf z (oN z a):=fun a i c=>by
  unfold oN;split<;>(rcases c with rfl | rfl | rfl<;>exact⟨rfl,rfl,rfl,rfl,rfl⟩)
 have e:∀L b k,Cf z {z with steps:=L,sent:=b,many:=k}:=fun L b k i c=>by rcases c with rfl | rfl | rfl<;>exact⟨rfl,rfl,rfl,rfl,rfl⟩
 have fin:∀{z'},Cf z z'→Aq j z z'∧((z'.tk j).st=2∨(z'.tk j).st=3):=fun h=>⟨h.fr j,.inl ((h j hj).2.2.2.2.trans f)⟩
 unfold fN;split
 ·split
  ·exact fin (Hw z)
  ·split
   ·exact⟨((d _).fr j).trans (Gc hj _ _).1,.inr (Gc hj _ _).2⟩
   ·exact fin (d _)
 ·split
  ·exact fin (Hw z)
  ·split
   ·exact fin (e _ _ _)
   ·exact fin (Hw z)
theorem aOV(c:z.aS=false){k:Int}(h:(mY s x z j k).2.1.aS=true):(k=114∨k=119)∧∃(i:Nat) (m:Bool) (q v:Int),(z.tk j).dev=(i:Int)∧(mY s x z j k).2.2=Fo x i m q v:=by
 have o : ∀ b, (nY s x z j b).2.1.aS = true → ∃ (i : Nat) (m : Bool) (q v : Int), (z.tk j).dev = (i : Int) ∧ (nY s x z j b).2.2 = Fo x i m q v := fun b a => by
  unfold nY at a⊢;split at a
  ·rw[c] at a;cases a
  ·rename_i f
   rw[if_neg f];split at a
   ·rw[c] at a;cases a
   ·rename_i n
    rw[if_neg n];split at a
    ·rename_i e
     rw[if_pos e]
     have l:bO s.aH.length (z.tk j).dev=true:=by
      cases r:bO s.aH.length (z.tk j).dev with
      | true=>rfl
      | false=>exact absurd (.inl r) f
     have:=of_decide_eq_true l
     exact⟨_,_,_,_,aA,rfl⟩
    ·rw[c] at a;cases a
 unfold mY at h⊢;split at h
 ·exfalso;unfold zP at h;split at h
  ·rw[c] at h;cases h
  ·have:z.aS=true:=h
   rw[c] at this;cases this
 ·rename_i f
  rw[if_neg f];split at h
  ·exfalso;unfold zG at h
   repeat' split at h
   all_goals(have d:z.aS=true:=h;rw[c] at d;cases d)
  ·rename_i n
   rw[if_neg n];split at h
   ·rename_i e
    rw[if_pos e];exact⟨.inl e,o _ h⟩
   ·rename_i e
    rw[if_neg e];split at h
    ·rename_i p
     rw[if_pos p];exact⟨.inr p,o _ h⟩
    ·exfalso;split at h
     ·unfold yY at h;split at h<;>(have d:z.aS=true:=h;rw[c] at d;cases d)
     ·unfold zF at h;split at h<;>(have d:z.aS=true:=h;rw[c] at d;cases d)
theorem aRa(hj:T3 j)(b:z.aS=false)(h:(iB s x z j).1.aS=true):((z.tk j).kind=114∨(z.tk j).kind=119)∧∃(i:Nat) (a:Bool) (q v:Int),(z.tk j).dev=(i:Int)∧(iB s x z j).2=Fo x i a q v:=by
 have hd:((nJ z j).tk j).dev=(z.tk j).dev:=by rw[aAR hj]
 unfold iB at h⊢;dsimp only at h⊢;split at h
 ·cases h
 ·rename_i c
  rw[if_neg c];split at h
  ·cases h
  ·rename_i d
   rw[if_neg d]
   have:=aOV (s:=s) (x:=x) (z:=nJ z j) (j:=j) b h
   rw[hd] at this;exact this
theorem aRE(b:z.aS=false):(fN z y j).1.aS=false:=by
 have c:∀a,(oN z a).aS=false:=fun a=>by
  unfold oN;split<;>exact b
 unfold fN;split
 ·split
  ·exact b
  ·split
   ·rfl
   ·exact c _
 ·split
  ·exact b
  ·split
   ·exact b
   ·exact b
theorem aCt:∀(l:List fS) {z:bB},z.aS=false→nA z l=z
 | [],_,_=>rfl
 | a::l,z,h=>by
  show nA (pX z a) l=z
  rw[show pX z a=z by unfold pX;rw[if_pos h]];exact aCt l h
theorem Si:∀(l:List fS) (z:bB),nA z l=z∨∃e r,nA z l=mX z z.cJ.toNat e r
 | [],_=>.inl rfl
 | a :: l, z => by
  show nA (pX z a) l=z∨∃e r,nA (pX z a) l=_
  unfold pX;split
  ·exact Si l z
  ·split
   ·exact Si l z
   ·split
    ·exact .inr ⟨_,_,aCt l rfl⟩
    ·exact .inr ⟨_,_,aCt l rfl⟩
theorem aRw{x:aP}{i:Nat}{a:fS}(h:(eP s x i).2=some a):a.dev=(i:Int)∧(x.wt[i]?).join≠none:=by
 unfold eP at h;split at h
 ·rename_i t d p b _ _
  split at h<;>(obtain rfl:=Option.some.inj h;exact⟨rfl,by rw[b];simp⟩)
 ·cases h
theorem aRq{x:aP}{i k:Nat}(h:((eP s x i).1.wt[k]?).join≠none):(x.wt[k]?).join≠none:=by
 unfold eP at h
 have a:((x.wt.set i none)[k]?).join≠none→(x.wt[k]?).join≠none:=fun h=>by
  by_cases e:i=k
  ·subst e;rw[List.getElem?_set] at h;split at h
   ·split at h
    ·exact absurd rfl h
    ·exact absurd rfl h
   ·exact h
  ·rwa [List.getElem?_set_ne e] at h
 split at h
 ·split at h
  ·exact a h
  ·exact a h
 ·exact h
theorem aGZ{x:aP}{k:Nat}:∀n,((eO s x n).1.wt[k]?).join≠none→(x.wt[k]?).join≠none
 | 0,h=>h
 | n+1,h=>aGZ n (aRq h)
theorem aCs{x:aP}{a:fS}:∀n,a∈(eO s x n).2→∃i:Nat,a.dev=(i:Int)∧(x.wt[i]?).join≠none
 | 0,h=>by cases h
 | n + 1, h => by
  rcases List.mem_append.1 h with h | h
  ·exact aCs n h
  ·have h:(eP s (eO s x n).1 n).2=some a:=by simpa using h
   obtain⟨b,c⟩:=aRw h;exact⟨n,b,aGZ n c⟩
end
def xT(c:Option (Int×rR))(e:jR):Option (Option (Int×rR)):=
 if e.kind=98 then(match c with | none=>if 0≤e.task∧e.task≤2 then some (some (e.task,e.c)) else none | some _=>none)
 else if e.kind=101 then(match c with | some q=>if e.task=q.1∧e.c=q.2 then some none else none | none=>none)
 else if e.kind=100 then(match c with | some q=>if(q.2.k=114∨q.2.k=119)∧e.an.dev=q.2.d then some c else none | none=>none)
 else some c
def wI:Option (Int×rR)→List jR→Option (Option (Int×rR))
 | c,[]=>some c
 | c,e::es=>(xT c e).bind fun a=>wI a es
theorem aAW:∀(a b:List jR) (c:Option (Int×rR)),wI c (a++b)=(wI c a).bind fun d=>wI d b
 | [],b,c=>rfl
 | e::a,b,c=>by
  show(xT c e).bind (fun d=>wI d (a++b))=((xT c e).bind fun d=>wI d a).bind _
  cases xT c e with
  | none=>rfl
  | some d=>exact aAW a b d
theorem aAV(es:List jR)(e:jR){c:Option (Int×rR)}(h:wI none es=some c):wI none (es++[e])=xT c e:=by
 rw[aAW,h]
 show(xT c e).bind (fun a=>some a)=_
 cases xT c e<;>rfl
def wQ(w:aU):Option (Int×rR):=if w.m.z.cJ < 0 then none else some (w.m.z.cJ,w.cl w.m.z.cJ.toNat)
def Xr(w:aU):Option Nat→Option (Int×rR)
 | none=>wQ w
 | some j=>some ((j:Int),w.cl j)
def Oj(t:qN)(c:rR):Prop:=t.kind=c.k∧t.dev=c.d∧t.bZ=c.r∧t.val=c.v
structure NE(w:aU)(d:Option Nat):Prop where
 Ft:∀j,T3 j→((w.m.z.tk j).st=3↔d=some j)
 wt:∀j,T3 j→(w.wt j=true↔(w.m.z.tk j).st=1)
 cl:∀j,T3 j→(w.m.z.tk j).st≠0→Oj (w.m.z.tk j) (w.cl j)
 es:wI none w.es=some (Xr w d)
 dn:∀j,d=some j→T3 j∧w.m.z.cJ < 0
 po:w.m.z.aS=true→∃j,T3 j∧w.m.z.cJ=(j:Int)∧((w.m.z.tk j).kind=114∨(w.m.z.tk j).kind=119)∧∀i:Nat,(w.m.x.wt[i]?).join≠none→(i:Int)=(w.m.z.tk j).dev
theorem Oj.of{t a:qN}{c:rR}(h:Oj t c)(b:a.kind=t.kind)(d:a.dev=t.dev)(h3:a.bZ=t.bZ)(e:a.val=t.val):Oj a c:=⟨b.trans h.1,d.trans h.2.1,h3.trans h.2.2.1,e.trans h.2.2.2⟩
section
variable{w:aU}
theorem ne0:NE (Hp s) none:=by
 have b:∀j,T3 j→((vG s).z.tk j).st=0:=fun j a=>by rcases a with rfl | rfl | rfl<;>rfl
 refine⟨fun j a=>?_,fun j a=>?_,fun j a h=>absurd (b j a) h,rfl,(fun _ h=>by cases h),fun h=>by cases h⟩
 ·show((vG s).z.tk j).st=3↔_
  rw[b j a];simp
 ·show false=true↔((vG s).z.tk j).st=1
  rw[b j a];simp
theorem aGl{z:bB}{j:Nat}(hj:T3 j){i:Nat}(hi:T3 i)(h3:(z.tk j).st=3):((fV z j).2.tk i)=if i=j then {z.tk j with st:=0,kind:=0,dev:=0,bZ:=0,val:=0,err:=0,res:=0} else z.tk i:=by
 unfold fV;rw[if_neg (by rcases hj with rfl | rfl | rfl<;>decide),Int.toNat_natCast,if_neg (by rw[h3];simp)];rcases hj with rfl | rfl | rfl<;>rcases hi with rfl | rfl | rfl<;>rfl
theorem Xo{z:bB}{j:Nat}(h3:(z.tk j).st≠3):fV z j=((0,0,false),z):=by
 unfold fV;split
 ·rfl
 ·rw[Int.toNat_natCast,if_pos h3]
theorem NE.end_{d:Option Nat}(h:NE w d){j:Nat}(hj:T3 j):NE (w.end_ j) (if d=some j then none else d):=by
 by_cases f:(w.m.z.tk j).st=3
 ·have hd:=(h.Ft j hj).1 f
  rw[if_pos hd]
  have r:(fV w.m.z j).1.2.2=true:=by
   unfold fV;rw[if_neg (by rcases hj with rfl | rfl | rfl<;>decide),Int.toNat_natCast,if_neg (by rw[f];simp)]
  have l:=fun {i} b=>aGl (z:=w.m.z) hj (i:=i) b f
  have c:∀z:bB,(fV z j).2.cJ=z.cJ∧(fV z j).2.aS=z.aS:=fun z=>by
   unfold fV;split
   ·exact⟨rfl,rfl⟩
   ·split<;>exact⟨rfl,rfl⟩
  obtain⟨_,o⟩:=h.dn j hd;unfold aU.end_;rw[if_pos r];refine⟨fun i b=>?_,fun i b=>?_,fun i b a=>?_,?_,(fun _ h=>by cases h),fun n=>?_⟩
  ·show((fV w.m.z j).2.tk i).st=3↔_
   rw[l b]
   by_cases e:i=j
   ·rw[if_pos e];simp
   ·rw[if_neg e]
    have:=h.Ft i b
    rw[hd] at this;constructor
    ·intro k;exact absurd (Option.some.inj (this.1 k)).symm e
    ·intro k;cases k
  ·show w.wt i=true↔((fV w.m.z j).2.tk i).st=1
   rw[l b]
   by_cases e:i=j
   ·subst e;rw[if_pos rfl]
    have:=h.wt i b
    rw[f] at this;constructor
    ·intro k;exact absurd (this.1 k) aC
    ·intro k;exact absurd (show(0:Int)=1 from k) aC
   ·rw[if_neg e];exact h.wt i b
  ·have a:((fV w.m.z j).2.tk i).st≠0:=a
   show Oj ((fV w.m.z j).2.tk i) (w.cl i)
   rw[l b] at a⊢
   by_cases e:i=j
   ·rw[if_pos e] at a;exact absurd rfl a
   ·rw[if_neg e] at a⊢;exact h.cl i b a
  ·have p:=h.es
   rw[hd] at p;rw[aAV _ _ p]
   show xT (some ((j:Int),w.cl j)) (vM w j)=some (wQ _)
   unfold wQ;rw[if_pos (show(w.m.done j).z.cJ < 0 by show(fV w.m.z j).2.cJ < 0;rw[(c _).1];exact o)]
   show(if(j:Int)=(j:Int)∧w.cl (j:Int).toNat=w.cl j then some none else none)=_
   rw[Int.toNat_natCast,if_pos ⟨rfl,rfl⟩]
  ·have n:(fV w.m.z j).2.aS=true:=n
   rw[(c _).2] at n;obtain⟨i,b,t,_⟩:=h.po n;omega
 ·have hd:d≠some j:=fun e=>f ((h.Ft j hj).2 e)
  rw[if_neg hd]
  have hw:w.end_ j=w:=by
   unfold aU.end_;rw[Xo f];rw[if_neg aD]
   show({w with m:=⟨(fV w.m.z j).2,w.m.y,w.m.x⟩}:aU)=w
   rw[Xo f]
  rw[hw];exact h
theorem aLD{t:Int}(h:bO 3 t=false):w.end_ t=w:=by
 have hd:fV w.m.z t=((0,0,false),w.m.z):=by unfold fV;rw[if_pos h]
 unfold aU.end_;rw[hd,if_neg aD]
 show({w with m:=⟨(fV w.m.z t).2,w.m.y,w.m.x⟩}:aU)=w
 rw[hd]
theorem aJA{z:bB}{y:bN}{x:aP}{t:Int}(f:∀j:Nat,t=(j:Int)→T3 j→(z.tk j).st=1→0≤z.cJ)(h:∀j:Nat,t=(j:Int)→T3 j→(z.tk j).st=2→z.aS=true):(kL s z y x t).1=z∧(kL s z y x t).2.2=x:=by
 unfold kL
 by_cases a:bO 3 t=false
 ·rw[if_pos a];exact⟨rfl,rfl⟩
 rw[if_neg a];obtain⟨j,rfl,d⟩:=vI (t:=t) (by cases e:bO 3 t with | true=>rfl | false=>exact absurd e a);rw[Int.toNat_natCast]
 by_cases b:(z.tk j).st=1
 ·rw[if_pos b,if_neg (by have:=f j rfl d b;omega)];exact⟨rfl,rfl⟩
 rw[if_neg b]
 by_cases c:(z.tk j).st=2
 ·rw[if_pos c,if_neg (by rw[h j rfl d c];simp)];exact⟨rfl,rfl⟩
 rw[if_neg c];exact⟨rfl,rfl⟩
theorem NE.aAf(h:NE w none)(T:fC s n w.m){j:Nat}(hj:T3 j){z':bB}{y':bN}{x':aP}(l:Zm z')(hf:Aq j w.m.z z')(E:(z'.tk j).st=2∨(z'.tk j).st=3)(f:∀i,T3 i→i≠j→(w.m.z.tk i).st≠2)(r:Nat→Bool)(t:List jR)(F:∀i,T3 i→r i=if i=j then false else w.wt i)(N:(w.m.z.tk j).st≠0)(x:wI none t=some (some ((j:Int),w.cl j)))
  (D:z'.aS=true→((w.m.z.tk j).kind=114∨(w.m.z.tk j).kind=119)∧∀i:Nat,(x'.wt[i]?).join≠none→(i:Int)=(w.m.z.tk j).dev):∃d,NE ⟨⟨z',y',x'⟩,w.cl,r,t⟩ d∧(d=none∨d=some j):=by
 have C:∀i,T3 i→i≠j→(z'.tk i).st≠2:=fun i a b=>by rw[(hf i a).2.2.2.2 b];exact f i a b
 have A:∀i,T3 i→(z'.tk i).st≠0→Oj (z'.tk i) (w.cl i):=fun i a b=>by
  obtain⟨H,L,K,I,R⟩:=hf i a
  by_cases e:i=j
  ·subst e;exact(h.cl i a N).of H L K I
  ·rw[R e] at b;exact(h.cl i a b).of H L K I
 have p:∀i,T3 i→(r i=true↔(z'.tk i).st=1):=fun i a=>by
  rw[F i a]
  by_cases e:i=j
  ·subst e;rw[if_pos rfl];simp;omega
  ·rw[if_neg e,(hf i a).2.2.2.2 e];exact h.wt i a
 have G:∀i,T3 i→i≠j→(z'.tk i).st≠3:=fun i a b=>by
  rw[(hf i a).2.2.2.2 b];intro c
  have:=(h.Ft i a).1 c
  cases this
 rcases E with J | e3
 ·have u:z'.cJ=(j:Int):=by
   rcases l with⟨_,B,_⟩ | ⟨i,a,u,k,_⟩
   ·exact absurd J (B j hj)
   ·rw[u,((k j hj).1 J)]
  refine⟨none,⟨fun i a=>?_,p,A,?_,(fun _ h=>by cases h),fun o=>?_⟩,.inl rfl⟩
  ·constructor
   ·intro c
    have c:(z'.tk i).st=3:=c
    by_cases e:i=j
    ·subst e;omega
    ·exact absurd c (G i a e)
   ·intro c;cases c
  ·rw[show wI none t=_ from x];unfold Xr wQ;dsimp only;rw[u,if_neg aA,Int.toNat_natCast]
  ·obtain⟨M,O⟩:=D o;exact⟨j,hj,u,by show(z'.tk j).kind=114∨(z'.tk j).kind=119;rw[(hf j hj).1];exact M,fun i a=>by show(i:Int)=(z'.tk j).dev;rw[(hf j hj).2.1];exact O i a⟩
 ·have y:z'.cJ < 0∧z'.aS=false:=by
   rcases l with⟨u,_,o,_⟩ | ⟨i,a,u,k,_⟩
   ·exact⟨aA,o⟩
   ·exfalso
    have:=(k i a).2 rfl
    by_cases e:i=j
    ·subst e;omega
    ·exact C i a e this
  refine⟨some j,⟨fun i a=>?_,p,A,x,fun i a=>?_,fun o=>?_⟩,.inr rfl⟩
  ·constructor
   ·intro c
    have c:(z'.tk i).st=3:=c
    by_cases e:i=j
    ·rw[e]
    ·exact absurd c (G i a e)
   ·intro c;rw[←Option.some.inj c];exact e3
  ·rw[←Option.some.inj a];exact⟨hj,y.1⟩
  ·have o:z'.aS=true:=o
   rw[y.2] at o;cases o
theorem Qn{z:bB}(h:Zm z){j:Nat}(hj:T3 j):z.cJ=(j:Int)↔(z.tk j).st=2:=by
 rcases h with⟨d,c,_⟩ | ⟨i,e,d,a,_⟩
 ·constructor
  ·intro b;omega
  ·intro b;exact absurd b (c j hj)
 ·rw[a j hj,d];constructor
  ·intro b;omega
  ·intro b;rw[b]
theorem aNr{z:bB}(h:Zm z)(hl:z.cJ < 0):(∀j,T3 j→(z.tk j).st≠2)∧z.aS=false:=by
 rcases h with⟨c,a,b,_⟩ | ⟨i,d,c,_⟩
 ·exact⟨a,b⟩
 ·omega
theorem NE.aDu{d:Option Nat}(h:NE w d){j:Nat}(hj:T3 j)(hs:(w.m.z.tk j).st≠1):w.wt j=false:=by
 cases a:w.wt j with
 | false=>rfl
 | true=>exact absurd ((h.wt j hj).1 a) hs
theorem NE.same(h:NE w none){y':bN}{x':aP}(hw:x'.wt=w.m.x.wt):NE {w with m:=⟨w.m.z,y',x'⟩} none:=
 ⟨h.Ft,h.wt,h.cl,h.es,h.dn,fun a=>by
  have:=h.po a
  rw[←hw] at this
  exact this⟩
theorem NE.more(h:NE w none){e:jR}(hk:e.kind=115∨e.kind=114){m':eC}(a:m'.z=w.m.z)(hx:m'.x=w.m.x):NE {w with m:=m',es:=w.es++[e]} none:=by
 obtain⟨b,d,c⟩:=m';dsimp only at a hx;subst a;subst hx;refine⟨h.Ft,h.wt,h.cl,?_,h.dn,h.po⟩;rw[aAV _ _ h.es];unfold xT;rcases hk with hk | hk
 ·rw[hk,if_neg aC,if_neg aC,if_neg aC];rfl
 ·rw[hk,if_neg aC,if_neg aC,if_neg aC];rfl
theorem NE.kT(hm:s.made)(k:fC s n w.m)(h:NE w none)(t:Int):∃d,NE (w.kT s t) d∧∀j,d=some j→t=(j:Int):=by
 have cJ:=k.nI.cJ
 have a:=(k.step hm t).nI.cJ
 by_cases A:w.mZ t=true
 ·have r:=A
  unfold aU.mZ at r;simp only[Bool.and_eq_true,decide_eq_true_eq] at r;obtain⟨B,o,C⟩:=r;obtain⟨j,rfl,c⟩:=vI B;rw[Int.toNat_natCast] at o
  have F:=(h.wt j c).1 o
  obtain⟨D,f⟩:=aNr cJ C
  have l:kL s w.m.z w.m.y w.m.x j=((iB s w.m.x w.m.z j).1,w.m.y,(iB s w.m.x w.m.z j).2):=by
   unfold kL;rw[if_neg (by rw[B];simp),Int.toNat_natCast,if_pos F,if_pos C]
  have hw:w.kT s j=⟨⟨(iB s w.m.x w.m.z j).1,w.m.y,(iB s w.m.x w.m.z j).2⟩,w.cl,gJ w.wt j false,w.es++[nX w j]⟩:=by
   unfold aU.kT eC.step;rw[if_pos A,l,Int.toNat_natCast]
  unfold eC.step at a;rw[l] at a;rw[hw];obtain⟨E,I⟩:=aFI (s:=s) (x:=w.m.x) (z:=w.m.z) c
  obtain⟨d,hd,p⟩:=h.aAf k c (y':=w.m.y) (x':=(iB s w.m.x w.m.z j).2) a E I (fun i b _=>D i b) (gJ w.wt j false) (w.es++[nX w j]) (fun i _=>rfl) aA (by
   rw[aAV _ _ h.es]
   have:Xr w none=none:=by show wQ w=none;unfold wQ;rw[if_pos C]
   rw[this]
   show(if 0≤(j:Int)∧(j:Int)≤2 then some (some ((j:Int),w.cl (j:Int).toNat)) else none)=_
   rw[if_pos (by rcases c with rfl | rfl | rfl<;>decide),Int.toNat_natCast]) (fun u=>by
   obtain⟨M,K,X,q,v,O,L⟩:=aRa c f u;refine⟨M,fun i b=>?_⟩;rw[L] at b
   by_cases e:K=i
   ·rw[←e,O]
   ·have b:((w.m.x.wt.set K _)[i]?).join≠none:=b
    rw[List.getElem?_set_ne e] at b
    exact absurd (k.w0 f i) b)
  exact⟨d,hd,fun i b=>by rcases p with rfl | rfl;cases b;rw[Option.some.inj b]⟩
 ·have hw:w.kT s t={w with m:=w.m.step s t}:=by unfold aU.kT;rw[if_neg A]
  rw[hw]
  by_cases J:∃j:Nat,t=(j:Int)∧T3 j∧(w.m.z.tk j).st=2∧w.m.z.aS=false
  ·obtain⟨j,rfl,c,o,f⟩:=J
   have l:kL s w.m.z w.m.y w.m.x j=((fN w.m.z w.m.y j).1,(fN w.m.z w.m.y j).2,w.m.x):=by
    unfold kL;rw[if_neg (by rcases c with rfl | rfl | rfl<;>decide),Int.toNat_natCast,if_neg aA,if_pos o,if_pos f]
   unfold eC.step at a⊢;rw[l] at a⊢
   have V:=(Qn cJ c).2 o
   obtain⟨E,I⟩:=aFJ (y:=w.m.y) (z:=w.m.z) c o
   obtain⟨d,hd,p⟩:=h.aAf k c (y':=(fN w.m.z w.m.y j).2) (x':=w.m.x) a E I (fun i b G R=>G (by have:=(Qn cJ b).2 R;omega)) w.wt w.es (fun i b=>by
    by_cases e:i=j
    ·rw[if_pos e,e];exact h.aDu c aA
    ·rw[if_neg e]) aA (by
    rw[h.es]
    show some (wQ w)=_
    unfold wQ
    rw[if_neg aA,V,Int.toNat_natCast]) (fun u=>by rw[aRE f] at u;cases u)
   exact⟨d,hd,fun i b=>by rcases p with rfl | rfl;cases b;rw[Option.some.inj b]⟩
  ·obtain⟨U,T⟩:=aJA (s:=s) (z:=w.m.z) (y:=w.m.y) (x:=w.m.x) (t:=t) (fun j H c B=>by
    by_cases N:w.m.z.cJ < 0
    ·exfalso;refine A ?_;unfold aU.mZ;rw[H,Int.toNat_natCast,(h.wt j c).2 B,decide_eq_true N,show bO 3 (j:Int)=true by rcases c with rfl | rfl | rfl<;>rfl];rfl
    ·omega) (fun j H c o=>by
    cases u:w.m.z.aS with
    | true=>rfl
    | false=>exact absurd ⟨j,H,c,o,u⟩ J)
   refine⟨none,?_,fun _ h=>by cases h⟩;unfold eC.step;rw[U];exact h.same (by rw[T])
theorem NE.task(hm:s.made)(b:fC s n w.m)(h:NE w none)(t:Int):NE (w.task s t) none:=by
 obtain⟨d,hd,f⟩:=h.kT hm b t;unfold aU.task
 by_cases a:bO 3 t=false
 ·rw[aLD a];cases d with
  | none=>exact hd
  | some j=>
   obtain⟨c,_⟩:=hd.dn j rfl;rw[f j rfl] at a;rcases c with rfl | rfl | rfl<;>cases a
 ·obtain⟨j,rfl,c⟩:=vI (t:=t) (by cases k:bO 3 t with | true=>rfl | false=>exact absurd k a)
  have:=hd.end_ c
  cases d with
  | none=>exact this
  | some i=>
   have e:i=j:=by have:=f i rfl;omega
   subst e;rw[if_pos rfl] at this;exact this
theorem aEM{x:aP}{j:Int}{c:rR}(hk:c.k=114∨c.k=119):∀l:List fS,(∀a∈l,a.dev=c.d)→wI (some (j,c)) (l.map (sC s x))=some (some (j,c))
 | [],_=>rfl
 | a :: l, h => by
  show(xT (some (j,c)) (sC s x a)).bind (fun f=>wI f (l.map (sC s x)))=_
  rw[show xT (some (j,c)) (sC s x a)=some (some (j,c)) by
   unfold xT;rw[show(sC s x a).kind=100 from rfl,if_neg aC,if_neg aC,if_pos rfl]
   exact if_pos ⟨hk,h a aD⟩]
  exact aEM hk l fun b e=>h b (List.mem_cons_of_mem _ e)
theorem NE.nF(hm:s.made)(f:fC s n w.m)(h:NE w none)(b:Int):∃d,NE (w.nF s b) d:=by
 have cJ:=f.nI.cJ
 have c:=(f.tick hm b).nI.cJ
 cases p:w.m.z.aS with
 | false =>
  refine⟨none,?_⟩
  have F:(lQ s w.m.x b)=(jA s w.m.x b,[]):=by
   unfold lQ;rw[Yh _ fun k _=>f.w0 p k]
  unfold aU.nF eC.tick;rw[F,List.map_nil,List.append_nil];exact h.same rfl
 | true =>
  obtain⟨j,r,u,H,l⟩:=h.po p
  have K:=(Qn cJ r).1 u
  have B:(w.m.tick s b).z=nA w.m.z (lQ s w.m.x b).2:=rfl
  have o:=h.cl j r aA
  rcases Si (lQ s w.m.x b).2 w.m.z with e | ⟨er,rs,e⟩
  ·have:=f.Uj b
   rw[B,e,p] at this;cases this
  ·rw[u,Int.toNat_natCast] at e;obtain⟨D,I⟩:=Gc (z:=w.m.z) r er rs;unfold eC.tick at c;rw[e] at c
   obtain⟨d,hd,_⟩:=h.aAf f r (y':=w.m.y) (x':=(lQ s w.m.x b).1) c D (.inr I) (fun i A t E=>t (by have:=(Qn cJ A).2 E;omega)) w.wt (w.es++(lQ s w.m.x b).2.map (sC s w.m.x)) (fun i A=>by
    by_cases e:i=j
    ·rw[if_pos e,e];exact h.aDu r aA
    ·rw[if_neg e]) aA (by
    rw[aAW,h.es]
    have:Xr w none=some ((j:Int),w.cl j):=by
     show wQ w=_
     unfold wQ;rw[if_neg aA,u,Int.toNat_natCast]
    rw[this];refine aEM (by rw[←o.1];exact H) _ fun a J=>?_;obtain⟨i,C,G⟩:=aCs _ J
    rw[C,l i G,o.2.1]) (fun p=>by cases p)
   refine⟨d,?_⟩;unfold aU.nF eC.tick;rw[e];exact hd
theorem NE.tick(hm:s.made)(b:fC s n w.m)(h:NE w none)(a:Int):NE (w.tick s a) none:=by
 obtain⟨d,hd⟩:=h.nF hm b a
 have f:=hd.end_ (j:=0) (.inl rfl)
 have i:=f.end_ (j:=1) (.inr (.inl rfl))
 have e:=i.end_ (j:=2) (.inr (.inr rfl))
 have c:=hd.dn
 unfold aU.tick;cases d with
 | none=>exact e
 | some j=>
  obtain⟨k,_⟩:=c j rfl;rcases k with rfl | rfl | rfl<;>exact e
theorem aJD{z:bB}{t k d r v:Int}:((oO z t k d r v).1≠0∧(oO z t k d r v).2=z)∨((oO z t k d r v).1=0∧∃j:Nat,T3 j∧t=(j:Int)∧(z.tk j).st=0∧(oO z t k d r v).2=z.jB j {z.tk j with st:=1,kind:=k,dev:=d,bZ:=r,val:=v}):=by
 unfold oO
 by_cases a:bO 3 t=false
 ·rw[if_pos a];exact .inl ⟨aD,rfl⟩
 rw[if_neg a];obtain⟨j,rfl,f⟩:=vI (t:=t) (by cases e:bO 3 t with | true=>rfl | false=>exact absurd e a);rw[Int.toNat_natCast]
 by_cases c:(z.tk j).st≠0
 ·rw[if_pos c];exact .inl ⟨aD,rfl⟩
 rw[if_neg c]
 by_cases b:¬vH k
 ·rw[if_pos b];exact .inl ⟨aD,rfl⟩
 rw[if_neg b];exact .inr ⟨rfl,j,f,rfl,aA,rfl⟩
theorem NE.call(u:fC s n w.m)(h:NE w none)(t:Int)(c:rR):NE (w.call t c).2 none:=by
 unfold aU.call;dsimp only;rcases aJD (z:=w.m.z) (t:=t) (k:=c.k) (d:=c.d) (r:=c.r) (v:=c.v) with⟨y,x⟩ | ⟨y,j,D,rfl,E,x⟩
 ·rw[if_pos y];unfold eC.start;rw[x];exact h
 ·rw[if_neg aA];unfold eC.start;rw[x,Int.toNat_natCast]
  have b:∀i,T3 i→(w.m.z.jB j {w.m.z.tk j with st:=1,kind:=c.k,dev:=c.d,bZ:=c.r,val:=c.v}).tk i=if i=j then {w.m.z.tk j with st:=1,kind:=c.k,dev:=c.d,bZ:=c.r,val:=c.v} else w.m.z.tk i:=fun i a=>by
   rcases D with rfl | rfl | rfl<;>rcases a with rfl | rfl | rfl<;>rfl
  have cJ:=u.nI.cJ
  refine⟨fun i a=>?_,fun i a=>?_,fun i a f=>?_,?_,(fun _ h=>by cases h),fun B=>?_⟩
  ·dsimp only;rw[b i a];split
   ·simp
   ·exact h.Ft i a
  ·dsimp only;rw[b i a];unfold gJ;split
   ·simp
   ·exact h.wt i a
  ·dsimp only at f⊢;rw[b i a] at f⊢;unfold gJ;split
   ·exact⟨rfl,rfl,rfl,rfl⟩
   ·rename_i e
    rw[if_neg e] at f;exact h.cl i a f
  ·dsimp only;rw[h.es]
   congr 1
   show wQ w=wQ _
   unfold wQ
   show(if w.m.z.cJ < 0 then none else _)=(if w.m.z.cJ < 0 then none else _)
   split
   ·rfl
   ·rename_i F
    rcases cJ with⟨p,_⟩ | ⟨i,a,p,l,_⟩
    ·omega
    ·have:i≠j:=fun e=>by
      subst e
      have:=(l i a).2 rfl
      omega
     show some (w.m.z.cJ,w.cl w.m.z.cJ.toNat)=some (w.m.z.cJ,gJ w.cl j c w.m.z.cJ.toNat)
     unfold gJ;rw[if_neg aA]
  ·obtain⟨i,a,p,C,o⟩:=h.po B
   have A:=(Qn cJ a).1 p
   have e:i≠j:=fun e=>by subst e;omega
   exact⟨i,a,p,by dsimp only;rw[b i a,if_neg e];exact C,by dsimp only;rw[b i a,if_neg e];exact o⟩
theorem NE.kX(hm:s.made)(a:fC s n w.m)(h:NE w none)(p:yS):NE (w.kX s p).2 none:=by
 unfold aU.kX;split
 ·exact h.call a _ _
 ·split
  ·exact h.task hm a _
  ·split
   ·exact h.same (a.fw.next hm.dF a.hw).2.2.1
   ·split
    ·exact h.tick hm a _
    ·split
     ·unfold aU.send;dsimp only;split
      ·exact h.same rfl
      ·exact h.more (.inl rfl) rfl rfl
     ·split
      ·unfold aU.take;split
       ·exact h.more (.inr rfl) rfl rfl
       ·exact h.same rfl
      ·exact h
theorem NE.cK(hm:s.made)(a:fC s n w.m)(h:NE w none):NE (w.cK s) none:=h.same (a.fw.next hm.dF a.hw).2.2.1
end
def zZ(s:aG)(x:aP)(i:Nat):List Value:=((List.range s.aH.length).map fun k=>Value.bool (wU s x k)).take i++(List.replicate s.aH.length (Value.bool false)).drop i
theorem aR4{s:aG}(x:aP):List.replicate s.aH.length (Value.bool false)=zZ s x 0:=by simp[zZ]
theorem aR2{s:aG}{x:aP}{i:Nat}:(zZ s x i).length=s.aH.length:=by simp[zZ];omega
theorem aR1{s:aG}{x:aP}{i:Nat}(hi:i < s.aH.length):(zZ s x i).set i (.bool (wU s x i))=zZ s x (i+1):=aEV (by simp[hi]) aD
theorem aR3{s:aG}{x:aP}{i:Nat}(hi:i < s.aH.length):(zZ s x s.aH.length)[i]? =some (.bool (wU s x i)):=by simp[zZ,hi,List.getElem?_append]
def Zt:List Value:=[.int .u8 0,iv 0,.int .u8 0,iv 0,iv 0,.int .u32 0,iv 0,.int .u32 0,iv 0,iv 0,.bool false,.int .u32 0,.bool false,sn]
def wP(s:aG)(x:aP)(l:List fS):List (List Value):=l.map fun a=>(sC s x a).row none 0
def zW(s:aG)(x:aP)(l:List fS)(i:Nat):List (List Value):=(wP s x l).take i++(List.replicate l.length Zt).drop i
theorem aPS{s:aG}(x:aP)(l:List fS):List.replicate l.length Zt=zW s x l 0:=by simp[zW]
theorem aGy{s:aG}{x:aP}{l:List fS}:zW s x l l.length=wP s x l:=by unfold zW wP;rw[List.take_of_length_le aD,List.drop_of_length_le aD,List.append_nil]
theorem aGz{s:aG}{x:aP}{l:List fS}{i:Nat}:(zW s x l i).length=l.length:=by simp[zW,wP];omega
theorem aBY{s:aG}{x:aP}{l:List fS}{i:Nat}:∀r∈zW s x l i,r.length=14:=fun r b=>by
 rcases List.mem_append.1 b with h | h
 ·obtain⟨a,_,rfl⟩:=List.mem_map.1 (List.mem_of_mem_take h);rfl
 ·rw[List.eq_of_mem_replicate (List.mem_of_mem_drop h)];rfl
theorem aPR{s:aG}{x:aP}{l:List fS}{i:Nat}{a:fS}(b:l[i]? =some a):gD (zW s x l i).flatten (i*14) ((sC s x a).row none 0)=(zW s x l (i+1)).flatten:=by
 have c:=(List.getElem?_eq_some_iff.1 b).1
 rw[aLl aBY (by rw[aGz];exact c) rfl];exact congrArg _ (aEV (by simp[wP,b]) (by simp[wP]))
theorem aIl{p:Piece}:∀{es:List jR},(∀e∈es,e.words=[])→lY es (es.map fun e=>e.row none 0) p
 | [],_=>trivial
 | e::es,h=>⟨rfl,⟨none,0,rfl,by rw[h e aD];exact aM.nil _ _⟩,aIl fun e' a=>h e' (by simp[a])⟩
theorem aPP(s:aG)(x:aP)(l:List fS):∀w,(mW (l.map (sC s x)) (wP s x l)).sat (fun _=>False) w:=fun w=>by
 have:=aIl (p:=⟨w,fun _=>False⟩) (es:=l.map (sC s x)) fun e b=>by
  obtain⟨a,_,rfl⟩:=List.mem_map.1 b;rfl
 rwa [List.map_map] at this
theorem aPQ(s:aG)(x:aP)(l:List fS):(wP s x l).flatten.length=l.length*14:=by rw[Hz (sz:=14) _ (by rw[←aGy];exact aBY)];simp[wP]
theorem aPO(s:aG)(x:aP)(l:List fS):∀u∈(wP s x l).flatten,u.oneCell'=true:=fun u b=>by
 obtain⟨r,c,b⟩:=List.mem_flatten.1 b;obtain⟨a,_,rfl⟩:=List.mem_map.1 c;simp only[jR.row,List.mem_cons,List.not_mem_nil,or_false] at b;rcases b with rfl | rfl | rfl | rfl | rfl | rfl | rfl | rfl | rfl | rfl | rfl | rfl | rfl | rfl<;>rfl
def aU.ends(w:aU):Nat→aU
 | 0=>w
 | k+1=>(w.ends k).end_ (k:Int)
theorem aOO(w:aU)(t:Int):(w.end_ t).es.length≤w.es.length+1:=by
 unfold aU.end_;split
 ·show(w.es++[_]).length≤_
  rw[List.length_append];exact Nat.le_refl _
 ·exact Nat.le_add_right _ _
theorem aGd(w:aU):∀k,(w.ends k).es.length≤w.es.length+k
 | 0=>Nat.le_refl _
 | k+1=>Nat.le_trans (aOO (w.ends k) k) (Nat.add_le_add_right (aGd w k) 1)
section
variable(g f r:Nat)(hL:HL)(s:aG)(n:Nat)(W:aU)(w:World)(F:Nat→Prop)
theorem aMG(m:eC)(a:oL s m.z)(l:List fS)(hl:l.length≤1000)(A:Option Addr)(c:Nat)(hs:aM ⟨w,fun b=>b < w.heap.size∧¬F b⟩ 4 A l.length (l.flatMap fS.cells))(hp:(iR r f hL s m).sat F w)(hF:∀b,F b→b < w.heap.size):
  Cz 83 #[pt r,.slice A l.length c] w (Wr (.tuple #[]) (iR r f hL s ⟨nA m.z l,m.y,m.x⟩) w F):=
 Ra 0 rfl (p':=jW r hL.h f s (nA m.z l)) (v:=.tuple #[]) (fun k j n e=>aKG r hL.h f s m.z w k A c l hl a.po j n (hs.le fun b d=>⟨⟨d.1,fun i=>d.2 (e b i)⟩,rfl⟩)) hp hF
theorem aMH(m:eC)(hm:s.made)(c:gQ hL s)(a:cR s m.x)(v:Nat)(e:v < s.aH.length){w0:World}{R:List Piece}{H:List HP}(i:Nat)(st:St w0 R H w)(hi:H[i]? =some (iR r f hL s m)):Cz 81 #[.pointer (some ⟨hL.h,0,none⟩),iv (v:Int)] w (Rt (.bool (wU s m.x v)) w):=by
 obtain⟨F,l,n,_⟩:=st.chunk hi;obtain⟨G,j,k,_⟩:=l;exact aF9 hL s m.x w hm.dF c a v e (aIa (j 2 _ rfl) (fun b d=>n b (k 2 b d)) c a)
theorem aIK(hm:s.made)(Qy:gQ hL s)(o:iE s n W)(hn:n≤50000000)(d:Int)(hd:0≤d∧d < 4294967296)(hp:(dM g f r hL s W).sat F w)(hF:∀b,F b→b < w.heap.size):
  Cz 46 #[pt g,.int .u32 d] w (Wr (.tuple #[]) (dM g f r hL s (W.tick s d)) w F):=by
 have Dl:=hm.nv
 have he0:=o.es
 have J:=(o.nF hm d).2.1
 have hT:=fun w F=>aMA r f hL s n W.m w F hm Qy o.m d hd
 have B:∀a∈(lQ s W.m.x d).2,∃i:Nat,a.dev=(i:Int)∧i < s.aH.length:=fun a T=>by
  obtain⟨i,G,D⟩:=aCs (s:=s) (x:=W.m.x) (a:=a) s.aH.length T;refine⟨i,G,?_⟩;rcases Nat.lt_or_ge i s.aH.length with h | h
  ·exact h
  ·rw[List.getElem?_eq_none (by rw[o.m.hw.wt];exact h)] at D;exact absurd rfl D
 have N:(lQ s W.m.x d).2.length≤1000:=Nat.le_trans (Yg (s:=s) (x:=W.m.x) s.aH.length) aA
 obtain⟨H,j⟩:∃H,W.nF s d=H:=⟨_,rfl⟩
 have I:W.tick s d=H.ends 3:=by rw[←j];rfl
 rw[j] at J;unfold aU.nF eC.tick at j;obtain⟨⟨C,l⟩,hxl⟩:∃p,lQ s W.m.x d=p:=⟨_,rfl⟩
 rw[hxl] at hT B N j;dsimp only at hT B N j;rw[I];clear I;refine dD func46 ntmps46 hp hF ?_;refine iQ 0 fun L=>?_;refine bE 0 0 ?_;refine bE 1 1 ?_;dsimp only[lO];refine aE ?_;refine mN (n:=s.aH.length) 1 (el:=4) (z:=.bool false) aF aF rfl rfl rfl aA aA aC fun O=>?_;rw[aR4 W.m.x];refine aE ?_;refine sH (α:=Unit) (fun _=>[(0,pt g),(1,.int .u32 d),(4,.slice (some ⟨O,0,none⟩) s.aH.length s.aH.length)]) (fun _=>[iR r f hL s W.m,HP.aI O 4 (zZ s W.m.x s.aH.length),HP.aI g 94 (lO f r hL s W L),HP.many [cM,cM,HP.own 52 14 (.slice L.A W.es.length L.c) W.es.length L.rows.flatten,mW W.es L.rows]]) (fun _=>True) ?_ fun _ _=>?_
 ·refine rI (α:=Unit) (fun i _=>[(18,iv i),(17,iv s.aH.length),(0,pt g),(1,.int .u32 d),(4,.slice (some ⟨O,0,none⟩) s.aH.length s.aH.length)]) (fun i _=>[iR r f hL s W.m,HP.aI O 4 (zZ s W.m.x i),HP.aI g 94 (lO f r hL s W L),HP.many [cM,cM,HP.own 52 14 (.slice L.A W.es.length L.c) W.es.length L.rows.flatten,mW W.es L.rows]]) (fun _ _=>True) s.aH.length () trivial fun i _ hi _=>?_;refine aE ?_;refine aK rfl (fun e=>?_) (fun Z=>?_)
  ·have e:i < s.aH.length:=aA
   refine aE ?_;refine aZ (fun E t=>aMH f r hL s E W.m hm Qy o.m.hw i e 0 t rfl) ?_;refine aE ?_;refine eZ rfl rfl ?_ (hs:=eS.mk 1 rfl cZ.h rfl (by rw[aR2];exact e));dsimp only[List.set];rw[aR1 e];refine aE ?_;exact lM ()
  ·obtain rfl:i=s.aH.length:=by omega
   refine aE ?_;exact dO ()
 refine aE ?_;refine vX (α:=Option Addr×Nat) 0 (f:=82) (fi:=[]) (ca:=[]) (fun a=>.slice a.1 l.length a.2) (fun a=>aHB r f hL s ⟨W.m.z,W.m.y,C⟩ l a) (fun _=>True) aF rfl rfl rfl aC (fun E M t G D h3=>by simpa using hT E M G D) fun aa _=>?_;dsimp only[List.set];obtain⟨Aa,ca⟩:=aa;refine bE 0 1 ?_;refine bE 1 0 ?_;refine dK [] [1] [0,3,4,5] aD rfl aC aC fun q hq _ _=>?_;obtain⟨F2,sf2,Zs⟩:=hq 1 _ aD rfl
 have X:aM q 4 Aa l.length (l.flatMap fS.cells):=aM.own ⟨F2,sf2,Zs⟩
 refine aE ?_;refine aIz 14 120 (n:=l.length) (el:=52) (zs:=Zt) aF aF rfl aC rfl rfl aA aA aC fun R=>?_;rw[aPS (s:=s) W.m.x l];refine aE ?_;refine sH (α:=Unit) (fun _=>[(0,pt g),(6,.slice Aa l.length ca),(7,.slice (some ⟨R,0,none⟩) l.length l.length)]) (fun _=>[HP.aI R 52 (wP s W.m.x l).flatten,iR r f hL s ⟨W.m.z,W.m.y,C⟩,HP.aI g 94 (lO f r hL s W L),HP.many [cM,cM,HP.own 52 14 (.slice L.A W.es.length L.c) W.es.length L.rows.flatten,mW W.es L.rows]]) (fun _=>True) ?_ fun _ _=>?_
 ·refine rI (α:=Unit) (fun i _=>[(42,iv i),(41,iv l.length),(40,.slice Aa l.length ca),(0,pt g),(4,.slice (some ⟨O,0,none⟩) s.aH.length s.aH.length),(6,.slice Aa l.length ca),(7,.slice (some ⟨R,0,none⟩) l.length l.length)]) (fun i _=>[HP.aI R 52 (zW s W.m.x l i).flatten,HP.aI O 4 (zZ s W.m.x s.aH.length),iR r f hL s ⟨W.m.z,W.m.y,C⟩,HP.aI g 94 (lO f r hL s W L),HP.many [cM,cM,HP.own 52 14 (.slice L.A W.es.length L.c) W.es.length L.rows.flatten,mW W.es L.rows]]) (fun _ _=>True) l.length () trivial fun i _ hi _=>?_;refine aE ?_;refine aK rfl (fun e=>?_) (fun Z=>?_)
  ·have e:i < l.length:=aA
   obtain⟨a,T⟩:=get_some e;obtain⟨dv,Y,pM⟩:=B a (List.mem_of_getElem? T)
   have hfl:(zW s W.m.x l i).flatten.length=l.length*14:=by rw[Hz (sz:=14) _ aBY,aGz]
   have U:=aPR (s:=s) (x:=W.m.x) T
   obtain⟨b,off,rfl,qK,hc⟩:=X.2 aA
   have uL:=fun k v hv=>hc _ _ (aGX (k:=k) (v:=v) T hv)
   obtain⟨V,aHe,u,K⟩:=a;dsimp only at Y;subst Y;refine aE ?_;refine kd (kO rfl (aV.of (vs:=[iv V,iv dv,.bool u,.int .u32 K]) fun k v hv=>Rd.ro (p:=q) aD qK (by rw[Nat.add_assoc];exact uL k v hv))) ?_;refine cQ fun g1=>?_;refine aE ?_;refine uT ?_;refine nZ 7 ?_ (dG:=bP rfl (Rd.aI 2 rfl (aR3 pM)));refine nZ 8 ?_;refine nZ 9 ?_;refine aQ 10 ?_;refine Bk 1 rfl ?_ (vs:=(sC s W.m.x ⟨V,dv,u,K⟩).row none 0) (hl:=decide_eq_true (by show i*14+14≤_;rw[hfl];omega));dsimp only[List.set];rw[U];refine cS ?_;refine eM ?_;refine aE ?_;exact lM ()
  ·obtain rfl:i=l.length:=by omega
   rw[aGy];refine aE ?_;exact dO ()
 refine aE ?_;refine aY [1,2,3,0] rfl aC (fun _ h=>h) ?_;refine aN 1 1 ?_;refine aN 0 0 ?_;refine cY 0 (fun L:jJ=>kI g f r hL s {W with m:=⟨W.m.z,W.m.y,C⟩} L) L ?_;refine pH (p:=mW (l.map (sC s W.m.x)) (wP s W.m.x l)) (aPP _ _ _) ?_;refine aY [1,2,0] rfl aC (fun _ h=>h) ?_;refine vT ?_;refine cG 0 (dM g f r hL s {W with m:=⟨W.m.z,W.m.y,C⟩,es:=W.es++l.map (sC s W.m.x)}) (fun E M t1 G D h3=>aDz g f r hL s {W with m:=⟨W.m.z,W.m.y,C⟩} E M (l.map (sC s W.m.x)) (wP s W.m.x l) R l.length l.length aD (aPQ _ _ _) (aPO _ _ _) (by show W.es.length+_≤_;rw[List.length_map];omega) G D) ?_;refine iQ 0 fun L2=>?_;refine bE 0 0 ?_;refine bE 1 1 ?_;dsimp only[lO];refine aE ?_;refine cG 0 (iR r f hL s ⟨nA W.m.z l,W.m.y,C⟩) (fun E M t1 G D h3=>aMG f r hL s E M ⟨W.m.z,W.m.y,C⟩ o.m.nI l N Aa ca (X.le (h3 _ aD)) G D) ?_;refine aE ?_;refine aN 1 1 ?_;refine aN 0 0 ?_;subst j;refine cY 0 (fun L:jJ=>kI g f r hL s {W with m:=⟨nA W.m.z l,W.m.y,C⟩,es:=W.es++l.map (sC s W.m.x)} L) L2 ?_;generalize ({W with m:=⟨nA W.m.z l,W.m.y,C⟩,es:=W.es++l.map (sC s W.m.x)}:aU)=H at J⊢;refine rI (α:=Unit) (fun i _=>[(67,iv i),(0,pt g)]) (fun i _=>[dM g f r hL s (H.ends i)]) (fun _ _=>True) 3 () trivial fun i _ hi _=>?_
 have hel:=aGd H i
 refine aE ?_;refine aK rfl (fun e=>?_) (fun Z=>?_)
 ·refine aE ?_;refine cG 0 (dM g f r hL s (H.ends (i+1))) (fun E M t1 G D h3=>xL g f r hL s (H.ends i) E M aA i G D) ?_;refine aE ?_;exact lM ()
 ·obtain rfl:i=3:=by omega
  refine aE ?_;exact fO 0 hF
end
section
variable(g f r:Nat)(hL:HL)(s:aG)(W:aU)(w:World)(F:Nat→Prop)
theorem aMC(m:eC)(A:Option Addr)(n c:Nat)(l:List Int)(hs:aM ⟨w,fun b=>b < w.heap.size∧¬F b⟩ 1 A n (eJ l))(e:n=l.length)(a:n≤1000000)(hp:(iR r f hL s m).sat F w)(hF:∀b,F b→b < w.heap.size):
  Cz 84 #[pt f,iv 1,.slice A n c] w (Wr (iv (fI m.y 1 l).1) (iR r f hL s ⟨m.z,(fI m.y 1 l).2,m.x⟩) w F):=
 Ra 1 rfl (fun o k p i=>aFO f hL.h s m.y 1 A n c l w o k p (hs.le fun b d=>⟨⟨d.1,fun j=>d.2 (i b j)⟩,rfl⟩) e a) hp hF
def Bd(k:Int)(l:List Int):jR:={Mk with kind:=k,words:=l}
theorem aIM(D:W.es.length≤900000000)(A:Option Addr)(n c:Nat)(l:List Int)(hs:aM ⟨w,fun b=>b < w.heap.size∧¬F b⟩ 1 A n (eJ l))(i:n=l.length)(d:n≤1000000)(hp:(dM g f r hL s W).sat F w)(hF:∀b,F b→b < w.heap.size):
  Cz 47 #[pt g,.slice A n c] w (Wr (iv (W.send l).1) (dM g f r hL s (W.send l).2) w F):=by
 subst i;unfold aU.send;refine dD func47 ntmps47 hp hF ?_;refine iQ 0 fun L=>?_;refine bE 0 0 ?_;refine bE 1 1 ?_;dsimp only[lO];refine aE ?_;refine cG 0 (iR r f hL s ⟨W.m.z,(fI W.m.y 1 l).2,W.m.x⟩) (fun a j C k o p=>aMC f r hL s a j W.m A _ c l (hs.le (p _ aD)) rfl d k o) ?_;refine aE ?_;refine aK rfl (fun e=>?_) (fun e=>?_)
 ·rw[if_pos e];refine aE ?_;refine aN 1 1 ?_;refine aN 0 0 ?_;refine cY 0 (fun L:jJ=>kI g f r hL s {W with m:=⟨W.m.z,(fI W.m.y 1 l).2,W.m.x⟩} L) L ?_;exact bU 0 hF
 ·rw[if_neg e,Decidable.not_not.1 e];refine aE ?_;refine fK (To l.length (eJ l)) (fun a t=>Xs A _ c _ a (hs.le (t.le aD)) (Fb _) d) ?_;rintro _ _ G ⟨B,u,rfl,rfl⟩ _;dsimp only[List.cons_append,List.nil_append];refine aE ?_;refine eT fun E=>?_;refine aE ?_;refine aY [2,3,4,0,1] rfl aC (R':=[⟨w,fun b=>b < w.heap.size∧¬F b⟩]) aD ?_;refine aN 1 1 ?_;refine aN 0 0 ?_;refine cY 0 (fun L:jJ=>kI g f r hL s {W with m:=⟨W.m.z,(fI W.m.y 1 l).2,W.m.x⟩} L) L ?_;refine wW 2 (Φ:=lY [Bd 115 l] [(Bd 115 l).row B u]) (hm:=lY.le) rfl (fun _ h=>lY.one h) ?_;dsimp only[List.set];refine vT ?_;refine cG 0 (dM g f r hL s {W with m:=⟨W.m.z,(fI W.m.y 1 l).2,W.m.x⟩,es:=W.es++[Bd 115 l]}) (fun a j C k o p=>Fa g f r hL s {W with m:=⟨W.m.z,(fI W.m.y 1 l).2,W.m.x⟩} a j (Bd 115 l) B u E D k o) ?_;refine aE ?_;exact bU 0 hF
end
def aU.Ct(s:aG)(w:aU):Nat→aU
 | 0=>w
 | k+1=>(w.Ct s k).task s (k:Int)
theorem aAp{s:aG}(hm:s.made){n:Nat}{w:aU}(h:iE s n w):∀k,iE s (n+k) (w.Ct s k)
 | 0=>h
 | k+1=>(aAp hm h k).task hm k
section
variable(g f r:Nat)(hL:HL)(s:aG)(n:Nat)(W:aU)(w:World)(F:Nat→Prop)
theorem Ho(hm:s.made)(C:gQ hL s)(B:iE s n W)(N:n≤50000000)(p:yS)(M:p.ok)(A:Option Addr)(k c:Nat)(hs:aM ⟨w,fun b=>b < w.heap.size∧¬F b⟩ 1 A k (eJ p.words))(hk:k=p.words.length)(E:eV ⟨w,fun b=>b < w.heap.size∧¬F b⟩)(hp:(dM g f r hL s W).sat F w)(hF:∀b,F b→b < w.heap.size):
  Cz 25 #[pt g,.agg #[.int .u8 p.kind,iv p.task,.int .u8 p.c.k,iv p.c.d,iv p.c.r,.int .u32 p.c.v,.int .u32 p.Jc,.slice A k c]] w (Wr (iv (W.kX s p).1) (dM g f r hL s (W.kX s p).2) w F):=by
 have T:=B.es
 have G:W.es.length≤900000000:=by omega
 obtain⟨Y,hd,X,U⟩:=M;obtain⟨pk,u,⟨I,c2,J,K⟩,O,R⟩:=p;dsimp only at hs hk Y hd X U⊢;unfold aU.kX;dsimp only;refine dD func25 ntmps25 hp hF ?_;refine aE ?_;refine bY fun Z=>?_;refine aE ?_;refine aK rfl (fun h=>?_) (fun h=>?_)
 ·rw[if_pos h];refine aE ?_;refine kd (kO rfl (xB (vs:=[.int .u8 I,iv c2,iv J,.int .u32 K]) 0 rfl rfl)) ?_;refine cG 1 (dM g f r hL s (W.call u ⟨I,c2,J,K⟩).2) (fun e a D i j o=>aIO g f r hL s W e a u I c2 J K i j) ?_;refine aE ?_;exact bU 1 hF
 rw[if_neg h];refine aE ?_;refine aK rfl (fun h=>?_) (fun h=>?_)
 ·rw[if_pos h];refine aE ?_;refine cG 1 (dM g f r hL s (W.task s u)) (fun e a D i j o=>aIL g f r hL s n W e a hm C B N u (eV.le E (o _ aD)) i j) ?_;refine aE ?_;exact bU 1 hF
 rw[if_neg h];refine aE ?_;refine aK rfl (fun h=>?_) (fun h=>?_)
 ·rw[if_pos h];refine iQ 1 fun L=>?_;refine bE 1 0 ?_;refine bE 2 1 ?_;dsimp only[lO];refine aE ?_;refine cG 0 (iR r f hL s (W.m.cK s)) (fun e a D i j o=>aMD r f hL s n W.m e a hm C B.m i j (eV.le E (o _ aD))) ?_;refine aE ?_;refine aN 2 1 ?_;refine aN 1 0 ?_;refine cY 1 (fun L:jJ=>kI g f r hL s (W.cK s) L) L ?_;exact bU 1 hF
 rw[if_neg h];refine aE ?_;refine aK rfl (fun h=>?_) (fun h=>?_)
 ·rw[if_pos h];refine aE ?_;refine cG 1 (dM g f r hL s (W.tick s O)) (fun e a D i j o=>aIK g f r hL s n W e a hm C B N O hd i j) ?_;refine aE ?_;exact bU 1 hF
 rw[if_neg h];refine aE ?_;refine aK rfl (fun h=>?_) (fun h=>?_)
 ·rw[if_pos h];refine aE ?_;refine cG 1 (dM g f r hL s (W.send R).2) (fun e a D i j o=>aIM g f r hL s W e a G A k c R (hs.le (o _ aD)) hk aA i j) ?_;refine aE ?_;exact bU 1 hF
 rw[if_neg h];refine aE ?_;refine aK rfl (fun h=>?_) (fun h=>?_)
 ·rw[if_pos h];unfold aU.take;refine iQ 1 fun L=>?_;refine bE 1 0 ?_;refine bE 2 1 ?_;dsimp only[lO];refine bE 0 1 ?_;refine aE ?_;refine vX (α:=AC) 0 (f:=48) (fi:=[]) (ca:=[]) (fun c=>Kx (jC W.m.y 1) c) (fun c=>De f hL.h s (fU W.m.y 1) ((jC W.m.y 1).getD []) c) (fun _=>True) aF rfl rfl rfl aC (fun e a t i j o=>aBJ f hL.h s W.m.y 1 e a i j) fun H _=>?_;dsimp only[List.set];refine bE 0 0 ?_;refine aN 1 1 ?_;cases hw:jC W.m.y 1 with
  | none=>
   refine aE ?_;refine aY [1,2,3,4] rfl aC (fun _ h=>h) ?_;refine aN 2 1 ?_;refine aN 1 0 ?_;refine cY 1 (fun L:jJ=>kI g f r hL s {W with m:=⟨W.m.z,fU W.m.y 1,W.m.x⟩} L) L ?_;exact bU 1 hF
  | some l=>
   refine aE ?_;refine eT fun V=>?_;refine aE ?_;refine bE 1 1 ?_;refine aY [3,4,6,1,0] rfl aC (fun _ h=>h) ?_;refine aN 1 1 ?_;refine aN 0 0 ?_;refine cY 0 (fun L:jJ=>kI g f r hL s {W with m:=⟨W.m.z,fU W.m.y 1,W.m.x⟩} L) L ?_;refine pY (q:=mW [Bd 114 l] [(Bd 114 l).row H.1 H.2]) 2 rfl (fun F w h=>lY.one h) ?_;dsimp only[List.set];refine vT ?_;refine cG 0 (dM g f r hL s {W with m:=⟨W.m.z,fU W.m.y 1,W.m.x⟩,es:=W.es++[Bd 114 l]}) (fun e a D i j o=>Fa g f r hL s {W with m:=⟨W.m.z,fU W.m.y 1,W.m.x⟩} e a (Bd 114 l) H.1 H.2 V G i j) ?_;refine aE ?_;exact bU 0 hF
 rw[if_neg h];refine aE ?_;exact bU 1 hF
theorem aPB(t:Int):W.kX s ⟨116,t,tM,0,[]⟩=(0,W.task s t):=rfl
theorem aPC(t:Int):W.kX s ⟨102,t,tM,0,[]⟩=(0,W.cK s):=rfl
theorem aPA(t d:Int):W.kX s ⟨104,t,tM,d,[]⟩=(0,W.tick s d):=rfl
theorem Ig{k t d:Int}(hd:0≤d∧d < 4294967296):(yS.mk k t tM d []).ok:=⟨⟨Int.le_refl _,(by decide:(0:Int) < 4294967296)⟩,hd,(fun _ h=>by cases h),Nat.zero_le _⟩
theorem aAg(hm:s.made)(e:gQ hL s)(l:iE s n W)(y:n≤40000000)(a:Int)(hd:0≤a∧a < 4294967296)(d:eV ⟨w,fun b=>b < w.heap.size∧¬F b⟩)(hp:(dM g f r hL s W).sat F w)(hF:∀b,F b→b < w.heap.size):
  Cz 11 #[pt g,.int .u32 a] w (Wr (.tuple #[]) (dM g f r hL s (W.round s a)) w F):=by
 have c:=aAp hm l 3
 refine dD func11 ntmps11 hp hF ?_;refine aE ?_;refine sH (α:=Unit) (fun _=>[(0,pt g),(1,.int .u32 a)]) (fun _=>[dM g f r hL s (W.Ct s 3)]) (fun _=>True) ?_ fun _ _=>?_
 ·refine rI (α:=Unit) (fun i _=>[(5,iv i),(0,pt g),(1,.int .u32 a)]) (fun i _=>[dM g f r hL s (W.Ct s i)]) (fun _ _=>True) 3 () trivial fun i _ z _=>?_
  have j:=aAp hm l i
  refine aE ?_;refine aK rfl (fun u=>?_) (fun x=>?_)
  ·refine aE ?_
   refine cG 0 (dM g f r hL s (W.Ct s (i+1))) (fun k m t o p h=>by
    have:=Ho g f r hL s (n+i) (W.Ct s i) k m hm e j aA ⟨116,i,tM,0,[]⟩ (Ig aC) none 0 0 (aM.nil _ _) rfl (eV.le d (h _ aD)) o p
    rwa [aPB] at this) ?_
   refine aE ?_;exact lM ()
  ·obtain rfl:i=3:=by omega
   refine aE ?_;exact dO ()
 refine aE ?_
 refine cG 0 (dM g f r hL s ((W.Ct s 3).cK s)) (fun k m t o p h=>by
  have:=Ho g f r hL s (n+3) (W.Ct s 3) k m hm e c aA ⟨102,0,tM,0,[]⟩ (Ig aC) none 0 0 (aM.nil _ _) rfl (eV.le d (h _ aD)) o p
  rwa [aPC] at this) ?_
 refine aE ?_
 refine cG 0 (dM g f r hL s (W.round s a)) (fun k m t o p h=>by
  have:=Ho g f r hL s (n+3) ((W.Ct s 3).cK s) k m hm e (c.cK hm) aA ⟨104,0,tM,a,[]⟩ (Ig hd) none 0 0 (aM.nil _ _) rfl (eV.le d (h _ aD)) o p
  rwa [aPA] at this) ?_
 refine aE ?_;exact fO 0 hF
end
structure WdR(w:World)(g:Nat)(L:jJ)(es:List jR):Prop where
 c:gG w g 20 (.slice L.A es.length L.c)
 row:aM (all w) 14 L.A es.length L.rows.flatten
 ev:lY es L.rows (all w)
theorem St.wdR{w0 w:World}{R:List Piece}{H:List HP}{g f r:Nat}{hL:HL}{s:aG}{W:aU}(t:St w0 R H w)(i:Nat)(hi:H[i]? =some (dM g f r hL s W)):∃L,WdR w g L W.es:=by
 obtain⟨F,l,m,_⟩:=t.chunk hi;obtain⟨L,G,e,k,_⟩:=l
 have h:=e 0 _ rfl
 have c:∀i b,G i b→b < w.heap.size:=fun i b c=>m b (k i b c)
 obtain⟨n,o,d,j⟩:=yQ (Y:=fun b=>b < w.heap.size) (e 2 _ rfl) (fun b a=>c 2 b a)
 injection d with d
 subst d;exact⟨L,⟨h.2.lt,by rw[h.2.cell];rfl⟩,j,lY.le ⟨w,G 3⟩ (all w) (fun b a=>⟨c 3 b a,rfl⟩) (e 3 _ rfl)⟩
def aIp(n:Nat)(xs:List Value)(v:Value)(hs:List HP)(_:Piece):Prop:=∃A c,v=.slice A n c∧hs=[HP.own 52 14 (.slice A n c) n xs]
theorem aQi(A:Option Addr)(n c:Nat)(xs:List Value)(w:World)(hs:aM (all w) 14 A n xs)(j:∀u∈xs,u.oneCell'=true)(k:n≤1000000):
  Cz 31 #[.slice A n c] w (fun y w'=>(∃v hs q,y=.returned v∧q.w=w'∧aIp n xs v hs q∧gX w hs q)∧Below w.heap.size w w'):=by
 refine aT func31 ntmps31 ?_;refine aB ?_;refine Oq (el:=52) aF rfl aC ?_;refine fP ?_;refine pZ rfl (fun f=>?_) (fun f=>?_)
 ·refine aB ?_
  have d:n=0:=by
   rcases Nat.eq_zero_or_pos n with h | h
   ·exact h
   ·obtain⟨b,off,rfl,_⟩:=hs.2 h;cases f
  subst d
  have i:xs=[]:=List.eq_nil_of_length_eq_zero (by simpa using hs.1)
  subst i;refine mH 52 14 ?_;refine dK [] [] [0] aD rfl aC aC fun q _ _ a=>?_;exact aW (h:=fun e st=>⟨_,_,⟨e,q.Z⟩,rfl,rfl,⟨_,_,rfl,rfl⟩,st.newR aD aD (a aD aD)⟩)
 ·refine aB ?_;refine On (el:=52) (sz:=14) aF aF aC fun g=>?_;refine Jj 0 14 0 rfl rfl aA ?_;dsimp only[List.set];refine aB ?_;refine iL 0 14 120 n (n':=n) (el:=52) aF aF aC rfl rfl rfl (tA aD hs) j aA aA aA aC fun m l=>?_;dsimp only[List.set,List.nil_append];refine aB ?_;refine dK [] [] [0] aD rfl aC aC fun q _ _ a=>?_;exact aW (h:=fun e st=>⟨_,_,⟨e,q.Z⟩,rfl,rfl,⟨_,_,rfl,rfl⟩,st.newR aD aD (a aD aD)⟩)
theorem aSb{N:cO}{w0:World}{K:Act→World→Prop}{e:Env}{R:List Piece}{H:List HP}{es:List jR}{rows:List (List Value)}{x:jR}{A:Option Addr}{c:Nat}(h:XK N w0 K e R (mW (es++[x]) (rows++[x.row A c])::H)):XK N w0 K e R (HP.own 36 1 (.slice A x.words.length c) x.words.length (eJ x.words)::mW es rows::H):=
 wW 0 (Φ:=qC 1 A x.words.length (eJ x.words)) (hm:=qC.le) rfl (fun _ h=>h) (Gs (X:=lY (es++[x]) (rows++[x.row A c])) (h3:=lY.le) (fun p a b=>aCL b ⟨rfl,⟨A,c,rfl,a⟩,trivial⟩) h)
theorem aOS(w:World):(mW [] []).sat (fun _=>False) w:=(trivial:lY [] [] ⟨w,fun _=>False⟩)
theorem lY.one'{es:List jR}{rows:List (List Value)}{p:Piece}(h:lY es rows p):∀u∈rows.flatten,u.oneCell'=true:=fun u a=>by
 obtain⟨r,d,a⟩:=List.mem_flatten.1 a;obtain⟨i,b⟩:=List.getElem?_of_mem d;obtain⟨e,_,_,A,c,rfl,_⟩:=Rows.at_ h b;simp only[jR.row,List.mem_cons,List.not_mem_nil,or_false] at a;rcases a with rfl | rfl | rfl | rfl | rfl | rfl | rfl | rfl | rfl | rfl | rfl | rfl | rfl | rfl<;>rfl
theorem aMx{a old:List (List Value)}{r:List Value}{i:Nat}(b:a.length=i)(c:i < old.length):(a++old.drop i).set i r=(a++[r])++old.drop (i+1):=by
 subst b;rw[List.set_append_right _ _ (Nat.le_refl _),Nat.sub_self,List.drop_eq_getElem_cons c,List.set_cons_zero,List.append_assoc];rfl
def aIk(es:List jR)(v:Value)(hs:List HP)(q:Piece):Prop:=∃A c rows,v=.slice A es.length c∧hs=[]∧aM q 14 A es.length rows.flatten∧lY es rows q
theorem aIN(g:Nat)(L:jJ)(es:List jR)(w:World)(hn:es.length≤1000000)(hw:∀e∈es,e.words.length≤1000000)(o:WdR w g L es):
  Cz 15 #[pt g] w (fun y w'=>(∃v hs q,y=.returned v∧q.w=w'∧aIk es v hs q∧gX w hs q)∧Below w.heap.size w w'):=by
 have hr0:=o.c
 have hlr:=(Rows.len o.ev).1
 have z:=Rows.Eg o.ev
 refine aT func15 ntmps15 ?_;refine aE ?_;refine fK (aIp es.length L.rows.flatten) (fun D t=>aQi L.A _ L.c _ D (o.row.le (t.le aD)) o.ev.one' hn) ?_;rintro _ _ q2 ⟨A,c,rfl,rfl⟩ _;dsimp only[List.cons_append,List.nil_append];refine aE ?_;refine vS (R':=[all w]) aD ?_;refine pH (p:=mW [] []) aOS ?_;refine sH (α:=List (List Value)) (fun _=>[(3,.slice A es.length c)]) (fun a=>[HP.own 52 14 (.slice A es.length c) es.length a.flatten,mW es a]) (fun _=>True) ?_ fun a _=>?_
 ·refine rI (α:=List (List Value)) (fun i _=>[(12,iv i),(11,iv es.length),(3,.slice A es.length c)]) (fun i a=>[HP.own 52 14 (.slice A es.length c) es.length (a++L.rows.drop i).flatten,mW (es.take i) a]) (fun i a=>a.length=i∧∀r∈a,r.length=14) es.length [] ⟨rfl,fun _ h=>by cases h⟩ fun i a hi hx=>?_;obtain⟨m,d⟩:=hx;refine aE ?_;refine aK rfl (fun C=>?_) (fun hge=>?_)
  ·have C:i < es.length:=aA
   obtain⟨ro,u⟩:=get_some (l:=L.rows) (i:=i) aA;obtain⟨e,he,_,Aw,cw,rfl,N⟩:=Rows.at_ o.ev u
   have J:=hw e (List.mem_of_getElem? he)
   have f:∀r∈a++L.rows.drop i,r.length=14:=fun r h=>by
    rcases List.mem_append.1 h with h | h
    ·exact d r h
    ·exact z r (List.mem_of_mem_drop h)
   have E:(a++L.rows.drop i).length=es.length:=by rw[List.length_append,List.length_drop];omega
   refine Yt 0 rfl aA ?_;rintro⟨gb,rfl⟩;refine Ej 0 rfl fun cs M B U G=>?_;dsimp only[List.set]
   have V:(a++L.rows.drop i)[i]? =some (e.row Aw cw):=by
    rw[List.getElem?_append_right aA,m,Nat.sub_self,List.getElem?_drop,Nat.add_zero];exact u
   have j:=Br B E f V
   have hcc:i*14+14≤cs.length:=by
    have:=Nat.mul_le_mul_right 14 (show i+1≤c by omega)
    omega
   refine aE ?_;refine kd (bP rfl (Rd.sub 0 13 rfl j rfl rfl)) ?_;refine aE ?_;refine fK (To e.words.length (eJ e.words)) (fun D t=>Xs Aw _ cw _ D (aM.le N (t.le aD)) (Fb _) J) ?_;rintro _ _ q3 ⟨X,c2,rfl,rfl⟩ _;dsimp only[List.cons_append,List.nil_append];refine aE ?_;refine Ce 1 (n:=es.length) (c:=c) (sz:=14) (xs:=((a++L.rows.drop i).set i (e.row X c2)).flatten) rfl (by rw[List.length_set];exact M) (zQ B E f C aA rfl (Sub.set j 13 _ (show 13 < 14 by decide) aA) ((tQ.refl cs (i*14) 14).set 13 _ aC)) U G ?_;dsimp only[List.set];rw[aMx m aA];refine aY [0,2,1] rfl aC (R':=[all w]) aD ?_;refine aSb (x:=e) ?_;rw[show es.take i++[e]=es.take (i+1) by rw[List.take_add_one,he];rfl]
   exact lM (a++[e.row X c2]) (hg:=⟨by rw[List.length_append,m];rfl,fun r h=>by
    rcases List.mem_append.1 h with h | h
    ·exact d r h
    ·rw[List.mem_singleton] at h;subst h
     rfl⟩)
  ·obtain rfl:i=es.length:=by omega
   rw[List.drop_of_length_le aA,List.append_nil,List.take_length];refine aE ?_;exact dO a
 refine aE ?_;refine dK [] [0,1] [] aD rfl aC aC fun q Y _ K=>?_;obtain⟨F0,H,O⟩:=Y 0 _ aD rfl;obtain⟨F1,R,I⟩:=Y 1 _ aD rfl
 have F:aM q 14 A es.length a.flatten:=aM.own ⟨F0,H,O⟩
 have T:lY es a q:=lY.le ⟨q.w,F1⟩ q (fun b k=>⟨I b k,rfl⟩) R
 exact aW (h:=fun D st=>⟨_,[],⟨D,q.Z⟩,rfl,rfl,⟨A,c,a,rfl,rfl,F.le fun b k=>⟨k,st.ro aD k⟩,lY.le q _ (fun b k=>⟨k,st.ro aD k⟩) T⟩,st.newR aD aD (K aD aD)⟩)
theorem aA5{s:aG}(hm:s.made){dY:List gH}(c:∀a∈dY,a.ok):∀k,k≤dY.length→iE s (k*4) (runN s dY k)
 | 0,_=>Ua hm
 | k+1,hk=>by
  obtain⟨a,b⟩:=get_some (l:=dY) (i:=k) aA;rw[aA6 b];exact(aRI hm (aA5 hm c k aA) (c a (List.mem_of_getElem? b))).le aA
theorem aRL{dY:List gH}{i k:Nat}{a:gH}{v:Value}(h:dY[i]? =some a)(b:a.cells[k]? =some v):(dY.flatMap gH.cells)[i*12+k]? =some v:=by
 have c:k < 12:=by
  have:=(List.getElem?_eq_some_iff.1 b).1
  rwa [gH.len] at this
 exact(Mc gH.cells 12 dY (fun _ _=>rfl) i k a h c).trans b
theorem aRJ{w:World}{A:Option Addr}{dY:List gH}(hs:aM (all w) 12 A dY.length (dY.flatMap gH.cells)){i:Nat}{a:gH}(c:dY[i]? =some a):∃b off,A=some ⟨b,off,none⟩∧eA w b (off+i*12) a.cells:=by
 have h:=(List.getElem?_eq_some_iff.1 c).1
 obtain⟨b,off,rfl,d,f⟩:=hs.2 aA;exact⟨b,off,rfl,d,fun j v e=>by rw[Nat.add_assoc];exact f _ _ (aRL c e)⟩
def aHJ(s:aG)(W:aU)(v:Value)(hs:List HP)(_:Piece):Prop:=∃(g f r:Nat) (a:HL),v=pt g∧hs=[dM g f r a s W]∧gQ a s
theorem aKv(s:aG)(A1 A2 A3 A4:Option Addr)(n1 k1 n2 k2 n3 k3 n4 k4:Nat)(B:Option Addr)(cb:Nat)(dY:List gH)(w:World)(hW:iJ w s A1 n1 A2 n2 A3 n3 A4 n4)(hm:s.made)(hs:aM (all w) 12 B dY.length (dY.flatMap gH.cells))(u:∀a∈dY,a.ok)(R:dY.length≤2000000)(m:eV (all w)):
  Cz 7 #[.agg #[.slice A1 n1 k1,.slice A2 n2 k2,.slice A3 n3 k3,.slice A4 n4 k4],.slice B dY.length cb] w (fun y w'=>(∃v hs q,y=.returned v∧q.w=w'∧aHJ s (runN s dY dY.length) v hs q∧gX w hs q)∧Below w.heap.size w w'):=by
 have O:=hm.nv
 obtain rfl:=hW.tH;refine aT func7 ntmps7 ?_;refine aE ?_;refine bY fun I=>?_;refine aE ?_;refine fK (aCF s) (fun d t=>aD0 s A1 A2 A3 A4 _ k1 _ k2 _ k3 _ k4 d (hW.le (t.started aD)) hm) ?_;rintro _ _ U ⟨g,f,r,k,rfl,rfl,l⟩ _;dsimp only[List.cons_append,List.nil_append];refine vS (R':=[all w]) aD ?_;refine aE ?_;refine sH (α:=Unit) (fun _=>[(5,pt g)]) (fun _=>[dM g f r k s (runN s dY dY.length)]) (fun _=>True) ?_ fun _ _=>?_
 ·refine rI (α:=Unit) (fun i _=>[(7,iv i),(5,pt g),(1,.slice B dY.length cb),(2,pt I)]) (fun i _=>[dM g f r k s (runN s dY i),HP.aI I 30 [.slice A1 n1 k1,.slice A2 n2 k2,.slice A3 n3 k3,.slice A4 s.aH.length k4]]) (fun _ _=>True) dY.length () trivial fun i _ M _=>?_
  have p:=aA5 hm u i M
  refine aE ?_;refine cN (t:=17) rfl (fun o=>?_) (fun T=>?_)
  ·have o:i < dY.length:=aA
   obtain⟨a,C⟩:=get_some o
   have e:=u a (List.mem_of_getElem? C)
   have c:=aA6 (s:=s) C
   unfold Nj at c;obtain⟨b,off,rfl,H⟩:=aRJ hs C
   have k0:=H.at_ (j:=0) rfl
   have Y:=H.at_ (j:=5) rfl
   refine aE ?_;refine aZ (fun d t=>nU _ 30 d e.op aC) ?_;refine aE ?_;refine aK rfl (fun h=>?_) (fun h=>?_)
   ·rw[if_pos h] at c;refine aE ?_
    refine cG 0 (dM g f r k s (runN s dY (i+1))) (fun d n t G z x=>by
     rw[c]
     exact aAg g f r k s (i*4) _ d n hm l p aA a.v e.v (eV.le m (x _ aD)) G z) ?_
    refine aE ?_;exact lM ()
   ·rw[if_neg h] at c;refine aE ?_;refine uT ?_;refine aQ 8 ?_;refine fK (aHQ (Fp a s.aH.length)) (fun d t=>aLy a s.aH.length d e ⟨aA,aA⟩) ?_;rintro _ _ X ⟨J,N,V,rfl,rfl⟩ _;dsimp only[List.cons_append,List.nil_append];refine vS (R':=[all w]) aD ?_;refine bH ?_;refine aQ 9 ?_;refine dK [] [1] [2,3] aD rfl aC aC fun q L _ _=>?_;obtain⟨n,E,A⟩:=L 1 _ aD rfl
    have F:aM q 1 J (Fp a s.aH.length).words.length (eJ (Fp a s.aH.length).words):=qC.le ⟨q.w,n⟩ q (fun b K=>⟨A b K,rfl⟩) E
    refine cG 0 (dM g f r k s (runN s dY (i+1))) (fun d n t G z x=>by
     rw[c]
     exact Ho g f r k s (i*4) _ d n hm l p aA (Fp a s.aH.length) (aAK e _) J _ N (F.le (x _ aD)) rfl (eV.le m (x _ aD)) G z) ?_
    refine vS (R':=[all w]) aD ?_;refine cS ?_;refine eM ?_;refine aE ?_;exact lM ()
  ·obtain rfl:i=dY.length:=by omega
   refine aE ?_;exact dO ()
 refine aE ?_;refine dK [] [] [0] aD rfl aC aC fun q _ _ D=>?_;exact aW (h:=fun d st=>⟨_,_,⟨d,q.Z⟩,rfl,rfl,⟨g,f,r,k,rfl,rfl,l⟩,st.newR aD aD (D aD aD)⟩)
theorem Da:oU.made:=⟨Fits.nil _,Fits.nil _,(fun _ h=>by cases h),Fits.nil _,aC,aC,aC,aC⟩
def Fi:Int:=(dH 0 0 16 0).1
def Pn:yS:=⟨109,0,tM,0,[Fi]⟩
def Ur:aU:=((Hp oU).kX oU Pn).2
def Uq:aU:=(Ur.kX oU ⟨102,0,tM,0,[]⟩).2
def Pm:aU:=(Uq.kX oU ⟨97,0,tM,0,[]⟩).2
theorem aJS:((Hp oU).kX oU Pn).1=0:=by decide+kernel
theorem aJR:(Ur.kX oU ⟨102,0,tM,0,[]⟩).1=0:=rfl
theorem aJQ:(Uq.kX oU ⟨97,0,tM,0,[]⟩).1=0:=rfl
theorem aAx:Pm.es=[Bd 115 [Fi],Bd 114 [Fi,0,131072]]:=by kernel_rfl
theorem aAy:0≤Fi∧Fi < 4294967296∧(dH 0 0 16 0).2=0:=by decide+kernel
theorem aDT:Pn.ok:=⟨⟨Int.le_refl _,(by decide:(0:Int) < 4294967296)⟩,⟨Int.le_refl _,(by decide:(0:Int) < 4294967296)⟩,(fun x a=>by
 have:x=Fi:=by simpa[Pn] using a
 rw[this]
 exact⟨aAy.1,aAy.2.1⟩),(by decide:1≤1000000)⟩
theorem aDS:iE oU 1 Ur:=(Ua Da).kX Da aDT
theorem aDR:iE oU 2 Uq:=aDS.kX Da (Ig aC)
theorem aJN:iE oU 3 Pm:=aDR.kX Da (Ig aC)
theorem aJL(w:World)(d:eV (all w)):Cz 5 #[] w (Rt (.bool true) w):=by
 refine aT func5 ntmps5 ?_;refine aE ?_;refine fK (aCF oU) (fun a t=>aD0 oU none none none none 0 0 0 0 0 0 0 0 a (aJI a) Da) ?_;rintro _ _ X ⟨g,f,r,m,rfl,rfl,j⟩ _;dsimp only[List.cons_append,List.nil_append];refine aE ?_;refine fK (aCY [Fi]) (fun a t=>aG4 0 0 16 0 none 0 0 [] a (aM.nil _ _) rfl aA aAy.2.2) ?_;rintro _ _ q2 ⟨K,O,rfl,rfl⟩ _;dsimp only[List.cons_append,List.nil_append];refine dK [] [0] [1] aD rfl aC aC fun q M _ _=>?_;obtain⟨U,D,H⟩:=M 0 _ aD rfl
 have I:aM q 1 K 1 (eJ [Fi]):=aM.own ⟨U,D,H⟩
 refine vS (R':=[q,all w]) aD ?_;refine aE ?_
 refine cG 0 (dM g f r m oU Ur) (fun a x t z A k=>by
  have:=Ho g f r m oU 0 _ a x Da j (Ua Da) aA Pn aDT K 1 O (I.le (k _ aD)) rfl (eV.le d (k _ aD)) z A
  rw[aJS] at this
  exact this) ?_
 refine aE ?_
 refine cG 0 (dM g f r m oU Uq) (fun a x t z A k=>by
  have:=Ho g f r m oU 1 _ a x Da j aDS aA ⟨102,0,tM,0,[]⟩ (Ig aC) none 0 0 (aM.nil _ _) rfl (eV.le d (k _ aD)) z A
  rw[aJR] at this
  exact this) ?_
 refine aE ?_
 refine cG 0 (dM g f r m oU Pm) (fun a x t z A k=>by
  have:=Ho g f r m oU 2 _ a x Da j aDR aA ⟨97,0,tM,0,[]⟩ (Ig aC) none 0 0 (aM.nil _ _) rfl (eV.le d (k _ aD)) z A
  rw[aJQ] at this
  exact this) ?_
 refine aE ?_
 refine fK (aIk Pm.es) (fun a t=>by
  obtain⟨L,T⟩:=t.wdR 0 rfl
  exact aIN g L _ a (by rw[aAx];decide) (fun e N=>(aJN.wd e N).2) T) ?_
 rintro _ _ B ⟨Av,cv,rows,rfl,rfl,G,c⟩ _;dsimp only[List.nil_append];rw[show Pm.es.length=2 by rw[aAx];rfl] at G⊢;rw[aAx] at c;refine aY [] rfl aC (R':=[B,all w]) aD ?_;obtain⟨r1,u⟩:=get_some (l:=rows) (i:=0) (by rw[(Rows.len c).1];decide);obtain⟨r2,y⟩:=get_some (l:=rows) (i:=1) (by rw[(Rows.len c).1];decide);obtain⟨Z,E,_,B1,b1,rfl,_⟩:=Rows.at_ c u;obtain⟨e2,F,_,Y,V,rfl,_⟩:=Rows.at_ c y;cases E;cases F;obtain⟨b,off,rfl,h,C⟩:=aM.vC G (Rows.Eg c) u aC;obtain⟨b',J,R,_,n⟩:=aM.vC G (Rows.Eg c) y aC;cases R;refine aC0 (Rd.ro (p:=B) (b:=b) (o:=off+0*14+0) aD h (C 0 _ rfl)) fun d1=>?_;refine aC0 (Rd.ro (p:=B) (b:=b) (o:=off+1*14+0) aD h (n 0 _ rfl)) fun d2=>?_;refine aC0 (Rd.ro (p:=B) (b:=b) (o:=off+1*14+13) aD h (n 13 _ rfl)) fun d3=>?_;refine aE ?_;exact dL
end Go.Proofs.YtmpkkaknjkffpaaGreatDoor
