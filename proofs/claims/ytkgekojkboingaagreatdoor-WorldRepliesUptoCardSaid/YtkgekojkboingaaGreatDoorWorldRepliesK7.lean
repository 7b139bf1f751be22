/- The chip, its firmware and its tasks: what holds always. No walk in sight. -/
import Derived.Test.YtkgekojkboingaaGreatDoorWorldRepliesK6
namespace Go.Proofs.YtkgekojkboingaaGreatDoor
set_option linter.all false
set_option maxHeartbeats 4000000
set_option maxRecDepth 20000
open Go.RowKit Go.Proofs.Tryz
section
theorem aNq:([(4,17),(7,20),(4,22)]:List (Int×Int)).all (fun q=>(List.range 1024).all fun k=>aGc q.1 q.2 k)=true:=by decide+kernel
def Xm(p:fE):Prop:=(p.msg=4∧p.pr=17)∨(p.msg=7∧p.pr=20)∨(p.msg=4∧p.pr=22)
theorem aNr{p:fE}(h:Xm p){k:Int}(h0:0≤k)(h1:k < 1024):(gZ p.msg 0 p.pr k).2=0∧cK (gZ p.msg 0 p.pr k).1 28 4=0∧cK (gZ p.msg 0 p.pr k).1 0 8=p.msg∧cK (gZ p.msg 0 p.pr k).1 8 2=0∧cK (gZ p.msg 0 p.pr k).1 10 8=p.pr:=by
 have ha:=aNq
 rw[List.all_eq_true] at ha;obtain⟨n,rfl⟩:∃n:Nat,k=n:=⟨k.toNat,by omega⟩
 have key:aGc p.msg p.pr (n:Int)=true:=by
  have h2:=ha (p.msg,p.pr) (by
   obtain⟨pr,msg,id,v⟩:=p;dsimp only[Xm] at h⊢
   rcases h with⟨rfl,rfl⟩ | ⟨rfl,rfl⟩ | ⟨rfl,rfl⟩<;>simp)
  rw[List.all_eq_true] at h2;exact h2 n (List.mem_range.2 (by omega))
 obtain⟨e1,e2,e3,e4,e5,_⟩:=of_decide_eq_true key;exact⟨e1,e2,e3,e4,e5⟩
theorem aFj(m t p k:Int):0≤(gZ m t p k).1∧(gZ m t p k).1 < 4294967296:=by
 unfold gZ
 repeat' split
 all_goals first | exact aLl _ _ _ _ | exact⟨Int.le_refl 0,(by decide:(0:Int) < 4294967296)⟩
theorem aQV{s:aC}{x y:dR}:∀p∈allM s x y,Xm p:=by
 intro p hp;unfold allM vJ at hp;simp only[List.mem_append,pP,List.mem_map] at hp;rcases hp with⟨i,_,rfl⟩ | ⟨i,_,rfl⟩ | ⟨i,_,rfl⟩ | ⟨i,_,rfl⟩ | ⟨i,_,rfl⟩ | ⟨i,_,rfl⟩
 all_goals simp[Xm]
theorem aQB{s:aC}{x:aS}{l:List Int}{st:Int}(hl:mW l):mW (Dx s x l st):=by
 have h0:0≤l.headD 0∧l.headD 0 < 4294967296:=by
  cases l with
  | nil=>exact⟨by decide,by decide⟩
  | cons a r=>exact hl a (by simp)
 have hm : mW (nM s x l) := by
  intro v hv;unfold nM at hv;dsimp only at hv;split at hv
  ·simp at hv;subst hv;decide
  ·split at hv
   ·simp at hv;subst hv;exact Nk _
   ·split at hv
    ·simp at hv;subst hv;unfold Ho
     repeat' split
     all_goals decide
    ·split at hv
     ·simp at hv;rcases hv with rfl | rfl<;>exact Nk _
     ·cases hv
 intro v hv;unfold Dx at hv;rw[List.mem_cons,List.mem_cons] at hv;rcases hv with rfl | rfl | hv
 ·exact h0
 ·exact Nk _
 ·split at hv
  ·exact hm v hv
  ·cases hv
theorem aQC{s:aC}{x:aS}{l:List Int}{st:Int}:2≤(Dx s x l st).length∧(Dx s x l st).length≤4:=by
 have:=aFz s x l
 unfold Dx;split<;>simp<;>omega
theorem aGX{s:aC}{x y:dR}{wt:List Int}{ag:Nat}{l:List Int}(hu:mW l):((jO s x y wt ag l).2.1=0∧((jO s x y wt ag l).1=0→tE l))∨((jO s x y wt ag l).1=0∧(jO s x y wt ag l).2=(dH s l).2∧(dH s l).1=0∧(jO s x y wt ag l).2.1≠0∧tE l∧My s (jO s x y wt ag l).2.1 (jO s x y wt ag l).2.2):=by
 unfold jO
 by_cases h:(dH s l).1≠0∨(dH s l).2.1=0∨qV (if ag=0 then x else y) (dH s l).2.1 (dH s l).2.2=decide (pQ (dH s l).2.1)
 ·rw[if_pos h];exact .inl ⟨rfl,fun h=>aEZ hu h⟩
 ·rw[if_neg h]
  have h1:(dH s l).1=0:=Classical.byContradiction fun hc=>h (.inl hc)
  have h2:(dH s l).2.1≠0:=fun hc=>h (.inr (.inl hc))
  have hr:=aEZ hu h1
  have hk:My s (dH s l).2.1 (dH s l).2.2:=by
   rcases aFa (s:=s) hu with⟨h0,_⟩ | ⟨_,hk,nP,hi1,_,_⟩
   ·exact absurd h0 h2
   ·refine⟨by unfold Ty at hk;omega,fun h99=>⟨nP,?_⟩⟩;rw[h99] at hi1
    simpa[Ah,Ot] using hi1
  have no:∀e:Int,e≠0→e=0→tE l:=fun _ h k=>absurd k h
  by_cases ho:pQ (dH s l).2.1
  ·rw[if_pos ho];split
   ·exact .inl ⟨rfl,no _ (by decide)⟩
   ·exact .inr ⟨rfl,rfl,h1,h2,hr,hk⟩
  ·rw[if_neg ho];split
   ·exact .inl ⟨rfl,no _ (by decide)⟩
   ·split
    ·exact .inl ⟨rfl,no _ (by decide)⟩
    ·exact .inr ⟨rfl,rfl,h1,h2,hr,hk⟩
theorem aH5(s:aC)(x:aS)(k id:Int):(Jc s x k id).1.wt=x.wt∧(Jc s x k id).1.bB=x.bB:=by
 unfold Jc Oa Wm Nv Kn Ja
 repeat' split
 all_goals exact⟨rfl,rfl⟩
structure FwB(s:aC)(y:cI):Prop where
 fm:Ee s y
 ax:y.x.of s
 ay:y.y.of s
 h0:y.h0=0∨y.h0=1∨y.h0=2
 h1:y.h1=0∨y.h1=1∨y.h1=2
 r0:y.h0=2→2≤y.w0.length
 r1:y.h1=2→2≤y.w1.length
structure nI(s:aC)(y:cI):Prop extends FwB s y where
 at_:y.at_= -1∨∃a:Nat,y.at_=(a:Int)∧a < 2∧wY y a=1∧My s y.kind y.id∧tE (iQ y a)
theorem nI.step{s:aC}{x:aS}{y:cI}(h:nI s y)(hx:cT s x):aIa s x y:=by
 refine⟨hx,h.fm,?_,fun _ a _ h1 h2=>?_,fun _ a _ h1=>?_⟩
 ·rcases h.at_ with h1 | ⟨a,h1,h2,_,h3,h4⟩
  ·exact .inl (by omega)
  ·exact .inr ⟨a,h1,h2,h3,h4⟩
 ·rcases aGX (s:=s) (x:=y.x) (y:=y.y) (wt:=kW s x) (ag:=a) (h.fm.box a).1 with⟨_,h3⟩ | ⟨_,_,_,h3,_⟩
  ·exact h3 h2
  ·exact absurd h1 h3
 ·rcases aGX (s:=s) (x:=y.x) (y:=y.y) (wt:=kW s x) (ag:=a) (h.fm.box a).1 with⟨h3,_⟩ | ⟨_,_,_,_,h4,h5⟩
  ·exact absurd h3 h1
  ·exact⟨h5,h4⟩
theorem aI1{s:aC}{x:aS}{y:cI}(h:FwB s y)(dV:y.at_= -1){a:Nat}(ha:a < 2)(st:Int):nI s (tQ s x y a st):=by
 have hb:=h.fm.box a
 have hu:=aQB (s:=s) (x:=x) (st:=st) hb.1
 have hl:=aQC (s:=s) (x:=x) (l:=iQ y a) (st:=st)
 have Dd:(Dx s x (iQ y a) st).length≤1000000:=Nat.le_trans hl.2 (by decide)
 unfold tQ aFc;split
 ·exact⟨⟨⟨h.fm.la,hu,h.fm.u1,Dd,h.fm.n1,h.fm.sx,h.fm.sy⟩,h.ax,h.ay,.inr (.inr rfl),h.h1,fun _=>hl.1,h.r1⟩,.inl dV⟩
 ·exact⟨⟨⟨h.fm.la,h.fm.u0,hu,h.fm.n0,Dd,h.fm.sx,h.fm.sy⟩,h.ax,h.ay,h.h0,.inr (.inr rfl),h.r0,fun _=>hl.1⟩,.inl dV⟩
theorem aE9{s:aC}{x:dR}(h:x.of s)(k id:Int):(oN x k id).of s:=by
 obtain⟨h1,h2,h3⟩:=aEA x k id;exact⟨h1.trans h.d,h2.trans h.c,h3.trans h.l⟩
theorem nI.end_{s:aC}{y:cI}(h:nI s y){a:Nat}(dV:y.at_=(a:Int))(ha:a < 2)(r:aS×Bool):nI s (Bj s y r):=by
 unfold Bj;split
 ·rw[dV,Int.toNat_natCast];exact aI1 (y:={y with at_:= -1}) ⟨⟨h.fm.la,h.fm.u0,h.fm.u1,h.fm.n0,h.fm.n1,h.fm.sx,h.fm.sy⟩,h.ax,h.ay,h.h0,h.h1,h.r0,h.r1⟩ rfl ha 0
 ·exact h
theorem nI.next{s:aC}{x:aS}{y:cI}(hH:s.dJ)(h:nI s y)(hx:cT s x):nI s (tN s x y).1∧cT s (tN s x y).2∧(tN s x y).2.wt=x.wt∧(tN s x y).2.bB=x.bB:=by
 unfold tN;dsimp only;rcases h.at_ with dV | ⟨a,dV,ha,_⟩
 ·have hlt:y.at_ < 0:=by omega
  cases hn:qJ y with
  | none=>
   have ht:lN s x y=(y,false):=by unfold lN;rw[hn]
   rw[ht,if_pos ⟨hlt,rfl⟩];exact⟨h,hx,rfl,rfl⟩
  | some a =>
   have ha:=aBS h.fm.la hn
   have sN:wY y a=1:=by
    unfold qJ at hn;split at hn
    ·cases hn;assumption
    ·split at hn
     ·cases hn;assumption
     ·cases hn
   have hla:(a:Int)=0∨(a:Int)=1:=by omega
   have ht:lN s x y=qF s x y a:=by unfold lN;rw[hn]
   rw[ht]
   by_cases hd:(eT s x y a).2.1=0
   ·have e:qF s x y a=(tQ s x {y with last:=a} a (eT s x y a).1,false):=by
     unfold qF;dsimp only;rw[if_pos hd]
    rw[e,if_pos ⟨hlt,rfl⟩];exact⟨aI1 (y:={y with last:=a}) ⟨⟨hla,h.fm.u0,h.fm.u1,h.fm.n0,h.fm.n1,h.fm.sx,h.fm.sy⟩,h.ax,h.ay,h.h0,h.h1,h.r0,h.r1⟩ dV ha _,hx,rfl,rfl⟩
   ·have e:qF s x y a=({y with last:=a,x:=lD y.x a (eT s x y a).2.1 (eT s x y a).2.2,y:=lC y.y a (eT s x y a).2.1 (eT s x y a).2.2,at_:=a,kind:=(eT s x y a).2.1,id:=(eT s x y a).2.2},true):=by
     unfold qF;dsimp only;rw[if_neg hd]
    rw[e,if_neg (by simp),if_pos hlt];dsimp only;obtain⟨hk,hr⟩:=(h.step hx).new hlt a hn hd
    have hax:(lD y.x a (eT s x y a).2.1 (eT s x y a).2.2).of s:=by
     unfold lD;split
     ·exact aE9 h.ax _ _
     ·exact h.ax
    have hay:(lC y.y a (eT s x y a).2.1 (eT s x y a).2.2).of s:=by
     unfold lC;split
     ·exact h.ay
     ·exact aE9 h.ay _ _
    obtain⟨w1,w2⟩:=aH5 s x (eT s x y a).2.1 (eT s x y a).2.2
    exact⟨nI.end_ (y:={y with last:=a,x:=lD y.x a (eT s x y a).2.1 (eT s x y a).2.2,y:=lC y.y a (eT s x y a).2.1 (eT s x y a).2.2,at_:=a,kind:=(eT s x y a).2.1,id:=(eT s x y a).2.2})
     ⟨⟨⟨hla,h.fm.u0,h.fm.u1,h.fm.n0,h.fm.n1,aOQ h.fm.sx _ _ _,aOP h.fm.sy _ _ _⟩,hax,hay,h.h0,h.h1,h.r0,h.r1⟩,.inr ⟨a,rfl,ha,sN,hk,hr⟩⟩ rfl ha _,aDp hH hx _ _,w1,w2⟩
 ·have hlt:¬y.at_ < 0:=by omega
  rw[if_neg (fun hh=>hlt hh.1),if_neg hlt];obtain⟨w1,w2⟩:=aH5 s x y.kind y.id;exact⟨h.end_ dV ha _,aDp hH hx _ _,w1,w2⟩
theorem nI.send{s:aC}{y:cI}(h:nI s y)(a:Int){l:List Int}(hu:mW l)(hn:l.length≤1000000):nI s (iG y a l).2:=by
 have dV:∀b:Nat,y.at_= -1∨(∃c:Nat,y.at_=(c:Int)∧c < 2∧wY y c=1∧My s y.kind y.id∧tE (iQ y c)):=fun _=>h.at_
 unfold iG;split
 ·exact h
 ·split
  ·split
   ·exact h
   ·rename_i Di
    have Di:y.h0=0:=Classical.byContradiction Di
    refine⟨⟨⟨h.fm.la,hu,h.fm.u1,hn,h.fm.n1,h.fm.sx,h.fm.sy⟩,h.ax,h.ay,.inr (.inl rfl),h.h1,(fun h=>absurd (show(1:Int)=2 from h) (by decide)),h.r1⟩,?_⟩;rcases h.at_ with h1 | ⟨c,h1,h2,h3,h4,h5⟩
    ·exact .inl h1
    ·refine .inr ⟨c,h1,h2,?_⟩;obtain rfl | rfl:c=0∨c=1:=by omega
     ·exact absurd (Di.symm.trans h3) (by decide)
     ·exact⟨h3,h4,h5⟩
  ·split
   ·exact h
   ·rename_i Di
    have Di:y.h1=0:=Classical.byContradiction Di
    refine⟨⟨⟨h.fm.la,h.fm.u0,hu,h.fm.n0,hn,h.fm.sx,h.fm.sy⟩,h.ax,h.ay,h.h0,.inr (.inl rfl),h.r0,fun h=>absurd (show(1:Int)=2 from h) (by decide)⟩,?_⟩;rcases h.at_ with h1 | ⟨c,h1,h2,h3,h4,h5⟩
    ·exact .inl h1
    ·refine .inr ⟨c,h1,h2,?_⟩;obtain rfl | rfl:c=0∨c=1:=by omega
     ·exact⟨h3,h4,h5⟩
     ·exact absurd (Di.symm.trans h3) (by decide)
theorem nI.read{s:aC}{y:cI}(h:nI s y)(a:Int):nI s (kM y a):=by
 unfold kM;split
 ·split
  ·rename_i h2
   refine⟨⟨⟨h.fm.la,(fun _ hv=>by cases hv),h.fm.u1,Nat.zero_le _,h.fm.n1,h.fm.sx,h.fm.sy⟩,h.ax,h.ay,.inl rfl,h.h1,(fun h=>absurd (show(0:Int)=2 from h) (by decide)),h.r1⟩,?_⟩;rcases h.at_ with h1 | ⟨c,h1,hc,h3,h4,h5⟩
   ·exact .inl h1
   ·refine .inr ⟨c,h1,hc,?_⟩;obtain rfl | rfl:c=0∨c=1:=by omega
    ·exact absurd (h2.symm.trans h3) (by decide)
    ·exact⟨h3,h4,h5⟩
  ·exact h
 ·split
  ·split
   ·rename_i h2
    refine⟨⟨⟨h.fm.la,h.fm.u0,(fun _ hv=>by cases hv),h.fm.n0,Nat.zero_le _,h.fm.sx,h.fm.sy⟩,h.ax,h.ay,h.h0,.inl rfl,h.r0,fun h=>absurd (show(0:Int)=2 from h) (by decide)⟩,?_⟩;rcases h.at_ with h1 | ⟨c,h1,hc,h3,h4,h5⟩
    ·exact .inl h1
    ·refine .inr ⟨c,h1,hc,?_⟩;obtain rfl | rfl:c=0∨c=1:=by omega
     ·exact⟨h3,h4,h5⟩
     ·exact absurd (h2.symm.trans h3) (by decide)
   ·exact h
  ·exact h
theorem FwB.ans{s:aC}{y:cI}(h:FwB s y){b:Int}{a:List Int}(ha:lP y b=some a):2≤a.length:=by
 unfold lP at ha;split at ha
 ·split at ha
  ·cases ha;exact h.r0 (by assumption)
  ·cases ha
 ·split at ha
  ·split at ha
   ·cases ha;exact h.r1 (by assumption)
   ·cases ha
  ·cases ha
theorem aOm{s:aC}(hT:s.qH):nI s (sP s):=
 ⟨⟨⟨.inr rfl,(fun _ hv=>by simp[sP] at hv),(fun _ hv=>by simp[sP] at hv),by simp[sP],by simp[sP],aDX hT,aDX hT⟩,⟨by simp[sP,fI],by simp[sP,fI],by simp[sP,fI]⟩,⟨by simp[sP,fI],by simp[sP,fI],by simp[sP,fI]⟩,.inl rfl,.inl rfl,(fun h=>by simp[sP] at h),(fun h=>by simp[sP] at h)⟩,.inl rfl⟩
end
section
theorem aCJ:∀(l:List (Int×Int)) (k v j:Int),jG (zU l k v) j=if j=k then v else jG l j
 | [], k, v, j => by
  by_cases h:j=k
  ·subst h;simp[jG,zU]
  ·rw[if_neg h]
   have h2:¬k=j:=fun e=>h e.symm
   simp[jG,zU,h2]
 | (a, b) :: l, k, v, j => by
  have ih:=aCJ l k v j
  unfold zU
  by_cases Fo:a=k
  ·subst Fo;rw[if_pos rfl]
   by_cases h:j=a
   ·subst h;simp[jG]
   ·have h2:¬a=j:=fun e=>h e.symm
    simp[jG,h,h2]
  ·rw[if_neg Fo]
   by_cases haj:a=j
   ·subst haj;rw[if_neg Fo];simp[jG]
   ·have e1:∀m,jG ((a,b)::m) j=jG m j:=fun m=>by simp[jG,haj]
    rw[e1,e1,ih]
theorem nN(a b:Int){p:Prop}(h:a=b)(hn:a≠b:=by decide):p:=absurd h hn
theorem Eo{z:bM}{i j:Nat}{t:rN}(hi:T3 i)(hj:T3 j):(z.jQ j t).tk i=if i=j then t else z.tk i:=by
 rcases hi with rfl | rfl | rfl<;>rcases hj with rfl | rfl | rfl<;>rfl
structure RwB(s:aC)(z:bM):Prop where
 wn:z.wn.of s
 len:∀j,T3 j→(z.tk j).hs.length=6
 nn:∀j,T3 j→∀i,0≤hG (z.tk j) i
 cnt:∀i:Nat,hG (z.tk 0) i+hG (z.tk 1) i+hG (z.tk 2) i=jG z.cn.l (i:Int)
 c7:∀i:Nat,jG z.cn.l (i:Int)≤7
 call:∀j,T3 j→(z.tk j).st=1→wQ (z.tk j).kind
 st:∀j,T3 j→0≤(z.tk j).st∧(z.tk j).st≤3
 val:∀j,T3 j→0≤(z.tk j).val∧(z.tk j).val < 4294967296
 many:0≤z.many∧z.many < 1024
 Cj:∀p∈z.steps,Xm p∧p.ok
def aRW(z:bM):Prop:=(z.fA= -1∧(∀j,T3 j→(z.tk j).st≠2)∧z.bB=false∧z.steps=[]∧z.sent=false)∨(∃j:Nat,T3 j∧z.fA=(j:Int)∧(∀i,T3 i→((z.tk i).st=2↔i=j))∧(z.bB=false→z.steps≠[]))
structure oK(s:aC)(z:bM):Prop extends RwB s z where
 fA:aRW z
theorem aNM{s:aC}{z:bM}(h:RwB s z){j:Nat}(hj:T3 j)(i:Nat):hG (z.tk j) i≤7:=by
 have h0:=h.nn 0 (.inl rfl) i
 have h1:=h.nn 1 (.inr (.inl rfl)) i
 have h2:=h.nn 2 (.inr (.inr rfl)) i
 have h3:=h.cnt i
 have h4:=h.c7 i
 rcases hj with rfl | rfl | rfl<;>omega
theorem RwB.rp{s:aC}{z:bM}(h:RwB s z):Rq s z:=⟨h.wn,fun j hj=>⟨h.len j hj,fun i=>⟨h.nn j hj i,by have:=aNM h hj i;omega⟩⟩⟩
theorem RwB.jQ{s:aC}{z:bM}(h:RwB s z){j:Nat}(hj:T3 j){t:rN}(hh:t.hs=(z.tk j).hs)(hs:0≤t.st∧t.st≤3)(hv:0≤t.val∧t.val < 4294967296)(hc:t.st=1→wQ t.kind):RwB s (z.jQ j t):=by
 have hg:∀i,T3 i→((z.jQ j t).tk i).hs=(z.tk i).hs:=fun i hi=>by
  rw[Eo hi hj];split
  ·rename_i e;subst e;exact hh
  ·rfl
 have hG':∀i,T3 i→∀k,hG ((z.jQ j t).tk i) k=hG (z.tk i) k:=fun i hi k=>by unfold hG;rw[hg i hi]
 refine⟨h.wn,fun i hi=>by rw[hg i hi];exact h.len i hi,fun i hi k=>by rw[hG' i hi];exact h.nn i hi k,fun i=>?_,h.c7,fun i hi=>?_,fun i hi=>?_,fun i hi=>?_,h.many,h.Cj⟩
 ·rw[hG' 0 (.inl rfl),hG' 1 (.inr (.inl rfl)),hG' 2 (.inr (.inr rfl))];exact h.cnt i
 ·rw[Eo hi hj];split
  ·exact hc
  ·exact h.call i hi
 ·rw[Eo hi hj];split
  ·exact hs
  ·exact h.st i hi
 ·rw[Eo hi hj];split
  ·exact hv
  ·exact h.val i hi
theorem RwB.qW{s:aC}{z:bM}(h:RwB s z){j:Nat}(hj:T3 j){d:Nat}(hd:d < 6){k:Int}{c:Cn}(hc:∀i:Nat,jG c.l (i:Int)=if i=d then jG z.cn.l (d:Int)+k else jG z.cn.l (i:Int))(h0:0≤hG (z.tk j) d+k)(h7:jG z.cn.l (d:Int)+k≤7):RwB s {z.jQ j (qW (z.tk j) d k) with cn:=c}:=by
 have ht:∀i,T3 i→({z.jQ j (Go.Proofs.YtkgekojkboingaaGreatDoor.qW (z.tk j) d k) with cn:=c}:bM).tk i=if i=j then Go.Proofs.YtkgekojkboingaaGreatDoor.qW (z.tk j) d k else z.tk i:=fun i hi=>(show _=(z.jQ j (Go.Proofs.YtkgekojkboingaaGreatDoor.qW (z.tk j) d k)).tk i from rfl).trans (Eo hi hj)
 have hu:∀i,hG (Go.Proofs.YtkgekojkboingaaGreatDoor.qW (z.tk j) d k) i=if d=i then hG (z.tk j) d+k else hG (z.tk j) i:=fun i=>aGo (h.len j hj) hd
 have hg:∀i,T3 i→∀n,hG (({z.jQ j (Go.Proofs.YtkgekojkboingaaGreatDoor.qW (z.tk j) d k) with cn:=c}:bM).tk i) n=hG (z.tk i) n+(if i=j∧n=d then k else 0):=fun i hi n=>by
  rw[ht i hi]
  by_cases e:i=j
  ·subst e;rw[if_pos rfl,hu]
   by_cases e2:d=n
   ·subst e2;simp
   ·rw[if_neg e2,if_neg (fun hh=>e2 hh.2.symm)];omega
  ·rw[if_neg e,if_neg (fun hh=>e hh.1)];omega
 refine⟨h.wn,fun i hi=>?_,fun i hi n=>?_,fun n=>?_,fun n=>?_,fun i hi=>?_,fun i hi=>?_,fun i hi=>?_,h.many,h.Cj⟩
 ·rw[ht i hi];split
  ·show((z.tk j).hs.set _ _).length=6
   rw[List.length_set];exact h.len j hj
  ·exact h.len i hi
 ·rw[hg i hi]
  have:=h.nn i hi n
  split
  ·rename_i e
   obtain⟨rfl,rfl⟩:=e;exact h0
  ·omega
 ·rw[hg 0 (.inl rfl),hg 1 (.inr (.inl rfl)),hg 2 (.inr (.inr rfl))]
  show _=jG c.l (n:Int)
  rw[hc]
  have:=h.cnt n
  by_cases e:n=d
  ·subst e;rcases hj with rfl | rfl | rfl<;>simp<;>omega
  ·rw[if_neg e,if_neg (fun hh=>e hh.2),if_neg (fun hh=>e hh.2),if_neg (fun hh=>e hh.2)];omega
 ·show jG c.l (n:Int)≤7
  rw[hc];split
  ·exact h7
  ·exact h.c7 n
 ·rw[ht i hi];split
  ·rename_i e;subst e;exact h.call _ hi
  ·exact h.call i hi
 ·rw[ht i hi];split
  ·rename_i e;subst e;exact h.st _ hi
  ·exact h.st i hi
 ·rw[ht i hi];split
  ·rename_i e;subst e;exact h.val _ hi
  ·exact h.val i hi
theorem aQj{n:Nat}{c:Cn}{d:Int}(h:(rH n c d).1=0)(h0:0≤jG c.l d):c.lT=false∧0≤d∧d < n∧jG c.l d < 7∧(rH n c d).2=⟨zU c.l d (jG c.l d+1),c.lT⟩:=by
 unfold rH at h⊢;split at h
 ·simp at h
 ·rename_i h1
  split at h
  ·simp at h
  ·rename_i h2
   split at h
   ·simp at h
   ·rename_i h3
    rw[if_neg h1,if_neg h2,if_neg h3,iT (by omega)];exact⟨by simpa using h1,by omega,by omega,by omega,rfl⟩
theorem aP6{n:Nat}{c:Cn}{d:Int}(h:(uH n c d).1=0)(h7:jG c.l d≤7):c.lT=false∧0≤d∧d < n∧0 < jG c.l d∧(uH n c d).2=⟨zU c.l d (jG c.l d - 1),c.lT⟩:=by
 unfold uH at h⊢;split at h
 ·simp at h
 ·rename_i h1
  split at h
  ·simp at h
  ·rename_i h2
   split at h
   ·simp at h
   ·rename_i h3
    rw[if_neg h1,if_neg h2,if_neg h3,iT (by omega)];exact⟨by simpa using h1,by omega,by omega,by omega,rfl⟩
theorem aAY{s:aC}{z:bM}(hm:s.made)(h:RwB s z):RwB s (yB s z):=
 ⟨aJh s z,h.len,h.nn,h.cnt,h.c7,h.call,h.st,h.val,h.many,fun p hp=>⟨aQV p hp,aQW hm _ _ p hp⟩⟩
theorem RwB.same{s:aC}{z:bM}(h:RwB s z)(c:Cn)(hc:c.l=z.cn.l):RwB s {z with cn:=c}:=
 ⟨h.wn,h.len,h.nn,fun i=>by show _=jG c.l _;rw[hc];exact h.cnt i,fun i=>by show jG c.l _≤7;rw[hc];exact h.c7 i,h.call,h.st,h.val,h.many,h.Cj⟩
structure aDO(s:aC)(z:bM)(x:aS)(r:Int×bM×aS):Prop where
 b:RwB s r.2.1
 st:∀i,(r.2.1.tk i).st=(z.tk i).st
 err:r.1≠0→r.2.1=z∧r.2.2=x
 x_:r.2.1.bB=false→r.2.2=x
 po:r.2.1.bB=true→z.bB=true∨∃(d:Nat) (wr:Bool) (rg v:Int) (dv:cH),s.aD[d]? =some dv∧0≤rg∧rg < dv.aR.length∧0≤v∧v < 4294967296∧r.2.1.id=x.bB∧r.2.2=To x d wr rg v
theorem aO9{s:aC}(hm:s.made){z:bM}(h:RwB s z)(x:aS){j:Nat}(hj:T3 j)(k:Int):aDO s z x (Dp s x z j k):=by
 have hnd:=Zg s
 have rE:=hm.nv
 have same:∀e:Int,aDO s z x (e,z,x):=fun e=>⟨h,fun _=>rfl,fun _=>⟨rfl,rfl⟩,fun _=>rfl,fun hp=>.inl hp⟩
 have Kg:∀(d:Nat) (q:Int) (c:Cn) (i:Nat),((yB s {z.jQ j (qW (z.tk j) d q) with cn:=c}).tk i).st=(z.tk i).st:=fun d q c i=>by
  show((z.jQ j (qW (z.tk j) d q)).tk i).st=_
  rcases hj with rfl | rfl | rfl
  all_goals
   match i with
   | 0=>rfl
   | 1=>rfl
   | n+2=>rfl
 have acc : ∀ wr : Bool, aDO s z x (Gh s x z j wr) := fun wr => by
  unfold Gh;split
  ·exact same 4
  ·rename_i hb
   split
   ·exact same 6
   ·split
    ·refine⟨⟨h.wn,h.len,h.nn,h.cnt,h.c7,h.call,h.st,h.val,h.many,h.Cj⟩,fun _=>rfl,fun h=>absurd rfl h,(fun h=>by cases h),fun _=>.inr ?_⟩
     have h1:bZ s.aD.length (z.tk j).dev=true:=by
      cases hh:bZ s.aD.length (z.tk j).dev with
      | true=>rfl
      | false=>exact absurd (.inl hh) hb
     have h2:=of_decide_eq_true h1
     obtain⟨dv,Df⟩:=get_some (l:=s.aD) (i:=(z.tk j).dev.toNat) (by omega)
     have h3:¬(z.tk j).bY < 0:=fun hh=>hb (.inr (.inl hh))
     have h4:¬Tg s (z.tk j).dev≤(z.tk j).bY:=fun hh=>hb (.inr (.inr hh))
     unfold Tg at h4;rw[Df] at h4;simp only[Option.map_some,Option.getD_some] at h4;exact⟨_,wr,(z.tk j).bY,(z.tk j).val,dv,Df,by omega,by omega,(h.val j hj).1,(h.val j hj).2,rfl,rfl⟩
    ·exact same 6
 unfold Dp;split
 ·unfold Lr;split
  ·exact same _
  ·rename_i h1
   have h1:(rH (dL s).length z.cn (z.tk j).dev).1=0:=Classical.byContradiction h1
   have hd0:=aHj h1
   obtain⟨d,hd⟩:∃d:Nat,(z.tk j).dev=d:=⟨(z.tk j).dev.toNat,by omega⟩
   rw[hd] at h1 hd0⊢;obtain⟨_,_,h2,h3,h4⟩:=aQj h1 (by have:=h.cnt d;have:=h.nn 0 (.inl rfl) d;have:=h.nn 1 (.inr (.inl rfl)) d;have:=h.nn 2 (.inr (.inr rfl)) d;omega);rw[h4,Int.toNat_natCast];refine⟨aAY hm (h.qW hj (by omega) (fun i=>?_) (by have:=h.nn j hj d;omega) (by omega)),Kg _ _ _,fun h=>absurd rfl h,fun _=>rfl,fun hp=>.inl hp⟩;dsimp only;rw[aCJ]
   by_cases e:i=d
   ·subst e;simp
   ·rw[if_neg (by omega),if_neg e]
 ·split
  ·unfold Kl;split
   ·exact same _
   ·rename_i hin
    split
    ·exact same _
    ·rename_i h0
     split
     ·exact same _
     ·rename_i h1
      have h1:(uH (dL s).length z.cn (z.tk j).dev).1=0:=Classical.byContradiction h1
      have hin:bZ s.aD.length (z.tk j).dev=true:=by simpa using hin
      have hin:=of_decide_eq_true hin
      obtain⟨d,hd⟩:∃d:Nat,(z.tk j).dev=d:=⟨(z.tk j).dev.toNat,by omega⟩
      rw[hd] at h1 h0 hin⊢;rw[Int.toNat_natCast] at h0⊢;obtain⟨_,_,h2,h3,h4⟩:=aP6 h1 (h.c7 d);rw[h4];refine⟨aAY hm (h.qW hj (by omega) (fun i=>?_) (by have:=h.nn j hj d;omega) (by have:=h.c7 d;omega)),Kg _ _ _,fun h=>absurd rfl h,fun _=>rfl,fun hp=>.inl hp⟩;dsimp only;rw[aCJ]
      by_cases e:i=d
      ·subst e;simp;omega
      ·rw[if_neg (by omega),if_neg e]
  ·split
   ·exact acc false
   ·split
    ·exact acc true
    ·split
     ·unfold Kc;split
      ·exact same _
      ·rename_i h1
       refine⟨aAY hm (h.same _ ?_),fun _=>rfl,fun h=>absurd rfl h,fun _=>rfl,fun hp=>.inl hp⟩;unfold xI;split<;>rfl
     ·unfold Kk;split
      ·exact same _
      ·refine⟨aAY hm (h.same _ ?_),fun _=>rfl,fun h=>absurd rfl h,fun _=>rfl,fun hp=>.inl hp⟩;unfold xJ;split<;>rfl
theorem RwB.end_{s:aC}{z:bM}(h:RwB s z){j:Nat}(hj:T3 j)(h2:∀i,T3 i→(z.tk i).st=2→i=j)(e r:Int):oK s (pX z j e r):=by
 have h1:=h.jQ hj (t:={z.tk j with st:=3,err:=e,res:=r}) rfl ⟨by show(0:Int)≤3;decide,by show(3:Int)≤3;decide⟩ (h.val j hj) (fun hh=>nN 3 1 hh)
 refine⟨⟨h1.wn,h1.len,h1.nn,h1.cnt,h1.c7,h1.call,h1.st,h1.val,h1.many,fun p hp=>by cases hp⟩,.inl ⟨rfl,fun i hi hst=>?_,rfl,rfl,rfl⟩⟩
 have hst:((z.jQ j {z.tk j with st:=3,err:=e,res:=r}).tk i).st=2:=hst
 rw[Eo hi hj] at hst;split at hst
 ·exact nN 3 2 hst
 ·rename_i hne
  exact hne (h2 i hi hst)
theorem aLJ{z:bM}{i j:Nat}(hi:T3 i)(hj:T3 j):(tS z j).tk i=if i=j then {z.tk j with st:=2} else z.tk i:=Eo hi hj
theorem aQ3{s:aC}(hm:s.made){z:bM}(h:oK s z)(hh:z.fA < 0)(x:aS){j:Nat}(hj:T3 j):oK s (uJ s x z j).1∧z.bB=false∧((uJ s x z j).1.bB=false→(uJ s x z j).2=x)∧((uJ s x z j).1.bB=true→∃(d:Nat) (wr:Bool) (rg v:Int) (dv:cH),s.aD[d]? =some dv∧0≤rg∧rg < dv.aR.length∧0≤v∧v < 4294967296∧(uJ s x z j).1.id=x.bB∧(uJ s x z j).2=To x d wr rg v):=by
 obtain⟨_,hno,mP,hsp,pT⟩:z.fA= -1∧(∀j,T3 j→(z.tk j).st≠2)∧z.bB=false∧z.steps=[]∧z.sent=false:=by
  rcases h.fA with h1 | ⟨i,_,h1,_⟩
  ·exact h1
  ·omega
 have hb:RwB s (tS z j):=by
  have:=h.toRwB.jQ hj (t:={z.tk j with st:=2}) rfl ⟨by show(0:Int)≤2;decide,by show(2:Int)≤3;decide⟩ (h.val j hj) (fun hh=>nN 2 1 hh)
  exact⟨this.wn,this.len,this.nn,this.cnt,this.c7,this.call,this.st,this.val,this.many,this.Cj⟩
 have h2:∀i,T3 i→(((tS z j).tk i).st=2↔i=j):=fun i hi=>by
  rw[aLJ hi hj];split
  ·rename_i e;exact⟨fun _=>e,fun _=>rfl⟩
  ·rename_i e;exact⟨fun hh=>absurd hh (hno i hi),fun hh=>absurd hh e⟩
 have he:=aO9 hm hb x hj (z.tk j).kind
 have hho:=aGD s x (tS z j) j (z.tk j).kind
 have aMZ:(tS z j).bB=false:=mP
 unfold uJ;dsimp only;generalize Dp s x (tS z j) j (z.tk j).kind=r at he hho;split
 ·rename_i hne
  obtain⟨e1,e2⟩:=he.err hne;rw[e1,e2];exact⟨hb.end_ hj (fun i hi hst=>(h2 i hi).1 hst) _ _,mP,fun _=>rfl,fun hp=>by cases hp⟩
 ·have h3:∀i,T3 i→((r.2.1.tk i).st=2↔i=j):=fun i hi=>by rw[he.st i];exact h2 i hi
  split
  ·rename_i hc
   exact⟨he.b.end_ hj (fun i hi hst=>(h3 i hi).1 hst) _ _,mP,fun _=>he.x_ hc.1,fun hp=>by cases hp⟩
  ·rename_i hc
   refine⟨⟨he.b,.inr ⟨j,hj,hho,h3,fun hp hs=>hc ⟨hp,by rw[hs];rfl⟩⟩⟩,mP,he.x_,fun hp=>?_⟩;rcases he.po hp with h4 | h4
   ·rw[aMZ] at h4;cases h4
   ·exact h4
theorem aRb{s:aC}{z:bM}{y:cI}(h:oK s z)(hy:nI s y){j:Nat}(hj:T3 j)(hst:(z.tk j).st=2)(mP:z.bB=false):oK s (rJ z y j).1∧nI s (rJ z y j).2∧(rJ z y j).1.bB=false:=by
 obtain⟨hh,h2,hne⟩:z.fA=(j:Int)∧(∀i,T3 i→((z.tk i).st=2↔i=j))∧z.steps≠[]:=by
  rcases h.fA with⟨_,h1,_⟩ | ⟨i,hi,h1,h2,h3⟩
  ·exact absurd hst (h1 j hj)
  ·obtain rfl:=(h2 j hj).1 hst;exact⟨h1,h2,h3 mP⟩
 unfold rJ;split
 ·cases hr:lP y 0 with
  | none=>exact⟨h,hy.read 0,mP⟩
  | some a =>
   dsimp only
   have hb:RwB s (rZ z a):=by
    unfold rZ;split
    ·exact⟨h.wn,h.len,h.nn,h.cnt,h.c7,h.call,h.st,h.val,h.many,fun p hp=>h.Cj p (List.mem_of_mem_tail hp)⟩
    ·exact⟨h.wn,h.len,h.nn,h.cnt,h.c7,h.call,h.st,h.val,h.many,h.Cj⟩
   have ht:∀i,(rZ z a).tk i=z.tk i:=fun i=>by unfold rZ;split<;>rfl
   have hhh:(rZ z a).fA=z.fA:=by unfold rZ;split<;>rfl
   have hpp:(rZ z a).bB=z.bB:=by unfold rZ;split<;>rfl
   split
   ·exact⟨hb.end_ hj (fun i hi hs=>by rw[ht] at hs;exact(h2 i hi).1 hs) _ _,hy.read 0,rfl⟩
   ·rename_i hl
    exact⟨⟨hb,.inr ⟨j,hj,hhh.trans hh,fun i hi=>by rw[ht];exact h2 i hi,fun _ hs=>hl (by rw[hs];rfl)⟩⟩,hy.read 0,hpp.trans mP⟩
 ·cases hs:z.steps with
  | nil=>exact absurd hs hne
  | cons p tl =>
   dsimp only;obtain⟨hk,hok⟩:=h.Cj p (by rw[hs];simp)
   have hu:mW (vY p z.many):=fun v hv=>by
    simp only[vY,List.mem_cons,List.not_mem_nil,or_false] at hv;rcases hv with rfl | rfl | rfl
    ·exact aFj _ _ _ _
    ·exact hok.id
    ·exact hok.v
   have hy2:=hy.send 0 hu (by simp[vY])
   split
   ·refine⟨⟨⟨h.wn,h.len,h.nn,h.cnt,h.c7,h.call,h.st,h.val,?_,fun q hq=>h.Cj q (by rw[hs];exact hq)⟩,.inr ⟨j,hj,hh,h2,fun _ hc=>by cases hc⟩⟩,hy2,mP⟩
    have:=h.many
    show 0≤(z.many+1) % 1024∧(z.many+1) % 1024 < 1024
    omega
   ·exact⟨h,hy2,mP⟩
theorem aJJ{s:aC}{z:bM}(h:oK s z)(t k d r v:Int)(hv:0≤v∧v < 4294967296):oK s (wG z t k d r v).2∧(wG z t k d r v).2.bB=z.bB∧(wG z t k d r v).2.id=z.id:=by
 unfold wG;split
 ·exact⟨h,rfl,rfl⟩
 ·rename_i hin
  obtain⟨j,rfl,hj⟩:=Hz (t:=t) (by simpa using hin);rw[Int.toNat_natCast];split
  ·exact⟨h,rfl,rfl⟩
  ·rename_i h0
   have h0:(z.tk j).st=0:=Classical.byContradiction h0
   split
   ·exact⟨h,rfl,rfl⟩
   ·rename_i hk
    have hk:wQ k:=Classical.byContradiction hk
    refine⟨⟨h.toRwB.jQ hj rfl ⟨by show(0:Int)≤1;decide,by show(1:Int)≤3;decide⟩ hv (fun _=>hk),?_⟩,rfl,rfl⟩
    have key:∀i,T3 i→(((z.jQ j {z.tk j with st:=1,kind:=k,dev:=d,bY:=r,val:=v}).tk i).st=2↔(z.tk i).st=2):=fun i hi=>by
     rw[Eo hi hj];split
     ·rename_i e;subst e
      rw[h0];exact⟨fun h=>nN 1 2 h,fun h=>nN 0 2 h⟩
     ·exact Iff.rfl
    rcases h.fA with⟨h1,h2,h3⟩ | ⟨i,hi,h1,h2,h3⟩
    ·exact .inl ⟨h1,fun i hi hs=>h2 i hi ((key i hi).1 hs),h3⟩
    ·exact .inr ⟨i,hi,h1,fun k hk=>(key k hk).trans (h2 k hk),h3⟩
theorem aOL{s:aC}{z:bM}(h:oK s z)(t:Int):oK s (pY z t).2∧(pY z t).2.bB=z.bB∧(pY z t).2.id=z.id:=by
 unfold pY;split
 ·exact⟨h,rfl,rfl⟩
 ·rename_i hin
  obtain⟨j,rfl,hj⟩:=Hz (t:=t) (by simpa using hin);rw[Int.toNat_natCast];split
  ·exact⟨h,rfl,rfl⟩
  ·rename_i h0
   have h0:(z.tk j).st=3:=Classical.byContradiction h0
   refine⟨⟨h.toRwB.jQ hj rfl ⟨by show(0:Int)≤0;decide,by show(0:Int)≤3;decide⟩ ⟨by show(0:Int)≤0;decide,by show(0:Int) < 4294967296;decide⟩ (fun h=>nN 0 1 h),?_⟩,rfl,rfl⟩
   have key:∀i,T3 i→(((z.jQ j {z.tk j with st:=0,kind:=0,dev:=0,bY:=0,val:=0,err:=0,res:=0}).tk i).st=2↔(z.tk i).st=2):=fun i hi=>by
    rw[Eo hi hj];split
    ·rename_i e;subst e
     rw[h0];exact⟨fun h=>nN 0 2 h,fun h=>nN 3 2 h⟩
    ·exact Iff.rfl
   rcases h.fA with⟨h1,h2,h3⟩ | ⟨i,hi,h1,h2,h3⟩
   ·exact .inl ⟨h1,fun i hi hs=>h2 i hi ((key i hi).1 hs),h3⟩
   ·exact .inr ⟨i,hi,h1,fun k hk=>(key k hk).trans (h2 k hk),h3⟩
theorem aQD{s:aC}{z:bM}(h:oK s z)(a:gK):oK s (Dy z a):=by
 unfold Dy;split
 ·exact h
 ·rename_i hp
  obtain⟨j,hj,hh,h2⟩:∃j:Nat,T3 j∧z.fA=(j:Int)∧∀i,T3 i→((z.tk i).st=2↔i=j):=by
   rcases h.fA with⟨_,_,h1,_⟩ | ⟨i,hi,h1,h2,_⟩
   ·exact absurd h1 hp
   ·exact⟨i,hi,h1,h2⟩
  have h3:∀e r,oK s (pX z z.fA.toNat e r):=fun e r=>by
   rw[hh,Int.toNat_natCast];exact h.toRwB.end_ hj (fun i hi hs=>(h2 i hi).1 hs) e r
  split
  ·exact h
  ·split
   ·exact h3 _ _
   ·exact h3 _ _
theorem aH0{s:aC}:∀(l:List gK) {z:bM},oK s z→oK s (sY z l)
 | [],_,h=>h
 | a::l,_,h=>aH0 l (aQD h a)
theorem oK.po{s:aC}{z:bM}(h:oK s z):Mt z:=fun hp=>by
 rcases h.fA with⟨_,_,h1,_⟩ | ⟨i,hi,h1,_⟩
 ·rw[h1] at hp;cases hp
 ·exact⟨i,h1,hi⟩
theorem oK.go{s:aC}{z:bM}{y:cI}(h:oK s z)(hy:FwB s y):aIg s z y:=by
 refine⟨h.rp,h.call,fun j hj hst=>?_,h.many,fun p hp=>(aNr (h.Cj p hp).1 h.many.1 h.many.2).1,fun a ha=>hy.ans ha⟩;rcases h.fA with⟨_,h1,_⟩ | ⟨i,hi,h1,h2,h3⟩
 ·exact absurd hst (h1 j hj)
 ·obtain rfl:=(h2 j hj).1 hst;exact⟨h1,h3⟩
theorem aK7{s:aC}:oK s (Ta s):=by
 have ht:∀j,T3 j→(Ta s).tk j=Sg:=by rintro j (rfl | rfl | rfl)<;>rfl
 have h0:∀i,hG Sg i=0:=fun i=>by
  match i with
  | 0 | 1 | 2 | 3 | 4 | 5=>rfl
  | n+6=>rfl
 refine⟨⟨aBr s [],fun j hj=>by rw[ht j hj];rfl,fun j hj i=>by rw[ht j hj,h0];decide,fun i=>?_,fun i=>?_,fun j hj h=>?_,fun j hj=>?_,fun j hj=>?_,⟨by show(0:Int)≤0;decide,by show(0:Int) < 1024;decide⟩,fun p hp=>by cases hp⟩,.inl ⟨rfl,fun j hj h=>?_,rfl,rfl,rfl⟩⟩
 ·rw[ht 0 (.inl rfl),ht 1 (.inr (.inl rfl)),ht 2 (.inr (.inr rfl)),h0];rfl
 ·show(0:Int)≤7
  decide
 ·rw[ht j hj] at h;exact nN 0 1 h
 ·rw[ht j hj];decide
 ·rw[ht j hj];decide
 ·rw[ht j hj] at h;exact nN 0 2 h
end
section
theorem aRU{w0:World}{R:List Piece}{H:List HP}{q:Piece}{A:Option Addr}{es:List (Int×Nat)}{j:Nat}{p:Int×Nat}(hq:q∈R)(hs:aI q 2 A es.length (es.flatMap Dn))(hj:es[j]? =some p):∃b off,A=some ⟨b,off,none⟩∧aO w0 R H b (off+j*2) (Dn p):=by
 have hlt:=(List.getElem?_eq_some_iff.1 hj).1
 obtain⟨b,off,hA,hz,hc⟩:=aI.tP (rows:=es.map Dn) (sz:=2) (k:=j) (r:=Dn p) (n:=es.length) (by rw[←List.flatMap_def];exact hs) (fun r hr=>by
  obtain⟨x,_,rfl⟩:=List.mem_map.1 hr
  rfl) (by rw[List.getElem?_map,hj];rfl) hlt
 exact⟨b,off,hA,.of fun k v hv=>Rd.ro hq hz (hc k v hv)⟩
def fO(s:aC)(x:aS):Nat→aS×List gK
 | 0=>(x,[])
 | n+1=>((iI s (fO s x n).1 n).1,(fO s x n).2++(iI s (fO s x n).1 n).2.toList)
def qE(s:aC)(x:aS)(bF:Int):aS×List gK:=(Sh s (fO s x s.aD.length).1 bF,(fO s x s.aD.length).2)
theorem Mf{s:aC}{x:aS}(hok:cT s x)(mN:Eb s x):∀n,cT s (fO s x n).1∧Eb s (fO s x n).1
 | 0=>⟨hok,mN⟩
 | n+1=>⟨aQI (Mf hok mN n).1 (Mf hok mN n).2 n,aQG (Mf hok mN n).2 n⟩
theorem aAB{s:aC}{x:aS}:∀n,(fO s x n).2.length≤n
 | 0=>Nat.le_refl _
 | n+1=>by
  have:=aAB (s:=s) (x:=x) n
  show((fO s x n).2++_).length≤_
  rw[List.length_append];cases(iI s (fO s x n).1 n).2<;>simp<;>omega
theorem aAA{s:aC}{x:aS}{i:Nat}(h:(x.wt[i]?).join=none):iI s x i=(x,none):=by
 unfold iI;rw[h]
theorem aDm{s:aC}{x:aS}{i:Nat}{t:iY}(hok:cT s x)(hi:i < s.aD.length)(h:(x.wt[i]?).join=some t):∃a,(iI s x i).2=some a∧(iI s x i).1.wt=x.wt.set i none:=by
 obtain⟨d,hd⟩:=get_some hi;obtain⟨p,hp⟩:=get_some (l:=x.dv) (i:=i) (by have:=hok.dv;omega);unfold iI;rw[h,hd,hp];dsimp only;split<;>exact⟨_,rfl,rfl⟩
theorem aQJ{s:aC}{x:aS}(hok:cT s x)(i j:Nat)(h:j=i∨(x.wt[j]?).join=none):((iI s x i).1.wt[j]?).join=none:=by
 cases hq:(x.wt[i]?).join with
 | none=>
  rw[aAA hq];rcases h with rfl | h
  ·exact hq
  ·exact h
 | some t =>
  have hlt:i < s.aD.length:=by
   have:=hok.wt
   rcases Nat.lt_or_ge i x.wt.length with h | h
   ·omega
   ·rw[List.getElem?_eq_none h] at hq;cases hq
  obtain⟨a,_,h2⟩:=aDm hok hlt hq;rw[h2];cases hj:((x.wt.set i none)[j]?).join with
  | none=>rfl
  | some t' =>
   have h3:=aB3 hj
   rcases h with rfl | h
   ·rw[List.getElem?_set] at hj;simp at hj;split at hj<;>cases hj
   ·rw[h] at h3;cases h3
theorem aHy{s:aC}{x:aS}(hok:cT s x)(mN:Eb s x):∀n j,j < n→((fO s x n).1.wt[j]?).join=none
 | 0,_,h=>absurd h (by omega)
 | n+1,j,h=>aQJ (Mf hok mN n).1 n j (by
  by_cases hj:j=n
  ·exact .inl hj
  ·exact .inr (aHy hok mN n j (by omega)))
theorem aHv{s:aC}{x:aS}(hok:cT s x)(mN:Eb s x)(i:Nat):oM (fO s x s.aD.length).1.wt i=0:=by
 have h:=(Mf hok mN s.aD.length).1.wt
 unfold oM;rcases Nat.lt_or_ge i s.aD.length with hi | hi
 ·rw[aHy hok mN _ i hi];rfl
 ·rw[List.getElem?_eq_none (by omega)];rfl
theorem aNw(L:HL)(s:aC)(x0:aS)(w:World)(hH:s.dJ)(aQ:fZ L s)(aC1:cT s x0)(aFI:Eb s x0)(bF:Int)(hd:0≤bF∧bF < 4294967296)(F:Nat→Prop)(hp:(dM L s x0).sat F w)(hF:∀b,F b→b < w.heap.size):
  Cz 94 #[.pointer (some ⟨L.h,0,none⟩),.int .u32 bF] w (fun y w'=>∃a:Option Addr×Nat,y=.returned (.slice a.1 (qE s x0 bF).2.length a.2)∧True∧∃F',(HP.many [dM L s (qE s x0 bF).1,HP.own 44 4 (.slice a.1 (qE s x0 bF).2.length a.2) (qE s x0 bF).2.length ((qE s x0 bF).2.flatMap gK.cells)]).sat F' w'∧iC w w' F F'):=by
 have rE:=hH.t.nv
 have hnd:=hH.t.nd
 have hls:=aQ.ds
 refine cS func94 ntmps94 hp hF ?_;generalize cN:(⟨w,fun b=>b < w.heap.size∧¬F b⟩:Piece)=R0;refine aA ?_;refine aU (fun w1 t=>Ay L s x0 w1 (t.mG 0 rfl aQ aC1)) ?_;refine aA ?_;refine kd (bH rfl (pJ 0 rfl rfl)) ?_;refine aA ?_;refine lU 44 4 ?_;refine bL [(24,iv 0),(23,iv s.aD.length),(5,sn),(0,.pointer (some ⟨L.h,0,none⟩)),(1,.int .u32 bF)] ?_;refine eV (fun m e R H=>∃(i:Nat) (A:Option Addr) (c:Nat),i≤s.aD.length∧m=s.aD.length - i∧e=[(24,iv i),(23,iv s.aD.length),(5,.slice A (fO s x0 i).2.length c),(0,.pointer (some ⟨L.h,0,none⟩)),(1,.int .u32 bF)]∧R=[R0]∧H=[HP.own 44 4 (.slice A (fO s x0 i).2.length c) (fO s x0 i).2.length ((fO s x0 i).2.flatMap gK.cells),dM L s (fO s x0 i).1]) s.aD.length ⟨0,none,0,by omega,rfl,rfl,rfl,rfl⟩ fun m e R H hI=>?_;obtain⟨i,A0,c0,hi,rfl,rfl,rfl,rfl⟩:=hI;obtain⟨Dc,aAa⟩:=Mf aC1 aFI i
 have hlen:=aAB (s:=s) (x:=x0) i
 refine aA ?_;refine aG rfl (fun hlt=>?_) (fun hge=>?_)
 ·have hlt:i < s.aD.length:=by omega
  have dB:fO s x0 (i+1)=((iI s (fO s x0 i).1 i).1,(fO s x0 i).2++(iI s (fO s x0 i).1 i).2.toList):=rfl
  generalize hr:fO s x0 i=r at Dc aAa hlen dB⊢;obtain⟨xi,l⟩:=r;dsimp only at Dc aAa hlen dB⊢;cases hj:(xi.wt[i]?).join with
  | none=>
   rw[aAA hj] at dB;refine aA ?_;refine aU (fun w1 t=>aN4 L s xi i hlt (by unfold oM;rw[hj];rfl) w1 (t.mG 1 rfl aQ Dc)) ?_;refine aA ?_;refine bX fun g1=>?_;refine aA ?_;refine aT [1,2] rfl (by decide) (fun _ h=>h) ?_;refine bL [(24,iv (i+1:Nat)),(23,iv s.aD.length),(5,.slice A0 l.length c0),(0,.pointer (some ⟨L.h,0,none⟩)),(1,.int .u32 bF)] ?_;exact gQ (s.aD.length - (i+1)) (by omega) ⟨i+1,A0,c0,hlt,rfl,by rw[dB];simp,rfl,by rw[dB];simp⟩
  | some t=>
   obtain⟨d,cY⟩:=get_some hlt;obtain⟨a,ha,_⟩:=aDm Dc hlt hj;obtain⟨Gg,Qz,Dz,Bq⟩:=a;rw[ha] at dB;refine aA ?_;refine Zv (v:=.tuple #[.agg #[iv Gg,iv Qz,.bool Dz,.int .u32 Bq],.bool true]) 1 (dM L s (iI s xi i).1) (fun w1 F1 st h1 h2 h3=>aN3 L s xi w1 hH aQ Dc aAa i d cY t hj _ ha F1 h1 h2) ?_;dsimp only[List.set];refine aA ?_;refine bX fun g1=>?_;refine aA ?_;refine eK fun g4=>?_;refine aA ?_;refine iF 2 4 24 1 (n':=l.length+1) (el:=44) (by kernel_rfl) (by kernel_rfl) (by decide) rfl rfl rfl (mM 0 rfl rfl) (by simp[Value.oneCell']) rfl (by omega) (by omega) (by decide) fun An cn=>?_;dsimp only[List.set];refine aA ?_;refine aT [2,3] rfl (by decide) (fun _ h=>h) ?_;refine bL [(24,iv (i+1:Nat)),(23,iv s.aD.length),(5,.slice An (l.length+1) cn),(0,.pointer (some ⟨L.h,0,none⟩)),(1,.int .u32 bF)] ?_;exact gQ (s.aD.length - (i+1)) (by omega) ⟨i+1,An,cn,hlt,rfl,by rw[dB];simp,rfl,by rw[dB];simp[gK.cells]⟩
 obtain rfl:i=s.aD.length:=by omega
 have mN:=aHv aC1 aFI
 have aC5:qE s x0 bF=(Sh s (fO s x0 s.aD.length).1 bF,(fO s x0 s.aD.length).2):=rfl
 generalize hr:fO s x0 s.aD.length=r at Dc aAa hlen mN aC5⊢;obtain⟨x,l⟩:=r;dsimp only at Dc mN hlen aC5⊢;rw[aC5]
 have hok:=Dc
 have lB:=hok.dv
 refine aT [1,0] rfl (by decide) (fun _ h=>h) ?_;generalize hT:HP.own 44 4 (.slice A0 l.length c0) l.length (l.flatMap gK.cells)=T;generalize hTv:Value.slice A0 l.length c0=tv;refine aA ?_;refine kd (bH rfl (pJ 0 rfl rfl)) ?_;refine aA ?_
 have Ic:Cq x bF 0=x.dv:=Og _ _
 refine bL [(44,iv 0),(43,iv s.aD.length),(42,.slice L.A s.aD.length L.c),(5,tv),(0,.pointer (some ⟨L.h,0,none⟩)),(1,.int .u32 bF)] ?_;refine eV (fun m e R H=>∃i:Nat,i≤s.aD.length∧m=s.aD.length - i∧e=[(44,iv i),(43,iv s.aD.length),(42,.slice L.A s.aD.length L.c),(5,tv),(0,.pointer (some ⟨L.h,0,none⟩)),(1,.int .u32 bF)]∧R=[R0]∧H=[dM L s {x with dv:=Cq x bF i},T]) s.aD.length ⟨0,by omega,rfl,rfl,rfl,by rw[Ic]⟩ fun m e R H hI=>?_;obtain⟨i,hi,rfl,rfl,rfl,rfl⟩:=hI
 have mQ:=aBX hH hok bF i
 refine aA ?_;refine aG rfl (fun hlt=>?_) (fun hge=>?_)
 ·have hlt:i < s.aD.length:=by omega
  obtain⟨d,cY⟩:=get_some hlt;obtain⟨l,iA⟩:=get_some (l:=L.ds) (i:=i) (by omega);obtain⟨p,gE⟩:=get_some (l:=x.dv) (i:=i) (by omega)
  have kQ:(Cq x bF i)[i]? =some p:=Oi gE
  have hstep:(Cq x bF i).set i (p.1,yE p.2 (decide (0 < oM x.wt i)) (Wj bF i))=Cq x bF (i+1):=Oh (f:=fun i p=>(p.1,yE p.2 (decide (0 < oM x.wt i)) (Wj bF i))) gE
  have hw0:decide (0 < oM x.wt i)=false:=by rw[mN i];rfl
  rw[hw0] at hstep;refine Mj 0 rfl aQ mQ (by omega) fun b off hA=>?_;refine aA ?_;refine kd (dat i (off+i*6) (hx:=by rw[←hA];rfl)) ?_;refine kd (kB rfl (aO.dev 0 rfl aQ mQ hA cY iA rfl)) ?_;refine bX fun g1=>?_;refine aA ?_;refine iX [0,1,3,4,5,11,12,13] ?_;refine bJ 2 ?_;refine bJ 6 ?_;refine bJ 9 ?_;refine bJ 10 ?_;refine aK 0 ?_;refine aK 1 ?_;refine aK 3 ?_;refine aK 4 ?_;refine aK 5 ?_ (cM:=bH rfl (pJ 1 rfl rfl));refine aK 11 ?_ (cM:=aGL rfl rfl (c:=bF.fdiv (2 ^ min i 32)) (by omega) rfl);refine aK 12 ?_ (cM:=aGS (c:=aAC (bF.fdiv (2 ^ min i 32)) 1) rfl rfl (fun _=>rfl) (by simp));refine aK 13 ?_;refine aL 7 ?_;refine aU (fun w1 t=>aHl L.B (jS s) x.wt x.bB i (by rw[Ev];exact hlt) w1 (t.mG 1 rfl aQ mQ).bus) ?_;refine aZ ?_;refine aL 8 ?_;refine bE ?_;refine aZ ?_;refine aL 14 ?_;refine Rf 1 i rfl cY iA kQ ?_;dsimp only[List.set];refine aV 0 1 ?_;refine bU 0 (tF l.2 (yE p.2 (decide ((oM x.wt i:Int)>0)) (Wj bF i))) (fun w1 F1 t h1 h2 h3=>aLi _ _ h1 h2) ?_;refine aJ 0 1 ?_;refine Rm 1 i rfl cY iA kQ (p':=(p.1,yE p.2 (decide ((oM x.wt i:Int)>0)) (Wj bF i))) ?_;dsimp only[List.set]
  have hw1:decide ((oM x.wt i:Int)>0)=false:=by rw[mN i];rfl
  rw[hw1,hstep];refine cE ?_;refine dW ?_;refine aA ?_;refine aT [1,2] rfl (by decide) (fun _ h=>h) ?_;exact eP (s.aD.length - (i+1)) ⟨i+1,hlt,rfl,rfl,rfl,rfl⟩
 obtain rfl:i=s.aD.length:=by omega
 have aC0:=aBX hH hok bF s.aD.length
 generalize Df:Cq x bF s.aD.length=Bl at aC0⊢;refine aA ?_;refine kd (bH rfl (pJ 0 rfl rfl)) ?_;refine aA ?_;refine aV 0 1 ?_;refine bU 0 (pF L.T s (mL s x.ck)) (fun w1 F1 t h1 h2 h3=>aPK L.T s x.ck hH aQ.fa hok.ck w1 F1 h1 h2) ?_;refine aJ 0 1 ?_
 change XK _ _ _ _ _ [dM L s {x with ck:=mL s x.ck,dv:=Bl},T]
 refine aA ?_;refine kd (bH rfl (pJ 0 rfl rfl)) ?_;refine aA ?_;refine aV 0 2 ?_;refine vU (α:=Option Addr×Nat) 0 (f:=155) (fi:=[]) (ca:=[]) (fun a=>.slice a.1 (kR x.dm s.domains.length).length a.2) (fun a=>HP.many [uP L.G s (pM x.dm),HP.own 242 2 (.slice a.1 (kR x.dm s.domains.length).length a.2) (kR x.dm s.domains.length).length ((kR x.dm s.domains.length).flatMap Dn)]) (fun _=>True) (by kernel_rfl) rfl rfl rfl (by decide) (fun w1 F1 t h1 h2 h3=>aLs L.G s x.dm hok.dm (by omega) w1 F1 h1 h2) ?_;rintro⟨Ae,ce⟩ _;dsimp only[List.set];refine aV 0 0 ?_;refine aJ 1 2 ?_;refine aV 0 1 ?_;refine dF [] [0] [2,3] (by simp) rfl (by decide) (by decide) fun q hq _ hfr=>?_;obtain⟨F2,wJ,vQ⟩:=hq 0 _ (by simp) rfl
 have Va:aI q 2 Ae (kR x.dm s.domains.length).length ((kR x.dm s.domains.length).flatMap Dn):=aI.own ⟨F2,wJ,vQ⟩
 have mR:cT s {x with ck:=mL s x.ck,dm:=pM x.dm,dv:=Bl}:=⟨aBy hH hok.ck,aBx hok.dm,hok.ln,aC0.dv,aC0.each,hok.wt⟩
 have hel:(kR x.dm s.domains.length).length≤1000:=Nat.le_trans (aG9 x.dm s.domains.length) (by omega)
 generalize hes:kR x.dm s.domains.length=es at Va hel⊢
 change XK _ _ _ _ _ [dM L s {x with ck:=mL s x.ck,dm:=pM x.dm,dv:=Bl},T]
 refine aA ?_;refine bL [(76,iv 0),(75,iv es.length),(74,.slice Ae es.length ce),(5,tv),(0,.pointer (some ⟨L.h,0,none⟩))] ?_;refine eV (fun m e R H=>∃j:Nat,j≤es.length∧m=es.length - j∧e=[(76,iv j),(75,iv es.length),(74,.slice Ae es.length ce),(5,tv),(0,.pointer (some ⟨L.h,0,none⟩))]∧R=[q,R0]∧H=[dM L s {x with ck:=mL s x.ck,dm:=pM x.dm,dv:=(es.take j).foldl (uG s) Bl},T]) es.length ⟨0,by omega,rfl,rfl,rfl,rfl⟩ fun m e R H hI=>?_;obtain⟨j,hj,rfl,rfl,rfl,rfl⟩:=hI
 have Pe:cT s {x with ck:=mL s x.ck,dm:=pM x.dm,dv:=(es.take j).foldl (uG s) Bl}:=aCL hH (es.take j) _ mR
 refine aA ?_;refine aG rfl (fun hlt=>?_) (fun hge=>?_)
 ·have hlt:j < es.length:=by omega
  obtain⟨p,gE⟩:=get_some hlt
  have dB:(es.take (j+1)).foldl (uG s) Bl=uG s ((es.take j).foldl (uG s) Bl) p:=by
   rw[List.take_add_one,gE,List.foldl_append];rfl
  generalize hx3:({x with ck:=mL s x.ck,dm:=pM x.dm,dv:=(es.take j).foldl (uG s) Bl}:aS)=x3 at Pe
  have hx4:({x with ck:=mL s x.ck,dm:=pM x.dm,dv:=(es.take (j+1)).foldl (uG s) Bl}:aS)={x3 with dv:=uG s x3.dv p}:=by rw[dB,←hx3]
  have aSn:=Pe.dv
  obtain⟨be,aLO,hAe,hrd⟩:=aRU (w0:=w) (R:=[q,R0]) (H:=[dM L s x3,T]) (by simp) Va gE;obtain⟨kn,dm⟩:=p;refine aA ?_;refine kd (dat j (aLO+j*2) (hx:=by rw[←hAe];rfl)) ?_;refine kd (kB rfl hrd) ?_;refine bX fun g1=>?_;refine aA ?_;refine aU (fun w1 t=>aN1 kn w1) ?_
  by_cases hk:kn=115∨kn=114∨kn=108∨kn=110
  ·obtain⟨f,aC6,hcb,yO⟩:=aPz hk;rw[aC6];refine aA ?_;refine kd (aGR rfl (.inr ⟨⟨_,_,_,rfl⟩,rfl⟩)) ?_;refine aA ?_;refine kd (bH rfl (pJ 1 rfl rfl)) ?_;refine aA ?_
   have hm0:Cr s x3.dv (kn,dm) 0=x3.dv:=Og _ _
   refine bL [(90,iv 0),(89,iv s.aD.length),(88,.slice L.A s.aD.length L.c),(13,.func (.func f) #[] #[]),(12,pt g1),(76,iv j),(75,iv es.length),(74,.slice Ae es.length ce),(5,tv),(0,.pointer (some ⟨L.h,0,none⟩))] ?_;refine eV (fun m e R H=>∃i:Nat,i≤s.aD.length∧m=s.aD.length - i∧e=[(90,iv i),(89,iv s.aD.length),(88,.slice L.A s.aD.length L.c),(13,.func (.func f) #[] #[]),(12,pt g1),(76,iv j),(75,iv es.length),(74,.slice Ae es.length ce),(5,tv),(0,.pointer (some ⟨L.h,0,none⟩))]∧R=[q,R0]∧H=[HP.aE g1 242 [.int .u8 kn,iv (dm:Int)],dM L s {x3 with dv:=Cr s x3.dv (kn,dm) i},T]) s.aD.length ⟨0,by omega,rfl,rfl,rfl,by rw[hm0];rfl⟩ fun m e R H hI=>?_;obtain⟨i,hi,rfl,rfl,rfl,rfl⟩:=hI
   have mQ:=aF1 hH Pe (kn,dm) i
   refine aA ?_;refine aG rfl (fun hlt=>?_) (fun hge=>?_)
   ·have hlt:i < s.aD.length:=by omega
    obtain⟨d,cY⟩:=get_some hlt;obtain⟨l,iA⟩:=get_some (l:=L.ds) (i:=i) (by omega);obtain⟨p,gE⟩:=get_some (l:=x3.dv) (i:=i) (by omega)
    have kQ:(Cr s x3.dv (kn,dm) i)[i]? =some p:=Oi gE
    have hstep:(Cr s x3.dv (kn,dm) i).set i (Gb s (kn,dm) i p)=Cr s x3.dv (kn,dm) (i+1):=Oh (f:=Gb s (kn,dm)) gE
    have hfo:=(mQ.each i d p cY kQ).1
    refine Mj 1 rfl aQ mQ (by omega) fun b off hA=>?_;refine aA ?_;refine kd (dat i (off+i*6) (hx:=by rw[←hA];rfl)) ?_;refine kd (kB rfl (aO.dev 1 rfl aQ mQ hA cY iA rfl)) ?_;refine bX fun g2=>?_;refine aA ?_;refine aG rfl (fun he=>?_) (fun he=>?_)
    ·have nB:Gb s (kn,dm) i p=(Ga kn d p.1,p.2):=by
      unfold Gb;rw[cY];exact if_pos he
     refine aA ?_;refine Rf 2 i rfl cY iA kQ ?_;dsimp only[List.set];refine aV 0 0 ?_;refine Zu 0 (fi:=[]) (ca:=[]) (gR l.1 d (Ga kn d p.1)) (fun w1 F1 t h1 h2 h3=>by simpa using yO l.1 d p.1 (by have:=(hH.t.aD i d cY).2.2.2.2.2.2.2.2.1;omega) hfo w1 F1 h1 h2) ?_ (hf:=hcb);dsimp only[List.set];refine aJ 0 0 ?_;refine Rm 2 i rfl cY iA kQ (p':=(Ga kn d p.1,p.2)) ?_;dsimp only[List.set];rw[←nB,hstep];refine aA ?_;refine aT [1,2,3] rfl (by decide) (fun _ h=>h) ?_;exact eP (s.aD.length - (i+1)) ⟨i+1,hlt,rfl,rfl,rfl,rfl⟩
    ·have nB:Gb s (kn,dm) i p=p:=by
      unfold Gb;rw[cY];exact if_neg he
     rw[nB,wK kQ] at hstep;rw[hstep];refine aA ?_;refine aT [1,2,3] rfl (by decide) (fun _ h=>h) ?_;exact eP (s.aD.length - (i+1)) ⟨i+1,hlt,rfl,rfl,rfl,rfl⟩
   obtain rfl:i=s.aD.length:=by omega
   refine aA ?_;refine aT [1,2] rfl (by decide) (fun _ h=>h) ?_;refine bL [(76,iv (j+1:Nat)),(75,iv es.length),(74,.slice Ae es.length ce),(5,tv),(0,.pointer (some ⟨L.h,0,none⟩))] ?_;exact gQ (es.length - (j+1)) (by omega) ⟨j+1,by omega,rfl,rfl,rfl,by rw[hx4];rfl⟩
  ·have aC6:Fz kn=.nilFunc:=by
    rw[Fz,if_neg (by omega),if_neg (by omega),if_neg (by omega)]
   rw[aC6];refine aA ?_;refine kd (aGR rfl (.inl ⟨rfl,rfl⟩)) ?_;refine aA ?_;refine aT [1,2] rfl (by decide) (fun _ h=>h) ?_;refine bL [(76,iv (j+1:Nat)),(75,iv es.length),(74,.slice Ae es.length ce),(5,tv),(0,.pointer (some ⟨L.h,0,none⟩))] ?_;exact gQ (es.length - (j+1)) (by omega) ⟨j+1,by omega,rfl,rfl,rfl,by rw[hx4,aMk hk,←hx3]⟩
 obtain rfl:j=es.length:=by omega
 rw[List.take_length];refine aA ?_;refine kd (bH rfl (pJ 0 rfl rfl)) ?_;refine aA ?_;refine aV 0 3 ?_;refine vU (α:=Option Addr×Nat×Nat) 0 (f:=157) (fi:=[]) (ca:=[]) (fun a=>.slice a.1 a.2.1 a.2.2) (fun _=>oL L.R s (He x.ln)) (fun _=>True) (by kernel_rfl) rfl rfl rfl (by decide) (fun w1 F1 t h1 h2 h3=>aKw L.R s x.ln hH hok.ln w1 F1 h1 h2) ?_;rintro _ _;dsimp only[List.set];refine aJ 0 3 ?_
 change XK _ _ _ _ _ [dM L s {x with ck:=mL s x.ck,dm:=pM x.dm,ln:=He x.ln,dv:=es.foldl (uG s) Bl},T]
 have vE:({x with ck:=mL s x.ck,dm:=pM x.dm,ln:=He x.ln,dv:=es.foldl (uG s) Bl}:aS)=Sh s x bF:=by rw[Sh,Df,hes]
 rw[vE];refine aA ?_;subst cN;subst hT;subst hTv;refine mU ?_;exact mI rfl rfl fun w1 t=>⟨(A0,c0),rfl,trivial,t.turns hF (by simp) (i:=0) rfl⟩
end
section
structure kL where
 z:bM
 y:cI
 x:aS
def kL.start(m:kL)(t k d r v:Int):kL:=⟨(wG m.z t k d r v).2,m.y,m.x⟩
def kL.done(m:kL)(t:Int):kL:=⟨(pY m.z t).2,m.y,m.x⟩
def kL.step(s:aC)(m:kL)(t:Int):kL:=⟨(Ci s m.z m.y m.x t).1,(Ci s m.z m.y m.x t).2.1,(Ci s m.z m.y m.x t).2.2⟩
def kL.dZ(s:aC)(m:kL):kL:=⟨m.z,(tN s m.x m.y).1,(tN s m.x m.y).2⟩
def kL.tick(s:aC)(m:kL)(bF:Int):kL:=⟨sY m.z (qE s m.x bF).2,m.y,(qE s m.x bF).1⟩
structure iJ(s:aC)(n:Nat)(m:kL):Prop where
 zV:oK s m.z
 fw:nI s m.y
 hw:cT s m.x
 wt:Eb s m.x
 po:0≤m.x.bB∧m.x.bB≤n
 w0:m.z.bB=false→∀i:Nat,(m.x.wt[i]?).join=none
 w1:m.z.bB=true→∃(i:Nat) (t:iY),i < s.aD.length∧(m.x.wt[i]?).join=some t∧t.id=m.z.id∧∀k:Nat,k≠i→(m.x.wt[k]?).join=none
section
variable{s:aC}{n:Nat}{m:kL}
theorem iJ.le{k:Nat}(h:iJ s n m)(hk:n≤k):iJ s k m:=⟨h.zV,h.fw,h.hw,h.wt,by have:=h.po;omega,h.w0,h.w1⟩
theorem iJ.start(h:iJ s n m)(t k d r v:Int)(hv:0≤v∧v < 4294967296):iJ s n (m.start t k d r v):=by
 obtain⟨h1,h2,h3⟩:=aJJ h.zV t k d r v hv;refine⟨h1,h.fw,h.hw,h.wt,h.po,fun hp=>h.w0 (h2.symm.trans hp),fun hp=>?_⟩
 have h4:=h.w1 (h2.symm.trans hp)
 rwa [←h3] at h4
theorem iJ.done(h:iJ s n m)(t:Int):iJ s n (m.done t):=by
 obtain⟨h1,h2,h3⟩:=aOL h.zV t;refine⟨h1,h.fw,h.hw,h.wt,h.po,fun hp=>h.w0 (h2.symm.trans hp),fun hp=>?_⟩
 have h4:=h.w1 (h2.symm.trans hp)
 rwa [←h3] at h4
theorem iJ.dZ(hm:s.made)(h:iJ s n m):iJ s n (m.dZ s):=by
 obtain⟨h1,h2,h3,h4⟩:=h.fw.next hm.dJ h.hw;refine⟨h.zV,h1,h2,fun i d t hd ht=>h.wt i d t hd (by rw[←h3];exact ht),by rw[show(m.dZ s).x.bB=m.x.bB from h4];exact h.po,fun hp i=>?_,fun hp=>?_⟩
 ·show((tN s m.x m.y).2.wt[i]?).join=none
  rw[h3];exact h.w0 hp i
 ·show ∃i t,i < s.aD.length∧((tN s m.x m.y).2.wt[i]?).join=some t∧t.id=m.z.id∧∀k:Nat,k≠i→((tN s m.x m.y).2.wt[k]?).join=none
  rw[h3];exact h.w1 hp
theorem iJ.idle(h:iJ s n m)(hp:m.z.bB=false)(hn:n≤1000000000):HwP s m.x:=⟨h.hw,h.w0 hp,by have:=h.po;omega⟩
theorem iJ.free(h:iJ s n m)(hh:m.z.fA < 0):m.z.bB=false:=by
 rcases h.zV.fA with⟨_,_,h1,_⟩ | ⟨i,_,h1,_⟩
 ·exact h1
 ·omega
theorem iJ.step(hm:s.made)(h:iJ s n m)(t:Int):iJ s (n+1) (m.step s t):=by
 have same:iJ s (n+1) ⟨m.z,m.y,m.x⟩:=h.le (by omega)
 unfold kL.step Ci;split
 ·exact same
 ·rename_i hin
  obtain⟨j,rfl,hj⟩:=Hz (t:=t) (by simpa using hin);rw[Int.toNat_natCast];split
  ·split
   ·rename_i hh
    have hp:=h.free hh
    have hw0:=h.w0 hp
    obtain⟨h1,h2,h3,h4⟩:=aQ3 hm h.zV hh m.x hj;dsimp only;generalize uJ s m.x m.z j=r at h1 h3 h4;obtain⟨z',x'⟩:=r;dsimp only at h1 h3 h4⊢;cases hp':z'.bB with
    | false=>
     cases h3 hp';exact⟨h1,h.fw,h.hw,h.wt,by have:=h.po;dsimp only;omega,fun _=>hw0,fun hc=>by dsimp only at hc;rw[hp'] at hc;cases hc⟩
    | true =>
     obtain⟨d,wr,rg,v,dv,Df,r0,r1,v0,v1,hid,rfl⟩:=h4 hp'
     have hlt:=(List.getElem?_eq_some_iff.1 Df).1
     have wR:=h.hw.wt
     have dV:∀k:Nat,(((m.x.wt.set d (some ⟨m.x.bB,wr,rg,v⟩))[k]?).join)=if k=d then some ⟨m.x.bB,wr,rg,v⟩ else none:=fun k=>by
      rw[List.getElem?_set]
      by_cases e:d=k
      ·subst e;rw[if_pos rfl,if_pos (by omega),if_pos rfl];rfl
      ·rw[if_neg e,if_neg (fun hh=>e hh.symm)];exact hw0 k
     refine⟨h1,h.fw,aBk h.hw d _ _,fun i e t he ht=>?_,?_,fun hc=>?_,fun _=>⟨d,⟨m.x.bB,wr,rg,v⟩,hlt,?_,hid.symm,fun k hk=>?_⟩⟩
     ·have nV:((m.x.wt.set d (some ⟨m.x.bB,wr,rg,v⟩))[i]?).join=some t:=ht
      rw[dV] at nV
      by_cases e1:i=d
      ·rw[if_pos e1] at nV;cases nV;rw[e1,Df] at he;cases he;exact⟨r0,r1,v0,v1⟩
      ·rw[if_neg e1] at nV;cases nV
     ·have:=h.po
      show 0≤m.x.bB+1∧m.x.bB+1≤((n+1:Nat):Int)
      omega
     ·dsimp only at hc;rw[hp'] at hc;cases hc
     ·show((m.x.wt.set d (some ⟨m.x.bB,wr,rg,v⟩))[d]?).join=_
      rw[dV,if_pos rfl]
     ·show((m.x.wt.set d (some ⟨m.x.bB,wr,rg,v⟩))[k]?).join=_
      rw[dV,if_neg hk]
   ·exact same
  ·split
   ·rename_i hst
    split
    ·rename_i hp
     obtain⟨h1,h2,h3⟩:=aRb h.zV h.fw hj hst hp;exact⟨h1,h2,h.hw,h.wt,by have:=h.po;dsimp only;omega,fun _=>h.w0 hp,fun hc=>by dsimp only at hc;rw[h3] at hc;cases hc⟩
    ·exact same
   ·exact same
theorem aDn{x:aS}:∀n:Nat,(∀k,k < n→(x.wt[k]?).join=none)→fO s x n=(x,[])
 | 0,_=>rfl
 | n+1,h=>by
  have ih:=aDn n fun k hk=>h k (by omega)
  have hx:=aAA (s:=s) (h n (by omega))
  show((iI s (fO s x n).1 n).1,(fO s x n).2++(iI s (fO s x n).1 n).2.toList)=_
  rw[ih];dsimp only;rw[hx];rfl
theorem aQL{x:aS}(hok:cT s x){i:Nat}{t:iY}(hi:i < s.aD.length)(ht:(x.wt[i]?).join=some t)(ho:∀k:Nat,k≠i→(x.wt[k]?).join=none):
  ∃a,(iI s x i).2=some a∧a.id=t.id∧a.dev=i∧∀d,fO s x (i+1+d)=((iI s x i).1,[a]):=by
 obtain⟨a,ha,mN⟩:=aDm hok hi ht;refine⟨a,ha,?_,?_,fun d=>?_⟩
 ·obtain⟨d,hd⟩:=get_some hi;obtain⟨p,hp⟩:=get_some (l:=x.dv) (i:=i) (by have:=hok.dv;omega);unfold iI at ha;rw[ht,hd,hp] at ha;dsimp only at ha;split at ha<;>cases ha<;>rfl
 ·obtain⟨d,hd⟩:=get_some hi;obtain⟨p,hp⟩:=get_some (l:=x.dv) (i:=i) (by have:=hok.dv;omega);unfold iI at ha;rw[ht,hd,hp] at ha;dsimp only at ha;split at ha<;>cases ha<;>rfl
 ·induction d with
  | zero=>
   show((iI s (fO s x i).1 i).1,(fO s x i).2++(iI s (fO s x i).1 i).2.toList)=_
   rw[aDn i fun k hk=>ho k (by omega)];dsimp only;rw[ha];rfl
  | succ d ih =>
   show((iI s (fO s x (i+1+d)).1 (i+1+d)).1,(fO s x (i+1+d)).2++(iI s (fO s x (i+1+d)).1 (i+1+d)).2.toList)=_
   rw[ih];dsimp only
   have hx:iI s (iI s x i).1 (i+1+d)=((iI s x i).1,none):=aAA (by
    rw[mN,List.getElem?_set,if_neg (by omega)]
    exact ho _ (by omega))
   rw[hx];rfl
theorem iJ.ans(h:iJ s n m)(bF:Int):(m.z.bB=false→(qE s m.x bF).2=[])∧(m.z.bB=true→∃a,(qE s m.x bF).2=[a]∧a.id=m.z.id):=by
 refine⟨fun hp=>?_,fun hp=>?_⟩
 ·show(fO s m.x s.aD.length).2=[]
  rw[aDn _ fun k _=>h.w0 hp k]
 ·obtain⟨i,t,hi,ht,hid,ho⟩:=h.w1 hp;obtain⟨a,_,ha,_,hn⟩:=aQL h.hw hi ht ho;obtain⟨d,hd⟩:∃d,s.aD.length=i+1+d:=⟨s.aD.length - (i+1),by omega⟩
  refine⟨a,?_,ha.trans hid⟩
  show(fO s m.x s.aD.length).2=[a]
  rw[hd,hn d]
theorem iJ.aJ5(h:iJ s n m)(bF:Int):(m.tick s bF).z.bB=false:=by
 obtain⟨h1,h2⟩:=h.ans bF
 show(sY m.z (qE s m.x bF).2).bB=false
 cases hp:m.z.bB with
 | false=>rw[h1 hp];exact hp
 | true=>
  obtain⟨a,h3,h4⟩:=h2 hp;rw[h3]
  show(Dy m.z a).bB=false
  unfold Dy;rw[if_neg (by rw[hp];simp),if_neg (fun hc=>hc h4)];split<;>rfl
theorem aQH(s:aC)(x:aS)(i:Nat):(iI s x i).1.bB=x.bB:=by
 unfold iI;split
 ·split<;>rfl
 ·rfl
theorem aHx(s:aC)(x:aS):∀n,(fO s x n).1.bB=x.bB
 | 0=>rfl
 | n+1=>(aQH s _ n).trans (aHx s x n)
theorem iJ.tick(hm:s.made)(h:iJ s n m)(bF:Int):iJ s n (m.tick s bF):=by
 obtain⟨a1,a2⟩:=Mf h.hw h.wt s.aD.length
 have hz:∀i:Nat,(((m.tick s bF).x.wt)[i]?).join=none:=fun i=>by
  have:=aHv h.hw h.wt i
  show((fO s m.x s.aD.length).1.wt[i]?).join=none
  unfold oM at this;cases hh:((fO s m.x s.aD.length).1.wt[i]?).join with
  | none=>rfl
  | some t=>rw[hh] at this;simp at this
 refine⟨aH0 _ h.zV,h.fw,aJ3 hm.dJ a1 bF,(fun i d t _ ht=>by rw[hz i] at ht;cases ht),?_,fun _=>hz,fun hp=>by rw[h.aJ5 bF] at hp;cases hp⟩
 show 0≤(fO s m.x s.aD.length).1.bB∧(fO s m.x s.aD.length).1.bB≤n
 rw[aHx];exact h.po
end
def aF8(s:aC):kL:=⟨Ta s,sP s,hw0 s⟩
theorem aMC{s:aC}(hm:s.made):iJ s 0 (aF8 s):=by
 have hx:=aMS hm.dJ
 have hw:∀i:Nat,((hw0 s).wt[i]?).join=none:=fun i=>by
  show((s.aD.map fun _=>(none:Option iY))[i]?).join=none
  rw[List.getElem?_map];cases s.aD[i]? <;>rfl
 exact⟨aK7,aOm hm.qH,hx,(fun i d t _ ht=>by
  have:=(hw i).symm.trans ht
  cases this),⟨Int.le_refl 0,Int.le_refl 0⟩,fun _=>hw,fun hp=>by cases hp⟩
theorem Vp{P:Program}{fn:FuncId}{args:Array Value}{w:World}{ps:List HP}(i:Nat){p p':HP}{v:Value}{F:Nat→Prop}(hi:ps[i]? =some p)(h:∀F0,p.sat F0 w→(∀b,F0 b→b < w.heap.size)→(∀b,F0 b→F b)→Calls P fn args w fun y w'=>y=.returned v∧∃F',p'.sat F' w'∧iC w w' F0 F')
  (hp:(HP.many ps).sat F w) (hF:∀b,F b→b < w.heap.size):Calls P fn args w fun y w'=>y=.returned v∧∃F',(HP.many (ps.set i p')).sat F' w'∧iC w w' F F':=by
 obtain⟨G,g1,g2,g3⟩:=hp
 have hlt:=(List.getElem?_eq_some_iff.1 hi).1
 refine(h (G i) (g1 i p hi) (fun b hb=>hF b (g2 i b hb)) (g2 i)).mono fun y w' ⟨hy,F',h1,ht⟩=>⟨hy,fun b=>F' b∨∃k,k≠i∧k < ps.length∧G k b,⟨fun k=>if k=i then F' else fun b=>k < ps.length∧G k b,fun k r hr=>?_,fun k b hb=>?_,fun j k b kG hj hk=>?_⟩,⟨ht.os,ht.tape,ht.output,ht.size,fun b hb=>?_,fun b hb hn=>?_⟩⟩
 ·by_cases e:i=k
  ·subst e;rw[List.getElem?_set_self hlt] at hr;cases hr
   simpa using h1
  ·rw[List.getElem?_set_ne e] at hr
   have hk:=(List.getElem?_eq_some_iff.1 hr).1
   simp only[if_neg (Ne.symm e)];rw[show(fun b=>k < ps.length∧G k b)=G k by funext b;simp[hk]];exact r.loc _ _ _ (g1 k r hr) fun b hb=>ht.old b (hF b (g2 k b hb)) fun h0=>g3 i k b e h0 hb
 ·dsimp only at hb;split at hb
  ·exact .inl hb
  ·exact .inr ⟨k,by assumption,hb.1,hb.2⟩
 ·have key:∀k b,k≠i→F' b→G k b→False:=fun k b hki h0 h2=>by
   rcases(ht.new b h0).1 with h3 | h3
   ·exact g3 i k b (Ne.symm hki) h3 h2
   ·have:=hF b (g2 k b h2)
    omega
  dsimp only at hj hk;split at hj<;>split at hk
  ·rename_i e1 e2;exact kG (e1.trans e2.symm)
  ·rename_i e1 e2;exact key k b e2 hj hk.2
  ·rename_i e1 e2;exact key j b e1 hk hj.2
  ·exact g3 j k b kG hj.2 hk.2
 ·rcases hb with hb | ⟨k,_,_,hb⟩
  ·refine⟨?_,(ht.new b hb).2⟩;rcases(ht.new b hb).1 with h3 | h3
   ·exact .inl (g2 i b h3)
   ·exact .inr h3
  ·exact⟨.inl (g2 k b hb),Nat.lt_of_lt_of_le (hF b (g2 k b hb)) ht.size⟩
 ·exact ht.old b hb fun h0=>hn (g2 i b h0)
theorem aM4{a b c:HP}{F:Nat→Prop}{w:World}(h:(HP.many [a,b,c]).sat F w):(HP.many [a,HP.many [b,c]]).sat F w:=by
 obtain⟨G,g1,g2,g3⟩:=h
 have h1:=g1 1 b rfl
 have h2:=g1 2 c rfl
 have key:∀k,k < 3→(fun b=>k < 3∧G k b)=G k:=fun k hk=>by funext b;simp[hk]
 refine⟨fun i=>match i with | 0=>G 0 | 1=>fun b=>G 1 b∨G 2 b | _=>fun _=>False,fun i p hi=>?_,fun i b hb=>?_,fun i j b hij hi hj=>?_⟩
 ·match i,hi with
  | 0,hi=>cases hi;exact g1 0 _ rfl
  | 1, hi =>
   cases hi;refine⟨fun i=>match i with | 0=>G 1 | 1=>G 2 | _=>fun _=>False,fun i p hi=>?_,fun i b hb=>?_,fun i j b hij hi hj=>?_⟩
   ·match i,hi with
    | 0,hi=>cases hi;exact h1
    | 1,hi=>cases hi;exact h2
    | i+2,hi=>simp at hi
   ·match i,hb with
    | 0,hb=>exact .inl hb
    | 1,hb=>exact .inr hb
    | i+2,hb=>exact hb.elim
   ·match i,j,hi,hj with
    | 0,0,_,_=>exact absurd rfl hij
    | 0,1,hi,hj=>exact g3 1 2 b (by decide) hi hj
    | 1,0,hi,hj=>exact g3 2 1 b (by decide) hi hj
    | 1,1,_,_=>exact absurd rfl hij
    | i+2,_,hi,_=>exact hi.elim
    | _,j+2,_,hj=>exact hj.elim
  | i+2,hi=>simp at hi
 ·match i,hb with
  | 0,hb=>exact g2 0 b hb
  | 1,hb=>rcases hb with hb | hb<;>exact g2 _ b hb
  | i+2,hb=>exact hb.elim
 ·match i,j,hi,hj with
  | 0,0,_,_=>exact absurd rfl hij
  | 0,1,hi,hj=>rcases hj with hj | hj<;>exact g3 _ _ b (by decide) hi hj
  | 1,0,hi,hj=>rcases hi with hi | hi<;>exact g3 _ _ b (by decide) hi hj
  | 1,1,_,_=>exact absurd rfl hij
  | i+2,_,hi,_=>exact hi.elim
  | _,j+2,_,hj=>exact hj.elim
theorem aM3{a b c:HP}{F:Nat→Prop}{w:World}(h:(HP.many [a,HP.many [b,c]]).sat F w):(HP.many [a,b,c]).sat F w:=by
 obtain⟨G,g1,g2,g3⟩:=h;obtain⟨I,i1,i2,i3⟩:=g1 1 _ rfl;refine⟨fun i=>match i with | 0=>G 0 | 1=>I 0 | 2=>I 1 | _=>fun _=>False,fun i p hi=>?_,fun i b hb=>?_,fun i j b hij hi hj=>?_⟩
 ·match i,hi with
  | 0,hi=>cases hi;exact g1 0 _ rfl
  | 1,hi=>cases hi;exact i1 0 _ rfl
  | 2,hi=>cases hi;exact i1 1 _ rfl
  | i+3,hi=>simp at hi
 ·match i,hb with
  | 0,hb=>exact g2 0 b hb
  | 1,hb=>exact g2 1 b (i2 0 b hb)
  | 2,hb=>exact g2 1 b (i2 1 b hb)
  | i+3,hb=>exact hb.elim
 ·match i,j,hi,hj with
  | 0,0,_,_ | 1,1,_,_ | 2,2,_,_=>exact absurd rfl hij
  | 0,1,hi,hj=>exact g3 0 1 b (by decide) hi (i2 0 b hj)
  | 0,2,hi,hj=>exact g3 0 1 b (by decide) hi (i2 1 b hj)
  | 1,0,hi,hj=>exact g3 0 1 b (by decide) hj (i2 0 b hi)
  | 2,0,hi,hj=>exact g3 0 1 b (by decide) hj (i2 1 b hi)
  | 1,2,hi,hj=>exact i3 0 1 b (by decide) hi hj
  | 2,1,hi,hj=>exact i3 0 1 b (by decide) hj hi
  | i+3,_,hi,_=>exact hi.elim
  | _,j+3,_,hj=>exact hj.elim
def jK(g f:Nat)(hL:HL)(s:aC)(m:kL):HP:=aBb g f hL s m.z m.y m.x
def aHV(g f:Nat)(hL:HL)(s:aC)(m:kL)(l:List gK)(a:Option Addr×Nat):HP:=HP.many [jK g f hL s m,HP.own 44 4 (.slice a.1 l.length a.2) l.length (l.flatMap gK.cells)]
theorem St.mac{w0 w:World}{R:List Piece}{H:List HP}{g f:Nat}{hL:HL}{s:aC}{m:kL}(t:St w0 R H w)(i:Nat)(hi:H[i]? =some (jK g f hL s m)):∃L,Xo w g hL.h f L s m.z:=by
 obtain⟨F,h1,h2,_⟩:=t.chunk hi;obtain⟨G,g1,g2,_⟩:=h1;obtain⟨L,hL⟩:=g1 0 _ rfl;exact⟨L,aIf hL fun b hb=>h2 b (g2 0 b hb)⟩
section
variable(g f:Nat)(hL:HL)(s:aC)(n:Nat)(m:kL)(w:World)(F:Nat→Prop)
theorem aMv(t k d r v:Int)(hp:(jK g f hL s m).sat F w)(hF:∀b,F b→b < w.heap.size):
  Cz 85 #[pt g,iv t,.agg #[.int .u8 k,iv d,iv r,.int .u32 v]] w (Wr (iv (wG m.z t k d r v).1) (jK g f hL s (m.start t k d r v)) w F):=
 Vp 0 rfl (fun F0 h1 h2 _=>aK4 g hL.h f s m.z w F0 t k d r v h1 h2) hp hF
theorem aMy(t:Int)(hp:(jK g f hL s m).sat F w)(hF:∀b,F b→b < w.heap.size):
  Cz 135 #[pt g,iv t] w (Wr (.tuple #[.agg #[iv (pY m.z t).1.1,.int .u32 (pY m.z t).1.2.1],.bool (pY m.z t).1.2.2]) (jK g f hL s (m.done t)) w F):=
 Vp 0 rfl (fun F0 h1 h2 _=>aKA g hL.h f s m.z w F0 t h1 h2) hp hF
theorem Hu(hm:s.made)(aQ:fZ hL s)(hok:iJ s n m)(hn:n≤1000000000)(t:Int)(hp:(jK g f hL s m).sat F w)(hF:∀b,F b→b < w.heap.size)(dD:eS ⟨w,fun b=>b < w.heap.size∧¬F b⟩):
  Cz 87 #[pt g,iv t] w (Wr (.tuple #[]) (jK g f hL s (m.step s t)) w F):=
 aK3 g f hL s m.z m.y m.x w F t hm aQ (fun hh=>hok.idle (hok.free hh) hn) (hok.zV.go hok.fw.toFwB) hp hF dD
theorem aMx(hm:s.made)(aQ:fZ hL s)(hok:iJ s n m)(hp:(jK g f hL s m).sat F w)(hF:∀b,F b→b < w.heap.size)(dD:eS ⟨w,fun b=>b < w.heap.size∧¬F b⟩):
  Cz 36 #[pt f] w (Wr (.tuple #[]) (jK g f hL s (m.dZ s)) w F):=
 (Vp 1 rfl (fun F0 h1 h2 h3=>aOb f hL s m.y m.x w hm.dJ aQ (hok.fw.step hok.hw) F0 h1 h2 (eS.le dD fun b hb=>⟨⟨hb.1,fun h0=>hb.2 (h3 b h0)⟩,rfl⟩)) (aM4 hp) hF).mono fun _ _ ⟨hy,F',h1,h2⟩=>⟨hy,F',aM3 h1,h2⟩
theorem aMu(hm:s.made)(aQ:fZ hL s)(hok:iJ s n m)(bF:Int)(hd:0≤bF∧bF < 4294967296)(hp:(jK g f hL s m).sat F w)(hF:∀b,F b→b < w.heap.size):
  Cz 94 #[.pointer (some ⟨hL.h,0,none⟩),.int .u32 bF] w (fun y w'=>∃a:Option Addr×Nat,y=.returned (.slice a.1 (qE s m.x bF).2.length a.2)∧True∧∃F',(aHV g f hL s ⟨m.z,m.y,(qE s m.x bF).1⟩ (qE s m.x bF).2 a).sat F' w'∧iC w w' F F'):=by
 obtain⟨G,g1,g2,g3⟩:=hp
 have hG:∀i b,G i b→b < w.heap.size:=fun i b hb=>hF b (g2 i b hb)
 have h0:=g1 0 _ rfl
 have h1:=g1 1 _ rfl
 refine(aNw hL s m.x w hm.dJ aQ hok.hw hok.wt bF hd (G 2) (g1 2 _ rfl) (hG 2)).mono fun y w' ⟨a,hy,_,F',⟨I,i1,i2,i3⟩,ht⟩=>⟨a,hy,trivial,fun b=>F' b∨G 0 b∨G 1 b,⟨fun i=>match i with | 0=>fun b=>I 0 b∨G 0 b∨G 1 b | 1=>I 1 | _=>fun _=>False,fun i p hi=>?_,fun i b hb=>?_,fun i j b hij hi hj=>?_⟩,⟨ht.os,ht.tape,ht.output,ht.size,fun b hb=>?_,fun b hb hn=>?_⟩⟩
 ·have old:∀i,i≠2→∀b,G i b→w'.heap[b]? =w.heap[b]? :=fun i hi b hb=>ht.old b (hG i b hb) fun h=>g3 2 i b (Ne.symm hi) h hb
  have fr:∀i,i≠2→∀b,F' b→¬G i b:=fun i hi b hb hc=>by
   rcases(ht.new b hb).1 with h | h
   ·exact g3 2 i b (Ne.symm hi) h hc
   ·have:=hG i b hc
    omega
  match i,hi with
  | 0, hi =>
   cases hi;refine⟨fun i=>match i with | 0=>G 0 | 1=>G 1 | 2=>I 0 | _=>fun _=>False,fun i p hi=>?_,fun i b hb=>?_,fun i j b hij hi hj=>?_⟩
   ·match i,hi with
    | 0,hi=>cases hi;exact HP.loc _ _ _ _ h0 (old 0 (by decide))
    | 1,hi=>cases hi;exact HP.loc _ _ _ _ h1 (old 1 (by decide))
    | 2,hi=>cases hi;exact i1 0 _ rfl
    | i+3,hi=>simp at hi
   ·match i,hb with
    | 0,hb=>exact .inr (.inl hb)
    | 1,hb=>exact .inr (.inr hb)
    | 2,hb=>exact .inl hb
    | i+3,hb=>exact hb.elim
   ·match i,j,hi,hj with
    | 0,0,_,_ | 1,1,_,_ | 2,2,_,_=>exact absurd rfl hij
    | 0,1,hi,hj=>exact g3 0 1 b (by decide) hi hj
    | 1,0,hi,hj=>exact g3 1 0 b (by decide) hi hj
    | 0,2,hi,hj=>exact fr 0 (by decide) b (i2 0 b hj) hi
    | 2,0,hi,hj=>exact fr 0 (by decide) b (i2 0 b hi) hj
    | 1,2,hi,hj=>exact fr 1 (by decide) b (i2 0 b hj) hi
    | 2,1,hi,hj=>exact fr 1 (by decide) b (i2 0 b hi) hj
    | i+3,_,hi,_=>exact hi.elim
    | _,j+3,_,hj=>exact hj.elim
  | 1,hi=>cases hi;exact i1 1 _ rfl
  | i+2,hi=>simp at hi
 ·match i,hb with
  | 0,hb=>
   rcases hb with hb | hb
   ·exact .inl (i2 0 b hb)
   ·exact .inr hb
  | 1,hb=>exact .inl (i2 1 b hb)
  | i+2,hb=>exact hb.elim
 ·have fr:∀i,i≠2→∀b,F' b→¬G i b:=fun i hi b hb hc=>by
   rcases(ht.new b hb).1 with h | h
   ·exact g3 2 i b (Ne.symm hi) h hc
   ·have:=hG i b hc
    omega
  match i,j,hi,hj with
  | 0,0,_,_ | 1,1,_,_=>exact absurd rfl hij
  | 0,1,hi,hj=>
   rcases hi with hi | hi | hi
   ·exact i3 0 1 b (by decide) hi hj
   ·exact fr 0 (by decide) b (i2 1 b hj) hi
   ·exact fr 1 (by decide) b (i2 1 b hj) hi
  | 1,0,hi,hj=>
   rcases hj with hj | hj | hj
   ·exact i3 0 1 b (by decide) hj hi
   ·exact fr 0 (by decide) b (i2 1 b hi) hj
   ·exact fr 1 (by decide) b (i2 1 b hi) hj
  | i+2,_,hi,_=>exact hi.elim
  | _,j+2,_,hj=>exact hj.elim
 ·rcases hb with hb | hb | hb
  ·refine⟨?_,(ht.new b hb).2⟩;rcases(ht.new b hb).1 with h | h
   ·exact .inl (g2 2 b h)
   ·exact .inr h
  ·exact⟨.inl (g2 0 b hb),Nat.lt_of_lt_of_le (hG 0 b hb) ht.size⟩
  ·exact⟨.inl (g2 1 b hb),Nat.lt_of_lt_of_le (hG 1 b hb) ht.size⟩
 ·exact ht.old b hb fun h=>hn (g2 2 b h)
theorem aCb{w0:World}{R:List Piece}{H:List HP}(i:Nat)(st:St w0 R H w)(hi:H[i]? =some (jK g f hL s m)):Cz 86 #[pt g] w (Rt (iv m.z.fA) w):=by
 obtain⟨L,hR⟩:=st.mac i hi;exact aK8 g hL.h f L s m.z w hR
end
end
section
structure Nb where
 k:Int
 d:Int
 r:Int
 v:Int
def sV:Nb:=⟨0,0,0,0⟩
structure jD where
 kind:Int
 task:Int
 c:Nb
 err:Int
 res:Int
 an:gK
 alive:Bool
 words:List Int
def Lx:jD:=⟨0,0,sV,0,0,⟨0,0,false,0⟩,false,[]⟩
structure aX where
 m:kL
 cl:Nat→Nb
 wt:Nat→Bool
 es:List jD
def iL{α:Type}(f:Nat→α)(j:Nat)(a:α):Nat→α:=fun i=>if i=j then a else f i
def Jw(s:aC):aX:=⟨aF8 s,fun _=>sV,fun _=>false,[]⟩
def xD(w:aX)(t:Int):jD:={Lx with kind:=101,task:=t,c:=w.cl t.toNat,err:=(pY w.m.z t).1.1,res:=(pY w.m.z t).1.2.1}
def aX.end_(w:aX)(t:Int):aX:=if(pY w.m.z t).1.2.2=true then {w with m:=w.m.done t,es:=w.es++[xD w t]} else {w with m:=w.m.done t}
def aX.call(w:aX)(t:Int)(c:Nb):Int×aX:=((wG w.m.z t c.k c.d c.r c.v).1,if(wG w.m.z t c.k c.d c.r c.v).1≠0 then {w with m:=w.m.start t c.k c.d c.r c.v} else {w with m:=w.m.start t c.k c.d c.r c.v,cl:=iL w.cl t.toNat c,wt:=iL w.wt t.toNat true})
def aX.nQ(w:aX)(t:Int):Bool:=bZ 3 t&&(w.wt t.toNat&&decide (w.m.z.fA < 0))
def nZ(w:aX)(t:Int):jD:={Lx with kind:=98,task:=t,c:=w.cl t.toNat}
def aX.pO(s:aC)(w:aX)(t:Int):aX:=if w.nQ t then {w with m:=w.m.step s t,wt:=iL w.wt t.toNat false,es:=w.es++[nZ w t]} else {w with m:=w.m.step s t}
def aX.task(s:aC)(w:aX)(t:Int):aX:=(w.pO s t).end_ t
def aX.dZ(s:aC)(w:aX):aX:={w with m:=w.m.dZ s}
def Bo(s:aC)(x:aS)(a:gK):jD:={Lx with kind:=100,an:=a,alive:=xL s x a.dev.toNat}
def aX.pN(s:aC)(w:aX)(bF:Int):aX:={w with m:=w.m.tick s bF,es:=w.es++(qE s w.m.x bF).2.map (Bo s w.m.x)}
def aX.tick(s:aC)(w:aX)(bF:Int):aX:=(((w.pN s bF).end_ 0).end_ 1).end_ 2
def aX.send(w:aX)(l:List Int):Int×aX:=((iG w.m.y 1 l).1,if(iG w.m.y 1 l).1≠0 then {w with m:=⟨w.m.z,(iG w.m.y 1 l).2,w.m.x⟩} else {w with m:=⟨w.m.z,(iG w.m.y 1 l).2,w.m.x⟩,es:=w.es++[{Lx with kind:=115,words:=l}]})
def aX.take(w:aX):aX:=match lP w.m.y 1 with
 | some l=>{w with m:=⟨w.m.z,kM w.m.y 1,w.m.x⟩,es:=w.es++[{Lx with kind:=114,words:=l}]}
 | none=>{w with m:=⟨w.m.z,kM w.m.y 1,w.m.x⟩}
structure Ec where
 kind:Int
 task:Int
 c:Nb
 bF:Int
 words:List Int
def aX.nF(s:aC)(w:aX)(p:Ec):Int×aX:=
 if p.kind=99 then w.call p.task p.c else if p.kind=116 then(0,w.task s p.task) else if p.kind=102 then(0,w.dZ s) else if p.kind=104 then(0,w.tick s p.bF)
 else if p.kind=109 then w.send p.words else if p.kind=97 then(0,w.take) else(1,w)
def aX.round(s:aC)(w:aX)(bF:Int):aX:=((((w.task s 0).task s 1).task s 2).dZ s).tick s bF
structure iB(s:aC)(n:Nat)(w:aX):Prop where
 m:iJ s n w.m
 es:w.es.length≤13*n
 wd:∀e∈w.es,mW e.words∧e.words.length≤1000000
section
variable{s:aC}{n:Nat}{w:aX}
theorem iB.le{k:Nat}(h:iB s n w)(hk:n≤k):iB s k w:=⟨h.m.le hk,by have:=h.es;omega,h.wd⟩
theorem Yg(hm:s.made):iB s 0 (Jw s):=⟨aMC hm,Nat.zero_le _,fun _ h=>by cases h⟩
theorem iB.end_{b:Nat}(h:iJ s n w.m)(he:w.es.length≤b)(hw:∀e∈w.es,mW e.words∧e.words.length≤1000000)(t:Int):iJ s n (w.end_ t).m∧(w.end_ t).es.length≤b+1∧∀e∈(w.end_ t).es,mW e.words∧e.words.length≤1000000:=by
 unfold aX.end_;split
 ·refine⟨h.done t,by show(w.es++[_]).length≤_;rw[List.length_append];exact Nat.add_le_add_right he 1,fun e hm=>?_⟩;rcases List.mem_append.1 hm with hm | hm
  ·exact hw e hm
  ·rw[List.mem_singleton] at hm;subst hm;exact⟨(fun _ h=>by cases h),Nat.zero_le _⟩
 ·exact⟨h.done t,by show w.es.length≤_;omega,hw⟩
theorem iB.pO(hm:s.made)(h:iB s n w)(t:Int):iJ s (n+1) (w.pO s t).m∧(w.pO s t).es.length≤13*n+1∧∀e∈(w.pO s t).es,mW e.words∧e.words.length≤1000000:=by
 have he:=h.es
 unfold aX.pO;split
 ·refine⟨h.m.step hm t,by show(w.es++[_]).length≤_;rw[List.length_append];exact Nat.add_le_add_right he 1,fun e hm=>?_⟩;rcases List.mem_append.1 hm with hm | hm
  ·exact h.wd e hm
  ·rw[List.mem_singleton] at hm;subst hm;exact⟨(fun _ h=>by cases h),Nat.zero_le _⟩
 ·exact⟨h.m.step hm t,by show w.es.length≤_;omega,h.wd⟩
theorem iB.task(hm:s.made)(h:iB s n w)(t:Int):iB s (n+1) (w.task s t):=by
 obtain⟨h1,h2,h3⟩:=h.pO hm t;obtain⟨k1,k2,k3⟩:=iB.end_ h1 h2 h3 t;exact⟨k1,by show(aX.end_ _ _).es.length≤_;omega,k3⟩
theorem iB.pN(hm:s.made)(h:iB s n w)(bF:Int):iJ s n (w.pN s bF).m∧(w.pN s bF).es.length≤13*n+4∧∀e∈(w.pN s bF).es,mW e.words∧e.words.length≤1000000:=by
 have he:=h.es
 have hl:=aAB (s:=s) (x:=w.m.x) s.aD.length
 have hv:=hm.nv
 refine⟨h.m.tick hm bF,by show(w.es++List.map _ (fO s w.m.x s.aD.length).2).length≤_;rw[List.length_append,List.length_map];omega,fun e hm=>?_⟩;rcases List.mem_append.1 hm with hm | hm
 ·exact h.wd e hm
 ·obtain⟨a,_,rfl⟩:=List.mem_map.1 hm;exact⟨(fun _ h=>by cases h),Nat.zero_le _⟩
theorem iB.tick(hm:s.made)(h:iB s n w)(bF:Int):iJ s n (w.tick s bF).m∧(w.tick s bF).es.length≤13*n+7∧∀e∈(w.tick s bF).es,mW e.words∧e.words.length≤1000000:=by
 obtain⟨h1,h2,h3⟩:=h.pN hm bF;obtain⟨k1,k2,k3⟩:=iB.end_ h1 h2 h3 0;obtain⟨l1,l2,l3⟩:=iB.end_ k1 k2 k3 1;exact iB.end_ l1 l2 l3 2
theorem iB.dZ(hm:s.made)(h:iB s n w):iB s n (w.dZ s):=⟨h.m.dZ hm,h.es,h.wd⟩
theorem iJ.aGq{m:kL}(h:iJ s n m){y':cI}(hy:nI s y'):iJ s n ⟨m.z,y',m.x⟩:=⟨h.zV,hy,h.hw,h.wt,h.po,h.w0,h.w1⟩
theorem aLb{y:cI}(h:Ee s y){l:List Int}(hl:lP y 1=some l):mW l∧l.length≤1000000:=by
 unfold lP at hl;rw[if_neg (by decide),if_pos rfl] at hl;split at hl
 ·cases hl;exact⟨h.u1,h.n1⟩
 ·cases hl
def Ec.ok(p:Ec):Prop:=(0≤p.c.v∧p.c.v < 4294967296)∧(0≤p.bF∧p.bF < 4294967296)∧mW p.words∧p.words.length≤1000000
theorem iB.nF(hm : s.made)(h : iB s n w){p : Ec}(hp : p.ok) : iB s (n + 1) (w.nF s p).2 := by
 obtain⟨hv,hd,hu,hl⟩:=hp
 have he:=h.es
 unfold aX.nF;split
 ·unfold aX.call;dsimp only
  have:=h.m.start p.task p.c.k p.c.d p.c.r p.c.v hv
  split<;>exact⟨this.le (by omega),by show w.es.length≤_;omega,h.wd⟩
 ·split
  ·exact h.task hm _
  ·split
   ·exact(h.dZ hm).le (by omega)
   ·split
    ·obtain⟨h1,h2,h3⟩:=h.tick hm p.bF;exact⟨h1.le (by omega),by show(aX.tick _ _ _).es.length≤_;omega,h3⟩
    ·split
     ·unfold aX.send;dsimp only
      have hs:=h.m.aGq (h.m.fw.send 1 hu hl)
      split
      ·exact⟨hs.le (by omega),by show w.es.length≤_;omega,h.wd⟩
      ·refine⟨hs.le (by omega),by show(w.es++[_]).length≤_;rw[List.length_append];simp;omega,fun e hm=>?_⟩;rcases List.mem_append.1 hm with hm | hm
       ·exact h.wd e hm
       ·rw[List.mem_singleton] at hm;subst hm;exact⟨hu,hl⟩
     ·split
      ·unfold aX.take
       have hs:=h.m.aGq (h.m.fw.read 1)
       split
       ·rename_i l hr
        refine⟨hs.le (by omega),by show(w.es++[_]).length≤_;rw[List.length_append];simp;omega,fun e hm=>?_⟩;rcases List.mem_append.1 hm with hm | hm
        ·exact h.wd e hm
        ·rw[List.mem_singleton] at hm;subst hm;exact aLb h.m.fw.fm hr
       ·exact⟨hs.le (by omega),by show w.es.length≤_;omega,h.wd⟩
      ·exact h.le (by omega)
theorem iB.round(hm:s.made)(h:iB s n w)(bF:Int):iB s (n+4) (w.round s bF):=by
 have h3:=((((h.task hm 0).task hm 1).task hm 2).dZ hm)
 obtain⟨k1,k2,k3⟩:=h3.tick hm bF;exact⟨k1.le (by omega),by show(aX.tick _ _ _).es.length≤_;omega,k3⟩
end
def Km(r:Int):Int:=[17,20,22,17,20,22,16,19].getD r.toNat 0
def Zh(p r:Int):Int:=if p=20∧r < 3 then 7 else[4,4,5,7,7,6,0,1,2].getD r.toNat 0
end
section
structure gL where
 op:Int
 task:Int
 kind:Int
 dev:Int
 bY:Int
 v:Int
 ag:Int
 pr:Int
 ms:Int
 id:Int
 aw:Int
 od:Int
def gL.cells(a:gL):List Value:=[iv a.op,iv a.task,iv a.kind,iv a.dev,iv a.bY,.int .u32 a.v,iv a.ag,iv a.pr,iv a.ms,iv a.id,iv a.aw,iv a.od]
def zI(a:Int):Prop:= -9223372036854775808≤a∧a≤9223372036854775807
structure gL.ok(a:gL):Prop where
 op:zI a.op
 task:zI a.task
 kind:zI a.kind
 dev:zI a.dev
 bY:zI a.bY
 v:0≤a.v∧a.v < 4294967296
 pr:zI a.pr
 ms:zI a.ms
 id:zI a.id
 aw:zI a.aw
 od:zI a.od
theorem gL.len(a:gL):a.cells.length=12:=rfl
end
section
def eZ(c n:Int):Int:=(if c < 0 then 0 - (c+1) else c) % n
theorem Co(c n:Int)(hn:0 < n):0≤eZ c n∧eZ c n < n:=⟨Int.emod_nonneg _ (by omega),Int.emod_lt_of_pos _ hn⟩
def aCl(r:Int):Int:=([103,103,103,112,112,114,119,114,119,115,109,109,120]:List Int).getD r.toNat 0
theorem aMK{r:Int}(h0:0≤r)(h1:r < 13):([.int .u8 103,.int .u8 103,.int .u8 103,.int .u8 112,.int .u8 112,.int .u8 114,.int .u8 119,.int .u8 114,.int .u8 119,.int .u8 115,.int .u8 109,.int .u8 109,.int .u8 120]:List Value)[r.toNat]? =some (.int .u8 (aCl r)):=by
 obtain⟨n,rfl⟩:∃n:Nat,r=(n:Int):=⟨r.toNat,by omega⟩
 have hn:n < 13:=by omega
 unfold aCl;rw[Int.toNat_natCast]
 match n,hn with
 | 0,_ | 1,_ | 2,_ | 3,_ | 4,_ | 5,_ | 6,_ | 7,_ | 8,_ | 9,_ | 10,_ | 11,_ | 12,_=>rfl
 | n+13,h=>omega
def Qv(a:gL):Int:=aCl (eZ a.kind 13)
def Qw(a:gL)(many:Int):Int:=eZ a.dev (many+1)
def Qu(a:gL):Int:=eZ a.bY 4
end
section
def Zj(a:gL):Int:=Km (eZ a.pr 8)
def Ht(a:gL):Int:=Zh (Zj a) (eZ a.ms 9)
def tU(a:gL):List Int:=[(gZ (Ht a) 0 (Zj a) (eZ a.aw 1024)).1]++((if Ht a≠0∧Ht a≠1 then[eZ a.id 10] else[])++(if Ht a=4∨Ht a=7 then[eZ a.aw 4] else[]))
def sH(a:gL):List Int:=
 if eZ a.od 30=0 then tU a++[0] else if eZ a.od 30=1 then(tU a).take ((tU a).length - 1) else if eZ a.od 30=2 then(tU a).set 0 (Ab ((tU a).headD 0) 268435456) else if eZ a.od 30=3 then(tU a).set 0 (Ab ((tU a).headD 0) 256) else tU a
theorem aMe(a:gL):mW (tU a)∧1≤(tU a).length∧(tU a).length≤3:=by
 have h1:=Co a.id 10 (by decide)
 have h2:=Co a.aw 4 (by decide)
 have h3:=aFj (Ht a) 0 (Zj a) (eZ a.aw 1024)
 unfold tU;constructor
 ·intro v hv;simp only[List.mem_append,List.mem_singleton] at hv;rcases hv with rfl | hv | hv
  ·exact h3
  ·split at hv
   ·rw[List.mem_singleton] at hv;omega
   ·cases hv
  ·split at hv
   ·rw[List.mem_singleton] at hv;omega
   ·cases hv
 ·split<;>split<;>simp
theorem aFw(a:gL):mW (sH a)∧(sH a).length≤4:=by
 obtain⟨h1,h2,h3⟩:=aMe a
 have lK:∀v:Int,0≤v∧v < 4294967296→mW ((tU a).set 0 v):=fun v hv u hu=>by
  rcases List.mem_or_eq_of_mem_set hu with h | h
  ·exact h1 u h
  ·rw[h];exact hv
 unfold sH;split
 ·refine⟨fun v hv=>?_,by rw[List.length_append];simp;omega⟩;rcases List.mem_append.1 hv with h | h
  ·exact h1 v h
  ·rw[List.mem_singleton] at h;subst h;decide
 ·split
  ·exact⟨fun v hv=>h1 v (List.mem_of_mem_take hv),by rw[List.length_take];omega⟩
  ·split
   ·exact⟨lK _ (aBJ _ _),by rw[List.length_set];omega⟩
   ·split
    ·exact⟨lK _ (aBJ _ _),by rw[List.length_set];omega⟩
    ·exact⟨h1,by omega⟩
def opK(r:Int):Int:=if r < 4 then 99 else if r < 12 then 116 else if r < 19 then 102 else if r < 26 then 104 else if r=26 then 109 else if r=27 then 97 else 0
def Hl(a:gL)(many:Int):Ec:=⟨opK (eZ a.op 30),if eZ a.bY 40=39 then eZ a.task 6 - 2 else eZ a.task 3,⟨Qv a,Qw a many,Qu a,a.v⟩,a.v,sH a⟩
theorem aFg{a:gL}(ha:a.ok)(many:Int):(Hl a many).ok:=⟨ha.v,ha.v,(aFw a).1,Nat.le_trans (aFw a).2 (by decide)⟩
def Rb(s:aC)(w:aX)(a:gL):aX:=if eZ a.op 30=28 then w.round s a.v else(w.nF s (Hl a s.aD.length)).2
def runN(s:aC)(eL:List gL)(n:Nat):aX:=(eL.take n).foldl (Rb s) (Jw s)
theorem aB6{s:aC}{eL:List gL}{n:Nat}{a:gL}(h:eL[n]? =some a):runN s eL (n+1)=Rb s (runN s eL n) a:=by
 have hl:=(List.getElem?_eq_some_iff.1 h).1
 unfold runN;rw[List.take_succ,h,List.foldl_append];rfl
theorem aH3{s:aC}(hm:s.made){w:aX}{n:Nat}(h:iB s n w){a:gL}(ha:a.ok):iB s (n+4) (Rb s w a):=by
 unfold Rb;split
 ·exact h.round hm _
 ·exact(h.nF hm (aFg ha _)).le (by omega)
end
section
theorem nK(c n:Int)(w:World)(hc:zI c)(hn:0 < n):Cz 15 #[iv c,iv n] w (Rt (iv (eZ c n)) w):=by
 unfold zI at hc;refine aN func15 ntmps15 ?_;refine aB ?_;refine aG rfl (fun h=>?_) (fun h=>?_)
 ·refine aB ?_;refine jI (by simp) ?_;rw[eZ,if_pos h]
 ·refine aB ?_;refine jI (by simp) ?_;rw[eZ,if_neg h]
end
section
def Jr(cs:List eW)(rows:List (List Value))(p:Piece):Prop:=Rows (qU (fJ p)) 6 cs rows
theorem Jr.le{cs:List eW}{rows:List (List Value)}(p q:Piece)(h:p.Le q)(k:Jr cs rows p):Jr cs rows q:=Rows.mono (fun _ _=>qU.mono (kE h)) k
def Jp(vs:List cH)(rows:List (List Value))(p:Piece):Prop:=Rows (qB (fJ p)) 6 vs rows
theorem Jp.le{vs:List cH}{rows:List (List Value)}(p q:Piece)(h:p.Le q)(k:Jp vs rows p):Jp vs rows q:=Rows.mono (fun _ _=>qB.mono (kE h)) k
def pH(sz:Nat)(A:Option Addr)(n:Nat)(xs:List Value)(p:Piece):Prop:=aI p sz A n xs
theorem pH.le{sz n:Nat}{A:Option Addr}{xs:List Value}(p q:Piece)(h:p.Le q)(k:pH sz A n xs p):pH sz A n xs q:=aI.le k h
def pZ(cs:List eW)(rows:List (List Value)):HP:=HP.bR (Jr cs rows) (Jr.le (cs:=cs) (rows:=rows))
def Dq(vs:List cH)(rows:List (List Value)):HP:=HP.bR (Jp vs rows) (Jp.le (vs:=vs) (rows:=rows))
section
variable{N:cF}{w0:World}{K:Act→World→Prop}{e:Env}{R:List Piece}{H:List HP}
theorem aHL{p:HP}(hp:∀w,p.sat (fun _=>False) w)(h:XK N w0 K e R (p::H)):XK N w0 K e R H:=fun a w hr st=>by
 obtain⟨Z,F,hz,cP,hs,cX,eO⟩:=st.ex;refine h a w hr ⟨st.os,st.tape,st.output,st.size,Z,fun i=>match i with | 0=>fun _=>False | i+1=>F i,hz,cP,fun i r hi=>?_,fun i b hb=>?_,fun i j b hij hi=>?_⟩
 ·cases i with
  | zero=>simp at hi;subst hi;exact hp w
  | succ i=>exact hs i r (by simpa using hi)
 ·cases i with
  | zero=>exact hb.elim
  | succ i=>exact cX i b hb
 ·cases i with
  | zero=>exact hi.elim
  | succ i=>cases j with
   | zero=>exact id
   | succ j=>exact eO i j b (by omega) hi
theorem aR0{cs:List eW}{rows:List (List Value)}{cl:eW}{A:Option Addr}{c:Nat}(h:XK N w0 K e R (pZ (cs++[cl]) (rows++[[.int .u8 cl.kind,.slice A cl.src.length c,.int .u64 cl.rate,iv cl.mul,iv cl.div,iv cl.lock]])::H)):XK N w0 K e R (HP.own 3 1 (.slice A cl.src.length c) cl.src.length (aM cl.src)::pZ cs rows::H):=
 xM 0 (Φ:=pH 1 A cl.src.length (aM cl.src)) (hm:=pH.le) rfl (fun _ h=>h) (Je (X:=Jr (cs++[cl]) (rows++[_])) (h3:=Jr.le) (fun p h1 h2=>h2.snoc rfl ⟨A,_,c,rfl,rfl,h1⟩) h)
theorem aRy{vs:List cH}{rows:List (List Value)}{d:cH}{A A':Option Addr}{c c':Nat}(h:XK N w0 K e R (Dq (vs++[d]) (rows++[[iv d.clock,iv d.domain,iv d.reset,.int .u32 d.iH,.slice A d.aR.length c,.slice A' d.iU.length c']])::H)):XK N w0 K e R (HP.own 95 2 (.slice A d.aR.length c) d.aR.length (d.aR.flatMap Rg.cells)::HP.own 3 1 (.slice A' d.iU.length c') d.iU.length (aM d.iU)::Dq vs rows::H):=
 xM 0 (Φ:=pH 2 A d.aR.length (d.aR.flatMap Rg.cells)) (hm:=pH.le) rfl (fun _ h=>h) (xM 1 (Φ:=pH 1 A' d.iU.length (aM d.iU)) (hm:=pH.le) rfl (fun _ h=>h) (Je (X:=fun p=>pH 2 A d.aR.length (d.aR.flatMap Rg.cells) p∧pH 1 A' d.iU.length (aM d.iU) p) (h3:=fun p q hl h=>⟨pH.le p q hl h.1,pH.le p q hl h.2⟩) (fun p h1 h2=>⟨h1,h2⟩) (Je (X:=Jp (vs++[d]) (rows++[_])) (h3:=Jp.le) (fun p h1 h2=>h2.snoc rfl ⟨A,_,c,A',_,c',rfl,rfl,rfl,h1.1,h1.2⟩) h)))
end
def aDS(v:Value)(hs:List HP)(_:Piece):Prop:=∃(s:aC) (A1 A2 A3 A4:Option Addr×Nat) (r1 r2 r3 r4:List (List Value)),v=.agg #[.slice A1.1 s.aF.length A1.2,.slice A2.1 s.domains.length A2.2,.slice A3.1 s.bA.length A3.2,.slice A4.1 s.aD.length A4.2]∧s.made∧Rows tI 3 s.domains r2∧Rows xO 1 s.bA r3∧
 hs=[HP.own 86 6 (.slice A1.1 s.aF.length A1.2) s.aF.length r1.flatten,pZ s.aF r1,HP.own 88 3 (.slice A2.1 s.domains.length A2.2) s.domains.length r2.flatten,HP.own 90 1 (.slice A3.1 s.bA.length A3.2) s.bA.length r3.flatten,HP.own 93 6 (.slice A4.1 s.aD.length A4.2) s.aD.length r4.flatten,Dq s.aD r4]
theorem gI.tail{w:World}{p:HP}{hs:List HP}{q:Piece}(h:gI w (p::hs) q):gI w hs q:=by
 obtain⟨F,f1,f2,f3,f4⟩:=h;exact⟨fun i=>F (i+1),fun i r hi=>f1 (i+1) r (by simpa using hi),fun i=>f2 (i+1),fun i j b hij=>f3 (i+1) (j+1) b (by omega),f4⟩
theorem aDS.weak{w w':World}{v:Value}{hs:List HP}{q:Piece}(h:aDS v hs q)(hq:q.w=w')(hn:gI w hs q):∃cs s,v=.agg cs∧uN (fJ (fresh w w')) s cs∧s.made:=by
 obtain⟨s,A1,A2,A3,A4,r1,r2,r3,r4,rfl,hm,h2,h3,rfl⟩:=h;obtain⟨F,f1,f2,_⟩:=hn;subst hq
 have hl:∀i,(⟨q.w,F i⟩:Piece).Le (fresh w q.w):=fun i b hb=>⟨⟨(f2 i b hb).1,(f2 i b hb).2.1⟩,rfl⟩
 have ho:∀{i:Nat} {t:TypeId} {sz n c:Nat} {A:Option Addr} {xs:List Value},(HP.own t sz (.slice A n c) n xs).sat (F i) q.w→aI (fresh w q.w) sz A n xs:=fun {i} _ _ _ _ _ _ hs=>(aI.own (q:=⟨q.w,F i⟩) ⟨F i,hs,fun _ h=>h⟩).le (hl i)
 exact⟨_,s,rfl,⟨A1.1,_,A1.2,A2.1,_,A2.2,A3.1,_,A3.2,A4.1,_,A4.2,rfl,⟨r1,Jr.le _ _ (hl 1) (f1 1 _ rfl),rfl,ho (f1 0 _ rfl)⟩,⟨r2,h2,rfl,ho (f1 2 _ rfl)⟩,⟨r3,h3,rfl,ho (f1 3 _ rfl)⟩,⟨r4,Jp.le _ _ (hl 5) (f1 5 _ rfl),rfl,ho (f1 4 _ rfl)⟩⟩,hm⟩
end
section
theorem aLq{r:Int}(h0:0≤r)(h1:r < 8):([iv 17,iv 20,iv 22,iv 17,iv 20,iv 22,iv 16,iv 19]:List Value)[r.toNat]? =some (iv (Km r)):=by
 rcases(by omega:r=0∨r=1∨r=2∨r=3∨r=4∨r=5∨r=6∨r=7) with rfl | rfl | rfl | rfl | rfl | rfl | rfl | rfl<;>rfl
def Zi(r:Int):Int:=([4,4,5,7,7,6,0,1,2]:List Int).getD r.toNat 0
theorem aMd{r:Int}(h0:0≤r)(h1:r < 9):([iv 4,iv 4,iv 5,iv 7,iv 7,iv 6,iv 0,iv 1,iv 2]:List Value)[r.toNat]? =some (iv (Zi r)):=by
 rcases(by omega:r=0∨r=1∨r=2∨r=3∨r=4∨r=5∨r=6∨r=7∨r=8) with rfl | rfl | rfl | rfl | rfl | rfl | rfl | rfl | rfl<;>rfl
theorem aLp{r:Int}(h0:0≤r)(h1:r < 8):0≤Km r∧Km r < 256:=by
 rcases(by omega:r=0∨r=1∨r=2∨r=3∨r=4∨r=5∨r=6∨r=7) with rfl | rfl | rfl | rfl | rfl | rfl | rfl | rfl<;>decide
theorem aMc{r:Int}(h0:0≤r)(h1:r < 9):0≤Zi r∧Zi r < 256:=by
 rcases(by omega:r=0∨r=1∨r=2∨r=3∨r=4∨r=5∨r=6∨r=7∨r=8) with rfl | rfl | rfl | rfl | rfl | rfl | rfl | rfl | rfl<;>decide
theorem aMb{p r:Int}(h0:0≤r)(h1:r < 9):0≤Zh p r∧Zh p r < 256:=by
 unfold Zh;split
 ·decide
 ·exact aMc h0 h1
def Jt(A:Option Addr)(l:List Int):HP:=HP.bR (pH 1 A l.length (dY l)) pH.le
def Ru(l:List Int)(v:Value)(hs:List HP)(_:Piece):Prop:=∃A c,v=.slice A l.length c∧hs=[Jt A l]
theorem aHH{nn:Nat}{fn:Func}{t n c:Nat}{A:Option Addr}{w0:World}{e:Env}{R:List Piece}{H:List HP}(l:List Int)(hn:n=l.length)(hi:H[0]? =some (Jt A l):=by rfl)(hr:fn.results=#[.tmp t]:=by rfl)(ht:e.get t=some (.slice A n c):=by rfl)(hR:all w0∈R:=by simp):
  XK ⟨nn,[]⟩ w0 (bodyPost Tryz.prog fn (fun y w'=>(∃v hs q,y=.returned v∧q.w=w'∧Ru l v hs q∧gI w0 hs q)∧Below w0.heap.size w0 w') .ret) e R H:=by
 subst hn;refine aT [0] (H':=[Jt A l]) ?_ (by decide) (fun _ h=>h) ?_
 ·unfold yH;rw[hi];rfl
 refine dF [] [] [0] (by simp) rfl (by decide) (by decide) fun q _ _ hfr=>?_;exact mI hr ht fun w1 st=>⟨⟨_,_,⟨w1,q.Z⟩,rfl,rfl,⟨A,c,rfl,rfl⟩,st.newR (by simp[hR]) (by simp) (hfr hR (by simp))⟩,st.below (by simp[hR])⟩
theorem aAK{nn:Nat}{fn:Func}{t n c:Nat}{A:Option Addr}{xs:List Value}{w0:World}{e:Env}{R:List Piece}{H:List HP}(l:List Int)(hn:n=l.length)(hx:xs=dY l)(hi:H[0]? =some (HP.own 37 1 (.slice A n c) n xs):=by rfl)(hr:fn.results=#[.tmp t]:=by rfl)(ht:e.get t=some (.slice A n c):=by rfl)(hR:all w0∈R:=by simp):
  XK ⟨nn,[]⟩ w0 (bodyPost Tryz.prog fn (fun y w'=>(∃v hs q,y=.returned v∧q.w=w'∧Ru l v hs q∧gI w0 hs q)∧Below w0.heap.size w0 w') .ret) e R H:=by
 subst hn;subst hx;refine xM 0 (Φ:=pH 1 A l.length (dY l)) (hm:=pH.le) hi (fun _ h=>h) ?_;exact aHH l rfl (List.getElem?_set_self (wU hi)) hr ht hR
theorem aCa(a:gL)(ha:a.ok)(w:World):
  Cz 47 #[.agg #[iv a.ag,iv a.pr,iv a.ms,iv a.id,iv a.aw,iv a.od]] w (fun y w'=>(∃v hs q,y=.returned v∧q.w=w'∧Ru (sH a) v hs q∧gI w hs q)∧Below w.heap.size w w'):=by
 have b1:=Co a.pr 8 (by decide)
 have b2:=Co a.ms 9 (by decide)
 have b3:=Co a.id 10 (by decide)
 have b4:=Co a.aw 4 (by decide)
 have b5:=Co a.aw 1024 (by decide)
 have hP:=aLq b1.1 b1.2
 have hM:=aMd b2.1 b2.2
 have hpb:=aLp b1.1 b1.2
 have hmb:=aMb (p:=Km (eZ a.pr 8)) b2.1 b2.2
 have h1:=ha.pr
 have h2:=ha.ms
 have h3:=ha.id
 have h4:=ha.aw
 have h5:=ha.od
 have yN:Ht a=if Km (eZ a.pr 8)=20∧eZ a.ms 9 < 3 then 7 else Zi (eZ a.ms 9):=rfl
 obtain⟨m,hm⟩:∃m,Ht a=m:=⟨_,rfl⟩
 obtain⟨p,hp⟩:∃p,Km (eZ a.pr 8)=p:=⟨_,rfl⟩
 obtain⟨t1,oU⟩:∃t,(if m≠0∧m≠1 then[eZ a.id 10] else[])=t:=⟨_,rfl⟩
 obtain⟨t2,nV⟩:∃t,(if m=4∨m=7 then[eZ a.aw 4] else[])=t:=⟨_,rfl⟩
 obtain⟨x0,hx0⟩:∃x,(gZ m 0 p (eZ a.aw 1024)).1=x:=⟨_,rfl⟩
 have iA:t1.length≤1:=by rw[←oU];split<;>simp
 have Dd:t2.length≤1:=by rw[←nV];split<;>simp
 have hm0:tU a=x0::(t1++t2):=by
  unfold tU;rw[hm,show Zj a=p from hp,hx0,oU,nV];rfl
 have hmF:sH a=if eZ a.od 30=0 then(x0::(t1++t2))++[0] else if eZ a.od 30=1 then(x0::(t1++t2)).take ((x0::(t1++t2)).length - 1) else if eZ a.od 30=2 then(x0::(t1++t2)).set 0 (Ab x0 268435456) else if eZ a.od 30=3 then(x0::(t1++t2)).set 0 (Ab x0 256) else x0::(t1++t2):=by
  unfold sH;rw[hm0];rfl
 obtain⟨od,hod⟩:∃o,eZ a.od 30=o:=⟨_,rfl⟩
 rw[hod] at hmF;rw[hmF];rw[hp] at hP yN hpb;rw[hm] at yN
 have aNf:0≤m∧m < 256:=by rw[←hm];exact hmb
 have hpk:=aL0 aNf hpb b5
 have hlen:(x0::(t1++t2)).length=t1.length+t2.length+1:=by simp
 refine aN func47 ntmps47 ?_;refine aB ?_;refine bN fun g1=>?_;refine aB ?_;refine eK fun g2=>?_;refine aB ?_;refine aU (fun w1 t=>nK _ 8 w1 h1 (by decide)) ?_;refine aB ?_;refine kd (bH rfl (Rd.aE 0 rfl hP)) ?_;refine aB ?_;refine eK fun g3=>?_;refine aB ?_;refine aU (fun w1 t=>nK _ 9 w1 h2 (by decide)) ?_;refine aB ?_;refine kd (bH rfl (Rd.aE 0 rfl hM)) ?_;refine bE ?_;refine fD ?_;refine Gl (α:=Unit) (fun _=>[(6,iv m),(4,iv p),(1,pt g1)]) (fun _=>[HP.aE g1 72 [iv a.ag,iv a.pr,iv a.ms,iv a.id,iv a.aw,iv a.od]]) (fun _=>True) ?_ fun _ _=>?_
 ·refine aB ?_;refine bT (t:=25) rfl (fun hg=>?_) (fun hg=>?_)
  ·refine aB ?_;refine aU (fun w1 t=>nK _ 9 w1 h2 (by decide)) ?_;refine aB ?_;refine aG rfl (fun h=>?_) (fun h=>?_)
   ·rw[if_pos ⟨hg,h⟩] at yN;subst yN;refine aB ?_;exact dG ()
   ·rw[if_neg (fun hh=>h hh.2)] at yN;subst yN;refine aB ?_;exact dG ()
  ·rw[if_neg (fun hh=>hg hh.1)] at yN;subst yN;refine aB ?_;exact dG ()
 refine aB ?_;refine aU (fun w1 t=>nK _ 1024 w1 h4 (by decide)) ?_;refine aB ?_
 refine eX (aDQ [x0]) (fun w1 t=>by
  have:=aGZ m 0 p (eZ a.aw 1024) none 0 0 [] w1 (aI.nil _ _) rfl (by omega) hpk
  rwa [hx0] at this) ?_
 rintro _ _ q1 ⟨A1,c1,rfl,rfl⟩ _;dsimp only[List.cons_append,List.nil_append];refine vK (R':=[all w]) (by simp) ?_;refine bE ?_;refine bE ?_;refine bE ?_;refine bE ?_;refine bE ?_;refine fD ?_;refine Gl (α:=Option Addr×Nat) (fun b=>[(7,.slice b.1 (x0::t1).length b.2),(6,iv m),(1,pt g1)]) (fun b=>[HP.own 37 1 (.slice b.1 (x0::t1).length b.2) (x0::t1).length (dY (x0::t1)),HP.aE g1 72 [iv a.ag,iv a.pr,iv a.ms,iv a.id,iv a.aw,iv a.od]]) (fun _=>True) ?_ fun b _=>?_
 ·refine aB ?_;refine bT (t:=43) rfl (fun hg=>?_) (fun hg=>?_)
  ·refine aB ?_;refine aG rfl (fun h=>?_) (fun h=>?_)
   ·rw[if_pos ⟨hg,h⟩] at oU;subst oU;refine aB ?_;refine aU (fun w1 t=>nK _ 10 w1 h3 (by decide)) ?_;refine aB ?_;refine eK fun g5=>?_;refine iF 1 1 4 1 (n':=([x0,eZ a.id 10]).length) (el:=37) (by kernel_rfl) (by kernel_rfl) (by decide) rfl rfl rfl (mM 0 rfl rfl) (by simp[Value.oneCell']) (by simp) (by first | (simp;done) | (simp;omega)) (by first | (simp;done) | (simp;omega)) (by decide) fun A2 c2=>?_;dsimp only[List.set];refine aB ?_;rw[show dY ([x0])++[.int .u32 (eZ a.id 10)]=dY ([x0,eZ a.id 10]) by simp[dY]];exact dG (A2,c2)
   ·rw[if_neg (fun hh=>h hh.2)] at oU;subst oU;refine aB ?_;exact dG (A1,c1)
  ·rw[if_neg (fun hh=>hg hh.1)] at oU;subst oU;refine aB ?_;exact dG (A1,c1)
 refine Gl (α:=Option Addr×Nat) (fun b=>[(7,.slice b.1 (x0::(t1++t2)).length b.2),(6,iv m),(1,pt g1)]) (fun b=>[HP.own 37 1 (.slice b.1 (x0::(t1++t2)).length b.2) (x0::(t1++t2)).length (dY (x0::(t1++t2))),HP.aE g1 72 [iv a.ag,iv a.pr,iv a.ms,iv a.id,iv a.aw,iv a.od]]) (fun _=>True) ?_ fun b _=>?_
 ·refine aB ?_;refine bT (t:=56) rfl (fun hg=>?_) (fun hg=>?_)
  ·rw[if_pos (.inl hg)] at nV;subst nV;refine aB ?_;refine aU (fun w1 t=>nK _ 4 w1 h4 (by decide)) ?_;refine aB ?_;refine eK fun g5=>?_;refine iF 1 1 4 1 (n':=(x0::(t1++[eZ a.aw 4])).length) (el:=37) (by kernel_rfl) (by kernel_rfl) (by decide) rfl rfl rfl (mM 0 rfl rfl) (by simp[Value.oneCell']) (by simp) (by first | (simp;done) | (simp;omega)) (by first | (simp;done) | (simp;omega)) (by decide) fun A2 c2=>?_;dsimp only[List.set];refine aB ?_;rw[show dY (x0::t1)++[.int .u32 (eZ a.aw 4)]=dY (x0::(t1++[eZ a.aw 4])) by simp[dY]];exact dG (A2,c2)
  ·refine aB ?_;refine aG rfl (fun h=>?_) (fun h=>?_)
   ·rw[if_pos (.inr h)] at nV;subst nV;refine aB ?_;refine aU (fun w1 t=>nK _ 4 w1 h4 (by decide)) ?_;refine aB ?_;refine eK fun g5=>?_;refine iF 1 1 4 1 (n':=(x0::(t1++[eZ a.aw 4])).length) (el:=37) (by kernel_rfl) (by kernel_rfl) (by decide) rfl rfl rfl (mM 0 rfl rfl) (by simp[Value.oneCell']) (by simp) (by first | (simp;done) | (simp;omega)) (by first | (simp;done) | (simp;omega)) (by decide) fun A2 c2=>?_;dsimp only[List.set];refine aB ?_;rw[show dY (x0::t1)++[.int .u32 (eZ a.aw 4)]=dY (x0::(t1++[eZ a.aw 4])) by simp[dY]];exact dG (A2,c2)
   ·rw[if_neg (fun hh=>hh.elim hg h)] at nV;subst nV;rw[List.append_nil];refine aB ?_;exact dG b
 refine aB ?_;refine aU (fun w1 t=>nK _ 30 w1 h5 (by decide)) ?_;rw[hod];refine aB ?_;refine aG rfl (fun h=>?_) (fun h=>?_)
 ·rw[if_pos h];refine aB ?_;refine eK fun g7=>?_;refine iF 1 1 4 1 (n':=((x0::(t1++t2))++[0]).length) (el:=37) (by kernel_rfl) (by kernel_rfl) (by decide) rfl rfl rfl (mM 0 rfl rfl) (by simp[Value.oneCell']) (by simp[Nat.add_assoc]) (by first | (simp;done) | (simp;omega)) (by first | (simp;done) | (simp;omega)) (by decide) fun A2 c2=>?_;dsimp only[List.set];refine aB ?_;refine aT [1] rfl (by decide) (fun _ h=>h) ?_;exact aAK _ rfl (aJz _ _)
 rw[if_neg h];refine aB ?_;refine aG rfl (fun h=>?_) (fun h=>?_)
 ·rw[if_pos h];refine aRn 0 rfl fun hcap=>?_;refine aB ?_;refine aIC ((x0::(t1++t2)).length - 1) (el:=37) (sz:=1) (by kernel_rfl) (by kernel_rfl) rfl rfl (by omega) (by omega) (by decide) fun A3 hA3=>?_;refine aB ?_
  refine oZ (q:=Jt A3 ((x0::(t1++t2)).take ((x0::(t1++t2)).length - 1))) 0 rfl (fun F w h=>by
   obtain⟨A9,c9,hB,hs9⟩:=zF (Y:=F) h (fun _ h=>h)
   injection hB with e1
   subst e1
   have:=hs9.aJA (k:=(x0::(t1++t2)).length - 1) (by omega) hA3
   rw[Nat.mul_one,dY,←List.map_take] at this
   show aI _ 1 A3 (List.length _) (dY _)
   rw[List.length_take,Nat.min_eq_left (by omega)]
   exact this) ?_
  exact aHH _ (by rw[List.length_take,Nat.min_eq_left (by omega)])
 rw[if_neg h];refine aB ?_;refine aG rfl (fun h=>?_) (fun h=>?_)
 ·rw[if_pos h];refine aAM 0 rfl (by simp) ?_;rintro⟨gb,hgb⟩;rw[hgb];refine Gj 0 rfl fun cs jT hct hnc Lj=>?_;dsimp only[List.set]
  have hc0:cs[0]? =some (.int .u32 x0):=by
   rw[Nat.mul_one] at hct;rw[←List.getElem?_take_of_lt (show 0 < (x0::(t1++t2)).length by simp),hct];rfl
  refine aB ?_;refine kd (bH rfl (Rd.aE 0 rfl hc0)) ?_;refine Se rfl rfl (fun w=>aEG _ x0 268435456 w) (by simp) (by decide) ?_;refine aB ?_;refine Ea 0 (n:=(x0::(t1++t2)).length) (c:=b.2) (sz:=1) (xs:=dY ((x0::(t1++t2)).set 0 (Ab x0 268435456))) rfl (by simpa using jT) (by rw[←aEv,←hct,List.take_set]) hnc Lj ?_;dsimp only[List.set];exact aAK (n:=(x0::(t1++t2)).length) _ (by simp) rfl
 rw[if_neg h];refine aB ?_;refine aG rfl (fun h=>?_) (fun h=>?_)
 ·rw[if_pos h];refine aAM 0 rfl (by simp) ?_;rintro⟨gb,hgb⟩;rw[hgb];refine Gj 0 rfl fun cs jT hct hnc Lj=>?_;dsimp only[List.set]
  have hc0:cs[0]? =some (.int .u32 x0):=by
   rw[Nat.mul_one] at hct;rw[←List.getElem?_take_of_lt (show 0 < (x0::(t1++t2)).length by simp),hct];rfl
  refine aB ?_;refine kd (bH rfl (Rd.aE 0 rfl hc0)) ?_;refine Se rfl rfl (fun w=>aEG _ x0 256 w) (by simp) (by decide) ?_;refine aB ?_;refine Ea 0 (n:=(x0::(t1++t2)).length) (c:=b.2) (sz:=1) (xs:=dY ((x0::(t1++t2)).set 0 (Ab x0 256))) rfl (by simpa using jT) (by rw[←aEv,←hct,List.take_set]) hnc Lj ?_;dsimp only[List.set];exact aAK (n:=(x0::(t1++t2)).length) _ (by simp) rfl
 rw[if_neg h];refine aB ?_;exact aAK _ rfl rfl
end
section
def aIk(p:Ec)(v:Value)(hs:List HP)(_:Piece):Prop:=∃A c p0,v=.agg #[.int .u8 p.kind,iv p.task,.int .u8 p.c.k,iv p.c.d,iv p.c.r,.int .u32 p.c.v,.int .u32 p.bF,.slice A p.words.length c]∧hs=[p0,Jt A p.words]
theorem aLy(a:gL)(many:Int)(w:World)(ha:a.ok)(hm:0≤many∧many≤1000):
  Cz 21 #[.agg a.cells.toArray,iv many] w (fun y w'=>(∃v hs q,y=.returned v∧q.w=w'∧aIk (Hl a many) v hs q∧gI w hs q)∧Below w.heap.size w w'):=by
 have b1:=Co a.kind 13 (by decide)
 have b2:=Co a.dev (many+1) (by omega)
 have b3:=Co a.task 6 (by decide)
 have hk:=aMK b1.1 b1.2
 have h1:=ha.kind
 have h2:=ha.dev
 have h3:=ha.bY
 have h4:=ha.task
 have h5:=ha.op
 unfold Hl;obtain⟨K,hK⟩:∃K,opK (eZ a.op 30)=K:=⟨_,rfl⟩
 rw[hK];unfold opK at hK;refine aN func21 ntmps21 ?_;refine aB ?_;refine bN fun g2=>?_;refine bX fun g4=>?_;refine aB ?_;refine eK fun g5=>?_;refine aB ?_;refine Jf (α:=Nat) (fun g6=>[(6,pt g6),(4,pt g4),(2,pt g2)]) (fun g6=>[HP.aE g6 39 [.int .u8 (Qv a),iv (Qw a many),iv (Qu a),.int .u32 a.v],HP.aE g4 65 [.int .u8 0,iv 0,.int .u8 0,iv 0,iv 0,.int .u32 0,.int .u32 0,sn],HP.aE g2 74 a.cells]) (fun _=>True) ?_ fun g6 _=>?_
 ·refine aDx ?_;refine vM 3 17 rfl rfl (by kernel_rfl) ?_ ?_
  ·refine aU (fun w1 t=>nK _ 13 w1 h1 (by decide)) ?_;refine aZ ?_;refine kU 4 ?_;refine kU 5 ?_ (cM:=bH rfl (Rd.aE 0 rfl hk));refine vM 10 17 rfl rfl (by kernel_rfl) ?_ ?_
   ·refine aU (fun w1 t=>nK _ (many+1) w1 h2 (by omega)) ?_;refine aZ ?_;refine vM 13 17 rfl rfl (by kernel_rfl) ?_ ?_
    ·refine aU (fun w1 t=>nK _ 4 w1 h3 (by decide)) ?_;refine aZ ?_;refine kU 16 ?_;refine aL 17 ?_;refine bX fun g6=>?_;refine aZ ?_;refine aL 18 ?_;refine kO 0 rfl ?_;dsimp only[List.set];refine cE ?_;refine dW ?_;refine aB ?_;exact dG g6
    ·refine bX fun g6=>?_;refine aZ ?_;refine aL 13 ?_;refine aU (fun w1 t=>nK _ 4 w1 h3 (by decide)) ?_;refine aZ ?_;refine kU 16 ?_;refine aL 18 ?_;refine kO 0 rfl ?_;dsimp only[List.set];refine cE ?_;refine dW ?_;refine aB ?_;exact dG g6
   ·refine bX fun g6=>?_;refine aZ ?_;refine aL 10 ?_;refine aU (fun w1 t=>nK _ (many+1) w1 h2 (by omega)) ?_;refine aZ ?_;refine aL 13 ?_;refine aU (fun w1 t=>nK _ 4 w1 h3 (by decide)) ?_;refine aZ ?_;refine kU 16 ?_;refine aL 18 ?_;refine kO 0 rfl ?_;dsimp only[List.set];refine cE ?_;refine dW ?_;refine aB ?_;exact dG g6
  ·refine bX fun g6=>?_;refine aZ ?_;refine aL 3 ?_;refine aU (fun w1 t=>nK _ 13 w1 h1 (by decide)) ?_;refine aZ ?_;refine kU 4 ?_;refine kU 5 ?_ (cM:=bH rfl (Rd.aE 0 rfl hk));refine aL 10 ?_;refine aU (fun w1 t=>nK _ (many+1) w1 h2 (by omega)) ?_;refine aZ ?_;refine aL 13 ?_;refine aU (fun w1 t=>nK _ 4 w1 h3 (by decide)) ?_;refine aZ ?_;refine kU 16 ?_;refine aL 18 ?_;refine kO 0 rfl ?_;dsimp only[List.set];refine cE ?_;refine dW ?_;refine aB ?_;exact dG g6
 refine aB ?_;refine Jf (α:=Nat×Option Addr×Nat) (fun z=>[(7,pt z.1),(4,pt g4),(2,pt g2)]) (fun z=>[HP.aE z.1 65 [.int .u8 0,iv (eZ a.task 3),.int .u8 (Qv a),iv (Qw a many),iv (Qu a),.int .u32 a.v,.int .u32 a.v,.slice z.2.1 (sH a).length z.2.2],Jt z.2.1 (sH a),HP.aE g4 65 [.int .u8 0,iv 0,.int .u8 0,iv 0,iv 0,.int .u32 0,.int .u32 0,sn],HP.aE g2 74 a.cells]) (fun _=>True) ?_ fun z _=>?_
 ·refine aDx ?_;refine kU 7 ?_ (cM:=kB rfl (xR (vs:=[iv a.ag,iv a.pr,iv a.ms,iv a.id,iv a.aw,iv a.od]) 2 rfl rfl));refine vM 2 10 rfl rfl (by kernel_rfl) ?_ ?_
  ·refine aU (fun w1 t=>nK _ 3 w1 h4 (by decide)) ?_;refine aZ ?_;refine vM 8 10 rfl rfl (by kernel_rfl) ?_ ?_
   ·refine eX (Ru (sH a)) (fun w1 t=>aCa a ha w1) ?_;rintro _ _ q1 ⟨A1,c1,rfl,rfl⟩ _;dsimp only[List.cons_append,List.nil_append];refine vK (R':=[all w]) (by simp) ?_;refine aZ ?_;refine kU 9 ?_;refine aL 10 ?_;refine bX fun g7=>?_;refine aZ ?_;refine aL 11 ?_;refine kO 0 rfl ?_;dsimp only[List.set];refine cE ?_;refine dW ?_;refine aB ?_;exact dG (g7,A1,c1)
   ·refine bX fun g7=>?_;refine aZ ?_;refine aL 8 ?_;refine eX (Ru (sH a)) (fun w1 t=>aCa a ha w1) ?_;rintro _ _ q1 ⟨A1,c1,rfl,rfl⟩ _;dsimp only[List.cons_append,List.nil_append];refine vK (R':=[all w]) (by simp) ?_;refine aZ ?_;refine kU 9 ?_;refine aL 11 ?_;refine kO 1 rfl ?_;dsimp only[List.set];refine cE ?_;refine dW ?_;refine aB ?_;exact dG (g7,A1,c1)
  ·refine bX fun g7=>?_;refine aZ ?_;refine aL 2 ?_;refine aU (fun w1 t=>nK _ 3 w1 h4 (by decide)) ?_;refine aZ ?_;refine aL 8 ?_;refine eX (Ru (sH a)) (fun w1 t=>aCa a ha w1) ?_;rintro _ _ q1 ⟨A1,c1,rfl,rfl⟩ _;dsimp only[List.cons_append,List.nil_append];refine vK (R':=[all w]) (by simp) ?_;refine aZ ?_;refine kU 9 ?_;refine aL 11 ?_;refine kO 1 rfl ?_;dsimp only[List.set];refine cE ?_;refine dW ?_;refine aB ?_;exact dG (g7,A1,c1)
 refine aB ?_;refine aU (fun w1 t=>nK _ 30 w1 h5 (by decide)) ?_;refine aB ?_;refine tA (α:=Unit) (fun _=>[(7,pt z.1),(4,pt g4),(2,pt g2)]) (fun _=>[HP.aE z.1 65 [.int .u8 K,iv (eZ a.task 3),.int .u8 (Qv a),iv (Qw a many),iv (Qu a),.int .u32 a.v,.int .u32 a.v,.slice z.2.1 (sH a).length z.2.2],Jt z.2.1 (sH a),HP.aE g4 65 [.int .u8 0,iv 0,.int .u8 0,iv 0,iv 0,.int .u32 0,.int .u32 0,sn],HP.aE g2 74 a.cells]) (fun _=>True) ?_ fun _ _=>?_
 ·refine aB ?_;refine aG rfl (fun h=>?_) (fun n0=>?_)
  ·obtain rfl:99=K:=by rw[←hK,if_pos h]
   refine aB ?_;exact dG ()
  refine aB ?_;refine aG rfl (fun h=>?_) (fun n1=>?_)
  ·obtain rfl:116=K:=by rw[←hK,if_neg n0,if_pos h]
   refine aB ?_;exact dG ()
  refine aB ?_;refine aG rfl (fun h=>?_) (fun n2=>?_)
  ·obtain rfl:102=K:=by rw[←hK,if_neg n0,if_neg n1,if_pos h]
   refine aB ?_;exact dG ()
  refine aB ?_;refine aG rfl (fun h=>?_) (fun n3=>?_)
  ·obtain rfl:104=K:=by rw[←hK,if_neg n0,if_neg n1,if_neg n2,if_pos h]
   refine aB ?_;exact dG ()
  refine aB ?_;refine aG rfl (fun h=>?_) (fun n4=>?_)
  ·obtain rfl:109=K:=by rw[←hK,if_neg n0,if_neg n1,if_neg n2,if_neg n3,if_pos h]
   refine aB ?_;exact dG ()
  refine aB ?_;refine aG rfl (fun h=>?_) (fun n5=>?_)
  ·obtain rfl:97=K:=by rw[←hK,if_neg n0,if_neg n1,if_neg n2,if_neg n3,if_neg n4,if_pos h]
   refine aB ?_;exact dG ()
  obtain rfl:0=K:=by rw[←hK,if_neg n0,if_neg n1,if_neg n2,if_neg n3,if_neg n4,if_neg n5]
  refine aB ?_;exact dG ()
 refine aB ?_;refine aU (fun w1 t=>nK _ 40 w1 h3 (by decide)) ?_;refine aB ?_;refine aG rfl (fun h=>?_) (fun h=>?_)
 ·rw[if_pos h];refine aB ?_;refine aU (fun w1 t=>nK _ 6 w1 h4 (by decide)) ?_;refine aB ?_;refine aT [2,1] rfl (by decide) (fun _ h=>h) ?_;refine dF [] [] [0,1] (by simp) rfl (by decide) (by decide) fun q _ _ hfr=>?_;exact Ml (vs:=[.int .u8 K,iv (eZ a.task 6 - 2),.int .u8 (Qv a),iv (Qw a many),iv (Qu a),.int .u32 a.v,.int .u32 a.v,.slice z.2.1 (sH a).length z.2.2]) rfl (by kernel_rfl) rfl rfl (aO.whole 0 rfl) fun w1 st=>⟨⟨_,_,⟨w1,q.Z⟩,rfl,rfl,⟨_,_,_,rfl,rfl⟩,st.newR (by simp) (by simp) (hfr (by simp) (by simp))⟩,st.below (by simp)⟩
 ·rw[if_neg h];refine aB ?_;refine aT [2,1] rfl (by decide) (fun _ h=>h) ?_;refine dF [] [] [0,1] (by simp) rfl (by decide) (by decide) fun q _ _ hfr=>?_;exact Ml (vs:=[.int .u8 K,iv (eZ a.task 3),.int .u8 (Qv a),iv (Qw a many),iv (Qu a),.int .u32 a.v,.int .u32 a.v,.slice z.2.1 (sH a).length z.2.2]) rfl (by kernel_rfl) rfl rfl (aO.whole 0 rfl) fun w1 st=>⟨⟨_,_,⟨w1,q.Z⟩,rfl,rfl,⟨_,_,_,rfl,rfl⟩,st.newR (by simp) (by simp) (hfr (by simp) (by simp))⟩,st.below (by simp)⟩
end
section
def jD.row(e:jD)(A:Option Addr)(c:Nat):List Value:=[.int .u8 e.kind,iv e.task,.int .u8 e.c.k,iv e.c.d,iv e.c.r,.int .u32 e.c.v,iv e.err,.int .u32 e.res,iv e.an.id,iv e.an.dev,.bool e.an.dead,.int .u32 e.an.val,.bool e.alive,.slice A e.words.length c]
def Xt(S:tD)(e:jD)(r:List Value):Prop:=∃A c,r=e.row A c∧S 37 1 A e.words.length (dY e.words)
theorem Xt.mono{S S':tD}(h:∀t sz A n xs,S t sz A n xs→S' t sz A n xs){e:jD}{r:List Value}(k:Xt S e r):Xt S' e r:=by
 obtain⟨A,c,h1,h2⟩:=k;exact⟨A,c,h1,h _ _ _ _ _ h2⟩
def lH(es:List jD)(rows:List (List Value))(p:Piece):Prop:=Rows (Xt (fJ p)) 14 es rows
theorem lH.le{es:List jD}{rows:List (List Value)}(p q:Piece)(h:p.Le q)(k:lH es rows p):lH es rows q:=Rows.mono (fun _ _=>Xt.mono (kE h)) k
theorem aDE{α:Type}{R:α→List Value→Prop}{sz:Nat}:∀{es es':List α} {rs rs':List (List Value)},Rows R sz es rs→Rows R sz es' rs'→Rows R sz (es++es') (rs++rs')
 | [],_,[],_,_,h=>h
 | [],_,_::_,_,h,_=>h.elim
 | _::_,_,[],_,h,_=>h.elim
 | _::_,_,_::_,_,h,k=>⟨h.1,h.2.1,aDE h.2.2 k⟩
theorem lH.one{e:jD}{A:Option Addr}{c:Nat}{p:Piece}(h:aI p 1 A e.words.length (dY e.words)):lH [e] [e.row A c] p:=⟨rfl,⟨A,c,rfl,h⟩,trivial⟩
theorem lH.no{e:jD}{p:Piece}(h:e.words=[]):lH [e] [e.row none 0] p:=⟨rfl,⟨none,0,rfl,by rw[h];exact aI.nil _ _⟩,trivial⟩
def nE(es:List jD)(rows:List (List Value)):HP:=HP.bR (lH es rows) (lH.le (es:=es) (rows:=rows))
structure jZ where
 A:Option Addr
 c:Nat
 rows:List (List Value)
def lZ(f r:Nat)(hL:HL)(s:aC)(w:aX)(L:jZ):List Value:=
  [.pointer (some ⟨hL.h,0,none⟩),pt f,pt r,iv s.aD.length,iv (s.domains.length+s.aF.length+s.bA.length:Nat),
   .int .u8 (w.cl 0).k,iv (w.cl 0).d,iv (w.cl 0).r,.int .u32 (w.cl 0).v,.int .u8 (w.cl 1).k,iv (w.cl 1).d,iv (w.cl 1).r,.int .u32 (w.cl 1).v,.int .u8 (w.cl 2).k,iv (w.cl 2).d,iv (w.cl 2).r,.int .u32 (w.cl 2).v,
   .bool (w.wt 0),.bool (w.wt 1),.bool (w.wt 2),.slice L.A w.es.length L.c]
def lE(g f r:Nat)(hL:HL)(s:aC)(w:aX)(L:jZ):HP:=HP.many [HP.aE g 103 (lZ f r hL s w L),jK r f hL s w.m,HP.own 46 14 (.slice L.A w.es.length L.c) w.es.length L.rows.flatten,nE w.es L.rows]
def eH(g f r:Nat)(hL:HL)(s:aC)(w:aX):HP:=HP.ex fun L:jZ=>lE g f r hL s w L
end
section
theorem aO2(t:TypeId)(sz:Nat)(w:World):(HP.own t sz (.slice none 0 0) 0 []).sat (fun _=>False) w:=⟨fun g h=>by simp[Value.ownBlock] at h,by simp,.inl ⟨rfl,rfl⟩⟩
theorem aO4(w:World):(nE [] []).sat (fun _=>False) w:=(trivial:lH [] [] ⟨w,fun _=>False⟩)
def aD8(s:aC)(v:Value)(hs:List HP)(_:Piece):Prop:=∃(g f r:Nat) (hL:HL),v=.tuple #[pt g,iv 0]∧hs=[eH g f r hL s (Jw s)]∧fZ hL s
theorem aEp(s:aC)(A1 A2 A3 A4:Option Addr)(n1 k1 n2 k2 n3 k3 n4 k4:Nat)(w:World)(hW:iD w s A1 n1 A2 n2 A3 n3 A4 n4)(hm:s.made):
  Cz 23 #[.agg #[.slice A1 n1 k1,.slice A2 n2 k2,.slice A3 n3 k3,.slice A4 n4 k4]] w (fun y w'=>(∃v hs q,y=.returned v∧q.w=w'∧aD8 s v hs q∧gI w hs q)∧Below w.heap.size w w'):=by
 have hH:=hm.dJ
 have hnc:=hm.nc
 have hnd:=hm.nd
 have gF:=hm.nr
 obtain rfl:=hW.qZ;obtain rfl:=hW.qY;obtain rfl:=hW.tW;obtain rfl:=hW.sI;refine aN func23 ntmps23 ?_;refine aB ?_;refine bN fun g1=>?_;refine aB ?_;refine eX (aIt s) (fun w1 t=>aND s hH A1 A2 A3 A4 _ k1 _ k2 _ k3 _ k4 w1 (hW.le (t.started (by simp)))) ?_;rintro _ _ q2 ⟨hL,rfl,rfl,iA,Dd⟩ _;dsimp only[List.cons_append,List.nil_append];refine aB ?_;refine eX (aI2 hL.h s) (fun w1 t=>aOn hL.h s hH A1 A2 A3 A4 _ k1 _ k2 _ k3 _ k4 w1 (hW.le (t.started (by simp)))) ?_;rintro _ _ q3 ⟨f,rfl,rfl⟩ _;dsimp only[List.cons_append,List.nil_append];refine aB ?_;refine eX (aIe hL.h f s) (fun w1 t=>aK0 s A1 A2 A3 A4 _ k1 _ k2 _ k3 _ k4 w1 hL.h f hm (hW.le (t.started (by simp)))) ?_;rintro _ _ q4 ⟨r,rfl,rfl⟩ _;dsimp only[List.cons_append,List.nil_append];refine aB ?_;refine bN fun g=>?_;refine aB ?_;refine aT [1,2,3,0] rfl (by decide) (R':=[all w]) (by simp) ?_;refine vL ?_;refine oF (p:=nE [] []) aO4 ?_;refine oF (p:=HP.own 46 14 (.slice none 0 0) 0 []) (aO2 _ _) ?_;refine aT [3,2,0,1] rfl (by decide) (R':=[all w]) (by simp) ?_;refine mU ?_;refine qN ?_;refine qN ?_;refine uK 0 (f:=fun L:jZ=>lE g f r hL s (Jw s) L) ⟨none,0,[]⟩ rfl ?_;dsimp only[List.set];refine dF [] [] [0] (by simp) rfl (by decide) (by decide) fun q _ _ hfr=>?_;exact fQ rfl rfl rfl fun w1 t=>⟨⟨_,_,⟨w1,q.Z⟩,rfl,rfl,⟨g,f,r,hL,rfl,rfl,⟨iA,Dd⟩⟩,t.newR (by simp) (by simp) (hfr (by simp) (by simp))⟩,t.below (by simp)⟩
end
section
def aHW(g f r:Nat)(hL:HL)(s:aC)(W:aX)(gs:Nat)(es':List jD)(zW:List (List Value)):HP:=HP.many [eH g f r hL s W,HP.aE gs 46 zW.flatten,nE es' zW]
section
variable(g f r:Nat)(hL:HL)(s:aC)(W:aX)(w:World)(F:Nat→Prop)
theorem aEo(es':List jD)(zW:List (List Value))(gs m c:Nat)(hm:es'.length=m)(hl:zW.flatten.length=m*14)(h1:∀u∈zW.flatten,u.oneCell'=true)(hn:W.es.length+es'.length≤1000000000)
  (hp:(aHW g f r hL s W gs es' zW).sat F w) (hF:∀b,F b→b < w.heap.size):
  Cz 40 #[pt g,.slice (some ⟨gs,0,none⟩) m c] w (Wr (.tuple #[]) (eH g f r hL s {W with es:=W.es++es'}) w F):=by
 have fL:(W.es++es').length=W.es.length+m:=by rw[List.length_append,hm]
 refine cS func40 ntmps40 hp hF ?_;refine aV 0 0 ?_;refine aV 1 1 ?_;refine aV 2 2 ?_;refine iW 2 fun L=>?_;refine aV 2 0 ?_;refine aV 3 2 ?_;refine aV 4 3 ?_;dsimp only[lZ];refine aB ?_;refine iF 1 14 120 m (n':=(W.es++es').length) (el:=46) (by kernel_rfl) (by kernel_rfl) (by decide) rfl rfl rfl (mM 4 rfl hl) h1 (by rw[List.length_append,hm]) (by have:=fL;omega) (by have:=fL;omega) (by decide) fun A' c'=>?_;dsimp only[List.set];rw[←List.flatten_append];refine aB ?_;refine aT [0,3,1,2,5] rfl (by decide) (fun _ h=>h) ?_;refine Je (X:=lH (W.es++es') (L.rows++zW)) (h3:=lH.le) (fun p h1 h2=>aDE h1 h2) ?_;refine aJ 2 3 ?_;refine aJ 1 2 ?_;refine aJ 0 0 ?_;refine cR 0 (fun L:jZ=>lE g f r hL s {W with es:=W.es++es'} L) ⟨A',c',L.rows++zW⟩ ?_;exact fC 0 hF
theorem Gy(e:jD)(A:Option Addr)(k gs:Nat)(hn:W.es.length≤900000000)(hp:(aHW g f r hL s W gs [e] [e.row A k]).sat F w)(hF:∀b,F b→b < w.heap.size):
  Cz 40 #[pt g,.slice (some ⟨gs,0,none⟩) 1 1] w (Wr (.tuple #[]) (eH g f r hL s {W with es:=W.es++[e]}) w F):=
 aEo g f r hL s W w F [e] [e.row A k] gs 1 1 rfl rfl (by simp[jD.row,Value.oneCell']) (by simp;omega) hp hF
theorem Qd(e:jD)(h:e.words=[])(w:World):(nE [e] [e.row none 0]).sat (fun _=>False) w:=lH.no (p:=⟨w,fun _=>False⟩) h
theorem aJK{z:bM}{t k d r v:Int}(h:(wG z t k d r v).1=0):t=0∨t=1∨t=2:=by
 unfold wG at h;split at h
 ·simp at h
 ·rename_i hin
  obtain⟨j,rfl,hj⟩:=Hz (t:=t) (by simpa using hin);omega
theorem aJg(t k d q v:Int)(hp:(eH g f r hL s W).sat F w)(hF:∀b,F b→b < w.heap.size):
  Cz 34 #[pt g,iv t,.agg #[.int .u8 k,iv d,iv q,.int .u32 v]] w (Wr (iv (W.call t ⟨k,d,q,v⟩).1) (eH g f r hL s (W.call t ⟨k,d,q,v⟩).2) w F):=by
 unfold aX.call;refine cS func34 ntmps34 hp hF ?_;refine aB ?_;refine bN fun g5=>?_;refine aB ?_;refine iW 1 fun L=>?_;refine aV 1 0 ?_;refine aV 2 1 ?_;dsimp only[lZ];refine Gk [1,2,3,5] ?_;refine bJ 0 ?_ (hsub:=fun _ h=>h.bK);refine aK 1 ?_ (hsub:=fun _ h=>h.bK);refine aK 2 ?_ (hsub:=fun _ h=>h.bK);refine aK 3 ?_ (hsub:=fun _ h=>h.bK);refine bJ 4 ?_ (hsub:=fun _ h=>h.bK);refine aK 5 ?_ (hsub:=fun _ h=>h.bK);refine aL 6 ?_;refine bU 0 (jK r f hL s (W.m.start t k d q v)) (fun w1 F1 t1 h1 h2 h3=>aMv r f hL s W.m w1 F1 t k d q v h1 h2) ?_;refine aZ ?_ (hS:=fun _ h=>h.bK);refine uM [7] ?_;refine aB ?_;refine aG rfl (fun he=>?_) (fun he=>?_)
 ·rw[if_pos he];refine aB ?_;refine aJ 2 1 ?_;refine aJ 1 0 ?_;refine cR 1 (fun L:jZ=>lE g f r hL s {W with m:=W.m.start t k d q v} L) L ?_;exact bO 1 hF
 ·have h0:=Decidable.not_not.1 he
  rw[if_neg he,h0];rcases aJK h0 with rfl | rfl | rfl
  ·refine aB ?_;refine aT [1,0,2,3] rfl (by decide) (fun _ h=>h) ?_;refine Gk [4,5,6,7,9,10] ?_;refine bJ 0 ?_ (hsub:=fun _ h=>h.bK);refine bJ 1 ?_ (hsub:=fun _ h=>h.bK);refine bJ 2 ?_ (hsub:=fun _ h=>h.bK);refine bJ 3 ?_ (hsub:=fun _ h=>h.bK);refine aK 4 ?_ (hsub:=fun _ h=>h.bK);refine aK 5 ?_ (hsub:=fun _ h=>h.bK);refine aK 6 ?_ (hsub:=fun _ h=>h.bK);refine aK 7 ?_ (hsub:=fun _ h=>h.bK) (cM:=by exact fN 0 5);refine aK 9 ?_ (hsub:=fun _ h=>h.bK);refine aK 10 ?_ (hsub:=fun _ h=>h.bK);refine aL 8 ?_;refine Cs 0 rfl ?_;dsimp only[List.set];simp only[fP,List.take,List.drop,List.nil_append,List.append_nil,List.length_cons,List.length_nil,List.cons_append,Nat.reduceAdd];refine aZ ?_ (hS:=fun _ h=>h.bK);refine aL 11 ?_;refine kd (fN 0 17) ?_;refine aZ ?_ (hS:=fun _ h=>h.bK);refine aL 12 ?_;refine eN rfl rfl ?_;dsimp only[List.set];refine aZ ?_ (hS:=fun _ h=>h.bK);refine dW ?_;refine aB ?_;refine oZ (q:=HP.aE g 103 (lZ f r hL s {W with m:=W.m.start 0 k d q v,cl:=iL W.cl (0:Int).toNat ⟨k,d,q,v⟩,wt:=iL W.wt (0:Int).toNat true} L)) 0 rfl (fun F w h=>by simpa[lZ,iL] using h) ?_;dsimp only[List.set];refine aJ 2 0 ?_;refine aJ 1 1 ?_;refine cR 1 (fun L:jZ=>lE g f r hL s {W with m:=W.m.start 0 k d q v,cl:=iL W.cl (0:Int).toNat ⟨k,d,q,v⟩,wt:=iL W.wt (0:Int).toNat true} L) L ?_;exact bO 1 hF
  ·refine aB ?_;refine aT [1,0,2,3] rfl (by decide) (fun _ h=>h) ?_;refine Gk [4,5,6,7,9,10] ?_;refine bJ 0 ?_ (hsub:=fun _ h=>h.bK);refine bJ 1 ?_ (hsub:=fun _ h=>h.bK);refine bJ 2 ?_ (hsub:=fun _ h=>h.bK);refine bJ 3 ?_ (hsub:=fun _ h=>h.bK);refine aK 4 ?_ (hsub:=fun _ h=>h.bK);refine aK 5 ?_ (hsub:=fun _ h=>h.bK);refine aK 6 ?_ (hsub:=fun _ h=>h.bK);refine aK 7 ?_ (hsub:=fun _ h=>h.bK) (cM:=by exact fN 1 9);refine aK 9 ?_ (hsub:=fun _ h=>h.bK);refine aK 10 ?_ (hsub:=fun _ h=>h.bK);refine aL 8 ?_;refine Cs 0 rfl ?_;dsimp only[List.set];simp only[fP,List.take,List.drop,List.nil_append,List.append_nil,List.length_cons,List.length_nil,List.cons_append,Nat.reduceAdd];refine aZ ?_ (hS:=fun _ h=>h.bK);refine aL 11 ?_;refine kd (fN 1 18) ?_;refine aZ ?_ (hS:=fun _ h=>h.bK);refine aL 12 ?_;refine eN rfl rfl ?_;dsimp only[List.set];refine aZ ?_ (hS:=fun _ h=>h.bK);refine dW ?_;refine aB ?_;refine oZ (q:=HP.aE g 103 (lZ f r hL s {W with m:=W.m.start 1 k d q v,cl:=iL W.cl (1:Int).toNat ⟨k,d,q,v⟩,wt:=iL W.wt (1:Int).toNat true} L)) 0 rfl (fun F w h=>by simpa[lZ,iL] using h) ?_;dsimp only[List.set];refine aJ 2 0 ?_;refine aJ 1 1 ?_;refine cR 1 (fun L:jZ=>lE g f r hL s {W with m:=W.m.start 1 k d q v,cl:=iL W.cl (1:Int).toNat ⟨k,d,q,v⟩,wt:=iL W.wt (1:Int).toNat true} L) L ?_;exact bO 1 hF
  ·refine aB ?_;refine aT [1,0,2,3] rfl (by decide) (fun _ h=>h) ?_;refine Gk [4,5,6,7,9,10] ?_;refine bJ 0 ?_ (hsub:=fun _ h=>h.bK);refine bJ 1 ?_ (hsub:=fun _ h=>h.bK);refine bJ 2 ?_ (hsub:=fun _ h=>h.bK);refine bJ 3 ?_ (hsub:=fun _ h=>h.bK);refine aK 4 ?_ (hsub:=fun _ h=>h.bK);refine aK 5 ?_ (hsub:=fun _ h=>h.bK);refine aK 6 ?_ (hsub:=fun _ h=>h.bK);refine aK 7 ?_ (hsub:=fun _ h=>h.bK) (cM:=by exact fN 2 13);refine aK 9 ?_ (hsub:=fun _ h=>h.bK);refine aK 10 ?_ (hsub:=fun _ h=>h.bK);refine aL 8 ?_;refine Cs 0 rfl ?_;dsimp only[List.set];simp only[fP,List.take,List.drop,List.nil_append,List.append_nil,List.length_cons,List.length_nil,List.cons_append,Nat.reduceAdd];refine aZ ?_ (hS:=fun _ h=>h.bK);refine aL 11 ?_;refine kd (fN 2 19) ?_;refine aZ ?_ (hS:=fun _ h=>h.bK);refine aL 12 ?_;refine eN rfl rfl ?_;dsimp only[List.set];refine aZ ?_ (hS:=fun _ h=>h.bK);refine dW ?_;refine aB ?_;refine oZ (q:=HP.aE g 103 (lZ f r hL s {W with m:=W.m.start 2 k d q v,cl:=iL W.cl (2:Int).toNat ⟨k,d,q,v⟩,wt:=iL W.wt (2:Int).toNat true} L)) 0 rfl (fun F w h=>by simpa[lZ,iL] using h) ?_;dsimp only[List.set];refine aJ 2 0 ?_;refine aJ 1 1 ?_;refine cR 1 (fun L:jZ=>lE g f r hL s {W with m:=W.m.start 2 k d q v,cl:=iL W.cl (2:Int).toNat ⟨k,d,q,v⟩,wt:=iL W.wt (2:Int).toNat true} L) L ?_;exact bO 1 hF
theorem aON{z:bM}{t:Int}(h:(pY z t).1.2.2=true):t=0∨t=1∨t=2:=by
 unfold pY at h;split at h
 ·simp at h
 ·rename_i hin
  obtain⟨j,rfl,hj⟩:=Hz (t:=t) (by simpa using hin);omega
theorem yA(hn:W.es.length≤900000000)(t:Int)(hp:(eH g f r hL s W).sat F w)(hF:∀b,F b→b < w.heap.size):
  Cz 88 #[pt g,iv t] w (Wr (.tuple #[]) (eH g f r hL s (W.end_ t)) w F):=by
 unfold aX.end_;refine cS func88 ntmps88 hp hF ?_;refine iW 0 fun L=>?_;refine aV 0 0 ?_;refine aV 1 1 ?_;dsimp only[lZ];refine aB ?_;refine bU 0 (jK r f hL s (W.m.done t)) (fun w1 F1 t1 h1 h2 h3=>aMy r f hL s W.m w1 F1 t h1 h2) ?_;refine aB ?_;refine bX fun g4=>?_;refine aB ?_;cases hb:(pY W.m.z t).1.2.2 with
 | false=>
  rw[if_neg (by decide)];refine aB ?_;refine aT [1,2,3] rfl (by decide) (fun _ h=>h) ?_;refine aJ 1 1 ?_;refine aJ 0 0 ?_;refine cR 0 (fun L:jZ=>lE g f r hL s {W with m:=W.m.done t} L) L ?_;exact fC 0 hF
 | true =>
  rw[if_pos rfl];refine aB ?_;rcases aON hb with rfl | rfl | rfl
  ·refine uL ?_;refine kU 7 ?_ (cM:=kB rfl (xR (vs:=[.int .u8 (W.cl 0).k,iv (W.cl 0).d,iv (W.cl 0).r,.int .u32 (W.cl 0).v]) 2 rfl rfl));refine kU 9 ?_;refine aL 10 ?_;refine eK fun g2=>?_;refine aZ ?_;refine uM [11] ?_;refine aT [2,3,4,0] rfl (by decide) (fun _ h=>h) ?_;refine aJ 1 1 ?_;refine aJ 0 0 ?_;refine cR 0 (fun L:jZ=>lE g f r hL s {W with m:=W.m.done 0} L) L ?_;refine oF (p:=nE [xD W 0] [(xD W 0).row none 0]) (Qd _ rfl) ?_;refine aT [1,2,0] rfl (by decide) (fun _ h=>h) ?_;refine vL ?_;refine bU 0 (eH g f r hL s {W with m:=W.m.done 0,es:=W.es++[xD W 0]}) (fun w1 F1 t1 h1 h2 h3=>Gy g f r hL s {W with m:=W.m.done 0} w1 F1 (xD W 0) none 0 g2 hn h1 h2) ?_;exact fC 0 hF
  ·refine uL ?_;refine kU 7 ?_ (cM:=kB rfl (xR (vs:=[.int .u8 (W.cl 1).k,iv (W.cl 1).d,iv (W.cl 1).r,.int .u32 (W.cl 1).v]) 2 rfl rfl));refine kU 9 ?_;refine aL 10 ?_;refine eK fun g2=>?_;refine aZ ?_;refine uM [11] ?_;refine aT [2,3,4,0] rfl (by decide) (fun _ h=>h) ?_;refine aJ 1 1 ?_;refine aJ 0 0 ?_;refine cR 0 (fun L:jZ=>lE g f r hL s {W with m:=W.m.done 1} L) L ?_;refine oF (p:=nE [xD W 1] [(xD W 1).row none 0]) (Qd _ rfl) ?_;refine aT [1,2,0] rfl (by decide) (fun _ h=>h) ?_;refine vL ?_;refine bU 0 (eH g f r hL s {W with m:=W.m.done 1,es:=W.es++[xD W 1]}) (fun w1 F1 t1 h1 h2 h3=>Gy g f r hL s {W with m:=W.m.done 1} w1 F1 (xD W 1) none 0 g2 hn h1 h2) ?_;exact fC 0 hF
  ·refine uL ?_;refine kU 7 ?_ (cM:=kB rfl (xR (vs:=[.int .u8 (W.cl 2).k,iv (W.cl 2).d,iv (W.cl 2).r,.int .u32 (W.cl 2).v]) 2 rfl rfl));refine kU 9 ?_;refine aL 10 ?_;refine eK fun g2=>?_;refine aZ ?_;refine uM [11] ?_;refine aT [2,3,4,0] rfl (by decide) (fun _ h=>h) ?_;refine aJ 1 1 ?_;refine aJ 0 0 ?_;refine cR 0 (fun L:jZ=>lE g f r hL s {W with m:=W.m.done 2} L) L ?_;refine oF (p:=nE [xD W 2] [(xD W 2).row none 0]) (Qd _ rfl) ?_;refine aT [1,2,0] rfl (by decide) (fun _ h=>h) ?_;refine vL ?_;refine bU 0 (eH g f r hL s {W with m:=W.m.done 2,es:=W.es++[xD W 2]}) (fun w1 F1 t1 h1 h2 h3=>Gy g f r hL s {W with m:=W.m.done 2} w1 F1 (xD W 2) none 0 g2 hn h1 h2) ?_;exact fC 0 hF
end
end
section
section
variable(g f r:Nat)(hL:HL)(s:aC)(n:Nat)(W:aX)(w:World)(F:Nat→Prop)
theorem aJd(hm:s.made)(aQ:fZ hL s)(hok:iB s n W)(hn:n≤50000000)(t:Int)(dD:eS ⟨w,fun b=>b < w.heap.size∧¬F b⟩)(hp:(eH g f r hL s W).sat F w)(hF:∀b,F b→b < w.heap.size):
  Cz 35 #[pt g,iv t] w (Wr (.tuple #[]) (eH g f r hL s (W.task s t)) w F):=by
 have Vc:=hok.es
 have gO:W.es.length≤900000000:=by omega
 refine cS func35 ntmps35 hp hF ?_;refine iW 0 fun L=>?_;refine aV 0 0 ?_;refine aV 1 1 ?_;dsimp only[lZ];refine aB ?_;refine bT (t:=7) rfl (fun h0=>?_) (fun h0=>?_)
 ·refine aB ?_;refine bT (t:=11) rfl (fun h3=>?_) (fun h3=>?_)
  ·rcases(show t=0∨t=1∨t=2 by omega) with rfl | rfl | rfl
   ·refine aB ?_;refine qD (t:=19) rfl (fun hw=>?_) (fun hw=>?_)
    ·refine aB ?_;refine aU (fun w1 t1=>aCb r f hL s W.m w1 0 t1 rfl) ?_;refine aB ?_;refine bU 0 (jK r f hL s (W.m.step s 0)) (fun w1 F1 t1 h1 h2 h3=>Hu r f hL s n W.m w1 F1 hm aQ hok.m (by omega) 0 h1 h2 (eS.le dD (h3 _ (by simp)))) ?_;refine aB ?_;refine aG rfl (fun hlt=>?_) (fun hge=>?_)
     ·have hb:W.nQ 0=true:=by unfold aX.nQ;rw[show W.wt (0:Int).toNat=W.wt 0 from rfl,hw,decide_eq_true hlt];rfl
      have uD:(W.es++[nZ W 0]).length≤900000000:=by rw[List.length_append];exact Nat.le_trans (Nat.add_le_add_right Vc 1) (by omega)
      refine aB ?_;refine kd (kB rfl (xR (vs:=[.int .u8 (W.cl 0).k,iv (W.cl 0).d,iv (W.cl 0).r,.int .u32 (W.cl 0).v]) 1 rfl rfl)) ?_;refine aB ?_;refine eK fun g2=>?_;refine aB ?_;refine aT [1,2,3,0] rfl (by decide) (fun _ h=>h) ?_;refine oZ (q:=HP.aE g 103 (lZ f r hL s {W with m:=W.m.step s 0,wt:=iL W.wt (0:Int).toNat false} L)) 1 rfl (fun F w h=>by simpa[lZ,iL] using h) ?_;dsimp only[List.set];refine aJ 1 1 ?_;refine aJ 0 0 ?_;refine cR 0 (fun L:jZ=>lE g f r hL s {W with m:=W.m.step s 0,wt:=iL W.wt (0:Int).toNat false} L) L ?_;refine oF (p:=nE [nZ W 0] [(nZ W 0).row none 0]) (Qd _ rfl) ?_;refine aT [1,2,0] rfl (by decide) (fun _ h=>h) ?_;refine vL ?_;refine bU 0 (eH g f r hL s {W with m:=W.m.step s 0,wt:=iL W.wt (0:Int).toNat false,es:=W.es++[nZ W 0]}) (fun w1 F1 t1 h1 h2 h3=>Gy g f r hL s {W with m:=W.m.step s 0,wt:=iL W.wt (0:Int).toNat false} w1 F1 (nZ W 0) none 0 g2 gO h1 h2) ?_;refine aB ?_
      refine bU 0 (eH g f r hL s (W.task s 0)) (fun w1 F1 t1 h1 h2 h3=>by
       have:=yA g f r hL s {W with m:=W.m.step s 0,wt:=iL W.wt (0:Int).toNat false,es:=W.es++[nZ W 0]} w1 F1 (by first | exact gO | exact uD) 0 h1 h2
       rwa [show aX.end_ {W with m:=W.m.step s 0,wt:=iL W.wt (0:Int).toNat false,es:=W.es++[nZ W 0]} 0=W.task s 0 by unfold aX.task aX.pO;rw[hb];rfl] at this) ?_
      exact fC 0 hF
     ·have hb:W.nQ 0=false:=by unfold aX.nQ;rw[show W.wt (0:Int).toNat=W.wt 0 from rfl,hw,decide_eq_false hge];rfl
      refine aB ?_;refine aJ 1 1 ?_;refine aJ 0 0 ?_;refine cR 0 (fun L:jZ=>lE g f r hL s {W with m:=W.m.step s 0} L) L ?_;refine aB ?_
      refine bU 0 (eH g f r hL s (W.task s 0)) (fun w1 F1 t1 h1 h2 h3=>by
       have:=yA g f r hL s {W with m:=W.m.step s 0} w1 F1 (by first | exact gO | exact uD) 0 h1 h2
       rwa [show aX.end_ {W with m:=W.m.step s 0} 0=W.task s 0 by unfold aX.task aX.pO;rw[hb];rfl] at this) ?_
      exact fC 0 hF
    ·have hb:W.nQ 0=false:=by unfold aX.nQ;rw[show W.wt (0:Int).toNat=W.wt 0 from rfl,hw];rfl
     refine aB ?_;refine bU 0 (jK r f hL s (W.m.step s 0)) (fun w1 F1 t1 h1 h2 h3=>Hu r f hL s n W.m w1 F1 hm aQ hok.m (by omega) 0 h1 h2 (eS.le dD (h3 _ (by simp)))) ?_;refine aB ?_;refine aJ 1 1 ?_;refine aJ 0 0 ?_;refine cR 0 (fun L:jZ=>lE g f r hL s {W with m:=W.m.step s 0} L) L ?_;refine aB ?_
     refine bU 0 (eH g f r hL s (W.task s 0)) (fun w1 F1 t1 h1 h2 h3=>by
      have:=yA g f r hL s {W with m:=W.m.step s 0} w1 F1 (by first | exact gO | exact uD) 0 h1 h2
      rwa [show aX.end_ {W with m:=W.m.step s 0} 0=W.task s 0 by unfold aX.task aX.pO;rw[hb];rfl] at this) ?_
     exact fC 0 hF
   ·refine aB ?_;refine qD (t:=19) rfl (fun hw=>?_) (fun hw=>?_)
    ·refine aB ?_;refine aU (fun w1 t1=>aCb r f hL s W.m w1 0 t1 rfl) ?_;refine aB ?_;refine bU 0 (jK r f hL s (W.m.step s 1)) (fun w1 F1 t1 h1 h2 h3=>Hu r f hL s n W.m w1 F1 hm aQ hok.m (by omega) 1 h1 h2 (eS.le dD (h3 _ (by simp)))) ?_;refine aB ?_;refine aG rfl (fun hlt=>?_) (fun hge=>?_)
     ·have hb:W.nQ 1=true:=by unfold aX.nQ;rw[show W.wt (1:Int).toNat=W.wt 1 from rfl,hw,decide_eq_true hlt];rfl
      have uD:(W.es++[nZ W 1]).length≤900000000:=by rw[List.length_append];exact Nat.le_trans (Nat.add_le_add_right Vc 1) (by omega)
      refine aB ?_;refine kd (kB rfl (xR (vs:=[.int .u8 (W.cl 1).k,iv (W.cl 1).d,iv (W.cl 1).r,.int .u32 (W.cl 1).v]) 1 rfl rfl)) ?_;refine aB ?_;refine eK fun g2=>?_;refine aB ?_;refine aT [1,2,3,0] rfl (by decide) (fun _ h=>h) ?_;refine oZ (q:=HP.aE g 103 (lZ f r hL s {W with m:=W.m.step s 1,wt:=iL W.wt (1:Int).toNat false} L)) 1 rfl (fun F w h=>by simpa[lZ,iL] using h) ?_;dsimp only[List.set];refine aJ 1 1 ?_;refine aJ 0 0 ?_;refine cR 0 (fun L:jZ=>lE g f r hL s {W with m:=W.m.step s 1,wt:=iL W.wt (1:Int).toNat false} L) L ?_;refine oF (p:=nE [nZ W 1] [(nZ W 1).row none 0]) (Qd _ rfl) ?_;refine aT [1,2,0] rfl (by decide) (fun _ h=>h) ?_;refine vL ?_;refine bU 0 (eH g f r hL s {W with m:=W.m.step s 1,wt:=iL W.wt (1:Int).toNat false,es:=W.es++[nZ W 1]}) (fun w1 F1 t1 h1 h2 h3=>Gy g f r hL s {W with m:=W.m.step s 1,wt:=iL W.wt (1:Int).toNat false} w1 F1 (nZ W 1) none 0 g2 gO h1 h2) ?_;refine aB ?_
      refine bU 0 (eH g f r hL s (W.task s 1)) (fun w1 F1 t1 h1 h2 h3=>by
       have:=yA g f r hL s {W with m:=W.m.step s 1,wt:=iL W.wt (1:Int).toNat false,es:=W.es++[nZ W 1]} w1 F1 (by first | exact gO | exact uD) 1 h1 h2
       rwa [show aX.end_ {W with m:=W.m.step s 1,wt:=iL W.wt (1:Int).toNat false,es:=W.es++[nZ W 1]} 1=W.task s 1 by unfold aX.task aX.pO;rw[hb];rfl] at this) ?_
      exact fC 0 hF
     ·have hb:W.nQ 1=false:=by unfold aX.nQ;rw[show W.wt (1:Int).toNat=W.wt 1 from rfl,hw,decide_eq_false hge];rfl
      refine aB ?_;refine aJ 1 1 ?_;refine aJ 0 0 ?_;refine cR 0 (fun L:jZ=>lE g f r hL s {W with m:=W.m.step s 1} L) L ?_;refine aB ?_
      refine bU 0 (eH g f r hL s (W.task s 1)) (fun w1 F1 t1 h1 h2 h3=>by
       have:=yA g f r hL s {W with m:=W.m.step s 1} w1 F1 (by first | exact gO | exact uD) 1 h1 h2
       rwa [show aX.end_ {W with m:=W.m.step s 1} 1=W.task s 1 by unfold aX.task aX.pO;rw[hb];rfl] at this) ?_
      exact fC 0 hF
    ·have hb:W.nQ 1=false:=by unfold aX.nQ;rw[show W.wt (1:Int).toNat=W.wt 1 from rfl,hw];rfl
     refine aB ?_;refine bU 0 (jK r f hL s (W.m.step s 1)) (fun w1 F1 t1 h1 h2 h3=>Hu r f hL s n W.m w1 F1 hm aQ hok.m (by omega) 1 h1 h2 (eS.le dD (h3 _ (by simp)))) ?_;refine aB ?_;refine aJ 1 1 ?_;refine aJ 0 0 ?_;refine cR 0 (fun L:jZ=>lE g f r hL s {W with m:=W.m.step s 1} L) L ?_;refine aB ?_
     refine bU 0 (eH g f r hL s (W.task s 1)) (fun w1 F1 t1 h1 h2 h3=>by
      have:=yA g f r hL s {W with m:=W.m.step s 1} w1 F1 (by first | exact gO | exact uD) 1 h1 h2
      rwa [show aX.end_ {W with m:=W.m.step s 1} 1=W.task s 1 by unfold aX.task aX.pO;rw[hb];rfl] at this) ?_
     exact fC 0 hF
   ·refine aB ?_;refine qD (t:=19) rfl (fun hw=>?_) (fun hw=>?_)
    ·refine aB ?_;refine aU (fun w1 t1=>aCb r f hL s W.m w1 0 t1 rfl) ?_;refine aB ?_;refine bU 0 (jK r f hL s (W.m.step s 2)) (fun w1 F1 t1 h1 h2 h3=>Hu r f hL s n W.m w1 F1 hm aQ hok.m (by omega) 2 h1 h2 (eS.le dD (h3 _ (by simp)))) ?_;refine aB ?_;refine aG rfl (fun hlt=>?_) (fun hge=>?_)
     ·have hb:W.nQ 2=true:=by unfold aX.nQ;rw[show W.wt (2:Int).toNat=W.wt 2 from rfl,hw,decide_eq_true hlt];rfl
      have uD:(W.es++[nZ W 2]).length≤900000000:=by rw[List.length_append];exact Nat.le_trans (Nat.add_le_add_right Vc 1) (by omega)
      refine aB ?_;refine kd (kB rfl (xR (vs:=[.int .u8 (W.cl 2).k,iv (W.cl 2).d,iv (W.cl 2).r,.int .u32 (W.cl 2).v]) 1 rfl rfl)) ?_;refine aB ?_;refine eK fun g2=>?_;refine aB ?_;refine aT [1,2,3,0] rfl (by decide) (fun _ h=>h) ?_;refine oZ (q:=HP.aE g 103 (lZ f r hL s {W with m:=W.m.step s 2,wt:=iL W.wt (2:Int).toNat false} L)) 1 rfl (fun F w h=>by simpa[lZ,iL] using h) ?_;dsimp only[List.set];refine aJ 1 1 ?_;refine aJ 0 0 ?_;refine cR 0 (fun L:jZ=>lE g f r hL s {W with m:=W.m.step s 2,wt:=iL W.wt (2:Int).toNat false} L) L ?_;refine oF (p:=nE [nZ W 2] [(nZ W 2).row none 0]) (Qd _ rfl) ?_;refine aT [1,2,0] rfl (by decide) (fun _ h=>h) ?_;refine vL ?_;refine bU 0 (eH g f r hL s {W with m:=W.m.step s 2,wt:=iL W.wt (2:Int).toNat false,es:=W.es++[nZ W 2]}) (fun w1 F1 t1 h1 h2 h3=>Gy g f r hL s {W with m:=W.m.step s 2,wt:=iL W.wt (2:Int).toNat false} w1 F1 (nZ W 2) none 0 g2 gO h1 h2) ?_;refine aB ?_
      refine bU 0 (eH g f r hL s (W.task s 2)) (fun w1 F1 t1 h1 h2 h3=>by
       have:=yA g f r hL s {W with m:=W.m.step s 2,wt:=iL W.wt (2:Int).toNat false,es:=W.es++[nZ W 2]} w1 F1 (by first | exact gO | exact uD) 2 h1 h2
       rwa [show aX.end_ {W with m:=W.m.step s 2,wt:=iL W.wt (2:Int).toNat false,es:=W.es++[nZ W 2]} 2=W.task s 2 by unfold aX.task aX.pO;rw[hb];rfl] at this) ?_
      exact fC 0 hF
     ·have hb:W.nQ 2=false:=by unfold aX.nQ;rw[show W.wt (2:Int).toNat=W.wt 2 from rfl,hw,decide_eq_false hge];rfl
      refine aB ?_;refine aJ 1 1 ?_;refine aJ 0 0 ?_;refine cR 0 (fun L:jZ=>lE g f r hL s {W with m:=W.m.step s 2} L) L ?_;refine aB ?_
      refine bU 0 (eH g f r hL s (W.task s 2)) (fun w1 F1 t1 h1 h2 h3=>by
       have:=yA g f r hL s {W with m:=W.m.step s 2} w1 F1 (by first | exact gO | exact uD) 2 h1 h2
       rwa [show aX.end_ {W with m:=W.m.step s 2} 2=W.task s 2 by unfold aX.task aX.pO;rw[hb];rfl] at this) ?_
      exact fC 0 hF
    ·have hb:W.nQ 2=false:=by unfold aX.nQ;rw[show W.wt (2:Int).toNat=W.wt 2 from rfl,hw];rfl
     refine aB ?_;refine bU 0 (jK r f hL s (W.m.step s 2)) (fun w1 F1 t1 h1 h2 h3=>Hu r f hL s n W.m w1 F1 hm aQ hok.m (by omega) 2 h1 h2 (eS.le dD (h3 _ (by simp)))) ?_;refine aB ?_;refine aJ 1 1 ?_;refine aJ 0 0 ?_;refine cR 0 (fun L:jZ=>lE g f r hL s {W with m:=W.m.step s 2} L) L ?_;refine aB ?_
     refine bU 0 (eH g f r hL s (W.task s 2)) (fun w1 F1 t1 h1 h2 h3=>by
      have:=yA g f r hL s {W with m:=W.m.step s 2} w1 F1 (by first | exact gO | exact uD) 2 h1 h2
      rwa [show aX.end_ {W with m:=W.m.step s 2} 2=W.task s 2 by unfold aX.task aX.pO;rw[hb];rfl] at this) ?_
     exact fC 0 hF
  ·have hb:W.nQ t=false:=by unfold aX.nQ;rw[show bZ 3 t=false from decide_eq_false (by omega)];rfl
   refine aB ?_;refine bU 0 (jK r f hL s (W.m.step s t)) (fun w1 F1 t1 h1 h2 h3=>Hu r f hL s n W.m w1 F1 hm aQ hok.m (by omega) t h1 h2 (eS.le dD (h3 _ (by simp)))) ?_;refine aB ?_;refine aJ 1 1 ?_;refine aJ 0 0 ?_;refine cR 0 (fun L:jZ=>lE g f r hL s {W with m:=W.m.step s t} L) L ?_;refine aB ?_
   refine bU 0 (eH g f r hL s (W.task s t)) (fun w1 F1 t1 h1 h2 h3=>by
    have:=yA g f r hL s {W with m:=W.m.step s t} w1 F1 (by first | exact gO | exact uD) t h1 h2
    rwa [show aX.end_ {W with m:=W.m.step s t} t=W.task s t by unfold aX.task aX.pO;rw[hb];rfl] at this) ?_
   exact fC 0 hF
 ·have hb:W.nQ t=false:=by unfold aX.nQ;rw[show bZ 3 t=false from decide_eq_false (by omega)];rfl
  refine aB ?_;refine bU 0 (jK r f hL s (W.m.step s t)) (fun w1 F1 t1 h1 h2 h3=>Hu r f hL s n W.m w1 F1 hm aQ hok.m (by omega) t h1 h2 (eS.le dD (h3 _ (by simp)))) ?_;refine aB ?_;refine aJ 1 1 ?_;refine aJ 0 0 ?_;refine cR 0 (fun L:jZ=>lE g f r hL s {W with m:=W.m.step s t} L) L ?_;refine aB ?_
  refine bU 0 (eH g f r hL s (W.task s t)) (fun w1 F1 t1 h1 h2 h3=>by
   have:=yA g f r hL s {W with m:=W.m.step s t} w1 F1 (by first | exact gO | exact uD) t h1 h2
   rwa [show aX.end_ {W with m:=W.m.step s t} t=W.task s t by unfold aX.task aX.pO;rw[hb];rfl] at this) ?_
  exact fC 0 hF
end
end
section
theorem aM6{z:Array Value}{n sz:Nat}(hz:z.size=sz)(hpos:0 < sz):madeCells z (n*sz)=(List.replicate n z.toList).flatten.toArray:=by
 have hl:∀r∈List.replicate n z.toList,r.length=sz:=fun r hr=>by rw[List.eq_of_mem_replicate hr];simpa using hz
 unfold madeCells;refine Array.ext (by simp[Kj _ hl]) fun j h1 h2=>?_
 have hj:j < n*sz:=by simpa using h1
 have hk:j / sz < n:=Nat.div_lt_of_lt_mul (by rw[Nat.mul_comm];exact hj)
 have hf:j % sz < sz:=Nat.mod_lt _ hpos
 have:=Py (sz:=sz) (List.replicate n z.toList) hl (j / sz) (j % sz) z.toList (by rw[List.getElem?_replicate,if_pos hk]) hf
 rw[show j / sz*sz+j % sz=j by rw[Nat.mul_comm];exact Nat.div_add_mod j sz] at this;rw[←Option.some_inj]
 have e2:some ((List.replicate n z.toList).flatten.toArray[j])=(List.replicate n z.toList).flatten[j]? :=by rw[List.getElem_toArray,List.getElem?_eq_getElem]
 rw[e2,this]
 have hzj:j % z.size < z.size:=by rw[hz];exact hf
 rw[Array.getElem_map,Array.getElem_range,getElem!_pos z _ hzj];subst hz;simp
theorem aLm{sz i:Nat}{rows:List (List Value)}{r':List Value}(hr:∀r∈rows,r.length=sz)(hi:i < rows.length)(hr':r'.length=sz):fP rows.flatten (i*sz) r'=(rows.set i r').flatten:=by
 have h1:rows=rows.take i++rows[i]::rows.drop (i+1):=by rw[←List.drop_eq_getElem_cons hi,List.take_append_drop]
 have h2:(rows.take i).flatten.length=i*sz:=by rw[Kj _ (fun r h=>hr r (List.mem_of_mem_take h)),List.length_take,Nat.min_eq_left (by omega)]
 have h3:rows[i].length=sz:=hr _ (List.getElem_mem hi)
 have h4:rows.flatten=(rows.take i).flatten++(rows[i]++(rows.drop (i+1)).flatten):=by
  have:=congrArg List.flatten h1
  rwa [List.flatten_append,List.flatten_cons] at this
 unfold fP;rw[List.set_eq_take_append_cons_drop,if_pos hi,h4,List.take_left' h2,←List.drop_drop,List.drop_left' h2,List.drop_left' (h3.trans hr'.symm),List.flatten_append,List.flatten_cons,List.append_assoc]
theorem aF0{α:Type}{new old:List α}{i:Nat}{x:α}(hx:new[i]? =some x)(hl:old.length=new.length):(new.take i++old.drop i).set i x=new.take (i+1)++old.drop (i+1):=by
 obtain⟨hi,rfl⟩:=List.getElem?_eq_some_iff.1 hx;rw[List.take_succ_eq_append_getElem hi,List.drop_eq_getElem_cons (i:=i) (l:=old) (by omega),List.set_append_right _ _ (by rw[List.length_take];omega),show i - (new.take i).length=0 by rw[List.length_take];omega,List.set_cons_zero,List.append_assoc];rfl
section
variable{P:Program}{N:cF}{w0:World}{e:Env}{R:List Piece}{H:List HP}{Q:Exit→Act→World→Prop}{ops:Array Oper}{rest:List Oper}{d:Nat}{ty:TypeId}{pos:String}{aH:Array Edge}
theorem aIG(sz bytes:Nat){x y:Operand}{t el:TypeId}{n:Nat}{zs:List Value}{kd oP:IntKind}(ht:P.underlying t=some (.slice el))(hT:(P.info? el).map (fun i=>(i.zero.map (fun z=>z.cells.toList),i.size,i.bytes))=some (some zs,sz,bytes))(Kv:zs.length=sz)(hpos:0 < sz)(hx:e.ev x=some (.int kd (n:Int)))(hy:e.ev y=some (.int oP (n:Int)))
  (hb:bytes*n≤281474976710656) (hn:(n:Int)≤9223372036854775807) (hd:d < N.n) (k:∀g,XK N w0 (wpList P ops Q rest) ((d,.slice (some ⟨g,0,none⟩) n n)::e) R (HP.aE g el (List.replicate n zs).flatten::H)):
  XK N w0 (wpList P ops Q (⟨some d,.makeSlice t x y,ty,pos,aH,none⟩::rest)) e R H:=by
 obtain⟨i,hi,he⟩:=Option.map_eq_some_iff.1 hT;simp only[Prod.mk.injEq] at he;obtain⟨h1,h2,rfl⟩:=he;obtain⟨z,hz,rfl⟩:=Option.map_eq_some_iff.1 h1;refine Sa (val:=fun g=>.slice (some ⟨g,0,none⟩) n n) rfl rfl hd (fun a w hr st=>?_) k
 have:=run_make (P:=P) w t el i z ht hi hz kd oP n n (by omega) (Int.le_refl _) (by rw[←Int.natCast_mul];omega) hn
 simp only[Int.toNat_natCast,h2,aM6 (n:=n) (show z.cells.size=sz by simpa using Kv) hpos] at this;simp only[execOp,hr.ev hx,hr.ev hy,Sem.run_bind,this,Result.andThen_ok,Sem.run_pure]
end
end
section
section
variable{s:aC}{x:aS}{y:cI}{z:bM}{j:Nat}
theorem aQK{x:aS}{i:Nat}{a:gK}(h:(iI s x i).2=some a):a.dev=(i:Int)∧(x.wt[i]?).join≠none:=by
 unfold iI at h;split at h
 ·rename_i t d p h1 _ _
  split at h<;>(obtain rfl:=Option.some.inj h;exact⟨rfl,by rw[h1];simp⟩)
 ·cases h
theorem aQF{x:aS}{i k:Nat}(h:((iI s x i).1.wt[k]?).join≠none):(x.wt[k]?).join≠none:=by
 unfold iI at h
 have key:((x.wt.set i none)[k]?).join≠none→(x.wt[k]?).join≠none:=fun h=>by
  by_cases e:i=k
  ·subst e;rw[List.getElem?_set] at h;split at h
   ·split at h
    ·exact absurd rfl h
    ·exact absurd rfl h
   ·exact h
  ·rwa [List.getElem?_set_ne e] at h
 split at h
 ·split at h
  ·exact key h
  ·exact key h
 ·exact h
theorem aHw{x:aS}{k:Nat}:∀n,((fO s x n).1.wt[k]?).join≠none→(x.wt[k]?).join≠none
 | 0,h=>h
 | n+1,h=>aHw n (aQF h)
theorem aHz{x:aS}{a:gK}:∀n,a∈(fO s x n).2→∃i:Nat,a.dev=(i:Int)∧(x.wt[i]?).join≠none
 | 0,h=>by cases h
 | n + 1, h => by
  rcases List.mem_append.1 h with h | h
  ·exact aHz n h
  ·have h:(iI s (fO s x n).1 n).2=some a:=by simpa using h
   obtain⟨h1,h2⟩:=aQK h;exact⟨n,h1,aHw n h2⟩
end
section
variable{s:aC}{n:Nat}{w:aX}
end
end
section
def Bs(s:aC)(x:aS)(i:Nat):List Value:=((List.range s.aD.length).map fun k=>Value.bool (xL s x k)).take i++(List.replicate s.aD.length (Value.bool false)).drop i
theorem aQS{s:aC}(x:aS):List.replicate s.aD.length (Value.bool false)=Bs s x 0:=by simp[Bs]
theorem aQQ{s:aC}{x:aS}{i:Nat}:(Bs s x i).length=s.aD.length:=by simp[Bs];omega
theorem aQP{s:aC}{x:aS}{i:Nat}(hi:i < s.aD.length):(Bs s x i).set i (.bool (xL s x i))=Bs s x (i+1):=aF0 (by simp[hi]) (by simp)
theorem aQR{s:aC}{x:aS}{i:Nat}(hi:i < s.aD.length):(Bs s x s.aD.length)[i]? =some (.bool (xL s x i)):=by simp[Bs,hi,List.getElem?_append]
def zEv:List Value:=[.int .u8 0,iv 0,.int .u8 0,iv 0,iv 0,.int .u32 0,iv 0,.int .u32 0,iv 0,iv 0,.bool false,.int .u32 0,.bool false,sn]
def xH(s:aC)(x:aS)(l:List gK):List (List Value):=l.map fun a=>(Bo s x a).row none 0
def Bn(s:aC)(x:aS)(l:List gK)(i:Nat):List (List Value):=(xH s x l).take i++(List.replicate l.length zEv).drop i
theorem aPy{s:aC}(x:aS)(l:List gK):List.replicate l.length zEv=Bn s x l 0:=by simp[Bn]
theorem aGT{s:aC}{x:aS}{l:List gK}:Bn s x l l.length=xH s x l:=by unfold Bn xH;rw[List.take_of_length_le (by simp),List.drop_of_length_le (by simp),List.append_nil]
theorem aGU{s:aC}{x:aS}{l:List gK}{i:Nat}:(Bn s x l i).length=l.length:=by simp[Bn,xH];omega
theorem aDa{s:aC}{x:aS}{l:List gK}{i:Nat}:∀r∈Bn s x l i,r.length=14:=fun r hr=>by
 rcases List.mem_append.1 hr with h | h
 ·obtain⟨a,_,rfl⟩:=List.mem_map.1 (List.mem_of_mem_take h);rfl
 ·rw[List.eq_of_mem_replicate (List.mem_of_mem_drop h)];rfl
theorem aPx{s:aC}{x:aS}{l:List gK}{i:Nat}{a:gK}(ha:l[i]? =some a):fP (Bn s x l i).flatten (i*14) ((Bo s x a).row none 0)=(Bn s x l (i+1)).flatten:=by
 have hi:=(List.getElem?_eq_some_iff.1 ha).1
 rw[aLm aDa (by rw[aGU];exact hi) rfl];exact congrArg _ (aF0 (by simp[xH,ha]) (by simp[xH]))
theorem aI5{p:Piece}:∀{es:List jD},(∀e∈es,e.words=[])→lH es (es.map fun e=>e.row none 0) p
 | [],_=>trivial
 | e::es,h=>⟨rfl,⟨none,0,rfl,by rw[h e (by simp)];exact aI.nil _ _⟩,aI5 fun e' he=>h e' (by simp[he])⟩
theorem aPv(s:aC)(x:aS)(l:List gK):∀w,(nE (l.map (Bo s x)) (xH s x l)).sat (fun _=>False) w:=fun w=>by
 have:=aI5 (p:=⟨w,fun _=>False⟩) (es:=l.map (Bo s x)) fun e he=>by
  obtain⟨a,_,rfl⟩:=List.mem_map.1 he;rfl
 rwa [List.map_map] at this
theorem aPw(s:aC)(x:aS)(l:List gK):(xH s x l).flatten.length=l.length*14:=by rw[Kj (sz:=14) _ (by rw[←aGT];exact aDa)];simp[xH]
theorem aPu(s:aC)(x:aS)(l:List gK):∀u∈(xH s x l).flatten,u.oneCell'=true:=fun u hu=>by
 obtain⟨r,hr,hu⟩:=List.mem_flatten.1 hu;obtain⟨a,_,rfl⟩:=List.mem_map.1 hr;simp only[jD.row,List.mem_cons,List.not_mem_nil,or_false] at hu;rcases hu with rfl | rfl | rfl | rfl | rfl | rfl | rfl | rfl | rfl | rfl | rfl | rfl | rfl | rfl<;>rfl
def aX.ends(w:aX):Nat→aX
 | 0=>w
 | k+1=>(w.ends k).end_ (k:Int)
theorem aO1(w:aX)(t:Int):(w.end_ t).es.length≤w.es.length+1:=by
 unfold aX.end_;split
 ·show(w.es++[_]).length≤_
  rw[List.length_append];exact Nat.le_refl _
 ·exact Nat.le_add_right _ _
theorem aGB(w:aX):∀k,(w.ends k).es.length≤w.es.length+k
 | 0=>Nat.le_refl _
 | k+1=>Nat.le_trans (aO1 (w.ends k) k) (Nat.add_le_add_right (aGB w k) 1)
section
variable(g f r:Nat)(hL:HL)(s:aC)(n:Nat)(W:aX)(w:World)(F:Nat→Prop)
theorem aMz(m:kL)(hok:oK s m.z)(l:List gK)(hl:l.length≤1000)(A:Option Addr)(c:Nat)(hs:aI ⟨w,fun b=>b < w.heap.size∧¬F b⟩ 4 A l.length (l.flatMap gK.cells))(hp:(jK r f hL s m).sat F w)(hF:∀b,F b→b < w.heap.size):
  Cz 95 #[pt r,.slice A l.length c] w (Wr (.tuple #[]) (jK r f hL s ⟨sY m.z l,m.y,m.x⟩) w F):=
 Vp 0 rfl (p':=jJ r hL.h f s (sY m.z l)) (v:=.tuple #[]) (fun F0 h1 h2 h3=>aKF r hL.h f s m.z w F0 A c l hl hok.po h1 h2 (hs.le fun b hb=>⟨⟨hb.1,fun h0=>hb.2 (h3 b h0)⟩,rfl⟩)) hp hF
theorem aM0(m:kL)(hm:s.made)(aQ:fZ hL s)(hok:cT s m.x)(v:Nat)(hv:v < s.aD.length){w0:World}{R:List Piece}{H:List HP}(i:Nat)(st:St w0 R H w)(hi:H[i]? =some (jK r f hL s m)):Cz 93 #[.pointer (some ⟨hL.h,0,none⟩),iv (v:Int)] w (Rt (.bool (xL s m.x v)) w):=by
 obtain⟨F,h1,h2,_⟩:=st.chunk hi;obtain⟨G,g1,g2,_⟩:=h1;exact aGk hL s m.x w hm.dJ aQ hok v hv (aIu (g1 2 _ rfl) (fun b hb=>h2 b (g2 2 b hb)) aQ hok)
theorem aJc(hm:s.made)(aQ:fZ hL s)(hok:iB s n W)(hn:n≤50000000)(bF:Int)(hd:0≤bF∧bF < 4294967296)(hp:(eH g f r hL s W).sat F w)(hF:∀b,F b→b < w.heap.size):
  Cz 37 #[pt g,.int .u32 bF] w (Wr (.tuple #[]) (eH g f r hL s (W.tick s bF)) w F):=by
 have rE:=hm.nv
 have Vc:=hok.es
 have aFS:=(hok.pN hm bF).2.1
 have hT:=fun w F=>aMu r f hL s n W.m w F hm aQ hok.m bF hd
 have aC7:∀a∈(qE s W.m.x bF).2,∃i:Nat,a.dev=(i:Int)∧i < s.aD.length:=fun a ha=>by
  obtain⟨i,h1,h2⟩:=aHz (s:=s) (x:=W.m.x) (a:=a) s.aD.length ha;refine⟨i,h1,?_⟩;rcases Nat.lt_or_ge i s.aD.length with h | h
  ·exact h
  ·rw[List.getElem?_eq_none (by rw[hok.m.hw.wt];exact h)] at h2;exact absurd rfl h2
 have uC:(qE s W.m.x bF).2.length≤1000:=Nat.le_trans (aAB (s:=s) (x:=W.m.x) s.aD.length) (by omega)
 obtain⟨W3,Pr⟩:∃W3,W.pN s bF=W3:=⟨_,rfl⟩
 have vE:W.tick s bF=W3.ends 3:=by rw[←Pr];rfl
 rw[Pr] at aFS;unfold aX.pN kL.tick at Pr;obtain⟨⟨x',l⟩,hxl⟩:∃p,qE s W.m.x bF=p:=⟨_,rfl⟩
 rw[hxl] at hT aC7 uC Pr;dsimp only at hT aC7 uC Pr;rw[vE];clear vE;refine cS func37 ntmps37 hp hF ?_;refine iW 0 fun L=>?_;refine aV 0 0 ?_;refine aV 1 1 ?_;dsimp only[lZ];refine aB ?_;refine lY (n:=s.aD.length) 1 (el:=4) (z:=.bool false) (by kernel_rfl) (by kernel_rfl) rfl rfl rfl (by omega) (by omega) (by decide) fun gl=>?_;rw[aQS W.m.x];refine aB ?_;refine tA (α:=Unit) (fun _=>[(0,pt g),(1,.int .u32 bF),(4,.slice (some ⟨gl,0,none⟩) s.aD.length s.aD.length)]) (fun _=>[jK r f hL s W.m,HP.aE gl 4 (Bs s W.m.x s.aD.length),HP.aE g 103 (lZ f r hL s W L),HP.many [cG,cG,HP.own 46 14 (.slice L.A W.es.length L.c) W.es.length L.rows.flatten,nE W.es L.rows]]) (fun _=>True) ?_ fun _ _=>?_
 ·refine rK (α:=Unit) (fun i _=>[(18,iv i),(17,iv s.aD.length),(0,pt g),(1,.int .u32 bF),(4,.slice (some ⟨gl,0,none⟩) s.aD.length s.aD.length)]) (fun i _=>[jK r f hL s W.m,HP.aE gl 4 (Bs s W.m.x i),HP.aE g 103 (lZ f r hL s W L),HP.many [cG,cG,HP.own 46 14 (.slice L.A W.es.length L.c) W.es.length L.rows.flatten,nE W.es L.rows]]) (fun _ _=>True) s.aD.length () trivial fun i _ hi _=>?_;refine aB ?_;refine aG rfl (fun hlt=>?_) (fun hge=>?_)
  ·have hlt:i < s.aD.length:=by omega
   refine aB ?_;refine aU (fun w1 t=>aM0 f r hL s w1 W.m hm aQ hok.m.hw i hlt 0 t rfl) ?_;refine aB ?_;refine eN rfl rfl ?_ (hs:=eJ.mk 1 rfl cO.h rfl (by rw[aQQ];exact hlt));dsimp only[List.set];rw[aQP hlt];refine aB ?_;exact jW ()
  ·obtain rfl:i=s.aD.length:=by omega
   refine aB ?_;exact dG ()
 refine aB ?_;refine vU (α:=Option Addr×Nat) 0 (f:=94) (fi:=[]) (ca:=[]) (fun a=>.slice a.1 l.length a.2) (fun a=>aHV r f hL s ⟨W.m.z,W.m.y,x'⟩ l a) (fun _=>True) (by kernel_rfl) rfl rfl rfl (by decide) (fun w1 F1 t h1 h2 h3=>by simpa using hT w1 F1 h1 h2) fun aa _=>?_;dsimp only[List.set];obtain⟨Aa,ca⟩:=aa;refine aV 0 1 ?_;refine aV 1 0 ?_;refine dF [] [1] [0,3,4,5] (by simp) rfl (by decide) (by decide) fun q hq _ _=>?_;obtain⟨F2,wJ,vQ⟩:=hq 1 _ (by simp) rfl
 have Va:aI q 4 Aa l.length (l.flatMap gK.cells):=aI.own ⟨F2,wJ,vQ⟩
 refine aB ?_;refine aIG 14 120 (n:=l.length) (el:=46) (zs:=zEv) (by kernel_rfl) (by kernel_rfl) rfl (by decide) rfl rfl (by omega) (by omega) (by decide) fun gd=>?_;rw[aPy (s:=s) W.m.x l];refine aB ?_;refine tA (α:=Unit) (fun _=>[(0,pt g),(6,.slice Aa l.length ca),(7,.slice (some ⟨gd,0,none⟩) l.length l.length)]) (fun _=>[HP.aE gd 46 (xH s W.m.x l).flatten,jK r f hL s ⟨W.m.z,W.m.y,x'⟩,HP.aE g 103 (lZ f r hL s W L),HP.many [cG,cG,HP.own 46 14 (.slice L.A W.es.length L.c) W.es.length L.rows.flatten,nE W.es L.rows]]) (fun _=>True) ?_ fun _ _=>?_
 ·refine rK (α:=Unit) (fun i _=>[(42,iv i),(41,iv l.length),(40,.slice Aa l.length ca),(0,pt g),(4,.slice (some ⟨gl,0,none⟩) s.aD.length s.aD.length),(6,.slice Aa l.length ca),(7,.slice (some ⟨gd,0,none⟩) l.length l.length)]) (fun i _=>[HP.aE gd 46 (Bn s W.m.x l i).flatten,HP.aE gl 4 (Bs s W.m.x s.aD.length),jK r f hL s ⟨W.m.z,W.m.y,x'⟩,HP.aE g 103 (lZ f r hL s W L),HP.many [cG,cG,HP.own 46 14 (.slice L.A W.es.length L.c) W.es.length L.rows.flatten,nE W.es L.rows]]) (fun _ _=>True) l.length () trivial fun i _ hi _=>?_;refine aB ?_;refine aG rfl (fun hlt=>?_) (fun hge=>?_)
  ·have hlt:i < l.length:=by omega
   obtain⟨a,ha⟩:=get_some hlt;obtain⟨dv,Df,lB⟩:=aC7 a (List.mem_of_getElem? ha)
   have hfl:(Bn s W.m.x l i).flatten.length=l.length*14:=by rw[Kj (sz:=14) _ aDa,aGU]
   have hput:=aPx (s:=s) (x:=W.m.x) ha
   obtain⟨b,off,rfl,fG,hc⟩:=Va.2 (by omega)
   have dV:=fun k v hv=>hc _ _ (aHu (k:=k) (v:=v) ha hv)
   obtain⟨Gg,Qz,Dz,Bq⟩:=a;dsimp only at Df;subst Df;refine aB ?_;refine kd (kB rfl (aO.of (vs:=[iv Gg,iv dv,.bool Dz,.int .u32 Bq]) fun k v hv=>Rd.ro (p:=q) (by simp) fG (by rw[Nat.add_assoc];exact dV k v hv))) ?_;refine bX fun g1=>?_;refine aB ?_;refine uL ?_;refine kU 7 ?_ (cM:=bH rfl (Rd.aE 2 rfl (aQR lB)));refine kU 8 ?_;refine kU 9 ?_;refine aL 10 ?_;refine Cs 1 rfl ?_ (vs:=(Bo s W.m.x ⟨Gg,dv,Dz,Bq⟩).row none 0) (hl:=decide_eq_true (by show i*14+14≤_;rw[hfl];omega));dsimp only[List.set];rw[hput];refine cE ?_;refine dW ?_;refine aB ?_;exact jW ()
  ·obtain rfl:i=l.length:=by omega
   rw[aGT];refine aB ?_;exact dG ()
 refine aB ?_;refine aT [1,2,3,0] rfl (by decide) (fun _ h=>h) ?_;refine aJ 1 1 ?_;refine aJ 0 0 ?_;refine cR 0 (fun L:jZ=>lE g f r hL s {W with m:=⟨W.m.z,W.m.y,x'⟩} L) L ?_;refine oF (p:=nE (l.map (Bo s W.m.x)) (xH s W.m.x l)) (aPv _ _ _) ?_;refine aT [1,2,0] rfl (by decide) (fun _ h=>h) ?_;refine vL ?_;refine bU 0 (eH g f r hL s {W with m:=⟨W.m.z,W.m.y,x'⟩,es:=W.es++l.map (Bo s W.m.x)}) (fun w1 F1 t1 h1 h2 h3=>aEo g f r hL s {W with m:=⟨W.m.z,W.m.y,x'⟩} w1 F1 (l.map (Bo s W.m.x)) (xH s W.m.x l) gd l.length l.length (by simp) (aPw _ _ _) (aPu _ _ _) (by show W.es.length+_≤_;rw[List.length_map];omega) h1 h2) ?_;refine iW 0 fun L2=>?_;refine aV 0 0 ?_;refine aV 1 1 ?_;dsimp only[lZ];refine aB ?_;refine bU 0 (jK r f hL s ⟨sY W.m.z l,W.m.y,x'⟩) (fun w1 F1 t1 h1 h2 h3=>aMz f r hL s w1 F1 ⟨W.m.z,W.m.y,x'⟩ hok.m.zV l uC Aa ca (Va.le (h3 _ (by simp))) h1 h2) ?_;refine aB ?_;refine aJ 1 1 ?_;refine aJ 0 0 ?_;subst Pr;refine cR 0 (fun L:jZ=>lE g f r hL s {W with m:=⟨sY W.m.z l,W.m.y,x'⟩,es:=W.es++l.map (Bo s W.m.x)} L) L2 ?_;generalize ({W with m:=⟨sY W.m.z l,W.m.y,x'⟩,es:=W.es++l.map (Bo s W.m.x)}:aX)=W3 at aFS⊢;refine rK (α:=Unit) (fun i _=>[(67,iv i),(0,pt g)]) (fun i _=>[eH g f r hL s (W3.ends i)]) (fun _ _=>True) 3 () trivial fun i _ hi _=>?_
 have hel:=aGB W3 i
 refine aB ?_;refine aG rfl (fun hlt=>?_) (fun hge=>?_)
 ·refine aB ?_;refine bU 0 (eH g f r hL s (W3.ends (i+1))) (fun w1 F1 t1 h1 h2 h3=>yA g f r hL s (W3.ends i) w1 F1 (by omega) i h1 h2) ?_;refine aB ?_;exact jW ()
 ·obtain rfl:i=3:=by omega
  refine aB ?_;exact fC 0 hF
end
end
section
section
variable(g f r:Nat)(hL:HL)(s:aC)(W:aX)(w:World)(F:Nat→Prop)
theorem aMw(m:kL)(A:Option Addr)(n c:Nat)(l:List Int)(hs:aI ⟨w,fun b=>b < w.heap.size∧¬F b⟩ 1 A n (dY l))(hn:n=l.length)(hn2:n≤1000000)(hp:(jK r f hL s m).sat F w)(hF:∀b,F b→b < w.heap.size):
  Cz 96 #[pt f,iv 1,.slice A n c] w (Wr (iv (iG m.y 1 l).1) (jK r f hL s ⟨m.z,(iG m.y 1 l).2,m.x⟩) w F):=
 Vp 1 rfl (fun F0 h1 h2 h3=>aGx f hL.h s m.y 1 A n c l w F0 h1 h2 (hs.le fun b hb=>⟨⟨hb.1,fun h0=>hb.2 (h3 b h0)⟩,rfl⟩) hn hn2) hp hF
def Ce(k:Int)(l:List Int):jD:={Lx with kind:=k,words:=l}
theorem aJe(hn:W.es.length≤900000000)(A:Option Addr)(n c:Nat)(l:List Int)(hs:aI ⟨w,fun b=>b < w.heap.size∧¬F b⟩ 1 A n (dY l))(fL:n=l.length)(hn2:n≤1000000)(hp:(eH g f r hL s W).sat F w)(hF:∀b,F b→b < w.heap.size):
  Cz 38 #[pt g,.slice A n c] w (Wr (iv (W.send l).1) (eH g f r hL s (W.send l).2) w F):=by
 subst fL;unfold aX.send;refine cS func38 ntmps38 hp hF ?_;refine iW 0 fun L=>?_;refine aV 0 0 ?_;refine aV 1 1 ?_;dsimp only[lZ];refine aB ?_;refine bU 0 (jK r f hL s ⟨W.m.z,(iG W.m.y 1 l).2,W.m.x⟩) (fun w1 F1 t1 h1 h2 h3=>aMw f r hL s w1 F1 W.m A _ c l (hs.le (h3 _ (by simp))) rfl hn2 h1 h2) ?_;refine aB ?_;refine aG rfl (fun he=>?_) (fun he=>?_)
 ·rw[if_pos he];refine aB ?_;refine aJ 1 1 ?_;refine aJ 0 0 ?_;refine cR 0 (fun L:jZ=>lE g f r hL s {W with m:=⟨W.m.z,(iG W.m.y 1 l).2,W.m.x⟩} L) L ?_;exact bO 0 hF
 ·rw[if_neg he,Decidable.not_not.1 he];refine aB ?_;refine eX (Xv l.length (dY l)) (fun w1 t=>aA0 A _ c _ w1 (hs.le (t.le (by simp))) (Gz _) hn2) ?_;rintro _ _ q2 ⟨Aw,cw,rfl,rfl⟩ _;dsimp only[List.cons_append,List.nil_append];refine aB ?_;refine eK fun g2=>?_;refine aB ?_;refine aT [2,3,4,0,1] rfl (by decide) (R':=[⟨w,fun b=>b < w.heap.size∧¬F b⟩]) (by simp) ?_;refine aJ 1 1 ?_;refine aJ 0 0 ?_;refine cR 0 (fun L:jZ=>lE g f r hL s {W with m:=⟨W.m.z,(iG W.m.y 1 l).2,W.m.x⟩} L) L ?_;refine xM 2 (Φ:=lH [Ce 115 l] [(Ce 115 l).row Aw cw]) (hm:=lH.le) rfl (fun _ h=>lH.one h) ?_;dsimp only[List.set];refine vL ?_;refine bU 0 (eH g f r hL s {W with m:=⟨W.m.z,(iG W.m.y 1 l).2,W.m.x⟩,es:=W.es++[Ce 115 l]}) (fun w1 F1 t1 h1 h2 h3=>Gy g f r hL s {W with m:=⟨W.m.z,(iG W.m.y 1 l).2,W.m.x⟩} w1 F1 (Ce 115 l) Aw cw g2 hn h1 h2) ?_;refine aB ?_;exact bO 0 hF
end
end
section
def aX.El(s:aC)(w:aX):Nat→aX
 | 0=>w
 | k+1=>(w.El s k).task s (k:Int)
theorem aBv{s:aC}(hm:s.made){n:Nat}{w:aX}(h:iB s n w):∀k,iB s (n+k) (w.El s k)
 | 0=>h
 | k+1=>(aBv hm h k).task hm k
section
variable(g f r:Nat)(hL:HL)(s:aC)(n:Nat)(W:aX)(w:World)(F:Nat→Prop)
theorem Jv(hm:s.made)(aQ:fZ hL s)(hok:iB s n W)(hn:n≤50000000)(p:Ec)(hpk:p.ok)(A:Option Addr)(k c:Nat)(hs:aI ⟨w,fun b=>b < w.heap.size∧¬F b⟩ 1 A k (dY p.words))(hk:k=p.words.length)(dD:eS ⟨w,fun b=>b < w.heap.size∧¬F b⟩)(hp:(eH g f r hL s W).sat F w)(hF:∀b,F b→b < w.heap.size):
  Cz 17 #[pt g,.agg #[.int .u8 p.kind,iv p.task,.int .u8 p.c.k,iv p.c.d,iv p.c.r,.int .u32 p.c.v,.int .u32 p.bF,.slice A k c]] w (Wr (iv (W.nF s p).1) (eH g f r hL s (W.nF s p).2) w F):=by
 have Vc:=hok.es
 have gO:W.es.length≤900000000:=by omega
 obtain⟨hv,hd,hu,hl⟩:=hpk;obtain⟨pk,Zd,⟨c1,c2,c3,c4⟩,pd,pw⟩:=p;dsimp only at hs hk hv hd hu hl⊢;unfold aX.nF;dsimp only;refine cS func17 ntmps17 hp hF ?_;refine aB ?_;refine bN fun g3=>?_;refine aB ?_;refine aG rfl (fun h=>?_) (fun h=>?_)
 ·rw[if_pos h];refine aB ?_;refine kd (kB rfl (xR (vs:=[.int .u8 c1,iv c2,iv c3,.int .u32 c4]) 0 rfl rfl)) ?_;refine bU 1 (eH g f r hL s (W.call Zd ⟨c1,c2,c3,c4⟩).2) (fun w1 F1 t1 h1 h2 h3=>aJg g f r hL s W w1 F1 Zd c1 c2 c3 c4 h1 h2) ?_;refine aB ?_;exact bO 1 hF
 rw[if_neg h];refine aB ?_;refine aG rfl (fun h=>?_) (fun h=>?_)
 ·rw[if_pos h];refine aB ?_;refine bU 1 (eH g f r hL s (W.task s Zd)) (fun w1 F1 t1 h1 h2 h3=>aJd g f r hL s n W w1 F1 hm aQ hok hn Zd (eS.le dD (h3 _ (by simp))) h1 h2) ?_;refine aB ?_;exact bO 1 hF
 rw[if_neg h];refine aB ?_;refine aG rfl (fun h=>?_) (fun h=>?_)
 ·rw[if_pos h];refine iW 1 fun L=>?_;refine aV 1 0 ?_;refine aV 2 1 ?_;dsimp only[lZ];refine aB ?_;refine bU 0 (jK r f hL s (W.m.dZ s)) (fun w1 F1 t1 h1 h2 h3=>aMx r f hL s n W.m w1 F1 hm aQ hok.m h1 h2 (eS.le dD (h3 _ (by simp)))) ?_;refine aB ?_;refine aJ 2 1 ?_;refine aJ 1 0 ?_;refine cR 1 (fun L:jZ=>lE g f r hL s (W.dZ s) L) L ?_;exact bO 1 hF
 rw[if_neg h];refine aB ?_;refine aG rfl (fun h=>?_) (fun h=>?_)
 ·rw[if_pos h];refine aB ?_;refine bU 1 (eH g f r hL s (W.tick s pd)) (fun w1 F1 t1 h1 h2 h3=>aJc g f r hL s n W w1 F1 hm aQ hok hn pd hd h1 h2) ?_;refine aB ?_;exact bO 1 hF
 rw[if_neg h];refine aB ?_;refine aG rfl (fun h=>?_) (fun h=>?_)
 ·rw[if_pos h];refine aB ?_;refine bU 1 (eH g f r hL s (W.send pw).2) (fun w1 F1 t1 h1 h2 h3=>aJe g f r hL s W w1 F1 gO A k c pw (hs.le (h3 _ (by simp))) hk (by omega) h1 h2) ?_;refine aB ?_;exact bO 1 hF
 rw[if_neg h];refine aB ?_;refine aG rfl (fun h=>?_) (fun h=>?_)
 ·rw[if_pos h];unfold aX.take;refine iW 1 fun L=>?_;refine aV 1 0 ?_;refine aV 2 1 ?_;dsimp only[lZ];refine aV 0 1 ?_;refine aB ?_;refine vU (α:=AC) 0 (f:=39) (fi:=[]) (ca:=[]) (fun c=>Nx (lP W.m.y 1) c) (fun c=>Et f hL.h s (kM W.m.y 1) ((lP W.m.y 1).getD []) c) (fun _=>True) (by kernel_rfl) rfl rfl rfl (by decide) (fun w1 F1 t h1 h2 h3=>aCN f hL.h s W.m.y 1 w1 F1 h1 h2) fun cc _=>?_;dsimp only[List.set];refine aV 0 0 ?_;refine aJ 1 1 ?_;cases hw:lP W.m.y 1 with
  | none=>
   refine aB ?_;refine aT [1,2,3,4] rfl (by decide) (fun _ h=>h) ?_;refine aJ 2 1 ?_;refine aJ 1 0 ?_;refine cR 1 (fun L:jZ=>lE g f r hL s {W with m:=⟨W.m.z,kM W.m.y 1,W.m.x⟩} L) L ?_;exact bO 1 hF
  | some l=>
   refine aB ?_;refine eK fun g2=>?_;refine aB ?_;refine aV 1 1 ?_;refine aT [3,4,6,1,0] rfl (by decide) (fun _ h=>h) ?_;refine aJ 1 1 ?_;refine aJ 0 0 ?_;refine cR 0 (fun L:jZ=>lE g f r hL s {W with m:=⟨W.m.z,kM W.m.y 1,W.m.x⟩} L) L ?_;refine oZ (q:=nE [Ce 114 l] [(Ce 114 l).row cc.1 cc.2]) 2 rfl (fun F w h=>lH.one h) ?_;dsimp only[List.set];refine vL ?_;refine bU 0 (eH g f r hL s {W with m:=⟨W.m.z,kM W.m.y 1,W.m.x⟩,es:=W.es++[Ce 114 l]}) (fun w1 F1 t1 h1 h2 h3=>Gy g f r hL s {W with m:=⟨W.m.z,kM W.m.y 1,W.m.x⟩} w1 F1 (Ce 114 l) cc.1 cc.2 g2 gO h1 h2) ?_;refine aB ?_;exact bO 0 hF
 rw[if_neg h];refine aB ?_;exact bO 1 hF
theorem aPk(t:Int):W.nF s ⟨116,t,sV,0,[]⟩=(0,W.task s t):=rfl
theorem aPl(t:Int):W.nF s ⟨102,t,sV,0,[]⟩=(0,W.dZ s):=rfl
theorem aPj(t d:Int):W.nF s ⟨104,t,sV,d,[]⟩=(0,W.tick s d):=rfl
theorem Ko{k t d:Int}(hd:0≤d∧d < 4294967296):(Ec.mk k t sV d []).ok:=⟨⟨Int.le_refl _,(by decide:(0:Int) < 4294967296)⟩,hd,(fun _ h=>by cases h),Nat.zero_le _⟩
theorem aJf(hm:s.made)(aQ:fZ hL s)(hok:iB s n W)(hn:n≤40000000)(bF:Int)(hd:0≤bF∧bF < 4294967296)(dD:eS ⟨w,fun b=>b < w.heap.size∧¬F b⟩)(hp:(eH g f r hL s W).sat F w)(hF:∀b,F b→b < w.heap.size):
  Cz 16 #[pt g,.int .u32 bF] w (Wr (.tuple #[]) (eH g f r hL s (W.round s bF)) w F):=by
 have Pe:=aBv hm hok 3
 refine cS func16 ntmps16 hp hF ?_;refine aB ?_;refine tA (α:=Unit) (fun _=>[(0,pt g),(1,.int .u32 bF)]) (fun _=>[eH g f r hL s (W.El s 3)]) (fun _=>True) ?_ fun _ _=>?_
 ·refine rK (α:=Unit) (fun i _=>[(5,iv i),(0,pt g),(1,.int .u32 bF)]) (fun i _=>[eH g f r hL s (W.El s i)]) (fun _ _=>True) 3 () trivial fun i _ hi _=>?_
  have Dc:=aBv hm hok i
  refine aB ?_;refine aG rfl (fun hlt=>?_) (fun hge=>?_)
  ·refine aB ?_
   refine bU 0 (eH g f r hL s (W.El s (i+1))) (fun w1 F1 t1 h1 h2 h3=>by
    have:=Jv g f r hL s (n+i) (W.El s i) w1 F1 hm aQ Dc (by omega) ⟨116,i,sV,0,[]⟩ (Ko (by decide)) none 0 0 (aI.nil _ _) rfl (eS.le dD (h3 _ (by simp))) h1 h2
    rwa [aPk] at this) ?_
   refine aB ?_;exact jW ()
  ·obtain rfl:i=3:=by omega
   refine aB ?_;exact dG ()
 refine aB ?_
 refine bU 0 (eH g f r hL s ((W.El s 3).dZ s)) (fun w1 F1 t1 h1 h2 h3=>by
  have:=Jv g f r hL s (n+3) (W.El s 3) w1 F1 hm aQ Pe (by omega) ⟨102,0,sV,0,[]⟩ (Ko (by decide)) none 0 0 (aI.nil _ _) rfl (eS.le dD (h3 _ (by simp))) h1 h2
  rwa [aPl] at this) ?_
 refine aB ?_
 refine bU 0 (eH g f r hL s (W.round s bF)) (fun w1 F1 t1 h1 h2 h3=>by
  have:=Jv g f r hL s (n+3) ((W.El s 3).dZ s) w1 F1 hm aQ (Pe.dZ hm) (by omega) ⟨104,0,sV,bF,[]⟩ (Ko hd) none 0 0 (aI.nil _ _) rfl (eS.le dD (h3 _ (by simp))) h1 h2
  rwa [aPj] at this) ?_
 refine aB ?_;exact fC 0 hF
end
end
section
structure WdR(w:World)(g:Nat)(L:jZ)(es:List jD):Prop where
 c:fS w g 20 (.slice L.A es.length L.c)
 row:aI (all w) 14 L.A es.length L.rows.flatten
 ev:lH es L.rows (all w)
theorem St.wdR{w0 w:World}{R:List Piece}{H:List HP}{g f r:Nat}{hL:HL}{s:aC}{W:aX}(t:St w0 R H w)(i:Nat)(hi:H[i]? =some (eH g f r hL s W)):∃L,WdR w g L W.es:=by
 obtain⟨F,h1,h2,_⟩:=t.chunk hi;obtain⟨L,G,g1,g2,_⟩:=h1
 have h0:=g1 0 _ rfl
 have hb:∀i b,G i b→b < w.heap.size:=fun i b hb=>h2 b (g2 i b hb)
 obtain⟨A',c',he,hs⟩:=zF (Y:=fun b=>b < w.heap.size) (g1 2 _ rfl) (fun b hb'=>hb 2 b hb')
 injection he with he
 subst he;exact⟨L,⟨h0.2.lt,by rw[h0.2.cell];rfl⟩,hs,lH.le ⟨w,G 3⟩ (all w) (fun b hb'=>⟨hb 3 b hb',rfl⟩) (g1 3 _ rfl)⟩
def aI8(n:Nat)(xs:List Value)(v:Value)(hs:List HP)(_:Piece):Prop:=∃A c,v=.slice A n c∧hs=[HP.own 46 14 (.slice A n c) n xs]
theorem aPE(A:Option Addr)(n c:Nat)(xs:List Value)(w:World)(hs:aI (all w) 14 A n xs)(h1:∀u∈xs,u.oneCell'=true)(hn:n≤1000000):
  Cz 25 #[.slice A n c] w (fun y w'=>(∃v hs q,y=.returned v∧q.w=w'∧aI8 n xs v hs q∧gI w hs q)∧Below w.heap.size w w'):=by
 refine aN func25 ntmps25 ?_;refine aA ?_;refine Sb (el:=46) (by kernel_rfl) rfl (by decide) ?_;refine fD ?_;refine pE rfl (fun hA=>?_) (fun hA=>?_)
 ·refine aA ?_
  have hn0:n=0:=by
   rcases Nat.eq_zero_or_pos n with h | h
   ·exact h
   ·obtain⟨b,off,rfl,_⟩:=hs.2 h;cases hA
  subst hn0
  have hx:xs=[]:=List.eq_nil_of_length_eq_zero (by simpa using hs.1)
  subst hx;refine lU 46 14 ?_;refine dF [] [] [0] (by simp) rfl (by decide) (by decide) fun q _ _ hfr=>?_;exact aP (h:=fun w1 st=>⟨_,_,⟨w1,q.Z⟩,rfl,rfl,⟨_,_,rfl,rfl⟩,st.newR (by simp) (by simp) (hfr (by simp) (by simp))⟩)
 ·refine aA ?_;refine Rz (el:=46) (sz:=14) (by kernel_rfl) (by kernel_rfl) (by decide) fun g=>?_;refine Mm 0 14 0 rfl rfl (by omega) ?_;dsimp only[List.set];refine aA ?_;refine iF 0 14 120 n (n':=n) (el:=46) (by kernel_rfl) (by kernel_rfl) (by decide) rfl rfl rfl (sA (by simp) hs) h1 (by omega) (by omega) (by omega) (by decide) fun A' k'=>?_;dsimp only[List.set,List.nil_append];refine aA ?_;refine dF [] [] [0] (by simp) rfl (by decide) (by decide) fun q _ _ hfr=>?_;exact aP (h:=fun w1 st=>⟨_,_,⟨w1,q.Z⟩,rfl,rfl,⟨_,_,rfl,rfl⟩,st.newR (by simp) (by simp) (hfr (by simp) (by simp))⟩)
theorem aRv{N:cF}{w0:World}{K:Act→World→Prop}{e:Env}{R:List Piece}{H:List HP}{es:List jD}{rows:List (List Value)}{x:jD}{A:Option Addr}{c:Nat}(h:XK N w0 K e R (nE (es++[x]) (rows++[x.row A c])::H)):XK N w0 K e R (HP.own 37 1 (.slice A x.words.length c) x.words.length (dY x.words)::nE es rows::H):=
 xM 0 (Φ:=pH 1 A x.words.length (dY x.words)) (hm:=pH.le) rfl (fun _ h=>h) (Je (X:=lH (es++[x]) (rows++[x.row A c])) (h3:=lH.le) (fun p h1 h2=>aDE h2 ⟨rfl,⟨A,c,rfl,h1⟩,trivial⟩) h)
theorem aO5(w:World):(nE [] []).sat (fun _=>False) w:=(trivial:lH [] [] ⟨w,fun _=>False⟩)
theorem lH.one'{es:List jD}{rows:List (List Value)}{p:Piece}(h:lH es rows p):∀u∈rows.flatten,u.oneCell'=true:=fun u hu=>by
 obtain⟨r,hr,hu⟩:=List.mem_flatten.1 hu;obtain⟨i,hi⟩:=List.getElem?_of_mem hr;obtain⟨e,_,_,A,c,rfl,_⟩:=Rows.at_ h hi;simp only[jD.row,List.mem_cons,List.not_mem_nil,or_false] at hu;rcases hu with rfl | rfl | rfl | rfl | rfl | rfl | rfl | rfl | rfl | rfl | rfl | rfl | rfl | rfl<;>rfl
theorem aMi{nr old:List (List Value)}{r:List Value}{i:Nat}(h1:nr.length=i)(h2:i < old.length):(nr++old.drop i).set i r=(nr++[r])++old.drop (i+1):=by
 subst h1;rw[List.set_append_right _ _ (Nat.le_refl _),Nat.sub_self,List.drop_eq_getElem_cons h2,List.set_cons_zero,List.append_assoc];rfl
def aDN(es:List jD)(v:Value)(hs:List HP)(q:Piece):Prop:=∃A c rows,v=.slice A es.length c∧hs=[]∧aI q 14 A es.length rows.flatten∧lH es rows q
theorem aEq(g:Nat)(L:jZ)(es:List jD)(w:World)(hn:es.length≤1000000)(hw:∀e∈es,e.words.length≤1000000)(hr:WdR w g L es):
  Cz 11 #[pt g] w (fun y w'=>(∃v hs q,y=.returned v∧q.w=w'∧aDN es v hs q∧gI w hs q)∧Below w.heap.size w w'):=by
 have Cw:=hr.c
 have hlr:=(Rows.len hr.ev).1
 have aNh:=Rows.Mg hr.ev
 refine aN func11 ntmps11 ?_;refine aB ?_;refine eX (aI8 es.length L.rows.flatten) (fun w1 t=>aPE L.A _ L.c _ w1 (hr.row.le (t.le (by simp))) hr.ev.one' hn) ?_;rintro _ _ q2 ⟨A,c,rfl,rfl⟩ _;dsimp only[List.cons_append,List.nil_append];refine aB ?_;refine vK (R':=[all w]) (by simp) ?_;refine oF (p:=nE [] []) aO5 ?_;refine tA (α:=List (List Value)) (fun _=>[(3,.slice A es.length c)]) (fun nr=>[HP.own 46 14 (.slice A es.length c) es.length nr.flatten,nE es nr]) (fun _=>True) ?_ fun nr _=>?_
 ·refine rK (α:=List (List Value)) (fun i _=>[(12,iv i),(11,iv es.length),(3,.slice A es.length c)]) (fun i nr=>[HP.own 46 14 (.slice A es.length c) es.length (nr++L.rows.drop i).flatten,nE (es.take i) nr]) (fun i nr=>nr.length=i∧∀r∈nr,r.length=14) es.length [] ⟨rfl,fun _ h=>by cases h⟩ fun i nr hi hx=>?_;obtain⟨gF,aFT⟩:=hx;refine aB ?_;refine aG rfl (fun hlt=>?_) (fun hge=>?_)
  ·have hlt:i < es.length:=by omega
   obtain⟨ro,hro⟩:=get_some (l:=L.rows) (i:=i) (by omega);obtain⟨e,he,_,Aw,cw,rfl,rB⟩:=Rows.at_ hr.ev hro
   have hwe:=hw e (List.mem_of_getElem? he)
   have hall:∀r∈nr++L.rows.drop i,r.length=14:=fun r h=>by
    rcases List.mem_append.1 h with h | h
    ·exact aFT r h
    ·exact aNh r (List.mem_of_mem_drop h)
   have uC:(nr++L.rows.drop i).length=es.length:=by rw[List.length_append,List.length_drop];omega
   refine aAM 0 rfl (by omega) ?_;rintro⟨gb,rfl⟩;refine Gj 0 rfl fun cs jT hct hnc Lj=>?_;dsimp only[List.set]
   have hri:(nr++L.rows.drop i)[i]? =some (e.row Aw cw):=by
    rw[List.getElem?_append_right (by omega),gF,Nat.sub_self,List.getElem?_drop,Nat.add_zero];exact hro
   have hsub:=Dk hct uC hall hri
   have hcc:i*14+14≤cs.length:=by
    have:=Nat.mul_le_mul_right 14 (show i+1≤c by omega)
    omega
   refine aB ?_;refine kd (bH rfl (Rd.sub 0 13 rfl hsub rfl rfl)) ?_;refine aB ?_;refine eX (Xv e.words.length (dY e.words)) (fun w1 t=>aA0 Aw _ cw _ w1 (aI.le rB (t.le (by simp))) (Gz _) hwe) ?_;rintro _ _ q3 ⟨A2,c2,rfl,rfl⟩ _;dsimp only[List.cons_append,List.nil_append];refine aB ?_;refine Ea 1 (n:=es.length) (c:=c) (sz:=14) (xs:=((nr++L.rows.drop i).set i (e.row A2 c2)).flatten) rfl (by rw[List.length_set];exact jT) (Bg hct uC hall hlt (by omega) rfl (Sub.set hsub 13 _ (show 13 < 14 by decide) (by omega)) ((tC.refl cs (i*14) 14).set 13 _ (by decide))) hnc Lj ?_;dsimp only[List.set];rw[aMi gF (by omega)];refine aT [0,2,1] rfl (by decide) (R':=[all w]) (by simp) ?_;refine aRv (x:=e) ?_;rw[show es.take i++[e]=es.take (i+1) by rw[List.take_add_one,he];rfl]
   exact jW (nr++[e.row A2 c2]) (hg:=⟨by rw[List.length_append,gF];rfl,fun r h=>by
    rcases List.mem_append.1 h with h | h
    ·exact aFT r h
    ·rw[List.mem_singleton] at h;subst h
     rfl⟩)
  ·obtain rfl:i=es.length:=by omega
   rw[List.drop_of_length_le (by omega),List.append_nil,List.take_length];refine aB ?_;exact dG nr
 refine aB ?_;refine dF [] [0,1] [] (by simp) rfl (by decide) (by decide) fun q hq _ hfr=>?_;obtain⟨F0,sf0,zf0⟩:=hq 0 _ (by simp) rfl;obtain⟨F1,sf1,zf1⟩:=hq 1 _ (by simp) rfl
 have hs9:aI q 14 A es.length nr.flatten:=aI.own ⟨F0,sf0,zf0⟩
 have hz9:lH es nr q:=lH.le ⟨q.w,F1⟩ q (fun b hb=>⟨zf1 b hb,rfl⟩) sf1
 exact aP (h:=fun w1 st=>⟨_,[],⟨w1,q.Z⟩,rfl,rfl,⟨A,c,nr,rfl,rfl,hs9.le fun b hb=>⟨hb,st.ro (by simp) hb⟩,lH.le q _ (fun b hb=>⟨hb,st.ro (by simp) hb⟩) hz9⟩,st.newR (by simp) (by simp) (hfr (by simp) (by simp))⟩)
end
section
theorem aEE{s:aC}(hm:s.made){eL:List gL}(ha:∀a∈eL,a.ok):∀k,k≤eL.length→iB s (k*4) (runN s eL k)
 | 0,_=>Yg hm
 | k+1,hk=>by
  obtain⟨a,dV⟩:=get_some (l:=eL) (i:=k) (by omega);rw[aB6 dV];exact(aH3 hm (aEE hm ha k (by omega)) (ha a (List.mem_of_getElem? dV))).le (by omega)
theorem aRf{eL:List gL}{i k:Nat}{a:gL}{v:Value}(h:eL[i]? =some a)(hv:a.cells[k]? =some v):(eL.flatMap gL.cells)[i*12+k]? =some v:=by
 have hk:k < 12:=by
  have:=(List.getElem?_eq_some_iff.1 hv).1
  rwa [gL.len] at this
 exact(Px gL.cells 12 eL (fun _ _=>rfl) i k a h hk).trans hv
theorem aRd{w:World}{A:Option Addr}{eL:List gL}(hs:aI (all w) 12 A eL.length (eL.flatMap gL.cells)){i:Nat}{a:gL}(ha:eL[i]? =some a):∃b off,A=some ⟨b,off,none⟩∧dU w b (off+i*12) a.cells:=by
 have hi:=(List.getElem?_eq_some_iff.1 ha).1
 obtain⟨b,off,rfl,hz,hc⟩:=hs.2 (by omega);exact⟨b,off,rfl,hz,fun j v hv=>by rw[Nat.add_assoc];exact hc _ _ (aRf ha hv)⟩
def aId(s:aC)(W:aX)(v:Value)(hs:List HP)(_:Piece):Prop:=∃(g f r:Nat) (hL:HL),v=pt g∧hs=[eH g f r hL s W]∧fZ hL s
theorem aKu(s:aC)(A1 A2 A3 A4:Option Addr)(n1 k1 n2 k2 n3 k3 n4 k4:Nat)(B:Option Addr)(cb:Nat)(eL:List gL)(w:World)(hW:iD w s A1 n1 A2 n2 A3 n3 A4 n4)(hm:s.made)(hs:aI (all w) 12 B eL.length (eL.flatMap gL.cells))(hac:∀a∈eL,a.ok)(hnb:eL.length≤2000000)(dD:eS (all w)):
  Cz 10 #[.agg #[.slice A1 n1 k1,.slice A2 n2 k2,.slice A3 n3 k3,.slice A4 n4 k4],.slice B eL.length cb] w (fun y w'=>(∃v hs q,y=.returned v∧q.w=w'∧aId s (runN s eL eL.length) v hs q∧gI w hs q)∧Below w.heap.size w w'):=by
 have rE:=hm.nv
 obtain rfl:=hW.sI;refine aN func10 ntmps10 ?_;refine aB ?_;refine bN fun g2=>?_;refine aB ?_;refine eX (aD8 s) (fun w1 t=>aEp s A1 A2 A3 A4 _ k1 _ k2 _ k3 _ k4 w1 (hW.le (t.started (by simp))) hm) ?_;rintro _ _ q1 ⟨g,f,r,hL,rfl,rfl,aQ⟩ _;dsimp only[List.cons_append,List.nil_append];refine vK (R':=[all w]) (by simp) ?_;refine aB ?_;refine tA (α:=Unit) (fun _=>[(5,pt g)]) (fun _=>[eH g f r hL s (runN s eL eL.length)]) (fun _=>True) ?_ fun _ _=>?_
 ·refine rK (α:=Unit) (fun i _=>[(7,iv i),(5,pt g),(1,.slice B eL.length cb),(2,pt g2)]) (fun i _=>[eH g f r hL s (runN s eL i),HP.aE g2 30 [.slice A1 n1 k1,.slice A2 n2 k2,.slice A3 n3 k3,.slice A4 s.aD.length k4]]) (fun _ _=>True) eL.length () trivial fun i _ hi _=>?_
  have hok:=aEE hm hac i hi
  refine aB ?_;refine bT (t:=17) rfl (fun hlt=>?_) (fun hge=>?_)
  ·have hlt:i < eL.length:=by omega
   obtain⟨a,ha⟩:=get_some hlt
   have hao:=hac a (List.mem_of_getElem? ha)
   have dB:=aB6 (s:=s) ha
   unfold Rb at dB;obtain⟨b,off,rfl,ka⟩:=aRd hs ha
   have k0:=ka.at_ (j:=0) rfl
   have k5:=ka.at_ (j:=5) rfl
   refine aB ?_;refine aU (fun w1 t=>nK _ 30 w1 hao.op (by decide)) ?_;refine aB ?_;refine aG rfl (fun h=>?_) (fun h=>?_)
   ·rw[if_pos h] at dB;refine aB ?_
    refine bU 0 (eH g f r hL s (runN s eL (i+1))) (fun w1 F1 t h1 h2 h3=>by
     rw[dB]
     exact aJf g f r hL s (i*4) _ w1 F1 hm aQ hok (by omega) a.v hao.v (eS.le dD (h3 _ (by simp))) h1 h2) ?_
    refine aB ?_;exact jW ()
   ·rw[if_neg h] at dB;refine aB ?_;refine uL ?_;refine aL 8 ?_;refine eX (aIk (Hl a s.aD.length)) (fun w1 t=>aLy a s.aD.length w1 hao ⟨by omega,by omega⟩) ?_;rintro _ _ q2 ⟨Aw,cw,p0,rfl,rfl⟩ _;dsimp only[List.cons_append,List.nil_append];refine vK (R':=[all w]) (by simp) ?_;refine aZ ?_;refine aL 9 ?_;refine dF [] [1] [2,3] (by simp) rfl (by decide) (by decide) fun q hq _ _=>?_;obtain⟨F1,sf1,zf1⟩:=hq 1 _ (by simp) rfl
    have Ia:aI q 1 Aw (Hl a s.aD.length).words.length (dY (Hl a s.aD.length).words):=pH.le ⟨q.w,F1⟩ q (fun b hb=>⟨zf1 b hb,rfl⟩) sf1
    refine bU 0 (eH g f r hL s (runN s eL (i+1))) (fun w1 F1 t h1 h2 h3=>by
     rw[dB]
     exact Jv g f r hL s (i*4) _ w1 F1 hm aQ hok (by omega) (Hl a s.aD.length) (aFg hao _) Aw _ cw (Ia.le (h3 _ (by simp))) rfl (eS.le dD (h3 _ (by simp))) h1 h2) ?_
    refine vK (R':=[all w]) (by simp) ?_;refine cE ?_;refine dW ?_;refine aB ?_;exact jW ()
  ·obtain rfl:i=eL.length:=by omega
   refine aB ?_;exact dG ()
 refine aB ?_;refine dF [] [] [0] (by simp) rfl (by decide) (by decide) fun q _ _ hfr=>?_;exact aP (h:=fun w1 st=>⟨_,_,⟨w1,q.Z⟩,rfl,rfl,⟨g,f,r,hL,rfl,rfl,aQ⟩,st.newR (by simp) (by simp) (hfr (by simp) (by simp))⟩)
end
section
theorem Er:nU.made:=⟨Fits.nil _,Fits.nil _,(fun _ h=>by cases h),Fits.nil _,by decide,by decide,by decide,by decide⟩
def Hf:Int:=(gZ 0 0 16 0).1
def Sw:Ec:=⟨109,0,sV,0,[Hf]⟩
def Yp:aX:=((Jw nU).nF nU Sw).2
def Yo:aX:=(Yp.nF nU ⟨102,0,sV,0,[]⟩).2
def Sv:aX:=(Yo.nF nU ⟨97,0,sV,0,[]⟩).2
theorem aJW:((Jw nU).nF nU Sw).1=0:=by decide+kernel
theorem aJV:(Yp.nF nU ⟨102,0,sV,0,[]⟩).1=0:=rfl
theorem aJU:(Yo.nF nU ⟨97,0,sV,0,[]⟩).1=0:=rfl
theorem aB1:Sv.es=[Ce 115 [Hf],Ce 114 [Hf,0,131072]]:=by kernel_rfl
theorem aB2:0≤Hf∧Hf < 4294967296∧(gZ 0 0 16 0).2=0:=by decide+kernel
theorem aE6:Sw.ok:=⟨⟨Int.le_refl _,(by decide:(0:Int) < 4294967296)⟩,⟨Int.le_refl _,(by decide:(0:Int) < 4294967296)⟩,(fun x hx=>by
 have:x=Hf:=by simpa[Sw] using hx
 rw[this]
 exact⟨aB2.1,aB2.2.1⟩),(by decide:1≤1000000)⟩
theorem aE5:iB nU 1 Yp:=(Yg Er).nF Er aE6
theorem aE4:iB nU 2 Yo:=aE5.nF Er (Ko (by decide))
theorem aJR:iB nU 3 Sv:=aE4.nF Er (Ko (by decide))
theorem aJP(w:World)(dD:eS (all w)):Cz 8 #[] w (Rt (.bool true) w):=by
 refine aN func8 ntmps8 ?_;refine aB ?_;refine eX (aD8 nU) (fun w1 t=>aEp nU none none none none 0 0 0 0 0 0 0 0 w1 (aJM w1) Er) ?_;rintro _ _ q1 ⟨g,f,r,hL,rfl,rfl,aQ⟩ _;dsimp only[List.cons_append,List.nil_append];refine aB ?_;refine eX (aDQ [Hf]) (fun w1 t=>aGZ 0 0 16 0 none 0 0 [] w1 (aI.nil _ _) rfl (by omega) aB2.2.2) ?_;rintro _ _ q2 ⟨Aw,cw,rfl,rfl⟩ _;dsimp only[List.cons_append,List.nil_append];refine dF [] [0] [1] (by simp) rfl (by decide) (by decide) fun q hq _ _=>?_;obtain⟨F0,sf0,zf0⟩:=hq 0 _ (by simp) rfl
 have Ia:aI q 1 Aw 1 (dY [Hf]):=aI.own ⟨F0,sf0,zf0⟩
 refine vK (R':=[q,all w]) (by simp) ?_;refine aB ?_
 refine bU 0 (eH g f r hL nU Yp) (fun w1 F1 t h1 h2 h3=>by
  have:=Jv g f r hL nU 0 _ w1 F1 Er aQ (Yg Er) (by omega) Sw aE6 Aw 1 cw (Ia.le (h3 _ (by simp))) rfl (eS.le dD (h3 _ (by simp))) h1 h2
  rw[aJW] at this
  exact this) ?_
 refine aB ?_
 refine bU 0 (eH g f r hL nU Yo) (fun w1 F1 t h1 h2 h3=>by
  have:=Jv g f r hL nU 1 _ w1 F1 Er aQ aE5 (by omega) ⟨102,0,sV,0,[]⟩ (Ko (by decide)) none 0 0 (aI.nil _ _) rfl (eS.le dD (h3 _ (by simp))) h1 h2
  rw[aJV] at this
  exact this) ?_
 refine aB ?_
 refine bU 0 (eH g f r hL nU Sv) (fun w1 F1 t h1 h2 h3=>by
  have:=Jv g f r hL nU 2 _ w1 F1 Er aQ aE4 (by omega) ⟨97,0,sV,0,[]⟩ (Ko (by decide)) none 0 0 (aI.nil _ _) rfl (eS.le dD (h3 _ (by simp))) h1 h2
  rw[aJU] at this
  exact this) ?_
 refine aB ?_
 refine eX (aDN Sv.es) (fun w1 t=>by
  obtain⟨L,hr⟩:=t.wdR 0 rfl
  exact aEq g L _ w1 (by rw[aB1];decide) (fun e he=>(aJR.wd e he).2) hr) ?_
 rintro _ _ q3 ⟨Av,cv,rows,rfl,rfl,hs,hz⟩ _;dsimp only[List.nil_append];rw[show Sv.es.length=2 by rw[aB1];rfl] at hs⊢;rw[aB1] at hz;refine aT [] rfl (by decide) (R':=[q3,all w]) (by simp) ?_;obtain⟨r1,dQ⟩:=get_some (l:=rows) (i:=0) (by rw[(Rows.len hz).1];decide);obtain⟨r2,fV⟩:=get_some (l:=rows) (i:=1) (by rw[(Rows.len hz).1];decide);obtain⟨e1,gO,_,B1,b1,rfl,_⟩:=Rows.at_ hz dQ;obtain⟨e2,uD,_,B2,b2,rfl,_⟩:=Rows.at_ hz fV;cases gO;cases uD;obtain⟨b,off,rfl,fG,Po⟩:=aI.tP hs (Rows.Mg hz) dQ (by decide);obtain⟨b',off',hA,_,nC⟩:=aI.tP hs (Rows.Mg hz) fV (by decide);cases hA;refine Mk (Rd.ro (p:=q3) (b:=b) (o:=off+0*14+0) (by simp) fG (Po 0 _ rfl)) fun d1=>?_;refine Mk (Rd.ro (p:=q3) (b:=b) (o:=off+1*14+0) (by simp) fG (nC 0 _ rfl)) fun d2=>?_;refine Mk (Rd.ro (p:=q3) (b:=b) (o:=off+1*14+13) (by simp) fG (nC 13 _ rfl)) fun d3=>?_;refine aB ?_;exact dI
end
section
theorem aLz(c n:Int)(w:World)(hc: -9223372036854775808≤c∧c≤9223372036854775807)(hn:0 < n):
  Cz 15 #[iv c,iv n] w fun x w'=>(∃v,x=.returned v∧∃r:Int,v=iv r∧0≤r∧r < n)∧Below w.heap.size w w':=by
 refine aN func15 ntmps15 ?_;refine aB ?_;refine Jf (α:=Int) (fun c=>[(0,iv c),(1,iv n)]) (fun _=>[]) (fun c=>0≤c) ?_ fun c hc0=>?_
 ·refine aB ?_;refine aG rfl (fun h=>?_) (fun h=>?_)
  ·refine aB ?_;exact dG _
  ·refine aB ?_;exact dG _
 refine aB ?_;exact mI rfl rfl fun w' st=>⟨⟨_,rfl,_,rfl,Int.emod_nonneg _ (by omega),Int.emod_lt_of_pos _ hn⟩,st.below (by simp)⟩
set_option maxRecDepth 100000 in
theorem aPT(A : Option Addr)(n c : Nat)(zs : List Int)(w : World)(h0 : aI (all w) 1 A n (aM zs))(hz : aBe zs)(hn : n = zs.length)(hn2 : n ≤ 9223372036854775807) :
    Cz 9 #[.slice A n c] w fun x w'=>(∃v hs q,x=.returned v∧q.w=w'∧(∃p hs',hs=p::hs'∧aDS v hs' q)∧gI w hs q)∧Below w.heap.size w w':=by
  refine aN func9 ntmps9 ?_;refine aB ?_;refine bX fun g1=>?_;refine aB ?_;refine lY 8 (n:=120) (el:=3) (z:=iv 0) (by kernel_rfl) (by kernel_rfl) rfl rfl rfl (by omega) (by omega) (by decide) fun g2=>?_;refine aB ?_;refine tA (α:=List Int) (fun _=>[(4,.slice (some ⟨g2,0,none⟩) 120 120),(2,pt g1)]) (fun ds=>[HP.aE g2 3 (aM ds),HP.aE g1 30 [sn,sn,sn,sn]]) xU ?_ fun ds hd=>?_
  · refine rK (α:=List Int) (fun i _=>[(5,iv i),(4,.slice (some ⟨g2,0,none⟩) 120 120),(2,pt g1),(0,.slice A n c)]) (fun _ ds=>[HP.aE g2 3 (aM ds),HP.aE g1 30 [sn,sn,sn,sn]]) (fun _ ds=>xU ds) 120 (List.replicate 120 0) xU.zero fun k ds hk hd=>?_
    refine aB ?_;refine bT (t:=23) rfl (fun hg=>?_) (fun hg=>?_)
    · refine aB ?_
      refine aG rfl (fun h=>?_) (fun h=>?_)
      · have hk2:k < 120:=by omega
        have hn0:0 < n:=by omega
        obtain⟨b,off,rfl,fG,hc⟩:=h0.2 hn0
        have hkb:=Fu (k:Int) (n:=(n:Int)) (by omega)
        have hdb:0≤(k:Int) / (n:Int)∧(k:Int) / (n:Int)≤k:=⟨Int.ediv_nonneg (by omega) (by omega),Int.ediv_le_self _ (by omega)⟩
        have k0:fS w b (off+((k:Int) % (n:Int)).toNat) (iv (zs[((k:Int) % (n:Int)).toNat]?.getD 0)):=⟨fG,hc _ _ (aCn zs _ (by omega))⟩
        have hyb:=aJ9 (z:=zs[((k:Int) % (n:Int)).toNat]?.getD 0) (d:=1+(k:Int) / (n:Int)) (lo:= -9223372036854775808) (hi:=9223372036854775807) (by omega) (by omega) (by omega) (hz _)
        refine aB ?_;refine uL ?_;refine aL 15 ?_;refine kcV (fun v=>∃r:Int,v=iv r∧0≤r∧r < 1000000) (fun w1 st=>aLz _ _ w1 hyb (by omega)) fun v hv=>?_;obtain⟨r,rfl,Cw,dQ⟩:=hv;refine aZ ?_;refine uM [16,17] ?_;refine aB ?_;refine eN rfl rfl ?_ (hs:=eJ.mk 0 rfl cO.h rfl (by simp[aM,hd.1];omega));dsimp only[List.set];rw[Zx];refine aB ?_;exact jW _ (hg:=hd.kY k Cw dQ)
      · refine aB ?_
        exact dG _
    · refine aB ?_
      exact dG _
  refine aB ?_;refine eK fun g3=>?_;refine aB ?_;refine bX fun g4=>?_;refine aB ?_;refine Mm 1 6 1 rfl rfl (by omega) ?_;dsimp only[List.set];refine aHL (p:=pZ [⟨111,[],1+dv ds 0 % 1000000,0,0,0⟩] [[.int .u8 111,sn,.int .u64 (1+dv ds 0 % 1000000),iv 0,iv 0,iv 0]]) (fun w=>⟨rfl,⟨none,0,0,rfl,rfl,rfl,fun h=>absurd h (by omega)⟩,trivial⟩) ?_;refine tA (α:=(List eW×List (List Value))×(Option Addr×Nat)×Nat) (fun _=>[(6,pt g4),(4,.slice (some ⟨g2,0,none⟩) 120 120),(2,pt g1)]) (fun x=>[pZ x.1.1 x.1.2,HP.own 86 6 (.slice x.2.1.1 x.2.2 x.2.1.2) x.2.2 x.1.2.flatten,HP.aE g4 30 [.slice x.2.1.1 x.2.2 x.2.1.2,sn,sn,sn],HP.aE g2 3 (aM ds),HP.aE g1 30 [sn,sn,sn,sn]]) (fun x=>x.1.1.length=x.2.2∧1≤x.2.2∧x.2.2≤9∧Fits eW.fit x.1.1) ?_ fun x hx=>?_
  · refine rK (α:=(List eW×List (List Value))×(Option Addr×Nat)×List Value) (fun i _=>[(8,iv i),(7,.string ⟨#[112,100,103,109,103]⟩),(6,pt g4),(4,.slice (some ⟨g2,0,none⟩) 120 120),(3,iv 1),(2,pt g1)]) (fun i x=>[pZ x.1.1 x.1.2,HP.own 86 6 (.slice x.2.1.1 (i+1) x.2.1.2) (i+1) x.2.2,HP.aE g4 30 [.slice x.2.1.1 (i+1) x.2.1.2,sn,sn,sn],HP.aE g2 3 (aM ds),HP.aE g1 30 [sn,sn,sn,sn]]) (fun i x=>x.1.1.length=i+1∧i≤8∧Fits eW.fit x.1.1∧x.2.2=x.1.2.flatten) 9 (([⟨111,[],1+dv ds 0 % 1000000,0,0,0⟩],[[.int .u8 111,sn,.int .u64 (1+dv ds 0 % 1000000),iv 0,iv 0,iv 0]]),(_,_),_) ⟨rfl,by omega,(Fits.nil eW.fit).snoc ⟨by simp,.inl ⟨rfl,rfl,by dsimp only;omega,by dsimp only;omega,rfl,rfl,rfl⟩⟩,rfl⟩ fun i x hi hx=>?_
    obtain⟨⟨cs,rows⟩,⟨B,cB⟩,xs⟩:=x;dsimp only at hx⊢;obtain⟨jT,hi8,hcf,rfl⟩:=hx;refine aB ?_;refine aG rfl (fun h=>?_) (fun h=>?_)
    · obtain⟨kb,hkb,aNj⟩:=aMJ (q:=(dv ds (10+3*(i:Int)).toNat % 1000000 % 5).toNat) (by omega)
      have f0:=Fu (dv ds ((10+3*(i:Int))+1).toNat % 1000000) (n:=((i+1:Nat):Int)) (by omega)
      refine aB ?_;refine Jf (α:=Nat×Nat) (fun x=>[(10,.pointer (some ⟨x.2,0,none⟩)),(9,iv (10+3*(i:Int))),(8,iv i),(7,.string ⟨#[112,100,103,109,103]⟩),(6,pt g4),(4,.slice (some ⟨g2,0,none⟩) 120 120),(3,iv 1),(2,pt g1)]) (fun x=>[HP.aE x.2 86 [.int .u8 kb.toNat,.slice (some ⟨x.1,0,none⟩) 1 1,.int .u64 0,iv 0,iv 0,iv 0],HP.aE x.1 3 [iv (dv ds ((10+3*(i:Int))+1).toNat % 1000000 % ((i+1:Nat):Int))],pZ cs rows,HP.own 86 6 (.slice B (i+1) cB) (i+1) rows.flatten,HP.aE g4 30 [.slice B (i+1) cB,sn,sn,sn],HP.aE g2 3 (aM ds),HP.aE g1 30 [sn,sn,sn,sn]]) (fun _=>True) ?_ fun x _=>?_
      · refine uL ?_
        refine vM 16 18 rfl rfl (by kernel_rfl) ?_ ?_
        · refine eK fun g5=>?_
          refine aZ ?_;refine kU 17 ?_;refine aL 18 ?_;refine bX fun g6=>?_;refine aZ ?_;refine uM [19] ?_;refine aB ?_;exact dG (_,_)
        · refine bX fun g6=>?_
          refine aZ ?_;refine aL 16 ?_;refine eK fun g5=>?_;refine aZ ?_;refine kU 17 ?_;refine uM [19] ?_;refine aCm ?_;refine kO 1 rfl ?_;dsimp only[List.set];refine aB ?_;exact dG (_,_)
      obtain⟨g5,g6⟩:=x;dsimp only
      have f1:=Fu (dv ds ((10+3*(i:Int))+2).toNat % 1000000) (n:=((i+1:Nat):Int)) (by omega)
      refine Mm 1 1 1 rfl rfl (by omega) ?_;dsimp only[List.set];refine aB ?_;refine tA (α:=eW×(Option Addr×Nat)) (fun _=>[(10,pt g6),(8,iv i),(7,.string ⟨#[112,100,103,109,103]⟩),(6,pt g4),(4,.slice (some ⟨g2,0,none⟩) 120 120),(3,iv 1),(2,pt g1)]) (fun x=>[HP.aE g6 86 [.int .u8 x.1.kind,.slice x.2.1 x.1.src.length x.2.2,.int .u64 x.1.rate,iv x.1.mul,iv x.1.div,iv x.1.lock],HP.own 3 1 (.slice x.2.1 x.1.src.length x.2.2) x.1.src.length (aM x.1.src),pZ cs rows,HP.own 86 6 (.slice B (i+1) cB) (i+1) rows.flatten,HP.aE g4 30 [.slice B (i+1) cB,sn,sn,sn],HP.aE g2 3 (aM ds),HP.aE g1 30 [sn,sn,sn,sn]]) (fun x=>x.1.fit (i+1)) ?_ fun x hx=>?_
      · refine aG rfl (fun h1=>?_) (fun h1=>?_)
        · refine aB ?_
          exact dG (⟨_,[dv ds ((10+3*(i:Int))+1).toNat % 1000000 % ((i+1:Nat):Int)],_,_,_,_⟩,_,_) (hg:=⟨(fun f hf=>by rcases List.mem_singleton.1 hf with rfl;exact f0),.inr (.inl ⟨h1,rfl,rfl,by dsimp only;omega,by dsimp only;omega,by dsimp only;omega,by dsimp only;omega,by dsimp only;omega,by dsimp only;omega⟩)⟩)
        refine aB ?_;refine aG rfl (fun h2=>?_) (fun h2=>?_)
        · refine aB ?_
          exact dG (⟨_,[dv ds ((10+3*(i:Int))+1).toNat % 1000000 % ((i+1:Nat):Int)],_,_,_,_⟩,_,_) (hg:=⟨(fun f hf=>by rcases List.mem_singleton.1 hf with rfl;exact f0),.inr (.inr (.inl ⟨h2,rfl,rfl,rfl,by dsimp only;omega,by dsimp only;omega,rfl⟩))⟩)
        refine aB ?_;refine aG rfl (fun h3=>?_) (fun h3=>?_)
        · refine uL ?_
          refine aL 11 ?_;refine eK fun g7=>?_;refine aZ ?_;refine uM [12,13,14] ?_;refine aB ?_;refine Hy 2 fun A' k'=>?_;dsimp only[List.set];refine aB ?_;exact dG (⟨_,[dv ds ((10+3*(i:Int))+1).toNat % 1000000 % ((i+1:Nat):Int),dv ds ((10+3*(i:Int))+2).toNat % 1000000 % ((i+1:Nat):Int)],_,_,_,_⟩,_,_) (hg:=⟨(fun f hf=>by simp only[List.mem_cons,List.not_mem_nil,or_false] at hf;rcases hf with rfl | rfl;exact f0;exact f1),.inr (.inr (.inr (.inr ⟨h3,rfl,rfl,rfl,rfl,rfl⟩)))⟩)
        · refine aB ?_
          exact dG (⟨_,[dv ds ((10+3*(i:Int))+1).toNat % 1000000 % ((i+1:Nat):Int)],_,_,_,_⟩,_,_) (hg:=⟨(fun f hf=>by rcases List.mem_singleton.1 hf with rfl;exact f0),.inr (.inr (.inr (.inl ⟨by rcases aNj with h | h | h | h<;>simp_all,rfl,rfl,rfl,rfl,rfl⟩)))⟩)
      obtain⟨cl,Af,cf⟩:=x;dsimp only at hx⊢;refine aB ?_;refine eK fun g7=>?_;refine aB ?_;refine Hy 4 fun A' k'=>?_;dsimp only[List.set];refine aB ?_;refine aT [2,3,4,5,6,7] rfl (by decide) (fun _ h=>h) ?_;refine aR0 ?_;exact jW ((_,_),(_,_),_) (hg:=⟨by simp[jT],by omega,hcf.snoc (by rw[jT];exact hx),by simp⟩)
    · refine aB ?_
      exact dG ((_,_),(_,_),_) (hg:=⟨jT,Nat.succ_pos i,Nat.succ_le_succ hi8,hcf⟩)
  obtain⟨⟨cs,rows⟩,⟨B,cB⟩,nc⟩:=x;dsimp only at hx⊢;obtain⟨jT,Po,hc9,hcf⟩:=hx;refine aB ?_;refine lU 88 3 ?_;refine tA (α:=(List Dom×List (List Value))×(Option Addr×Nat)×Nat) (fun _=>[(6,pt g4),(4,.slice (some ⟨g2,0,none⟩) 120 120),(2,pt g1)]) (fun x=>[HP.own 88 3 (.slice x.2.1.1 x.2.2 x.2.1.2) x.2.2 x.1.2.flatten,pZ cs rows,HP.own 86 6 (.slice B nc cB) nc rows.flatten,HP.aE g4 30 [.slice B nc cB,.slice x.2.1.1 x.2.2 x.2.1.2,sn,sn],HP.aE g2 3 (aM ds),HP.aE g1 30 [sn,sn,sn,sn]]) (fun x=>x.1.1.length=x.2.2∧1≤x.2.2∧x.2.2≤4∧Fits Dom.fit x.1.1∧Rows tI 3 x.1.1 x.1.2) ?_ fun x hx=>?_
  · refine rK (α:=(List Dom×List (List Value))×(Option Addr×Nat)×List Value) (fun i _=>[(11,iv i),(6,pt g4),(4,.slice (some ⟨g2,0,none⟩) 120 120),(2,pt g1)]) (fun i x=>[HP.own 88 3 (.slice x.2.1.1 i x.2.1.2) i x.2.2,pZ cs rows,HP.own 86 6 (.slice B nc cB) nc rows.flatten,HP.aE g4 30 [.slice B nc cB,.slice x.2.1.1 i x.2.1.2,sn,sn],HP.aE g2 3 (aM ds),HP.aE g1 30 [sn,sn,sn,sn]]) (fun i x=>x.1.1.length=i∧Fits Dom.fit x.1.1∧Rows tI 3 x.1.1 x.1.2∧x.2.2=x.1.2.flatten) 4 (([],[]),(none,0),[]) ⟨rfl,Fits.nil _,trivial,rfl⟩ fun i x hi hx=>?_
    obtain⟨⟨dm,yR⟩,⟨D,cD⟩,xs⟩:=x;dsimp only at hx⊢;obtain⟨lB,hdf,Pk,rfl⟩:=hx;refine aB ?_;refine aG rfl (fun h=>?_) (fun h=>?_)
    · refine aB ?_
      refine uL ?_;refine aL 15 ?_;refine bX fun g5=>?_;refine aZ ?_;refine uM [16] ?_;refine aCm ?_;refine kO 0 rfl ?_;dsimp only[List.set];refine aFF ?_;refine gP ?_;refine Gl (α:=Int) (fun _=>[(12,pt g5),(11,iv i),(6,pt g4),(4,.slice (some ⟨g2,0,none⟩) 120 120),(2,pt g1)]) (fun v=>[HP.aE g5 88 [iv v,iv (dv ds (40+(i:Int)).toNat % 4),.bool (decide (dv ds (40+(i:Int)).toNat % 1000000 / 4 % 2=1))],HP.own 88 3 (.slice D i cD) i yR.flatten,pZ cs rows,HP.own 86 6 (.slice B nc cB) nc rows.flatten,HP.aE g4 30 [.slice B nc cB,.slice D i cD,sn,sn],HP.aE g2 3 (aM ds),HP.aE g1 30 [sn,sn,sn,sn]]) (fun v=>v= -1∨(0≤v∧v < i)) ?_ fun v hv=>?_
      · refine aB ?_
        refine bT (t:=172) rfl (fun hg=>?_) (fun hg=>?_)
        · have f2:=Fu (dv ds (44+(i:Int)).toNat % 1000000 / 3) (n:=(i:Int)) hg
          refine aB ?_;refine aG rfl (fun h3=>?_) (fun h3=>?_)
          · refine aB ?_
            exact dG _ (hg:=.inr f2)
          · refine aB ?_
            exact dG _ (hg:=.inl rfl)
        · refine aB ?_
          exact dG _ (hg:=.inl rfl)
      refine aB ?_;refine eK fun g7=>?_;refine aB ?_;refine Hy 2 fun A' k'=>?_;dsimp only[List.set];refine aB ?_;exact jW ((dm++[⟨v,dv ds (40+(i:Int)).toNat % 4,decide (dv ds (40+(i:Int)).toNat % 1000000 / 4 % 2=1)⟩],yR++[_]),(_,_),_) (hg:=⟨by simp[lB],hdf.snoc ⟨by rw[lB];exact hv,by dsimp only;omega,by dsimp only;omega⟩,Pk.snoc rfl rfl,by simp⟩)
    · refine aB ?_
      exact dG ((_,_),(_,_),_) (hg:=⟨lB,by show 1≤i;omega,hi,hdf,Pk⟩)
  obtain⟨⟨dm,yR⟩,⟨D,cD⟩,nd⟩:=x;dsimp only at hx⊢;obtain⟨lB,cY,hd4,hdf,Pk⟩:=hx;refine aB ?_;refine lU 90 1 ?_;refine tA (α:=(List Int×List (List Value))×(Option Addr×Nat)×Nat) (fun _=>[(6,pt g4),(4,.slice (some ⟨g2,0,none⟩) 120 120),(2,pt g1)]) (fun x=>[HP.own 90 1 (.slice x.2.1.1 x.2.2 x.2.1.2) x.2.2 x.1.2.flatten,HP.own 88 3 (.slice D nd cD) nd yR.flatten,pZ cs rows,HP.own 86 6 (.slice B nc cB) nc rows.flatten,HP.aE g4 30 [.slice B nc cB,.slice D nd cD,.slice x.2.1.1 x.2.2 x.2.1.2,sn],HP.aE g2 3 (aM ds),HP.aE g1 30 [sn,sn,sn,sn]]) (fun x=>x.1.1.length=x.2.2∧1≤x.2.2∧x.2.2≤3∧(∀r∈x.1.1,0≤r∧r≤3)∧Rows xO 1 x.1.1 x.1.2) ?_ fun x hx=>?_
  · refine rK (α:=(List Int×List (List Value))×(Option Addr×Nat)×List Value) (fun i _=>[(13,iv i),(6,pt g4),(4,.slice (some ⟨g2,0,none⟩) 120 120),(2,pt g1)]) (fun i x=>[HP.own 90 1 (.slice x.2.1.1 i x.2.1.2) i x.2.2,HP.own 88 3 (.slice D nd cD) nd yR.flatten,pZ cs rows,HP.own 86 6 (.slice B nc cB) nc rows.flatten,HP.aE g4 30 [.slice B nc cB,.slice D nd cD,.slice x.2.1.1 i x.2.1.2,sn],HP.aE g2 3 (aM ds),HP.aE g1 30 [sn,sn,sn,sn]]) (fun i x=>x.1.1.length=i∧(∀r∈x.1.1,0≤r∧r≤3)∧Rows xO 1 x.1.1 x.1.2∧x.2.2=x.1.2.flatten) 3 (([],[]),(none,0),[]) ⟨rfl,by simp,trivial,rfl⟩ fun i x hi hx=>?_
    obtain⟨⟨rs,rrs⟩,⟨L,cL⟩,xs⟩:=x;dsimp only at hx⊢;obtain⟨hrl,Fa,cP,rfl⟩:=hx;refine aB ?_;refine aG rfl (fun h=>?_) (fun h=>?_)
    · refine aB ?_
      refine uL ?_;refine aL 9 ?_;refine eK fun g7=>?_;refine aZ ?_;refine uM [10,11,12] ?_;refine aB ?_;refine Hy 1 fun A' k'=>?_;dsimp only[List.set];refine aB ?_
      exact jW ((rs++[dv ds (50+(i:Int)).toNat % 4],rrs++[_]),(_,_),_) (hg:=⟨by simp[hrl],(fun r hr=>by
        rcases List.mem_append.1 hr with hr | hr
        · exact Fa r hr
        · rcases List.mem_singleton.1 hr with rfl
          omega),cP.snoc rfl rfl,by simp⟩)
    · refine aB ?_
      exact dG ((_,_),(_,_),_) (hg:=⟨hrl,by show 1≤i;omega,hi,Fa,cP⟩)
  obtain⟨⟨rs,rrs⟩,⟨L,cL⟩,nr⟩:=x;dsimp only at hx⊢;obtain⟨hrl,dQ,wS,Fa,cP⟩:=hx;refine aB ?_;refine lU 93 6 ?_;refine aHL (p:=Dq [] []) (fun w=>trivial) ?_;refine tA (α:=(List cH×List (List Value))×(Option Addr×Nat)×Nat) (fun _=>[(6,pt g4),(4,.slice (some ⟨g2,0,none⟩) 120 120),(2,pt g1)]) (fun x=>[Dq x.1.1 x.1.2,HP.own 93 6 (.slice x.2.1.1 x.2.2 x.2.1.2) x.2.2 x.1.2.flatten,HP.own 90 1 (.slice L nr cL) nr rrs.flatten,HP.own 88 3 (.slice D nd cD) nd yR.flatten,pZ cs rows,HP.own 86 6 (.slice B nc cB) nc rows.flatten,HP.aE g4 30 [.slice B nc cB,.slice D nd cD,.slice L nr cL,.slice x.2.1.1 x.2.2 x.2.1.2],HP.aE g2 3 (aM ds),HP.aE g1 30 [sn,sn,sn,sn]]) (fun x=>x.1.1.length=x.2.2∧1≤x.2.2∧x.2.2≤4∧Fits (cH.fit nc nd nr) x.1.1) ?_ fun x hx=>?_
  · refine rK (α := (List cH × List (List Value)) × (Option Addr × Nat) × List Value) (fun i _ => [(14, iv i), (6, pt g4), (4, .slice (some ⟨g2, 0, none⟩) 120 120), (2, pt g1)]) (fun i x => [Dq x.1.1 x.1.2, HP.own 93 6 (.slice x.2.1.1 i x.2.1.2) i x.2.2, HP.own 90 1 (.slice L nr cL) nr rrs.flatten, HP.own 88 3 (.slice D nd cD) nd yR.flatten, pZ cs rows, HP.own 86 6 (.slice B nc cB) nc rows.flatten, HP.aE g4 30 [.slice B nc cB, .slice D nd cD, .slice L nr cL, .slice x.2.1.1 i x.2.1.2], HP.aE g2 3 (aM ds), HP.aE g1 30 [sn, sn, sn, sn]]) (fun i x => x.1.1.length = i ∧ Fits (cH.fit nc nd nr) x.1.1 ∧ x.2.2 = x.1.2.flatten) 4 (([], []), (none, 0), []) ⟨rfl, Fits.nil _, rfl⟩ fun i x hi hx => ?_
    obtain⟨⟨vs,r4⟩,⟨V,cV⟩,xs⟩:=x;dsimp only at hx⊢;obtain⟨hvl,hvf,rfl⟩:=hx;refine aB ?_;refine aG rfl (fun h=>?_) (fun h=>?_)
    · have q0 := Fu (dv ds (60 + 12 * (i : Int)).toNat % 1000000) (n := (nc : Int)) (by omega)
      have q1:=Fu (dv ds (60+12*(i:Int)+1).toNat % 1000000) (n:=(nd:Int)) (by omega)
      have q2:=Fu (dv ds (60+12*(i:Int)+2).toNat % 1000000) (n:=(nr:Int)) (by omega)
      refine aB ?_;refine uL ?_;refine aL 34 ?_;refine bX fun g5=>?_;refine aZ ?_;refine uM [35] ?_;refine aB ?_;refine lU 95 2 ?_;refine tA (α:=List Rg×(Option Addr×Nat)×Nat) (fun _=>[(16,pt g5),(15,iv (60+12*(i:Int))),(14,iv i),(6,pt g4),(4,.slice (some ⟨g2,0,none⟩) 120 120),(2,pt g1)]) (fun x=>[HP.own 95 2 (.slice x.2.1.1 x.2.2 x.2.1.2) x.2.2 (x.1.flatMap Rg.cells),HP.aE g5 93 [iv (dv ds (60+12*(i:Int)).toNat % 1000000 % (nc:Int)),iv (dv ds (60+12*(i:Int)+1).toNat % 1000000 % (nd:Int)),iv (dv ds (60+12*(i:Int)+2).toNat % 1000000 % (nr:Int)),.int .u32 (dv ds (60+12*(i:Int)+3).toNat % 1000000 % 3),.slice x.2.1.1 x.2.2 x.2.1.2,sn],Dq vs r4,HP.own 93 6 (.slice V i cV) i r4.flatten,HP.own 90 1 (.slice L nr cL) nr rrs.flatten,HP.own 88 3 (.slice D nd cD) nd yR.flatten,pZ cs rows,HP.own 86 6 (.slice B nc cB) nc rows.flatten,HP.aE g4 30 [.slice B nc cB,.slice D nd cD,.slice L nr cL,.slice V i cV],HP.aE g2 3 (aM ds),HP.aE g1 30 [sn,sn,sn,sn]]) (fun x=>x.1.length=x.2.2∧x.2.2≤4∧∀r∈x.1,0≤r.reset∧r.reset≤6) ?_ fun x hx=>?_
      · refine rK (α:=List Rg×(Option Addr×Nat)×List Value) (fun j _=>[(17,iv j),(16,pt g5),(15,iv (60+12*(i:Int))),(14,iv i),(6,pt g4),(4,.slice (some ⟨g2,0,none⟩) 120 120),(2,pt g1)]) (fun j x=>[HP.own 95 2 (.slice x.2.1.1 j x.2.1.2) j x.2.2,HP.aE g5 93 [iv (dv ds (60+12*(i:Int)).toNat % 1000000 % (nc:Int)),iv (dv ds (60+12*(i:Int)+1).toNat % 1000000 % (nd:Int)),iv (dv ds (60+12*(i:Int)+2).toNat % 1000000 % (nr:Int)),.int .u32 (dv ds (60+12*(i:Int)+3).toNat % 1000000 % 3),.slice x.2.1.1 j x.2.1.2,sn],Dq vs r4,HP.own 93 6 (.slice V i cV) i r4.flatten,HP.own 90 1 (.slice L nr cL) nr rrs.flatten,HP.own 88 3 (.slice D nd cD) nd yR.flatten,pZ cs rows,HP.own 86 6 (.slice B nc cB) nc rows.flatten,HP.aE g4 30 [.slice B nc cB,.slice D nd cD,.slice L nr cL,.slice V i cV],HP.aE g2 3 (aM ds),HP.aE g1 30 [sn,sn,sn,sn]]) (fun j x=>x.1.length=j∧(∀r∈x.1,0≤r.reset∧r.reset≤6)∧x.2.2=x.1.flatMap Rg.cells) 4 ([],(none,0),[]) ⟨rfl,by simp,rfl⟩ fun j x hj hx=>?_
        obtain⟨rg,⟨W,cW⟩,xs⟩:=x;dsimp only at hx⊢;obtain⟨oJ,hgf,rfl⟩:=hx;refine aB ?_;refine aG rfl (fun h5=>?_) (fun h5=>?_)
        · refine aB ?_
          refine uL ?_;refine aL 22 ?_;refine eK fun g7=>?_;refine aZ ?_;refine uM [23,24,25] ?_;refine aB ?_;refine Hy 1 fun A' k'=>?_;dsimp only[List.set];refine aB ?_
          exact jW (rg++[⟨dv ds (60+12*(i:Int)+5+(j:Int)).toNat % 1000000 % 7,decide (dv ds (60+12*(i:Int)+5+(j:Int)).toNat % 1000000 / 7 % 2=0)⟩],(_,_),_) (hg:=⟨by simp[oJ],(fun r hr=>by
            rcases List.mem_append.1 hr with hr | hr
            · exact hgf r hr
            · rcases List.mem_singleton.1 hr with rfl
              dsimp only
              omega),by simp[Rg.cells]⟩)
        · refine aB ?_
          exact dG (_,(_,_),_) (hg:=⟨oJ,hj,hgf⟩)
      obtain⟨rg,⟨W,cW⟩,ng⟩:=x;dsimp only at hx⊢;obtain⟨rfl,hg4,hgf⟩:=hx;refine lU 3 1 ?_;refine Gl (α:=(List Int×List Value)×(Option Addr×Nat)×Nat) (fun _=>[(16,pt g5),(15,iv (60+12*(i:Int))),(14,iv i),(6,pt g4),(4,.slice (some ⟨g2,0,none⟩) 120 120),(2,pt g1)]) (fun x=>[HP.own 3 1 (.slice x.2.1.1 x.2.2 x.2.1.2) x.2.2 x.1.2,HP.own 95 2 (.slice W rg.length cW) rg.length (rg.flatMap Rg.cells),HP.aE g5 93 [iv (dv ds (60+12*(i:Int)).toNat % 1000000 % (nc:Int)),iv (dv ds (60+12*(i:Int)+1).toNat % 1000000 % (nd:Int)),iv (dv ds (60+12*(i:Int)+2).toNat % 1000000 % (nr:Int)),.int .u32 (dv ds (60+12*(i:Int)+3).toNat % 1000000 % 3),.slice W rg.length cW,.slice x.2.1.1 x.2.2 x.2.1.2],Dq vs r4,HP.own 93 6 (.slice V i cV) i r4.flatten,HP.own 90 1 (.slice L nr cL) nr rrs.flatten,HP.own 88 3 (.slice D nd cD) nd yR.flatten,pZ cs rows,HP.own 86 6 (.slice B nc cB) nc rows.flatten,HP.aE g4 30 [.slice B nc cB,.slice D nd cD,.slice L nr cL,.slice V i cV],HP.aE g2 3 (aM ds),HP.aE g1 30 [sn,sn,sn,sn]]) (fun x=>x.1.1.length=x.2.2∧x.2.2≤1∧x.1.2=aM x.1.1∧∀f∈x.1.1,0≤f∧f < i) ?_ fun x hx=>?_
      · refine aB ?_
        refine bT (t:=300) rfl (fun hg=>?_) (fun hg=>?_)
        · have f2:=Fu (dv ds (60+12*(i:Int)+10).toNat % 1000000) (n:=(i:Int)) hg
          refine aB ?_;refine aG rfl (fun h3=>?_) (fun h3=>?_)
          · refine uL ?_
            refine aL 9 ?_;refine eK fun g7=>?_;refine aZ ?_;refine uM [10,11,12] ?_;refine aB ?_;refine Hy 1 fun A' k'=>?_;dsimp only[List.set];refine aB ?_;exact dG (([_],_),(_,_),_) (hg:=⟨rfl,Nat.le_refl _,rfl,fun f hf=>by rcases List.mem_singleton.1 hf with rfl;exact f2⟩)
          · refine aB ?_
            exact dG (([],_),(_,_),_) (hg:=⟨rfl,Nat.zero_le _,rfl,by simp⟩)
        · refine aB ?_
          exact dG (([],_),(_,_),_) (hg:=⟨rfl,Nat.zero_le _,rfl,by simp⟩)
      obtain⟨⟨ns,xs⟩,⟨U,cU⟩,nn⟩:=x;dsimp only at hx⊢;obtain⟨fL,lM,rfl,hnf⟩:=hx;refine Gl (α:=(List Int×List Value)×(Option Addr×Nat)×Nat) (fun _=>[(16,pt g5),(15,iv (60+12*(i:Int))),(14,iv i),(6,pt g4),(4,.slice (some ⟨g2,0,none⟩) 120 120),(2,pt g1)]) (fun x=>[HP.own 3 1 (.slice x.2.1.1 x.2.2 x.2.1.2) x.2.2 x.1.2,HP.own 95 2 (.slice W rg.length cW) rg.length (rg.flatMap Rg.cells),HP.aE g5 93 [iv (dv ds (60+12*(i:Int)).toNat % 1000000 % (nc:Int)),iv (dv ds (60+12*(i:Int)+1).toNat % 1000000 % (nd:Int)),iv (dv ds (60+12*(i:Int)+2).toNat % 1000000 % (nr:Int)),.int .u32 (dv ds (60+12*(i:Int)+3).toNat % 1000000 % 3),.slice W rg.length cW,.slice x.2.1.1 x.2.2 x.2.1.2],Dq vs r4,HP.own 93 6 (.slice V i cV) i r4.flatten,HP.own 90 1 (.slice L nr cL) nr rrs.flatten,HP.own 88 3 (.slice D nd cD) nd yR.flatten,pZ cs rows,HP.own 86 6 (.slice B nc cB) nc rows.flatten,HP.aE g4 30 [.slice B nc cB,.slice D nd cD,.slice L nr cL,.slice V i cV],HP.aE g2 3 (aM ds),HP.aE g1 30 [sn,sn,sn,sn]]) (fun x=>x.1.1.length=x.2.2∧x.2.2≤2∧x.1.2=aM x.1.1∧∀f∈x.1.1,0≤f∧f < i) ?_ fun x hx=>?_
      · refine aB ?_
        refine bT (t:=323) rfl (fun hg=>?_) (fun hg=>?_)
        · have f2:=Fu (dv ds (60+12*(i:Int)+11).toNat % 1000000 / 3) (n:=(i:Int)) (by omega)
          refine aB ?_;refine aG rfl (fun h3=>?_) (fun h3=>?_)
          · refine uL ?_
            refine aL 10 ?_;refine eK fun g7=>?_;refine aZ ?_;refine uM [11,12,13] ?_;refine aB ?_;refine Hy 1 fun A' k'=>?_;dsimp only[List.set];refine aB ?_
            exact dG ((ns++[dv ds (60+12*(i:Int)+11).toNat % 1000000 / 3 % (i:Int)],_),(_,_),_) (hg:=⟨by simp[fL],by show nn+1≤2;omega,by simp[aM],fun f hf=>by
              rcases List.mem_append.1 hf with hf | hf
              · exact hnf f hf
              · rcases List.mem_singleton.1 hf with rfl
                exact f2⟩)
          · refine aB ?_
            exact dG ((_,_),(_,_),_) (hg:=⟨fL,Nat.le_succ_of_le lM,rfl,hnf⟩)
        · refine aB ?_
          exact dG ((_,_),(_,_),_) (hg:=⟨fL,Nat.le_succ_of_le lM,rfl,hnf⟩)
      obtain⟨⟨ns,xs⟩,⟨U,cU⟩,nn⟩:=x;dsimp only at hx⊢;obtain⟨rfl,hn2,rfl,hnf⟩:=hx;refine aB ?_;refine eK fun g7=>?_;refine aB ?_;refine Hy 5 fun A' k'=>?_;dsimp only[List.set];refine aB ?_;refine aT [2,1,4,5,6,7,8,9,10,11,12] rfl (by decide) (fun _ h=>h) ?_;refine aRy (d:=⟨dv ds (60+12*(i:Int)).toNat % 1000000 % (nc:Int),dv ds (60+12*(i:Int)+1).toNat % 1000000 % (nd:Int),dv ds (60+12*(i:Int)+2).toNat % 1000000 % (nr:Int),dv ds (60+12*(i:Int)+3).toNat % 1000000 % 3,rg,ns⟩) ?_;exact jW ((_,_),(_,_),_) (hg:=⟨by simp[hvl],hvf.snoc ⟨q0.1,q0.2,q1.1,q1.2,q2.1,q2.2,by dsimp only;omega,by dsimp only;omega,hg4,hgf,hn2,by rw[hvl];exact hnf⟩,by simp⟩)
    · refine aB ?_
      exact dG ((_,_),(_,_),_) (hg:=⟨hvl,by show 1≤i;omega,hi,hvf⟩)
  obtain⟨⟨vs,r4⟩,⟨V,cV⟩,nv⟩:=x;dsimp only at hx⊢;obtain⟨rfl,hv1,hv4,hvf⟩:=hx;subst jT;subst lB;subst hrl;refine aB ?_;refine kO 8 rfl ?_;dsimp only[List.set];refine aB ?_;refine aT [8,5,4,3,2,1,0] rfl (by decide) (fun _ h=>h) ?_;refine dF [] [] [0,1,2,3,4,5,6] (by simp) rfl (by decide) (by decide) fun q _ _ hfr=>?_;exact Ml rfl (by kernel_rfl) rfl rfl (aO.whole 0 rfl) fun w1 t=>⟨⟨_,_,⟨w1,q.Z⟩,rfl,rfl,⟨_,_,rfl,⟨⟨cs,dm,rs,vs⟩,(B,cB),(D,cD),(L,cL),(V,cV),rows,yR,rrs,r4,rfl,⟨hcf,hdf,Fa,hvf,⟨Nat.zero_le _,hc9⟩,⟨Nat.zero_le _,hd4⟩,⟨Nat.zero_le _,wS⟩,⟨Nat.zero_le _,hv4⟩⟩,Pk,cP,rfl⟩⟩,t.newR (by simp) (by simp) (hfr (by simp) (by simp))⟩,t.below (by simp)⟩
theorem aPU(A:Option Addr)(n c:Nat)(zs:List Int)(w:World)(h0:aI (all w) 1 A n (aM zs))(hz:aBe zs)(hn:n=zs.length)(hn2:n≤9223372036854775807):
  Cz 9 #[.slice A n c] w fun x w'=>(∃v,x=.returned v∧∃cs s,v=.agg cs∧uN (fJ (fresh w w')) s cs∧s.made)∧Below w.heap.size w w':=
 (aPT A n c zs w h0 hz hn hn2).mono fun x w' ⟨⟨v,hs,q,h1,h2,⟨p,hs',h3,h4⟩,h5⟩,h6⟩=>⟨⟨v,h1,h4.weak h2 (by subst h3;exact h5.tail)⟩,h6⟩
end
end Go.Proofs.YtkgekojkboingaaGreatDoor
