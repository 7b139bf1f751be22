/- The chip, its firmware and its tasks: what holds always. No walk in sight. -/
import Derived.Test.YtkgekojkboingaaGreatDoorWorldRoundsK6
namespace Go.Proofs.YtkgekojkboingaaGreatDoor
set_option linter.all false
set_option maxHeartbeats 4000000
set_option maxRecDepth 20000
open Go.RowKit Go.Proofs.Tryz
section
theorem aN3:([(4,17),(7,20),(4,22)]:List (Int×Int)).all (fun q=>(List.range 1024).all fun k=>aGt q.1 q.2 k)=true:=by decide+kernel
def Xu(p:fC):Prop:=(p.msg=4∧p.pr=17)∨(p.msg=7∧p.pr=20)∨(p.msg=4∧p.pr=22)
theorem aN4{p:fC}(h:Xu p){k:Int}(h0:0≤k)(h1:k < 1024):(gZ p.msg 0 p.pr k).2=0∧cN (gZ p.msg 0 p.pr k).1 28 4=0∧cN (gZ p.msg 0 p.pr k).1 0 8=p.msg∧cN (gZ p.msg 0 p.pr k).1 8 2=0∧cN (gZ p.msg 0 p.pr k).1 10 8=p.pr:=by
 have ha:=aN3
 rw[List.all_eq_true] at ha;obtain⟨n,rfl⟩:∃n:Nat,k=n:=⟨k.toNat,by omega⟩
 have key:aGt p.msg p.pr (n:Int)=true:=by
  have h2:=ha (p.msg,p.pr) (by
   obtain⟨pr,msg,id,v⟩:=p;dsimp only[Xu] at h⊢
   rcases h with⟨rfl,rfl⟩ | ⟨rfl,rfl⟩ | ⟨rfl,rfl⟩<;>simp)
  rw[List.all_eq_true] at h2;exact h2 n (List.mem_range.2 (by omega))
 obtain⟨e1,e2,e3,e4,e5,_⟩:=of_decide_eq_true key;exact⟨e1,e2,e3,e4,e5⟩
theorem aFw(m t p k:Int):0≤(gZ m t p k).1∧(gZ m t p k).1 < 4294967296:=by
 unfold gZ
 repeat' split
 all_goals first | exact aLx _ _ _ _ | exact⟨Int.le_refl 0,(by decide:(0:Int) < 4294967296)⟩
theorem aRj{s:aC}{x y:dZ}:∀p∈allM s x y,Xu p:=by
 intro p hp;unfold allM vH at hp;simp only[List.mem_append,pL,List.mem_map] at hp;rcases hp with⟨i,_,rfl⟩ | ⟨i,_,rfl⟩ | ⟨i,_,rfl⟩ | ⟨i,_,rfl⟩ | ⟨i,_,rfl⟩ | ⟨i,_,rfl⟩
 all_goals simp[Xu]
theorem aQP{s:aC}{x:aU}{l:List Int}{st:Int}(hl:nB l):nB (Ji s x l st):=by
 have h0:0≤l.headD 0∧l.headD 0 < 4294967296:=by
  cases l with
  | nil=>exact⟨by decide,by decide⟩
  | cons a r=>exact hl a (by simp)
 have hm : nB (nV s x l) := by
  intro v hv;unfold nV at hv;dsimp only at hv;split at hv
  ·simp at hv;subst hv;decide
  ·split at hv
   ·simp at hv;subst hv;exact Nl _
   ·split at hv
    ·simp at hv;subst hv;unfold Hw
     repeat' split
     all_goals decide
    ·split at hv
     ·simp at hv;rcases hv with rfl | rfl<;>exact Nl _
     ·cases hv
 intro v hv;unfold Ji at hv;rw[List.mem_cons,List.mem_cons] at hv;rcases hv with rfl | rfl | hv
 ·exact h0
 ·exact Nl _
 ·split at hv
  ·exact hm v hv
  ·cases hv
theorem aQQ{s:aC}{x:aU}{l:List Int}{st:Int}:2≤(Ji s x l st).length∧(Ji s x l st).length≤4:=by
 have:=aFD s x l
 unfold Ji;split<;>simp<;>omega
theorem aHp{s:aC}{x y:dZ}{wt:List Int}{ag:Nat}{l:List Int}(hu:nB l):((nZ s x y wt ag l).2.1=0∧((nZ s x y wt ag l).1=0→tA l))∨((nZ s x y wt ag l).1=0∧(nZ s x y wt ag l).2=(fE s l).2∧(fE s l).1=0∧(nZ s x y wt ag l).2.1≠0∧tA l∧Mz s (nZ s x y wt ag l).2.1 (nZ s x y wt ag l).2.2):=by
 unfold nZ
 by_cases h:(fE s l).1≠0∨(fE s l).2.1=0∨tJ (if ag=0 then x else y) (fE s l).2.1 (fE s l).2.2=decide (qR (fE s l).2.1)
 ·rw[if_pos h];exact .inl ⟨rfl,fun h=>aFm hu h⟩
 ·rw[if_neg h]
  have h1:(fE s l).1=0:=Classical.byContradiction fun hc=>h (.inl hc)
  have h2:(fE s l).2.1≠0:=fun hc=>h (.inr (.inl hc))
  have hr:=aFm hu h1
  have hk:Mz s (fE s l).2.1 (fE s l).2.2:=by
   rcases aFn (s:=s) hu with⟨h0,_⟩ | ⟨_,hk,nI,hi1,_,_⟩
   ·exact absurd h0 h2
   ·refine⟨by unfold Ud at hk;omega,fun h99=>⟨nI,?_⟩⟩;rw[h99] at hi1
    simpa[Aj,Oq] using hi1
  have no:∀e:Int,e≠0→e=0→tA l:=fun _ h k=>absurd k h
  by_cases ho:qR (fE s l).2.1
  ·rw[if_pos ho];split
   ·exact .inl ⟨rfl,no _ (by decide)⟩
   ·exact .inr ⟨rfl,rfl,h1,h2,hr,hk⟩
  ·rw[if_neg ho];split
   ·exact .inl ⟨rfl,no _ (by decide)⟩
   ·split
    ·exact .inl ⟨rfl,no _ (by decide)⟩
    ·exact .inr ⟨rfl,rfl,h1,h2,hr,hk⟩
theorem aHM(s:aC)(x:aU)(k id:Int):(Jk s x k id).1.wt=x.wt∧(Jk s x k id).1.aZ=x.aZ:=by
 unfold Jk Oa Wu Nv Ks Jh
 repeat' split
 all_goals exact⟨rfl,rfl⟩
structure FwB(s:aC)(y:cJ):Prop where
 fm:Ee s y
 ax:y.x.of s
 ay:y.y.of s
 h0:y.h0=0∨y.h0=1∨y.h0=2
 h1:y.h1=0∨y.h1=1∨y.h1=2
 r0:y.h0=2→2≤y.w0.length
 r1:y.h1=2→2≤y.w1.length
structure oJ(s:aC)(y:cJ):Prop extends FwB s y where
 at_:y.at_= -1∨∃a:Nat,y.at_=(a:Int)∧a < 2∧yO y a=1∧Mz s y.kind y.id∧tA (kB y a)
theorem oJ.step{s:aC}{x:aU}{y:cJ}(h:oJ s y)(hx:cX s x):aIq s x y:=by
 refine⟨hx,h.fm,?_,fun _ a _ h1 h2=>?_,fun _ a _ h1=>?_⟩
 ·rcases h.at_ with h1 | ⟨a,h1,h2,_,h3,h4⟩
  ·exact .inl (by omega)
  ·exact .inr ⟨a,h1,h2,h3,h4⟩
 ·rcases aHp (s:=s) (x:=y.x) (y:=y.y) (wt:=mH s x) (ag:=a) (h.fm.box a).1 with⟨_,h3⟩ | ⟨_,_,_,h3,_⟩
  ·exact h3 h2
  ·exact absurd h1 h3
 ·rcases aHp (s:=s) (x:=y.x) (y:=y.y) (wt:=mH s x) (ag:=a) (h.fm.box a).1 with⟨h3,_⟩ | ⟨_,_,_,_,h4,h5⟩
  ·exact absurd h3 h1
  ·exact⟨h5,h4⟩
theorem aIF{s:aC}{x:aU}{y:cJ}(h:FwB s y)(eY:y.at_= -1){a:Nat}(ha:a < 2)(st:Int):oJ s (yH s x y a st):=by
 have hb:=h.fm.box a
 have hu:=aQP (s:=s) (x:=x) (st:=st) hb.1
 have hl:=aQQ (s:=s) (x:=x) (l:=kB y a) (st:=st)
 have De:(Ji s x (kB y a) st).length≤1000000:=Nat.le_trans hl.2 (by decide)
 unfold yH aFp;split
 ·exact⟨⟨⟨h.fm.la,hu,h.fm.u1,De,h.fm.n1,h.fm.sx,h.fm.sy⟩,h.ax,h.ay,.inr (.inr rfl),h.h1,fun _=>hl.1,h.r1⟩,.inl eY⟩
 ·exact⟨⟨⟨h.fm.la,h.fm.u0,hu,h.fm.n0,De,h.fm.sx,h.fm.sy⟩,h.ax,h.ay,h.h0,.inr (.inr rfl),h.r0,fun _=>hl.1⟩,.inl eY⟩
theorem aEN{s:aC}{x:dZ}(h:x.of s)(k id:Int):(oL x k id).of s:=by
 obtain⟨h1,h2,h3⟩:=aEO x k id;exact⟨h1.trans h.d,h2.trans h.c,h3.trans h.l⟩
theorem oJ.end_{s:aC}{y:cJ}(h:oJ s y){a:Nat}(eY:y.at_=(a:Int))(ha:a < 2)(r:aU×Bool):oJ s (Fv s y r):=by
 unfold Fv;split
 ·rw[eY,Int.toNat_natCast];exact aIF (y:={y with at_:= -1}) ⟨⟨h.fm.la,h.fm.u0,h.fm.u1,h.fm.n0,h.fm.n1,h.fm.sx,h.fm.sy⟩,h.ax,h.ay,h.h0,h.h1,h.r0,h.r1⟩ rfl ha 0
 ·exact h
theorem oJ.next{s:aC}{x:aU}{y:cJ}(hH:s.dK)(h:oJ s y)(hx:cX s x):oJ s (wB s x y).1∧cX s (wB s x y).2∧(wB s x y).2.wt=x.wt∧(wB s x y).2.aZ=x.aZ:=by
 unfold wB;dsimp only;rcases h.at_ with eY | ⟨a,eY,ha,_⟩
 ·have hlt:y.at_ < 0:=by omega
  cases hn:sC y with
  | none=>
   have ht:nF s x y=(y,false):=by unfold nF;rw[hn]
   rw[ht,if_pos ⟨hlt,rfl⟩];exact⟨h,hx,rfl,rfl⟩
  | some a =>
   have ha:=aF7 h.fm.la hn
   have Bd:yO y a=1:=by
    unfold sC at hn;split at hn
    ·cases hn;assumption
    ·split at hn
     ·cases hn;assumption
     ·cases hn
   have hla:(a:Int)=0∨(a:Int)=1:=by omega
   have ht:nF s x y=wA s x y a:=by unfold nF;rw[hn]
   rw[ht]
   by_cases hd:(gH s x y a).2.1=0
   ·have e:wA s x y a=(yH s x {y with last:=a} a (gH s x y a).1,false):=by
     unfold wA;dsimp only;rw[if_pos hd]
    rw[e,if_pos ⟨hlt,rfl⟩];exact⟨aIF (y:={y with last:=a}) ⟨⟨hla,h.fm.u0,h.fm.u1,h.fm.n0,h.fm.n1,h.fm.sx,h.fm.sy⟩,h.ax,h.ay,h.h0,h.h1,h.r0,h.r1⟩ eY ha _,hx,rfl,rfl⟩
   ·have e:wA s x y a=({y with last:=a,x:=lH y.x a (gH s x y a).2.1 (gH s x y a).2.2,y:=lG y.y a (gH s x y a).2.1 (gH s x y a).2.2,at_:=a,kind:=(gH s x y a).2.1,id:=(gH s x y a).2.2},true):=by
     unfold wA;dsimp only;rw[if_neg hd]
    rw[e,if_neg (by simp),if_pos hlt];dsimp only;obtain⟨hk,hr⟩:=(h.step hx).new hlt a hn hd
    have hax:(lH y.x a (gH s x y a).2.1 (gH s x y a).2.2).of s:=by
     unfold lH;split
     ·exact aEN h.ax _ _
     ·exact h.ax
    have hay:(lG y.y a (gH s x y a).2.1 (gH s x y a).2.2).of s:=by
     unfold lG;split
     ·exact h.ay
     ·exact aEN h.ay _ _
    obtain⟨w1,w2⟩:=aHM s x (gH s x y a).2.1 (gH s x y a).2.2
    exact⟨oJ.end_ (y:={y with last:=a,x:=lH y.x a (gH s x y a).2.1 (gH s x y a).2.2,y:=lG y.y a (gH s x y a).2.1 (gH s x y a).2.2,at_:=a,kind:=(gH s x y a).2.1,id:=(gH s x y a).2.2})
     ⟨⟨⟨hla,h.fm.u0,h.fm.u1,h.fm.n0,h.fm.n1,aPg h.fm.sx _ _ _,aPf h.fm.sy _ _ _⟩,hax,hay,h.h0,h.h1,h.r0,h.r1⟩,.inr ⟨a,rfl,ha,Bd,hk,hr⟩⟩ rfl ha _,aDx hH hx _ _,w1,w2⟩
 ·have hlt:¬y.at_ < 0:=by omega
  rw[if_neg (fun hh=>hlt hh.1),if_neg hlt];obtain⟨w1,w2⟩:=aHM s x y.kind y.id;exact⟨h.end_ eY ha _,aDx hH hx _ _,w1,w2⟩
theorem oJ.send{s:aC}{y:cJ}(h:oJ s y)(a:Int){l:List Int}(hu:nB l)(hn:l.length≤1000000):oJ s (jZ y a l).2:=by
 have eY:∀b:Nat,y.at_= -1∨(∃c:Nat,y.at_=(c:Int)∧c < 2∧yO y c=1∧Mz s y.kind y.id∧tA (kB y c)):=fun _=>h.at_
 unfold jZ;split
 ·exact h
 ·split
  ·split
   ·exact h
   ·rename_i Dk
    have Dk:y.h0=0:=Classical.byContradiction Dk
    refine⟨⟨⟨h.fm.la,hu,h.fm.u1,hn,h.fm.n1,h.fm.sx,h.fm.sy⟩,h.ax,h.ay,.inr (.inl rfl),h.h1,(fun h=>absurd (show(1:Int)=2 from h) (by decide)),h.r1⟩,?_⟩;rcases h.at_ with h1 | ⟨c,h1,h2,h3,h4,h5⟩
    ·exact .inl h1
    ·refine .inr ⟨c,h1,h2,?_⟩;obtain rfl | rfl:c=0∨c=1:=by omega
     ·exact absurd (Dk.symm.trans h3) (by decide)
     ·exact⟨h3,h4,h5⟩
  ·split
   ·exact h
   ·rename_i Dk
    have Dk:y.h1=0:=Classical.byContradiction Dk
    refine⟨⟨⟨h.fm.la,h.fm.u0,hu,h.fm.n0,hn,h.fm.sx,h.fm.sy⟩,h.ax,h.ay,h.h0,.inr (.inl rfl),h.r0,fun h=>absurd (show(1:Int)=2 from h) (by decide)⟩,?_⟩;rcases h.at_ with h1 | ⟨c,h1,h2,h3,h4,h5⟩
    ·exact .inl h1
    ·refine .inr ⟨c,h1,h2,?_⟩;obtain rfl | rfl:c=0∨c=1:=by omega
     ·exact⟨h3,h4,h5⟩
     ·exact absurd (Dk.symm.trans h3) (by decide)
theorem oJ.read{s:aC}{y:cJ}(h:oJ s y)(a:Int):oJ s (lW y a):=by
 unfold lW;split
 ·split
  ·rename_i h2
   refine⟨⟨⟨h.fm.la,(fun _ hv=>by cases hv),h.fm.u1,Nat.zero_le _,h.fm.n1,h.fm.sx,h.fm.sy⟩,h.ax,h.ay,.inl rfl,h.h1,(fun h=>absurd (show(0:Int)=2 from h) (by decide)),h.r1⟩,?_⟩;rcases h.at_ with h1 | ⟨c,h1,hc,h3,h4,h5⟩
   ·exact .inl h1
   ·refine .inr ⟨c,h1,hc,?_⟩;obtain rfl | rfl:c=0∨c=1:=by omega
    ·exact absurd (h2.symm.trans h3) (by decide)
    ·exact⟨h3,h4,h5⟩
  ·exact h
 ·split
  ·split
   ·rename_i h2
    refine⟨⟨⟨h.fm.la,h.fm.u0,(fun _ hv=>by cases hv),h.fm.n0,Nat.zero_le _,h.fm.sx,h.fm.sy⟩,h.ax,h.ay,h.h0,.inl rfl,h.r0,fun h=>absurd (show(0:Int)=2 from h) (by decide)⟩,?_⟩;rcases h.at_ with h1 | ⟨c,h1,hc,h3,h4,h5⟩
    ·exact .inl h1
    ·refine .inr ⟨c,h1,hc,?_⟩;obtain rfl | rfl:c=0∨c=1:=by omega
     ·exact⟨h3,h4,h5⟩
     ·exact absurd (h2.symm.trans h3) (by decide)
   ·exact h
  ·exact h
theorem FwB.ans{s:aC}{y:cJ}(h:FwB s y){b:Int}{a:List Int}(ha:mK y b=some a):2≤a.length:=by
 unfold mK at ha;split at ha
 ·split at ha
  ·cases ha;exact h.r0 (by assumption)
  ·cases ha
 ·split at ha
  ·split at ha
   ·cases ha;exact h.r1 (by assumption)
   ·cases ha
  ·cases ha
theorem aO2{s:aC}(hT:s.wN):oJ s (sL s):=
 ⟨⟨⟨.inr rfl,(fun _ hv=>by simp[sL] at hv),(fun _ hv=>by simp[sL] at hv),by simp[sL],by simp[sL],aEl hT,aEl hT⟩,⟨by simp[sL,jJ],by simp[sL,jJ],by simp[sL,jJ]⟩,⟨by simp[sL,jJ],by simp[sL,jJ],by simp[sL,jJ]⟩,.inl rfl,.inl rfl,(fun h=>by simp[sL] at h),(fun h=>by simp[sL] at h)⟩,.inl rfl⟩
end
section
theorem aCO:∀(l:List (Int×Int)) (k v j:Int),jG (zU l k v) j=if j=k then v else jG l j
 | [], k, v, j => by
  by_cases h:j=k
  ·subst h;simp[jG,zU]
  ·rw[if_neg h]
   have h2:¬k=j:=fun e=>h e.symm
   simp[jG,zU,h2]
 | (a, b) :: l, k, v, j => by
  have ih:=aCO l k v j
  unfold zU
  by_cases Fp:a=k
  ·subst Fp;rw[if_pos rfl]
   by_cases h:j=a
   ·subst h;simp[jG]
   ·have h2:¬a=j:=fun e=>h e.symm
    simp[jG,h,h2]
  ·rw[if_neg Fp]
   by_cases haj:a=j
   ·subst haj;rw[if_neg Fp];simp[jG]
   ·have e1:∀m,jG ((a,b)::m) j=jG m j:=fun m=>by simp[jG,haj]
    rw[e1,e1,ih]
theorem nN(a b:Int){p:Prop}(h:a=b)(hn:a≠b:=by decide):p:=absurd h hn
theorem En{z:bL}{i j:Nat}{t:rH}(hi:T3 i)(hj:T3 j):(z.jP j t).tk i=if i=j then t else z.tk i:=by
 rcases hi with rfl | rfl | rfl<;>rcases hj with rfl | rfl | rfl<;>rfl
structure RwB(s:aC)(z:bL):Prop where
 wn:z.wn.of s
 len:∀j,T3 j→(z.tk j).hs.length=6
 nn:∀j,T3 j→∀i,0≤hG (z.tk j) i
 cnt:∀i:Nat,hG (z.tk 0) i+hG (z.tk 1) i+hG (z.tk 2) i=jG z.cn.l (i:Int)
 c7:∀i:Nat,jG z.cn.l (i:Int)≤7
 call:∀j,T3 j→(z.tk j).st=1→wP (z.tk j).kind
 st:∀j,T3 j→0≤(z.tk j).st∧(z.tk j).st≤3
 val:∀j,T3 j→0≤(z.tk j).val∧(z.tk j).val < 4294967296
 many:0≤z.many∧z.many < 1024
 Cl:∀p∈z.steps,Xu p∧p.ok
def aSl(z:bL):Prop:=(z.fM= -1∧(∀j,T3 j→(z.tk j).st≠2)∧z.aZ=false∧z.steps=[]∧z.sent=false)∨(∃j:Nat,T3 j∧z.fM=(j:Int)∧(∀i,T3 i→((z.tk i).st=2↔i=j))∧(z.aZ=false→z.steps≠[]))
structure oG(s:aC)(z:bL):Prop extends RwB s z where
 fM:aSl z
theorem aOa{s:aC}{z:bL}(h:RwB s z){j:Nat}(hj:T3 j)(i:Nat):hG (z.tk j) i≤7:=by
 have h0:=h.nn 0 (.inl rfl) i
 have h1:=h.nn 1 (.inr (.inl rfl)) i
 have h2:=h.nn 2 (.inr (.inr rfl)) i
 have h3:=h.cnt i
 have h4:=h.c7 i
 rcases hj with rfl | rfl | rfl<;>omega
theorem RwB.rp{s:aC}{z:bL}(h:RwB s z):Rr s z:=⟨h.wn,fun j hj=>⟨h.len j hj,fun i=>⟨h.nn j hj i,by have:=aOa h hj i;omega⟩⟩⟩
theorem RwB.jP{s:aC}{z:bL}(h:RwB s z){j:Nat}(hj:T3 j){t:rH}(hh:t.hs=(z.tk j).hs)(hs:0≤t.st∧t.st≤3)(hv:0≤t.val∧t.val < 4294967296)(hc:t.st=1→wP t.kind):RwB s (z.jP j t):=by
 have hg:∀i,T3 i→((z.jP j t).tk i).hs=(z.tk i).hs:=fun i hi=>by
  rw[En hi hj];split
  ·rename_i e;subst e;exact hh
  ·rfl
 have hG':∀i,T3 i→∀k,hG ((z.jP j t).tk i) k=hG (z.tk i) k:=fun i hi k=>by unfold hG;rw[hg i hi]
 refine⟨h.wn,fun i hi=>by rw[hg i hi];exact h.len i hi,fun i hi k=>by rw[hG' i hi];exact h.nn i hi k,fun i=>?_,h.c7,fun i hi=>?_,fun i hi=>?_,fun i hi=>?_,h.many,h.Cl⟩
 ·rw[hG' 0 (.inl rfl),hG' 1 (.inr (.inl rfl)),hG' 2 (.inr (.inr rfl))];exact h.cnt i
 ·rw[En hi hj];split
  ·exact hc
  ·exact h.call i hi
 ·rw[En hi hj];split
  ·exact hs
  ·exact h.st i hi
 ·rw[En hi hj];split
  ·exact hv
  ·exact h.val i hi
theorem RwB.qP{s:aC}{z:bL}(h:RwB s z){j:Nat}(hj:T3 j){d:Nat}(hd:d < 6){k:Int}{c:Cn}(hc:∀i:Nat,jG c.l (i:Int)=if i=d then jG z.cn.l (d:Int)+k else jG z.cn.l (i:Int))(h0:0≤hG (z.tk j) d+k)(h7:jG z.cn.l (d:Int)+k≤7):RwB s {z.jP j (qP (z.tk j) d k) with cn:=c}:=by
 have ht:∀i,T3 i→({z.jP j (Go.Proofs.YtkgekojkboingaaGreatDoor.qP (z.tk j) d k) with cn:=c}:bL).tk i=if i=j then Go.Proofs.YtkgekojkboingaaGreatDoor.qP (z.tk j) d k else z.tk i:=fun i hi=>(show _=(z.jP j (Go.Proofs.YtkgekojkboingaaGreatDoor.qP (z.tk j) d k)).tk i from rfl).trans (En hi hj)
 have hu:∀i,hG (Go.Proofs.YtkgekojkboingaaGreatDoor.qP (z.tk j) d k) i=if d=i then hG (z.tk j) d+k else hG (z.tk j) i:=fun i=>aG5 (h.len j hj) hd
 have hg:∀i,T3 i→∀n,hG (({z.jP j (Go.Proofs.YtkgekojkboingaaGreatDoor.qP (z.tk j) d k) with cn:=c}:bL).tk i) n=hG (z.tk i) n+(if i=j∧n=d then k else 0):=fun i hi n=>by
  rw[ht i hi]
  by_cases e:i=j
  ·subst e;rw[if_pos rfl,hu]
   by_cases e2:d=n
   ·subst e2;simp
   ·rw[if_neg e2,if_neg (fun hh=>e2 hh.2.symm)];omega
  ·rw[if_neg e,if_neg (fun hh=>e hh.1)];omega
 refine⟨h.wn,fun i hi=>?_,fun i hi n=>?_,fun n=>?_,fun n=>?_,fun i hi=>?_,fun i hi=>?_,fun i hi=>?_,h.many,h.Cl⟩
 ·rw[ht i hi];split
  ·show((z.tk j).hs.set _ _).length=6
   rw[List.length_set];exact h.len j hj
  ·exact h.len i hi
 ·rw[hg i hi]
  have:=h.nn i hi n
  split
  ·rename_i e
   obtain⟨rfl,rfl⟩:=e;exact h0
  ·omega
 ·rw[hg 0 (.inl rfl),hg 1 (.inr (.inl rfl)),hg 2 (.inr (.inr rfl))]
  show _=jG c.l (n:Int)
  rw[hc]
  have:=h.cnt n
  by_cases e:n=d
  ·subst e;rcases hj with rfl | rfl | rfl<;>simp<;>omega
  ·rw[if_neg e,if_neg (fun hh=>e hh.2),if_neg (fun hh=>e hh.2),if_neg (fun hh=>e hh.2)];omega
 ·show jG c.l (n:Int)≤7
  rw[hc];split
  ·exact h7
  ·exact h.c7 n
 ·rw[ht i hi];split
  ·rename_i e;subst e;exact h.call _ hi
  ·exact h.call i hi
 ·rw[ht i hi];split
  ·rename_i e;subst e;exact h.st _ hi
  ·exact h.st i hi
 ·rw[ht i hi];split
  ·rename_i e;subst e;exact h.val _ hi
  ·exact h.val i hi
theorem aQv{n:Nat}{c:Cn}{d:Int}(h:(qZ n c d).1=0)(h0:0≤jG c.l d):c.lQ=false∧0≤d∧d < n∧jG c.l d < 7∧(qZ n c d).2=⟨zU c.l d (jG c.l d+1),c.lQ⟩:=by
 unfold qZ at h⊢;split at h
 ·simp at h
 ·rename_i h1
  split at h
  ·simp at h
  ·rename_i h2
   split at h
   ·simp at h
   ·rename_i h3
    rw[if_neg h1,if_neg h2,if_neg h3,iW (by omega)];exact⟨by simpa using h1,by omega,by omega,by omega,rfl⟩
theorem aPI{n:Nat}{c:Cn}{d:Int}(h:(uD n c d).1=0)(h7:jG c.l d≤7):c.lQ=false∧0≤d∧d < n∧0 < jG c.l d∧(uD n c d).2=⟨zU c.l d (jG c.l d - 1),c.lQ⟩:=by
 unfold uD at h⊢;split at h
 ·simp at h
 ·rename_i h1
  split at h
  ·simp at h
  ·rename_i h2
   split at h
   ·simp at h
   ·rename_i h3
    rw[if_neg h1,if_neg h2,if_neg h3,iW (by omega)];exact⟨by simpa using h1,by omega,by omega,by omega,rfl⟩
theorem aBc{s:aC}{z:bL}(hm:s.made)(h:RwB s z):RwB s (yA s z):=
 ⟨aJu s z,h.len,h.nn,h.cnt,h.c7,h.call,h.st,h.val,h.many,fun p hp=>⟨aRj p hp,aRk hm _ _ p hp⟩⟩
theorem RwB.same{s:aC}{z:bL}(h:RwB s z)(c:Cn)(hc:c.l=z.cn.l):RwB s {z with cn:=c}:=
 ⟨h.wn,h.len,h.nn,fun i=>by show _=jG c.l _;rw[hc];exact h.cnt i,fun i=>by show jG c.l _≤7;rw[hc];exact h.c7 i,h.call,h.st,h.val,h.many,h.Cl⟩
structure aEb(s:aC)(z:bL)(x:aU)(r:Int×bL×aU):Prop where
 b:RwB s r.2.1
 st:∀i,(r.2.1.tk i).st=(z.tk i).st
 err:r.1≠0→r.2.1=z∧r.2.2=x
 x_:r.2.1.aZ=false→r.2.2=x
 po:r.2.1.aZ=true→z.aZ=true∨∃(d:Nat) (wr:Bool) (rg v:Int) (dv:cH),s.aD[d]? =some dv∧0≤rg∧rg < dv.aR.length∧0≤v∧v < 4294967296∧r.2.1.id=x.aZ∧r.2.2=Ts x d wr rg v
theorem aOP{s:aC}(hm:s.made){z:bL}(h:RwB s z)(x:aU){j:Nat}(hj:T3 j)(k:Int):aEb s z x (Dr s x z j k):=by
 have hnd:=Zn s
 have qW:=hm.nv
 have same:∀e:Int,aEb s z x (e,z,x):=fun e=>⟨h,fun _=>rfl,fun _=>⟨rfl,rfl⟩,fun _=>rfl,fun hp=>.inl hp⟩
 have Kk:∀(d:Nat) (q:Int) (c:Cn) (i:Nat),((yA s {z.jP j (qP (z.tk j) d q) with cn:=c}).tk i).st=(z.tk i).st:=fun d q c i=>by
  show((z.jP j (qP (z.tk j) d q)).tk i).st=_
  rcases hj with rfl | rfl | rfl
  all_goals
   match i with
   | 0=>rfl
   | 1=>rfl
   | n+2=>rfl
 have acc : ∀ wr : Bool, aEb s z x (Gl s x z j wr) := fun wr => by
  unfold Gl;split
  ·exact same 4
  ·rename_i hb
   split
   ·exact same 6
   ·split
    ·refine⟨⟨h.wn,h.len,h.nn,h.cnt,h.c7,h.call,h.st,h.val,h.many,h.Cl⟩,fun _=>rfl,fun h=>absurd rfl h,(fun h=>by cases h),fun _=>.inr ?_⟩
     have h1:bZ s.aD.length (z.tk j).dev=true:=by
      cases hh:bZ s.aD.length (z.tk j).dev with
      | true=>rfl
      | false=>exact absurd (.inl hh) hb
     have h2:=of_decide_eq_true h1
     obtain⟨dv,Dg⟩:=get_some (l:=s.aD) (i:=(z.tk j).dev.toNat) (by omega)
     have h3:¬(z.tk j).cF < 0:=fun hh=>hb (.inr (.inl hh))
     have h4:¬Tk s (z.tk j).dev≤(z.tk j).cF:=fun hh=>hb (.inr (.inr hh))
     unfold Tk at h4;rw[Dg] at h4;simp only[Option.map_some,Option.getD_some] at h4;exact⟨_,wr,(z.tk j).cF,(z.tk j).val,dv,Dg,by omega,by omega,(h.val j hj).1,(h.val j hj).2,rfl,rfl⟩
    ·exact same 6
 unfold Dr;split
 ·unfold Lx;split
  ·exact same _
  ·rename_i h1
   have h1:(qZ (dM s).length z.cn (z.tk j).dev).1=0:=Classical.byContradiction h1
   have hd0:=aH1 h1
   obtain⟨d,hd⟩:∃d:Nat,(z.tk j).dev=d:=⟨(z.tk j).dev.toNat,by omega⟩
   rw[hd] at h1 hd0⊢;obtain⟨_,_,h2,h3,h4⟩:=aQv h1 (by have:=h.cnt d;have:=h.nn 0 (.inl rfl) d;have:=h.nn 1 (.inr (.inl rfl)) d;have:=h.nn 2 (.inr (.inr rfl)) d;omega);rw[h4,Int.toNat_natCast];refine⟨aBc hm (h.qP hj (by omega) (fun i=>?_) (by have:=h.nn j hj d;omega) (by omega)),Kk _ _ _,fun h=>absurd rfl h,fun _=>rfl,fun hp=>.inl hp⟩;dsimp only;rw[aCO]
   by_cases e:i=d
   ·subst e;simp
   ·rw[if_neg (by omega),if_neg e]
 ·split
  ·unfold Kq;split
   ·exact same _
   ·rename_i hin
    split
    ·exact same _
    ·rename_i h0
     split
     ·exact same _
     ·rename_i h1
      have h1:(uD (dM s).length z.cn (z.tk j).dev).1=0:=Classical.byContradiction h1
      have hin:bZ s.aD.length (z.tk j).dev=true:=by simpa using hin
      have hin:=of_decide_eq_true hin
      obtain⟨d,hd⟩:∃d:Nat,(z.tk j).dev=d:=⟨(z.tk j).dev.toNat,by omega⟩
      rw[hd] at h1 h0 hin⊢;rw[Int.toNat_natCast] at h0⊢;obtain⟨_,_,h2,h3,h4⟩:=aPI h1 (h.c7 d);rw[h4];refine⟨aBc hm (h.qP hj (by omega) (fun i=>?_) (by have:=h.nn j hj d;omega) (by have:=h.c7 d;omega)),Kk _ _ _,fun h=>absurd rfl h,fun _=>rfl,fun hp=>.inl hp⟩;dsimp only;rw[aCO]
      by_cases e:i=d
      ·subst e;simp;omega
      ·rw[if_neg (by omega),if_neg e]
  ·split
   ·exact acc false
   ·split
    ·exact acc true
    ·split
     ·unfold Kh;split
      ·exact same _
      ·rename_i h1
       refine⟨aBc hm (h.same _ ?_),fun _=>rfl,fun h=>absurd rfl h,fun _=>rfl,fun hp=>.inl hp⟩;unfold xH;split<;>rfl
     ·unfold Ko;split
      ·exact same _
      ·refine⟨aBc hm (h.same _ ?_),fun _=>rfl,fun h=>absurd rfl h,fun _=>rfl,fun hp=>.inl hp⟩;unfold xI;split<;>rfl
theorem RwB.end_{s:aC}{z:bL}(h:RwB s z){j:Nat}(hj:T3 j)(h2:∀i,T3 i→(z.tk i).st=2→i=j)(e r:Int):oG s (pR z j e r):=by
 have h1:=h.jP hj (t:={z.tk j with st:=3,err:=e,res:=r}) rfl ⟨by show(0:Int)≤3;decide,by show(3:Int)≤3;decide⟩ (h.val j hj) (fun hh=>nN 3 1 hh)
 refine⟨⟨h1.wn,h1.len,h1.nn,h1.cnt,h1.c7,h1.call,h1.st,h1.val,h1.many,fun p hp=>by cases hp⟩,.inl ⟨rfl,fun i hi hst=>?_,rfl,rfl,rfl⟩⟩
 have hst:((z.jP j {z.tk j with st:=3,err:=e,res:=r}).tk i).st=2:=hst
 rw[En hi hj] at hst;split at hst
 ·exact nN 3 2 hst
 ·rename_i hne
  exact hne (h2 i hi hst)
theorem aLV{z:bL}{i j:Nat}(hi:T3 i)(hj:T3 j):(tM z j).tk i=if i=j then {z.tk j with st:=2} else z.tk i:=En hi hj
theorem aQF{s:aC}(hm:s.made){z:bL}(h:oG s z)(hh:z.fM < 0)(x:aU){j:Nat}(hj:T3 j):oG s (uH s x z j).1∧z.aZ=false∧((uH s x z j).1.aZ=false→(uH s x z j).2=x)∧((uH s x z j).1.aZ=true→∃(d:Nat) (wr:Bool) (rg v:Int) (dv:cH),s.aD[d]? =some dv∧0≤rg∧rg < dv.aR.length∧0≤v∧v < 4294967296∧(uH s x z j).1.id=x.aZ∧(uH s x z j).2=Ts x d wr rg v):=by
 obtain⟨_,hno,mM,hsp,hse⟩:z.fM= -1∧(∀j,T3 j→(z.tk j).st≠2)∧z.aZ=false∧z.steps=[]∧z.sent=false:=by
  rcases h.fM with h1 | ⟨i,_,h1,_⟩
  ·exact h1
  ·omega
 have hb:RwB s (tM z j):=by
  have:=h.toRwB.jP hj (t:={z.tk j with st:=2}) rfl ⟨by show(0:Int)≤2;decide,by show(2:Int)≤3;decide⟩ (h.val j hj) (fun hh=>nN 2 1 hh)
  exact⟨this.wn,this.len,this.nn,this.cnt,this.c7,this.call,this.st,this.val,this.many,this.Cl⟩
 have h2:∀i,T3 i→(((tM z j).tk i).st=2↔i=j):=fun i hi=>by
  rw[aLV hi hj];split
  ·rename_i e;exact⟨fun _=>e,fun _=>rfl⟩
  ·rename_i e;exact⟨fun hh=>absurd hh (hno i hi),fun hh=>absurd hh e⟩
 have he:=aOP hm hb x hj (z.tk j).kind
 have hho:=aGT s x (tM z j) j (z.tk j).kind
 have aNm:(tM z j).aZ=false:=mM
 unfold uH;dsimp only;generalize Dr s x (tM z j) j (z.tk j).kind=r at he hho;split
 ·rename_i hne
  obtain⟨e1,e2⟩:=he.err hne;rw[e1,e2];exact⟨hb.end_ hj (fun i hi hst=>(h2 i hi).1 hst) _ _,mM,fun _=>rfl,fun hp=>by cases hp⟩
 ·have h3:∀i,T3 i→((r.2.1.tk i).st=2↔i=j):=fun i hi=>by rw[he.st i];exact h2 i hi
  split
  ·rename_i hc
   exact⟨he.b.end_ hj (fun i hi hst=>(h3 i hi).1 hst) _ _,mM,fun _=>he.x_ hc.1,fun hp=>by cases hp⟩
  ·rename_i hc
   refine⟨⟨he.b,.inr ⟨j,hj,hho,h3,fun hp hs=>hc ⟨hp,by rw[hs];rfl⟩⟩⟩,mM,he.x_,fun hp=>?_⟩;rcases he.po hp with h4 | h4
   ·rw[aNm] at h4;cases h4
   ·exact h4
theorem aRp{s:aC}{z:bL}{y:cJ}(h:oG s z)(hy:oJ s y){j:Nat}(hj:T3 j)(hst:(z.tk j).st=2)(mM:z.aZ=false):oG s (sQ z y j).1∧oJ s (sQ z y j).2∧(sQ z y j).1.aZ=false:=by
 obtain⟨hh,h2,hne⟩:z.fM=(j:Int)∧(∀i,T3 i→((z.tk i).st=2↔i=j))∧z.steps≠[]:=by
  rcases h.fM with⟨_,h1,_⟩ | ⟨i,hi,h1,h2,h3⟩
  ·exact absurd hst (h1 j hj)
  ·obtain rfl:=(h2 j hj).1 hst;exact⟨h1,h2,h3 mM⟩
 unfold sQ;split
 ·cases hr:mK y 0 with
  | none=>exact⟨h,hy.read 0,mM⟩
  | some a =>
   dsimp only
   have hb:RwB s (rT z a):=by
    unfold rT;split
    ·exact⟨h.wn,h.len,h.nn,h.cnt,h.c7,h.call,h.st,h.val,h.many,fun p hp=>h.Cl p (List.mem_of_mem_tail hp)⟩
    ·exact⟨h.wn,h.len,h.nn,h.cnt,h.c7,h.call,h.st,h.val,h.many,h.Cl⟩
   have ht:∀i,(rT z a).tk i=z.tk i:=fun i=>by unfold rT;split<;>rfl
   have hhh:(rT z a).fM=z.fM:=by unfold rT;split<;>rfl
   have hpp:(rT z a).aZ=z.aZ:=by unfold rT;split<;>rfl
   split
   ·exact⟨hb.end_ hj (fun i hi hs=>by rw[ht] at hs;exact(h2 i hi).1 hs) _ _,hy.read 0,rfl⟩
   ·rename_i hl
    exact⟨⟨hb,.inr ⟨j,hj,hhh.trans hh,fun i hi=>by rw[ht];exact h2 i hi,fun _ hs=>hl (by rw[hs];rfl)⟩⟩,hy.read 0,hpp.trans mM⟩
 ·cases hs:z.steps with
  | nil=>exact absurd hs hne
  | cons p tl =>
   dsimp only;obtain⟨hk,hok⟩:=h.Cl p (by rw[hs];simp)
   have hu:nB (vU p z.many):=fun v hv=>by
    simp only[vU,List.mem_cons,List.not_mem_nil,or_false] at hv;rcases hv with rfl | rfl | rfl
    ·exact aFw _ _ _ _
    ·exact hok.id
    ·exact hok.v
   have hy2:=hy.send 0 hu (by simp[vU])
   split
   ·refine⟨⟨⟨h.wn,h.len,h.nn,h.cnt,h.c7,h.call,h.st,h.val,?_,fun q hq=>h.Cl q (by rw[hs];exact hq)⟩,.inr ⟨j,hj,hh,h2,fun _ hc=>by cases hc⟩⟩,hy2,mM⟩
    have:=h.many
    show 0≤(z.many+1) % 1024∧(z.many+1) % 1024 < 1024
    omega
   ·exact⟨h,hy2,mM⟩
theorem aJW{s:aC}{z:bL}(h:oG s z)(t k d r v:Int)(hv:0≤v∧v < 4294967296):oG s (wE z t k d r v).2∧(wE z t k d r v).2.aZ=z.aZ∧(wE z t k d r v).2.id=z.id:=by
 unfold wE;split
 ·exact⟨h,rfl,rfl⟩
 ·rename_i hin
  obtain⟨j,rfl,hj⟩:=Ew (t:=t) (by simpa using hin);rw[Int.toNat_natCast];split
  ·exact⟨h,rfl,rfl⟩
  ·rename_i h0
   have h0:(z.tk j).st=0:=Classical.byContradiction h0
   split
   ·exact⟨h,rfl,rfl⟩
   ·rename_i hk
    have hk:wP k:=Classical.byContradiction hk
    refine⟨⟨h.toRwB.jP hj rfl ⟨by show(0:Int)≤1;decide,by show(1:Int)≤3;decide⟩ hv (fun _=>hk),?_⟩,rfl,rfl⟩
    have key:∀i,T3 i→(((z.jP j {z.tk j with st:=1,kind:=k,dev:=d,cF:=r,val:=v}).tk i).st=2↔(z.tk i).st=2):=fun i hi=>by
     rw[En hi hj];split
     ·rename_i e;subst e
      rw[h0];exact⟨fun h=>nN 1 2 h,fun h=>nN 0 2 h⟩
     ·exact Iff.rfl
    rcases h.fM with⟨h1,h2,h3⟩ | ⟨i,hi,h1,h2,h3⟩
    ·exact .inl ⟨h1,fun i hi hs=>h2 i hi ((key i hi).1 hs),h3⟩
    ·exact .inr ⟨i,hi,h1,fun k hk=>(key k hk).trans (h2 k hk),h3⟩
theorem aPb{s:aC}{z:bL}(h:oG s z)(t:Int):oG s (pS z t).2∧(pS z t).2.aZ=z.aZ∧(pS z t).2.id=z.id:=by
 unfold pS;split
 ·exact⟨h,rfl,rfl⟩
 ·rename_i hin
  obtain⟨j,rfl,hj⟩:=Ew (t:=t) (by simpa using hin);rw[Int.toNat_natCast];split
  ·exact⟨h,rfl,rfl⟩
  ·rename_i h0
   have h0:(z.tk j).st=3:=Classical.byContradiction h0
   refine⟨⟨h.toRwB.jP hj rfl ⟨by show(0:Int)≤0;decide,by show(0:Int)≤3;decide⟩ ⟨by show(0:Int)≤0;decide,by show(0:Int) < 4294967296;decide⟩ (fun h=>nN 0 1 h),?_⟩,rfl,rfl⟩
   have key:∀i,T3 i→(((z.jP j {z.tk j with st:=0,kind:=0,dev:=0,cF:=0,val:=0,err:=0,res:=0}).tk i).st=2↔(z.tk i).st=2):=fun i hi=>by
    rw[En hi hj];split
    ·rename_i e;subst e
     rw[h0];exact⟨fun h=>nN 0 2 h,fun h=>nN 3 2 h⟩
    ·exact Iff.rfl
   rcases h.fM with⟨h1,h2,h3⟩ | ⟨i,hi,h1,h2,h3⟩
   ·exact .inl ⟨h1,fun i hi hs=>h2 i hi ((key i hi).1 hs),h3⟩
   ·exact .inr ⟨i,hi,h1,fun k hk=>(key k hk).trans (h2 k hk),h3⟩
theorem aQR{s:aC}{z:bL}(h:oG s z)(a:gJ):oG s (Dy z a):=by
 unfold Dy;split
 ·exact h
 ·rename_i hp
  obtain⟨j,hj,hh,h2⟩:∃j:Nat,T3 j∧z.fM=(j:Int)∧∀i,T3 i→((z.tk i).st=2↔i=j):=by
   rcases h.fM with⟨_,_,h1,_⟩ | ⟨i,hi,h1,h2,_⟩
   ·exact absurd h1 hp
   ·exact⟨i,hi,h1,h2⟩
  have h3:∀e r,oG s (pR z z.fM.toNat e r):=fun e r=>by
   rw[hh,Int.toNat_natCast];exact h.toRwB.end_ hj (fun i hi hs=>(h2 i hi).1 hs) e r
  split
  ·exact h
  ·split
   ·exact h3 _ _
   ·exact h3 _ _
theorem aHI{s:aC}:∀(l:List gJ) {z:bL},oG s z→oG s (sP z l)
 | [],_,h=>h
 | a::l,_,h=>aHI l (aQR h a)
theorem oG.po{s:aC}{z:bL}(h:oG s z):Mu z:=fun hp=>by
 rcases h.fM with⟨_,_,h1,_⟩ | ⟨i,hi,h1,_⟩
 ·rw[h1] at hp;cases hp
 ·exact⟨i,h1,hi⟩
theorem oG.go{s:aC}{z:bL}{y:cJ}(h:oG s z)(hy:FwB s y):aIv s z y:=by
 refine⟨h.rp,h.call,fun j hj hst=>?_,h.many,fun p hp=>(aN4 (h.Cl p hp).1 h.many.1 h.many.2).1,fun a ha=>hy.ans ha⟩;rcases h.fM with⟨_,h1,_⟩ | ⟨i,hi,h1,h2,h3⟩
 ·exact absurd hst (h1 j hj)
 ·obtain rfl:=(h2 j hj).1 hst;exact⟨h1,h3⟩
theorem aKJ{s:aC}:oG s (Tg s):=by
 have ht:∀j,T3 j→(Tg s).tk j=Sj:=by rintro j (rfl | rfl | rfl)<;>rfl
 have h0:∀i,hG Sj i=0:=fun i=>by
  match i with
  | 0 | 1 | 2 | 3 | 4 | 5=>rfl
  | n+6=>rfl
 refine⟨⟨aBy s [],fun j hj=>by rw[ht j hj];rfl,fun j hj i=>by rw[ht j hj,h0];decide,fun i=>?_,fun i=>?_,fun j hj h=>?_,fun j hj=>?_,fun j hj=>?_,⟨by show(0:Int)≤0;decide,by show(0:Int) < 1024;decide⟩,fun p hp=>by cases hp⟩,.inl ⟨rfl,fun j hj h=>?_,rfl,rfl,rfl⟩⟩
 ·rw[ht 0 (.inl rfl),ht 1 (.inr (.inl rfl)),ht 2 (.inr (.inr rfl)),h0];rfl
 ·show(0:Int)≤7
  decide
 ·rw[ht j hj] at h;exact nN 0 1 h
 ·rw[ht j hj];decide
 ·rw[ht j hj];decide
 ·rw[ht j hj] at h;exact nN 0 2 h
end
section
theorem aSj{w0:World}{R:List Piece}{H:List HP}{q:Piece}{A:Option Addr}{es:List (Int×Nat)}{j:Nat}{p:Int×Nat}(hq:q∈R)(hs:aI q 2 A es.length (es.flatMap Dq))(hj:es[j]? =some p):∃b off,A=some ⟨b,off,none⟩∧aM w0 R H b (off+j*2) (Dq p):=by
 have hlt:=(List.getElem?_eq_some_iff.1 hj).1
 obtain⟨b,off,hA,hz,hc⟩:=aI.uT (rows:=es.map Dq) (sz:=2) (k:=j) (r:=Dq p) (n:=es.length) (by rw[←List.flatMap_def];exact hs) (fun r hr=>by
  obtain⟨x,_,rfl⟩:=List.mem_map.1 hr
  rfl) (by rw[List.getElem?_map,hj];rfl) hlt
 exact⟨b,off,hA,.of fun k v hv=>Rd.ro hq hz (hc k v hv)⟩
def fP(s:aC)(x:aU):Nat→aU×List gJ
 | 0=>(x,[])
 | n+1=>((iI s (fP s x n).1 n).1,(fP s x n).2++(iI s (fP s x n).1 n).2.toList)
def pY(s:aC)(x:aU)(aX:Int):aU×List gJ:=(Sk s (fP s x s.aD.length).1 aX,(fP s x s.aD.length).2)
theorem Mk{s:aC}{x:aU}(hok:cX s x)(mL:Ec s x):∀n,cX s (fP s x n).1∧Ec s (fP s x n).1
 | 0=>⟨hok,mL⟩
 | n+1=>⟨aQW (Mk hok mL n).1 (Mk hok mL n).2 n,aQU (Mk hok mL n).2 n⟩
theorem aAF{s:aC}{x:aU}:∀n,(fP s x n).2.length≤n
 | 0=>Nat.le_refl _
 | n+1=>by
  have:=aAF (s:=s) (x:=x) n
  show((fP s x n).2++_).length≤_
  rw[List.length_append];cases(iI s (fP s x n).1 n).2<;>simp<;>omega
theorem aAE{s:aC}{x:aU}{i:Nat}(h:(x.wt[i]?).join=none):iI s x i=(x,none):=by
 unfold iI;rw[h]
theorem aDt{s:aC}{x:aU}{i:Nat}{t:jA}(hok:cX s x)(hi:i < s.aD.length)(h:(x.wt[i]?).join=some t):∃a,(iI s x i).2=some a∧(iI s x i).1.wt=x.wt.set i none:=by
 obtain⟨d,hd⟩:=get_some hi;obtain⟨p,hp⟩:=get_some (l:=x.dv) (i:=i) (by have:=hok.dv;omega);unfold iI;rw[h,hd,hp];dsimp only;split<;>exact⟨_,rfl,rfl⟩
theorem aQX{s:aC}{x:aU}(hok:cX s x)(i j:Nat)(h:j=i∨(x.wt[j]?).join=none):((iI s x i).1.wt[j]?).join=none:=by
 cases hq:(x.wt[i]?).join with
 | none=>
  rw[aAE hq];rcases h with rfl | h
  ·exact hq
  ·exact h
 | some t =>
  have hlt:i < s.aD.length:=by
   have:=hok.wt
   rcases Nat.lt_or_ge i x.wt.length with h | h
   ·omega
   ·rw[List.getElem?_eq_none h] at hq;cases hq
  obtain⟨a,_,h2⟩:=aDt hok hlt hq;rw[h2];cases hj:((x.wt.set i none)[j]?).join with
  | none=>rfl
  | some t' =>
   have h3:=aB8 hj
   rcases h with rfl | h
   ·rw[List.getElem?_set] at hj;simp at hj;split at hj<;>cases hj
   ·rw[h] at h3;cases h3
theorem aHG{s:aC}{x:aU}(hok:cX s x)(mL:Ec s x):∀n j,j < n→((fP s x n).1.wt[j]?).join=none
 | 0,_,h=>absurd h (by omega)
 | n+1,j,h=>aQX (Mk hok mL n).1 n j (by
  by_cases hj:j=n
  ·exact .inl hj
  ·exact .inr (aHG hok mL n j (by omega)))
theorem aHD{s:aC}{x:aU}(hok:cX s x)(mL:Ec s x)(i:Nat):oK (fP s x s.aD.length).1.wt i=0:=by
 have h:=(Mk hok mL s.aD.length).1.wt
 unfold oK;rcases Nat.lt_or_ge i s.aD.length with hi | hi
 ·rw[aHG hok mL _ i hi];rfl
 ·rw[List.getElem?_eq_none (by omega)];rfl
theorem aN9(L:HL)(s:aC)(x0:aU)(w:World)(hH:s.dK)(aQ:gA L s)(Lj:cX s x0)(aFX:Ec s x0)(aX:Int)(hd:0≤aX∧aX < 4294967296)(F:Nat→Prop)(hp:(dN L s x0).sat F w)(hF:∀b,F b→b < w.heap.size):
  Cz 94 #[.pointer (some ⟨L.h,0,none⟩),.int .u32 aX] w (fun y w'=>∃a:Option Addr×Nat,y=.returned (.slice a.1 (pY s x0 aX).2.length a.2)∧True∧∃F',(HP.many [dN L s (pY s x0 aX).1,HP.own 44 4 (.slice a.1 (pY s x0 aX).2.length a.2) (pY s x0 aX).2.length ((pY s x0 aX).2.flatMap gJ.cells)]).sat F' w'∧iC w w' F F'):=by
 have qW:=hH.t.nv
 have hnd:=hH.t.nd
 have hls:=aQ.ds
 refine cT func94 ntmps94 hp hF ?_;generalize cP:(⟨w,fun b=>b < w.heap.size∧¬F b⟩:Piece)=R0;refine aA ?_;refine aS (fun w1 t=>Ba L s x0 w1 (t.mA 0 rfl aQ Lj)) ?_;refine aA ?_;refine kd (bH rfl (pG 0 rfl rfl)) ?_;refine aA ?_;refine lI 44 4 ?_;refine bN [(24,iv 0),(23,iv s.aD.length),(5,sn),(0,.pointer (some ⟨L.h,0,none⟩)),(1,.int .u32 aX)] ?_;refine eV (fun m e R H=>∃(i:Nat) (A:Option Addr) (c:Nat),i≤s.aD.length∧m=s.aD.length - i∧e=[(24,iv i),(23,iv s.aD.length),(5,.slice A (fP s x0 i).2.length c),(0,.pointer (some ⟨L.h,0,none⟩)),(1,.int .u32 aX)]∧R=[R0]∧H=[HP.own 44 4 (.slice A (fP s x0 i).2.length c) (fP s x0 i).2.length ((fP s x0 i).2.flatMap gJ.cells),dN L s (fP s x0 i).1]) s.aD.length ⟨0,none,0,by omega,rfl,rfl,rfl,rfl⟩ fun m e R H hI=>?_;obtain⟨i,A0,c0,hi,rfl,rfl,rfl,rfl⟩:=hI;obtain⟨tU,aAf⟩:=Mk Lj aFX i
 have hlen:=aAF (s:=s) (x:=x0) i
 refine aA ?_;refine aG rfl (fun hlt=>?_) (fun hge=>?_)
 ·have hlt:i < s.aD.length:=by omega
  have dD:fP s x0 (i+1)=((iI s (fP s x0 i).1 i).1,(fP s x0 i).2++(iI s (fP s x0 i).1 i).2.toList):=rfl
  generalize hr:fP s x0 i=r at tU aAf hlen dD⊢;obtain⟨xi,l⟩:=r;dsimp only at tU aAf hlen dD⊢;cases hj:(xi.wt[i]?).join with
  | none=>
   rw[aAE hj] at dD;refine aA ?_;refine aS (fun w1 t=>aNH L s xi i hlt (by unfold oK;rw[hj];rfl) w1 (t.mA 1 rfl aQ tU)) ?_;refine aA ?_;refine bY fun g1=>?_;refine aA ?_;refine aT [1,2] rfl (by decide) (fun _ h=>h) ?_;refine bN [(24,iv (i+1:Nat)),(23,iv s.aD.length),(5,.slice A0 l.length c0),(0,.pointer (some ⟨L.h,0,none⟩)),(1,.int .u32 aX)] ?_;exact gP (s.aD.length - (i+1)) (by omega) ⟨i+1,A0,c0,hlt,rfl,by rw[dD];simp,rfl,by rw[dD];simp⟩
  | some t=>
   obtain⟨d,dB⟩:=get_some hlt;obtain⟨a,ha,_⟩:=aDt tU hlt hj;obtain⟨Gk,Qy,Dz,Br⟩:=a;rw[ha] at dD;refine aA ?_;refine aAb (v:=.tuple #[.agg #[iv Gk,iv Qy,.bool Dz,.int .u32 Br],.bool true]) 1 (dN L s (iI s xi i).1) (fun w1 F1 st h1 h2 h3=>aNG L s xi w1 hH aQ tU aAf i d dB t hj _ ha F1 h1 h2) ?_;dsimp only[List.set];refine aA ?_;refine bY fun g1=>?_;refine aA ?_;refine eH fun g4=>?_;refine aA ?_;refine gY 2 4 24 1 (n':=l.length+1) (el:=44) (by kernel_rfl) (by kernel_rfl) (by decide) rfl rfl rfl (lV 0 rfl rfl) (by simp[Value.oneCell']) rfl (by omega) (by omega) (by decide) fun An cn=>?_;dsimp only[List.set];refine aA ?_;refine aT [2,3] rfl (by decide) (fun _ h=>h) ?_;refine bN [(24,iv (i+1:Nat)),(23,iv s.aD.length),(5,.slice An (l.length+1) cn),(0,.pointer (some ⟨L.h,0,none⟩)),(1,.int .u32 aX)] ?_;exact gP (s.aD.length - (i+1)) (by omega) ⟨i+1,An,cn,hlt,rfl,by rw[dD];simp,rfl,by rw[dD];simp[gJ.cells]⟩
 obtain rfl:i=s.aD.length:=by omega
 have mL:=aHD Lj aFX
 have aC7:pY s x0 aX=(Sk s (fP s x0 s.aD.length).1 aX,(fP s x0 s.aD.length).2):=rfl
 generalize hr:fP s x0 s.aD.length=r at tU aAf hlen mL aC7⊢;obtain⟨x,l⟩:=r;dsimp only at tU mL hlen aC7⊢;rw[aC7]
 have hok:=tU
 have lC:=hok.dv
 refine aT [1,0] rfl (by decide) (fun _ h=>h) ?_;generalize hT:HP.own 44 4 (.slice A0 l.length c0) l.length (l.flatMap gJ.cells)=T;generalize hTv:Value.slice A0 l.length c0=tv;refine aA ?_;refine kd (bH rfl (pG 0 rfl rfl)) ?_;refine aA ?_
 have Ij:Ct x aX 0=x.dv:=Og _ _
 refine bN [(44,iv 0),(43,iv s.aD.length),(42,.slice L.A s.aD.length L.c),(5,tv),(0,.pointer (some ⟨L.h,0,none⟩)),(1,.int .u32 aX)] ?_;refine eV (fun m e R H=>∃i:Nat,i≤s.aD.length∧m=s.aD.length - i∧e=[(44,iv i),(43,iv s.aD.length),(42,.slice L.A s.aD.length L.c),(5,tv),(0,.pointer (some ⟨L.h,0,none⟩)),(1,.int .u32 aX)]∧R=[R0]∧H=[dN L s {x with dv:=Ct x aX i},T]) s.aD.length ⟨0,by omega,rfl,rfl,rfl,by rw[Ij]⟩ fun m e R H hI=>?_;obtain⟨i,hi,rfl,rfl,rfl,rfl⟩:=hI
 have mN:=aCa hH hok aX i
 refine aA ?_;refine aG rfl (fun hlt=>?_) (fun hge=>?_)
 ·have hlt:i < s.aD.length:=by omega
  obtain⟨d,dB⟩:=get_some hlt;obtain⟨l,iA⟩:=get_some (l:=L.ds) (i:=i) (by omega);obtain⟨p,gE⟩:=get_some (l:=x.dv) (i:=i) (by omega)
  have kO:(Ct x aX i)[i]? =some p:=Oi gE
  have hstep:(Ct x aX i).set i (p.1,yD p.2 (decide (0 < oK x.wt i)) (Wq aX i))=Ct x aX (i+1):=Oh (f:=fun i p=>(p.1,yD p.2 (decide (0 < oK x.wt i)) (Wq aX i))) gE
  have hw0:decide (0 < oK x.wt i)=false:=by rw[mL i];rfl
  rw[hw0] at hstep;refine Mm 0 rfl aQ mN (by omega) fun b off hA=>?_;refine aA ?_;refine kd (dat i (off+i*6) (hx:=by rw[←hA];rfl)) ?_;refine kd (jM rfl (aM.dev 0 rfl aQ mN hA dB iA rfl)) ?_;refine bY fun g1=>?_;refine aA ?_;refine iZ [0,1,3,4,5,11,12,13] ?_;refine bJ 2 ?_;refine bJ 6 ?_;refine bJ 9 ?_;refine bJ 10 ?_;refine aK 0 ?_;refine aK 1 ?_;refine aK 3 ?_;refine aK 4 ?_;refine aK 5 ?_ (cM:=bH rfl (pG 1 rfl rfl));refine aK 11 ?_ (cM:=aHb rfl rfl (c:=aX.fdiv (2 ^ min i 32)) (by omega) rfl);refine aK 12 ?_ (cM:=aHi (c:=aAG (aX.fdiv (2 ^ min i 32)) 1) rfl rfl (fun _=>rfl) (by simp));refine aK 13 ?_;refine aL 7 ?_;refine aS (fun w1 t=>aH2 L.B (jR s) x.wt x.aZ i (by rw[Eu];exact hlt) w1 (t.mA 1 rfl aQ mN).bus) ?_;refine bB ?_;refine aL 8 ?_;refine bF ?_;refine bB ?_;refine aL 14 ?_;refine Rb 1 i rfl dB iA kO ?_;dsimp only[List.set];refine aW 0 1 ?_;refine bT 0 (tB l.2 (yD p.2 (decide ((oK x.wt i:Int)>0)) (Wq aX i))) (fun w1 F1 t h1 h2 h3=>aLu _ _ h1 h2) ?_;refine aJ 0 1 ?_;refine Rj 1 i rfl dB iA kO (p':=(p.1,yD p.2 (decide ((oK x.wt i:Int)>0)) (Wq aX i))) ?_;dsimp only[List.set]
  have hw1:decide ((oK x.wt i:Int)>0)=false:=by rw[mL i];rfl
  rw[hw1,hstep];refine cI ?_;refine dY ?_;refine aA ?_;refine aT [1,2] rfl (by decide) (fun _ h=>h) ?_;exact eR (s.aD.length - (i+1)) ⟨i+1,hlt,rfl,rfl,rfl,rfl⟩
 obtain rfl:i=s.aD.length:=by omega
 have aC3:=aCa hH hok aX s.aD.length
 generalize Dg:Ct x aX s.aD.length=Bn at aC3⊢;refine aA ?_;refine kd (bH rfl (pG 0 rfl rfl)) ?_;refine aA ?_;refine aW 0 1 ?_;refine bT 0 (oY L.T s (mJ s x.ck)) (fun w1 F1 t h1 h2 h3=>aPW L.T s x.ck hH aQ.fa hok.ck w1 F1 h1 h2) ?_;refine aJ 0 1 ?_
 change XK _ _ _ _ _ [dN L s {x with ck:=mJ s x.ck,dv:=Bn},T]
 refine aA ?_;refine kd (bH rfl (pG 0 rfl rfl)) ?_;refine aA ?_;refine aW 0 2 ?_;refine vQ (α:=Option Addr×Nat) 0 (f:=155) (fi:=[]) (ca:=[]) (fun a=>.slice a.1 (kQ x.dm s.domains.length).length a.2) (fun a=>HP.many [uM L.G s (pJ x.dm),HP.own 242 2 (.slice a.1 (kQ x.dm s.domains.length).length a.2) (kQ x.dm s.domains.length).length ((kQ x.dm s.domains.length).flatMap Dq)]) (fun _=>True) (by kernel_rfl) rfl rfl rfl (by decide) (fun w1 F1 t h1 h2 h3=>aL4 L.G s x.dm hok.dm (by omega) w1 F1 h1 h2) ?_;rintro⟨Ae,ce⟩ _;dsimp only[List.set];refine aW 0 0 ?_;refine aJ 1 2 ?_;refine aW 0 1 ?_;refine dG [] [0] [2,3] (by simp) rfl (by decide) (by decide) fun q hq _ hfr=>?_;obtain⟨F2,wH,vM⟩:=hq 0 _ (by simp) rfl
 have Vg:aI q 2 Ae (kQ x.dm s.domains.length).length ((kQ x.dm s.domains.length).flatMap Dq):=aI.own ⟨F2,wH,vM⟩
 have mO:cX s {x with ck:=mJ s x.ck,dm:=pJ x.dm,dv:=Bn}:=⟨aB4 hH hok.ck,aB3 hok.dm,hok.ln,aC3.dv,aC3.each,hok.wt⟩
 have hel:(kQ x.dm s.domains.length).length≤1000:=Nat.le_trans (aGQ x.dm s.domains.length) (by omega)
 generalize hes:kQ x.dm s.domains.length=es at Vg hel⊢
 change XK _ _ _ _ _ [dN L s {x with ck:=mJ s x.ck,dm:=pJ x.dm,dv:=Bn},T]
 refine aA ?_;refine bN [(76,iv 0),(75,iv es.length),(74,.slice Ae es.length ce),(5,tv),(0,.pointer (some ⟨L.h,0,none⟩))] ?_;refine eV (fun m e R H=>∃j:Nat,j≤es.length∧m=es.length - j∧e=[(76,iv j),(75,iv es.length),(74,.slice Ae es.length ce),(5,tv),(0,.pointer (some ⟨L.h,0,none⟩))]∧R=[q,R0]∧H=[dN L s {x with ck:=mJ s x.ck,dm:=pJ x.dm,dv:=(es.take j).foldl (uC s) Bn},T]) es.length ⟨0,by omega,rfl,rfl,rfl,rfl⟩ fun m e R H hI=>?_;obtain⟨j,hj,rfl,rfl,rfl,rfl⟩:=hI
 have Fk:cX s {x with ck:=mJ s x.ck,dm:=pJ x.dm,dv:=(es.take j).foldl (uC s) Bn}:=aCQ hH (es.take j) _ mO
 refine aA ?_;refine aG rfl (fun hlt=>?_) (fun hge=>?_)
 ·have hlt:j < es.length:=by omega
  obtain⟨p,gE⟩:=get_some hlt
  have dD:(es.take (j+1)).foldl (uC s) Bn=uC s ((es.take j).foldl (uC s) Bn) p:=by
   rw[List.take_add_one,gE,List.foldl_append];rfl
  generalize hx3:({x with ck:=mJ s x.ck,dm:=pJ x.dm,dv:=(es.take j).foldl (uC s) Bn}:aU)=x3 at Fk
  have hx4:({x with ck:=mJ s x.ck,dm:=pJ x.dm,dv:=(es.take (j+1)).foldl (uC s) Bn}:aU)={x3 with dv:=uC s x3.dv p}:=by rw[dD,←hx3]
  have aS3:=Fk.dv
  obtain⟨be,aMa,hAe,hrd⟩:=aSj (w0:=w) (R:=[q,R0]) (H:=[dN L s x3,T]) (by simp) Vg gE;obtain⟨kn,dm⟩:=p;refine aA ?_;refine kd (dat j (aMa+j*2) (hx:=by rw[←hAe];rfl)) ?_;refine kd (jM rfl hrd) ?_;refine bY fun g1=>?_;refine aA ?_;refine aS (fun w1 t=>aNE kn w1) ?_
  by_cases hk:kn=115∨kn=114∨kn=108∨kn=110
  ·obtain⟨f,aC8,hcb,yN⟩:=aPC hk;rw[aC8];refine aA ?_;refine kd (aHh rfl (.inr ⟨⟨_,_,_,rfl⟩,rfl⟩)) ?_;refine aA ?_;refine kd (bH rfl (pG 1 rfl rfl)) ?_;refine aA ?_
   have hm0:Cu s x3.dv (kn,dm) 0=x3.dv:=Og _ _
   refine bN [(90,iv 0),(89,iv s.aD.length),(88,.slice L.A s.aD.length L.c),(13,.func (.func f) #[] #[]),(12,pt g1),(76,iv j),(75,iv es.length),(74,.slice Ae es.length ce),(5,tv),(0,.pointer (some ⟨L.h,0,none⟩))] ?_;refine eV (fun m e R H=>∃i:Nat,i≤s.aD.length∧m=s.aD.length - i∧e=[(90,iv i),(89,iv s.aD.length),(88,.slice L.A s.aD.length L.c),(13,.func (.func f) #[] #[]),(12,pt g1),(76,iv j),(75,iv es.length),(74,.slice Ae es.length ce),(5,tv),(0,.pointer (some ⟨L.h,0,none⟩))]∧R=[q,R0]∧H=[HP.aE g1 242 [.int .u8 kn,iv (dm:Int)],dN L s {x3 with dv:=Cu s x3.dv (kn,dm) i},T]) s.aD.length ⟨0,by omega,rfl,rfl,rfl,by rw[hm0];rfl⟩ fun m e R H hI=>?_;obtain⟨i,hi,rfl,rfl,rfl,rfl⟩:=hI
   have mN:=aFF hH Fk (kn,dm) i
   refine aA ?_;refine aG rfl (fun hlt=>?_) (fun hge=>?_)
   ·have hlt:i < s.aD.length:=by omega
    obtain⟨d,dB⟩:=get_some hlt;obtain⟨l,iA⟩:=get_some (l:=L.ds) (i:=i) (by omega);obtain⟨p,gE⟩:=get_some (l:=x3.dv) (i:=i) (by omega)
    have kO:(Cu s x3.dv (kn,dm) i)[i]? =some p:=Oi gE
    have hstep:(Cu s x3.dv (kn,dm) i).set i (Gd s (kn,dm) i p)=Cu s x3.dv (kn,dm) (i+1):=Oh (f:=Gd s (kn,dm)) gE
    have hfo:=(mN.each i d p dB kO).1
    refine Mm 1 rfl aQ mN (by omega) fun b off hA=>?_;refine aA ?_;refine kd (dat i (off+i*6) (hx:=by rw[←hA];rfl)) ?_;refine kd (jM rfl (aM.dev 1 rfl aQ mN hA dB iA rfl)) ?_;refine bY fun g2=>?_;refine aA ?_;refine aG rfl (fun he=>?_) (fun he=>?_)
    ·have mY:Gd s (kn,dm) i p=(Gc kn d p.1,p.2):=by
      unfold Gd;rw[dB];exact if_pos he
     refine aA ?_;refine Rb 2 i rfl dB iA kO ?_;dsimp only[List.set];refine aW 0 0 ?_;refine aAa 0 (fi:=[]) (ca:=[]) (gQ l.1 d (Gc kn d p.1)) (fun w1 F1 t h1 h2 h3=>by simpa using yN l.1 d p.1 (by have:=(hH.t.aD i d dB).2.2.2.2.2.2.2.2.1;omega) hfo w1 F1 h1 h2) ?_ (hf:=hcb);dsimp only[List.set];refine aJ 0 0 ?_;refine Rj 2 i rfl dB iA kO (p':=(Gc kn d p.1,p.2)) ?_;dsimp only[List.set];rw[←mY,hstep];refine aA ?_;refine aT [1,2,3] rfl (by decide) (fun _ h=>h) ?_;exact eR (s.aD.length - (i+1)) ⟨i+1,hlt,rfl,rfl,rfl,rfl⟩
    ·have mY:Gd s (kn,dm) i p=p:=by
      unfold Gd;rw[dB];exact if_neg he
     rw[mY,wI kO] at hstep;rw[hstep];refine aA ?_;refine aT [1,2,3] rfl (by decide) (fun _ h=>h) ?_;exact eR (s.aD.length - (i+1)) ⟨i+1,hlt,rfl,rfl,rfl,rfl⟩
   obtain rfl:i=s.aD.length:=by omega
   refine aA ?_;refine aT [1,2] rfl (by decide) (fun _ h=>h) ?_;refine bN [(76,iv (j+1:Nat)),(75,iv es.length),(74,.slice Ae es.length ce),(5,tv),(0,.pointer (some ⟨L.h,0,none⟩))] ?_;exact gP (es.length - (j+1)) (by omega) ⟨j+1,by omega,rfl,rfl,rfl,by rw[hx4];rfl⟩
  ·have aC8:Gb kn=.nilFunc:=by
    rw[Gb,if_neg (by omega),if_neg (by omega),if_neg (by omega)]
   rw[aC8];refine aA ?_;refine kd (aHh rfl (.inl ⟨rfl,rfl⟩)) ?_;refine aA ?_;refine aT [1,2] rfl (by decide) (fun _ h=>h) ?_;refine bN [(76,iv (j+1:Nat)),(75,iv es.length),(74,.slice Ae es.length ce),(5,tv),(0,.pointer (some ⟨L.h,0,none⟩))] ?_;exact gP (es.length - (j+1)) (by omega) ⟨j+1,by omega,rfl,rfl,rfl,by rw[hx4,aMw hk,←hx3]⟩
 obtain rfl:j=es.length:=by omega
 rw[List.take_length];refine aA ?_;refine kd (bH rfl (pG 0 rfl rfl)) ?_;refine aA ?_;refine aW 0 3 ?_;refine vQ (α:=Option Addr×Nat×Nat) 0 (f:=157) (fi:=[]) (ca:=[]) (fun a=>.slice a.1 a.2.1 a.2.2) (fun _=>oH L.R s (Hl x.ln)) (fun _=>True) (by kernel_rfl) rfl rfl rfl (by decide) (fun w1 F1 t h1 h2 h3=>aK9 L.R s x.ln hH hok.ln w1 F1 h1 h2) ?_;rintro _ _;dsimp only[List.set];refine aJ 0 3 ?_
 change XK _ _ _ _ _ [dN L s {x with ck:=mJ s x.ck,dm:=pJ x.dm,ln:=Hl x.ln,dv:=es.foldl (uC s) Bn},T]
 have vB:({x with ck:=mJ s x.ck,dm:=pJ x.dm,ln:=Hl x.ln,dv:=es.foldl (uC s) Bn}:aU)=Sk s x aX:=by rw[Sk,Dg,hes]
 rw[vB];refine aA ?_;subst cP;subst hT;subst hTv;refine mR ?_;exact mF rfl rfl fun w1 t=>⟨(A0,c0),rfl,trivial,t.turns hF (by simp) (i:=0) rfl⟩
end
section
structure kW where
 z:bL
 y:cJ
 x:aU
def kW.start(m:kW)(t k d r v:Int):kW:=⟨(wE m.z t k d r v).2,m.y,m.x⟩
def kW.done(m:kW)(t:Int):kW:=⟨(pS m.z t).2,m.y,m.x⟩
def kW.step(s:aC)(m:kW)(t:Int):kW:=⟨(Ho s m.z m.y m.x t).1,(Ho s m.z m.y m.x t).2.1,(Ho s m.z m.y m.x t).2.2⟩
def kW.eC(s:aC)(m:kW):kW:=⟨m.z,(wB s m.x m.y).1,(wB s m.x m.y).2⟩
def kW.tick(s:aC)(m:kW)(aX:Int):kW:=⟨sP m.z (pY s m.x aX).2,m.y,(pY s m.x aX).1⟩
structure iJ(s:aC)(n:Nat)(m:kW):Prop where
 zV:oG s m.z
 fw:oJ s m.y
 hw:cX s m.x
 wt:Ec s m.x
 po:0≤m.x.aZ∧m.x.aZ≤n
 w0:m.z.aZ=false→∀i:Nat,(m.x.wt[i]?).join=none
 w1:m.z.aZ=true→∃(i:Nat) (t:jA),i < s.aD.length∧(m.x.wt[i]?).join=some t∧t.id=m.z.id∧∀k:Nat,k≠i→(m.x.wt[k]?).join=none
section
variable{s:aC}{n:Nat}{m:kW}
theorem iJ.le{k:Nat}(h:iJ s n m)(hk:n≤k):iJ s k m:=⟨h.zV,h.fw,h.hw,h.wt,by have:=h.po;omega,h.w0,h.w1⟩
theorem iJ.start(h:iJ s n m)(t k d r v:Int)(hv:0≤v∧v < 4294967296):iJ s n (m.start t k d r v):=by
 obtain⟨h1,h2,h3⟩:=aJW h.zV t k d r v hv;refine⟨h1,h.fw,h.hw,h.wt,h.po,fun hp=>h.w0 (h2.symm.trans hp),fun hp=>?_⟩
 have h4:=h.w1 (h2.symm.trans hp)
 rwa [←h3] at h4
theorem iJ.done(h:iJ s n m)(t:Int):iJ s n (m.done t):=by
 obtain⟨h1,h2,h3⟩:=aPb h.zV t;refine⟨h1,h.fw,h.hw,h.wt,h.po,fun hp=>h.w0 (h2.symm.trans hp),fun hp=>?_⟩
 have h4:=h.w1 (h2.symm.trans hp)
 rwa [←h3] at h4
theorem iJ.eC(hm:s.made)(h:iJ s n m):iJ s n (m.eC s):=by
 obtain⟨h1,h2,h3,h4⟩:=h.fw.next hm.dK h.hw;refine⟨h.zV,h1,h2,fun i d t hd ht=>h.wt i d t hd (by rw[←h3];exact ht),by rw[show(m.eC s).x.aZ=m.x.aZ from h4];exact h.po,fun hp i=>?_,fun hp=>?_⟩
 ·show((wB s m.x m.y).2.wt[i]?).join=none
  rw[h3];exact h.w0 hp i
 ·show ∃i t,i < s.aD.length∧((wB s m.x m.y).2.wt[i]?).join=some t∧t.id=m.z.id∧∀k:Nat,k≠i→((wB s m.x m.y).2.wt[k]?).join=none
  rw[h3];exact h.w1 hp
theorem iJ.idle(h:iJ s n m)(hp:m.z.aZ=false)(hn:n≤1000000000):HwP s m.x:=⟨h.hw,h.w0 hp,by have:=h.po;omega⟩
theorem iJ.free(h:iJ s n m)(hh:m.z.fM < 0):m.z.aZ=false:=by
 rcases h.zV.fM with⟨_,_,h1,_⟩ | ⟨i,_,h1,_⟩
 ·exact h1
 ·omega
theorem iJ.step(hm:s.made)(h:iJ s n m)(t:Int):iJ s (n+1) (m.step s t):=by
 have same:iJ s (n+1) ⟨m.z,m.y,m.x⟩:=h.le (by omega)
 unfold kW.step Ho;split
 ·exact same
 ·rename_i hin
  obtain⟨j,rfl,hj⟩:=Ew (t:=t) (by simpa using hin);rw[Int.toNat_natCast];split
  ·split
   ·rename_i hh
    have hp:=h.free hh
    have hw0:=h.w0 hp
    obtain⟨h1,h2,h3,h4⟩:=aQF hm h.zV hh m.x hj;dsimp only;generalize uH s m.x m.z j=r at h1 h3 h4;obtain⟨z',x'⟩:=r;dsimp only at h1 h3 h4⊢;cases hp':z'.aZ with
    | false=>
     cases h3 hp';exact⟨h1,h.fw,h.hw,h.wt,by have:=h.po;dsimp only;omega,fun _=>hw0,fun hc=>by dsimp only at hc;rw[hp'] at hc;cases hc⟩
    | true =>
     obtain⟨d,wr,rg,v,dv,Dg,r0,r1,v0,v1,hid,rfl⟩:=h4 hp'
     have hlt:=(List.getElem?_eq_some_iff.1 Dg).1
     have wQ:=h.hw.wt
     have eY:∀k:Nat,(((m.x.wt.set d (some ⟨m.x.aZ,wr,rg,v⟩))[k]?).join)=if k=d then some ⟨m.x.aZ,wr,rg,v⟩ else none:=fun k=>by
      rw[List.getElem?_set]
      by_cases e:d=k
      ·subst e;rw[if_pos rfl,if_pos (by omega),if_pos rfl];rfl
      ·rw[if_neg e,if_neg (fun hh=>e hh.symm)];exact hw0 k
     refine⟨h1,h.fw,aBp h.hw d _ _,fun i e t he ht=>?_,?_,fun hc=>?_,fun _=>⟨d,⟨m.x.aZ,wr,rg,v⟩,hlt,?_,hid.symm,fun k hk=>?_⟩⟩
     ·have qC:((m.x.wt.set d (some ⟨m.x.aZ,wr,rg,v⟩))[i]?).join=some t:=ht
      rw[eY] at qC
      by_cases e1:i=d
      ·rw[if_pos e1] at qC;cases qC;rw[e1,Dg] at he;cases he;exact⟨r0,r1,v0,v1⟩
      ·rw[if_neg e1] at qC;cases qC
     ·have:=h.po
      show 0≤m.x.aZ+1∧m.x.aZ+1≤((n+1:Nat):Int)
      omega
     ·dsimp only at hc;rw[hp'] at hc;cases hc
     ·show((m.x.wt.set d (some ⟨m.x.aZ,wr,rg,v⟩))[d]?).join=_
      rw[eY,if_pos rfl]
     ·show((m.x.wt.set d (some ⟨m.x.aZ,wr,rg,v⟩))[k]?).join=_
      rw[eY,if_neg hk]
   ·exact same
  ·split
   ·rename_i hst
    split
    ·rename_i hp
     obtain⟨h1,h2,h3⟩:=aRp h.zV h.fw hj hst hp;exact⟨h1,h2,h.hw,h.wt,by have:=h.po;dsimp only;omega,fun _=>h.w0 hp,fun hc=>by dsimp only at hc;rw[h3] at hc;cases hc⟩
    ·exact same
   ·exact same
theorem aDu{x:aU}:∀n:Nat,(∀k,k < n→(x.wt[k]?).join=none)→fP s x n=(x,[])
 | 0,_=>rfl
 | n+1,h=>by
  have ih:=aDu n fun k hk=>h k (by omega)
  have hx:=aAE (s:=s) (h n (by omega))
  show((iI s (fP s x n).1 n).1,(fP s x n).2++(iI s (fP s x n).1 n).2.toList)=_
  rw[ih];dsimp only;rw[hx];rfl
theorem aQZ{x:aU}(hok:cX s x){i:Nat}{t:jA}(hi:i < s.aD.length)(ht:(x.wt[i]?).join=some t)(ho:∀k:Nat,k≠i→(x.wt[k]?).join=none):
  ∃a,(iI s x i).2=some a∧a.id=t.id∧a.dev=i∧∀d,fP s x (i+1+d)=((iI s x i).1,[a]):=by
 obtain⟨a,ha,mL⟩:=aDt hok hi ht;refine⟨a,ha,?_,?_,fun d=>?_⟩
 ·obtain⟨d,hd⟩:=get_some hi;obtain⟨p,hp⟩:=get_some (l:=x.dv) (i:=i) (by have:=hok.dv;omega);unfold iI at ha;rw[ht,hd,hp] at ha;dsimp only at ha;split at ha<;>cases ha<;>rfl
 ·obtain⟨d,hd⟩:=get_some hi;obtain⟨p,hp⟩:=get_some (l:=x.dv) (i:=i) (by have:=hok.dv;omega);unfold iI at ha;rw[ht,hd,hp] at ha;dsimp only at ha;split at ha<;>cases ha<;>rfl
 ·induction d with
  | zero=>
   show((iI s (fP s x i).1 i).1,(fP s x i).2++(iI s (fP s x i).1 i).2.toList)=_
   rw[aDu i fun k hk=>ho k (by omega)];dsimp only;rw[ha];rfl
  | succ d ih =>
   show((iI s (fP s x (i+1+d)).1 (i+1+d)).1,(fP s x (i+1+d)).2++(iI s (fP s x (i+1+d)).1 (i+1+d)).2.toList)=_
   rw[ih];dsimp only
   have hx:iI s (iI s x i).1 (i+1+d)=((iI s x i).1,none):=aAE (by
    rw[mL,List.getElem?_set,if_neg (by omega)]
    exact ho _ (by omega))
   rw[hx];rfl
theorem iJ.ans(h:iJ s n m)(aX:Int):(m.z.aZ=false→(pY s m.x aX).2=[])∧(m.z.aZ=true→∃a,(pY s m.x aX).2=[a]∧a.id=m.z.id):=by
 refine⟨fun hp=>?_,fun hp=>?_⟩
 ·show(fP s m.x s.aD.length).2=[]
  rw[aDu _ fun k _=>h.w0 hp k]
 ·obtain⟨i,t,hi,ht,hid,ho⟩:=h.w1 hp;obtain⟨a,_,ha,_,hn⟩:=aQZ h.hw hi ht ho;obtain⟨d,hd⟩:∃d,s.aD.length=i+1+d:=⟨s.aD.length - (i+1),by omega⟩
  refine⟨a,?_,ha.trans hid⟩
  show(fP s m.x s.aD.length).2=[a]
  rw[hd,hn d]
theorem iJ.aJI(h:iJ s n m)(aX:Int):(m.tick s aX).z.aZ=false:=by
 obtain⟨h1,h2⟩:=h.ans aX
 show(sP m.z (pY s m.x aX).2).aZ=false
 cases hp:m.z.aZ with
 | false=>rw[h1 hp];exact hp
 | true=>
  obtain⟨a,h3,h4⟩:=h2 hp;rw[h3]
  show(Dy m.z a).aZ=false
  unfold Dy;rw[if_neg (by rw[hp];simp),if_neg (fun hc=>hc h4)];split<;>rfl
theorem aQV(s:aC)(x:aU)(i:Nat):(iI s x i).1.aZ=x.aZ:=by
 unfold iI;split
 ·split<;>rfl
 ·rfl
theorem aHF(s:aC)(x:aU):∀n,(fP s x n).1.aZ=x.aZ
 | 0=>rfl
 | n+1=>(aQV s _ n).trans (aHF s x n)
theorem iJ.tick(hm:s.made)(h:iJ s n m)(aX:Int):iJ s n (m.tick s aX):=by
 obtain⟨a1,a2⟩:=Mk h.hw h.wt s.aD.length
 have hz:∀i:Nat,(((m.tick s aX).x.wt)[i]?).join=none:=fun i=>by
  have:=aHD h.hw h.wt i
  show((fP s m.x s.aD.length).1.wt[i]?).join=none
  unfold oK at this;cases hh:((fP s m.x s.aD.length).1.wt[i]?).join with
  | none=>rfl
  | some t=>rw[hh] at this;simp at this
 refine⟨aHI _ h.zV,h.fw,aJG hm.dK a1 aX,(fun i d t _ ht=>by rw[hz i] at ht;cases ht),?_,fun _=>hz,fun hp=>by rw[h.aJI aX] at hp;cases hp⟩
 show 0≤(fP s m.x s.aD.length).1.aZ∧(fP s m.x s.aD.length).1.aZ≤n
 rw[aHF];exact h.po
end
def aFN(s:aC):kW:=⟨Tg s,sL s,hw0 s⟩
theorem aMP{s:aC}(hm:s.made):iJ s 0 (aFN s):=by
 have hx:=aNf hm.dK
 have hw:∀i:Nat,((hw0 s).wt[i]?).join=none:=fun i=>by
  show((s.aD.map fun _=>(none:Option jA))[i]?).join=none
  rw[List.getElem?_map];cases s.aD[i]? <;>rfl
 exact⟨aKJ,aO2 hm.wN,hx,(fun i d t _ ht=>by
  have:=(hw i).symm.trans ht
  cases this),⟨Int.le_refl 0,Int.le_refl 0⟩,fun _=>hw,fun hp=>by cases hp⟩
theorem Vv{P:Program}{fn:FuncId}{args:Array Value}{w:World}{ps:List HP}(i:Nat){p p':HP}{v:Value}{F:Nat→Prop}(hi:ps[i]? =some p)(h:∀F0,p.sat F0 w→(∀b,F0 b→b < w.heap.size)→(∀b,F0 b→F b)→Calls P fn args w fun y w'=>y=.returned v∧∃F',p'.sat F' w'∧iC w w' F0 F')
  (hp:(HP.many ps).sat F w) (hF:∀b,F b→b < w.heap.size):Calls P fn args w fun y w'=>y=.returned v∧∃F',(HP.many (ps.set i p')).sat F' w'∧iC w w' F F':=by
 obtain⟨G,g1,g2,g3⟩:=hp
 have hlt:=(List.getElem?_eq_some_iff.1 hi).1
 refine(h (G i) (g1 i p hi) (fun b hb=>hF b (g2 i b hb)) (g2 i)).mono fun y w' ⟨hy,F',h1,ht⟩=>⟨hy,fun b=>F' b∨∃k,k≠i∧k < ps.length∧G k b,⟨fun k=>if k=i then F' else fun b=>k < ps.length∧G k b,fun k r hr=>?_,fun k b hb=>?_,fun j k b kI hj hk=>?_⟩,⟨ht.os,ht.tape,ht.output,ht.size,fun b hb=>?_,fun b hb hn=>?_⟩⟩
 ·by_cases e:i=k
  ·subst e;rw[List.getElem?_set_self hlt] at hr;cases hr
   simpa using h1
  ·rw[List.getElem?_set_ne e] at hr
   have hk:=(List.getElem?_eq_some_iff.1 hr).1
   simp only[if_neg (Ne.symm e)];rw[show(fun b=>k < ps.length∧G k b)=G k by funext b;simp[hk]];exact r.loc _ _ _ (g1 k r hr) fun b hb=>ht.old b (hF b (g2 k b hb)) fun h0=>g3 i k b e h0 hb
 ·dsimp only at hb;split at hb
  ·exact .inl hb
  ·exact .inr ⟨k,by assumption,hb.1,hb.2⟩
 ·have key:∀k b,k≠i→F' b→G k b→False:=fun k b hki h0 h2=>by
   rcases(ht.new b h0).1 with h3 | h3
   ·exact g3 i k b (Ne.symm hki) h3 h2
   ·have:=hF b (g2 k b h2)
    omega
  dsimp only at hj hk;split at hj<;>split at hk
  ·rename_i e1 e2;exact kI (e1.trans e2.symm)
  ·rename_i e1 e2;exact key k b e2 hj hk.2
  ·rename_i e1 e2;exact key j b e1 hk hj.2
  ·exact g3 j k b kI hj.2 hk.2
 ·rcases hb with hb | ⟨k,_,_,hb⟩
  ·refine⟨?_,(ht.new b hb).2⟩;rcases(ht.new b hb).1 with h3 | h3
   ·exact .inl (g2 i b h3)
   ·exact .inr h3
  ·exact⟨.inl (g2 k b hb),Nat.lt_of_lt_of_le (hF b (g2 k b hb)) ht.size⟩
 ·exact ht.old b hb fun h0=>hn (g2 i b h0)
theorem aMH{a b c:HP}{F:Nat→Prop}{w:World}(h:(HP.many [a,b,c]).sat F w):(HP.many [a,HP.many [b,c]]).sat F w:=by
 obtain⟨G,g1,g2,g3⟩:=h
 have h1:=g1 1 b rfl
 have h2:=g1 2 c rfl
 have key:∀k,k < 3→(fun b=>k < 3∧G k b)=G k:=fun k hk=>by funext b;simp[hk]
 refine⟨fun i=>match i with | 0=>G 0 | 1=>fun b=>G 1 b∨G 2 b | _=>fun _=>False,fun i p hi=>?_,fun i b hb=>?_,fun i j b hij hi hj=>?_⟩
 ·match i,hi with
  | 0,hi=>cases hi;exact g1 0 _ rfl
  | 1, hi =>
   cases hi;refine⟨fun i=>match i with | 0=>G 1 | 1=>G 2 | _=>fun _=>False,fun i p hi=>?_,fun i b hb=>?_,fun i j b hij hi hj=>?_⟩
   ·match i,hi with
    | 0,hi=>cases hi;exact h1
    | 1,hi=>cases hi;exact h2
    | i+2,hi=>simp at hi
   ·match i,hb with
    | 0,hb=>exact .inl hb
    | 1,hb=>exact .inr hb
    | i+2,hb=>exact hb.elim
   ·match i,j,hi,hj with
    | 0,0,_,_=>exact absurd rfl hij
    | 0,1,hi,hj=>exact g3 1 2 b (by decide) hi hj
    | 1,0,hi,hj=>exact g3 2 1 b (by decide) hi hj
    | 1,1,_,_=>exact absurd rfl hij
    | i+2,_,hi,_=>exact hi.elim
    | _,j+2,_,hj=>exact hj.elim
  | i+2,hi=>simp at hi
 ·match i,hb with
  | 0,hb=>exact g2 0 b hb
  | 1,hb=>rcases hb with hb | hb<;>exact g2 _ b hb
  | i+2,hb=>exact hb.elim
 ·match i,j,hi,hj with
  | 0,0,_,_=>exact absurd rfl hij
  | 0,1,hi,hj=>rcases hj with hj | hj<;>exact g3 _ _ b (by decide) hi hj
  | 1,0,hi,hj=>rcases hi with hi | hi<;>exact g3 _ _ b (by decide) hi hj
  | 1,1,_,_=>exact absurd rfl hij
  | i+2,_,hi,_=>exact hi.elim
  | _,j+2,_,hj=>exact hj.elim
theorem aMG{a b c:HP}{F:Nat→Prop}{w:World}(h:(HP.many [a,HP.many [b,c]]).sat F w):(HP.many [a,b,c]).sat F w:=by
 obtain⟨G,g1,g2,g3⟩:=h;obtain⟨I,i1,i2,i3⟩:=g1 1 _ rfl;refine⟨fun i=>match i with | 0=>G 0 | 1=>I 0 | 2=>I 1 | _=>fun _=>False,fun i p hi=>?_,fun i b hb=>?_,fun i j b hij hi hj=>?_⟩
 ·match i,hi with
  | 0,hi=>cases hi;exact g1 0 _ rfl
  | 1,hi=>cases hi;exact i1 0 _ rfl
  | 2,hi=>cases hi;exact i1 1 _ rfl
  | i+3,hi=>simp at hi
 ·match i,hb with
  | 0,hb=>exact g2 0 b hb
  | 1,hb=>exact g2 1 b (i2 0 b hb)
  | 2,hb=>exact g2 1 b (i2 1 b hb)
  | i+3,hb=>exact hb.elim
 ·match i,j,hi,hj with
  | 0,0,_,_ | 1,1,_,_ | 2,2,_,_=>exact absurd rfl hij
  | 0,1,hi,hj=>exact g3 0 1 b (by decide) hi (i2 0 b hj)
  | 0,2,hi,hj=>exact g3 0 1 b (by decide) hi (i2 1 b hj)
  | 1,0,hi,hj=>exact g3 0 1 b (by decide) hj (i2 0 b hi)
  | 2,0,hi,hj=>exact g3 0 1 b (by decide) hj (i2 1 b hi)
  | 1,2,hi,hj=>exact i3 0 1 b (by decide) hi hj
  | 2,1,hi,hj=>exact i3 0 1 b (by decide) hj hi
  | i+3,_,hi,_=>exact hi.elim
  | _,j+3,_,hj=>exact hj.elim
def iO(g f:Nat)(hL:HL)(s:aC)(m:kW):HP:=aBf g f hL s m.z m.y m.x
def aIl(g f:Nat)(hL:HL)(s:aC)(m:kW)(l:List gJ)(a:Option Addr×Nat):HP:=HP.many [iO g f hL s m,HP.own 44 4 (.slice a.1 l.length a.2) l.length (l.flatMap gJ.cells)]
theorem St.mac{w0 w:World}{R:List Piece}{H:List HP}{g f:Nat}{hL:HL}{s:aC}{m:kW}(t:St w0 R H w)(i:Nat)(hi:H[i]? =some (iO g f hL s m)):∃L,Rq w g hL.h f L s m.z:=by
 obtain⟨F,h1,h2,_⟩:=t.chunk hi;obtain⟨G,g1,g2,_⟩:=h1;obtain⟨L,hL⟩:=g1 0 _ rfl;exact⟨L,aIu hL fun b hb=>h2 b (g2 0 b hb)⟩
section
variable(g f:Nat)(hL:HL)(s:aC)(n:Nat)(m:kW)(w:World)(F:Nat→Prop)
theorem aM7(t k d r v:Int)(hp:(iO g f hL s m).sat F w)(hF:∀b,F b→b < w.heap.size):
  Cz 85 #[pt g,iv t,.agg #[.int .u8 k,iv d,iv r,.int .u32 v]] w (Wr (iv (wE m.z t k d r v).1) (iO g f hL s (m.start t k d r v)) w F):=
 Vv 0 rfl (fun F0 h1 h2 _=>aKG g hL.h f s m.z w F0 t k d r v h1 h2) hp hF
theorem aMA(t:Int)(hp:(iO g f hL s m).sat F w)(hF:∀b,F b→b < w.heap.size):
  Cz 135 #[pt g,iv t] w (Wr (.tuple #[.agg #[iv (pS m.z t).1.1,.int .u32 (pS m.z t).1.2.1],.bool (pS m.z t).1.2.2]) (iO g f hL s (m.done t)) w F):=
 Vv 0 rfl (fun F0 h1 h2 _=>aKM g hL.h f s m.z w F0 t h1 h2) hp hF
theorem Ic(hm:s.made)(aQ:gA hL s)(hok:iJ s n m)(hn:n≤1000000000)(t:Int)(hp:(iO g f hL s m).sat F w)(hF:∀b,F b→b < w.heap.size)(cZ:eG ⟨w,fun b=>b < w.heap.size∧¬F b⟩):
  Cz 87 #[pt g,iv t] w (Wr (.tuple #[]) (iO g f hL s (m.step s t)) w F):=
 aKF g f hL s m.z m.y m.x w F t hm aQ (fun hh=>hok.idle (hok.free hh) hn) (hok.zV.go hok.fw.toFwB) hp hF cZ
theorem aM9(hm:s.made)(aQ:gA hL s)(hok:iJ s n m)(hp:(iO g f hL s m).sat F w)(hF:∀b,F b→b < w.heap.size)(cZ:eG ⟨w,fun b=>b < w.heap.size∧¬F b⟩):
  Cz 36 #[pt f] w (Wr (.tuple #[]) (iO g f hL s (m.eC s)) w F):=
 (Vv 1 rfl (fun F0 h1 h2 h3=>aOp f hL s m.y m.x w hm.dK aQ (hok.fw.step hok.hw) F0 h1 h2 (eG.le cZ fun b hb=>⟨⟨hb.1,fun h0=>hb.2 (h3 b h0)⟩,rfl⟩)) (aMH hp) hF).mono fun _ _ ⟨hy,F',h1,h2⟩=>⟨hy,F',aMG h1,h2⟩
theorem aM6(hm:s.made)(aQ:gA hL s)(hok:iJ s n m)(aX:Int)(hd:0≤aX∧aX < 4294967296)(hp:(iO g f hL s m).sat F w)(hF:∀b,F b→b < w.heap.size):
  Cz 94 #[.pointer (some ⟨hL.h,0,none⟩),.int .u32 aX] w (fun y w'=>∃a:Option Addr×Nat,y=.returned (.slice a.1 (pY s m.x aX).2.length a.2)∧True∧∃F',(aIl g f hL s ⟨m.z,m.y,(pY s m.x aX).1⟩ (pY s m.x aX).2 a).sat F' w'∧iC w w' F F'):=by
 obtain⟨G,g1,g2,g3⟩:=hp
 have hG:∀i b,G i b→b < w.heap.size:=fun i b hb=>hF b (g2 i b hb)
 have h0:=g1 0 _ rfl
 have h1:=g1 1 _ rfl
 refine(aN9 hL s m.x w hm.dK aQ hok.hw hok.wt aX hd (G 2) (g1 2 _ rfl) (hG 2)).mono fun y w' ⟨a,hy,_,F',⟨I,i1,i2,i3⟩,ht⟩=>⟨a,hy,trivial,fun b=>F' b∨G 0 b∨G 1 b,⟨fun i=>match i with | 0=>fun b=>I 0 b∨G 0 b∨G 1 b | 1=>I 1 | _=>fun _=>False,fun i p hi=>?_,fun i b hb=>?_,fun i j b hij hi hj=>?_⟩,⟨ht.os,ht.tape,ht.output,ht.size,fun b hb=>?_,fun b hb hn=>?_⟩⟩
 ·have old:∀i,i≠2→∀b,G i b→w'.heap[b]? =w.heap[b]? :=fun i hi b hb=>ht.old b (hG i b hb) fun h=>g3 2 i b (Ne.symm hi) h hb
  have fr:∀i,i≠2→∀b,F' b→¬G i b:=fun i hi b hb hc=>by
   rcases(ht.new b hb).1 with h | h
   ·exact g3 2 i b (Ne.symm hi) h hc
   ·have:=hG i b hc
    omega
  match i,hi with
  | 0, hi =>
   cases hi;refine⟨fun i=>match i with | 0=>G 0 | 1=>G 1 | 2=>I 0 | _=>fun _=>False,fun i p hi=>?_,fun i b hb=>?_,fun i j b hij hi hj=>?_⟩
   ·match i,hi with
    | 0,hi=>cases hi;exact HP.loc _ _ _ _ h0 (old 0 (by decide))
    | 1,hi=>cases hi;exact HP.loc _ _ _ _ h1 (old 1 (by decide))
    | 2,hi=>cases hi;exact i1 0 _ rfl
    | i+3,hi=>simp at hi
   ·match i,hb with
    | 0,hb=>exact .inr (.inl hb)
    | 1,hb=>exact .inr (.inr hb)
    | 2,hb=>exact .inl hb
    | i+3,hb=>exact hb.elim
   ·match i,j,hi,hj with
    | 0,0,_,_ | 1,1,_,_ | 2,2,_,_=>exact absurd rfl hij
    | 0,1,hi,hj=>exact g3 0 1 b (by decide) hi hj
    | 1,0,hi,hj=>exact g3 1 0 b (by decide) hi hj
    | 0,2,hi,hj=>exact fr 0 (by decide) b (i2 0 b hj) hi
    | 2,0,hi,hj=>exact fr 0 (by decide) b (i2 0 b hi) hj
    | 1,2,hi,hj=>exact fr 1 (by decide) b (i2 0 b hj) hi
    | 2,1,hi,hj=>exact fr 1 (by decide) b (i2 0 b hi) hj
    | i+3,_,hi,_=>exact hi.elim
    | _,j+3,_,hj=>exact hj.elim
  | 1,hi=>cases hi;exact i1 1 _ rfl
  | i+2,hi=>simp at hi
 ·match i,hb with
  | 0,hb=>
   rcases hb with hb | hb
   ·exact .inl (i2 0 b hb)
   ·exact .inr hb
  | 1,hb=>exact .inl (i2 1 b hb)
  | i+2,hb=>exact hb.elim
 ·have fr:∀i,i≠2→∀b,F' b→¬G i b:=fun i hi b hb hc=>by
   rcases(ht.new b hb).1 with h | h
   ·exact g3 2 i b (Ne.symm hi) h hc
   ·have:=hG i b hc
    omega
  match i,j,hi,hj with
  | 0,0,_,_ | 1,1,_,_=>exact absurd rfl hij
  | 0,1,hi,hj=>
   rcases hi with hi | hi | hi
   ·exact i3 0 1 b (by decide) hi hj
   ·exact fr 0 (by decide) b (i2 1 b hj) hi
   ·exact fr 1 (by decide) b (i2 1 b hj) hi
  | 1,0,hi,hj=>
   rcases hj with hj | hj | hj
   ·exact i3 0 1 b (by decide) hj hi
   ·exact fr 0 (by decide) b (i2 1 b hi) hj
   ·exact fr 1 (by decide) b (i2 1 b hi) hj
  | i+2,_,hi,_=>exact hi.elim
  | _,j+2,_,hj=>exact hj.elim
 ·rcases hb with hb | hb | hb
  ·refine⟨?_,(ht.new b hb).2⟩;rcases(ht.new b hb).1 with h | h
   ·exact .inl (g2 2 b h)
   ·exact .inr h
  ·exact⟨.inl (g2 0 b hb),Nat.lt_of_lt_of_le (hG 0 b hb) ht.size⟩
  ·exact⟨.inl (g2 1 b hb),Nat.lt_of_lt_of_le (hG 1 b hb) ht.size⟩
 ·exact ht.old b hb fun h=>hn (g2 2 b h)
theorem aMB(t:Int){w0:World}{R:List Piece}{H:List HP}(i:Nat)(st:St w0 R H w)(hi:H[i]? =some (iO g f hL s m)):Cz 41 #[pt g,iv t] w (Rt (.bool (uF m.z t)) w):=by
 obtain⟨L,hR⟩:=st.mac i hi;exact aKQ g hL.h f L s m.z w t hR
theorem aCe{w0:World}{R:List Piece}{H:List HP}(i:Nat)(st:St w0 R H w)(hi:H[i]? =some (iO g f hL s m)):Cz 86 #[pt g] w (Rt (iv m.z.fM) w):=by
 obtain⟨L,hR⟩:=st.mac i hi;exact aKK g hL.h f L s m.z w hR
end
end
section
structure Yc where
 k:Int
 d:Int
 r:Int
 v:Int
def pT:Yc:=⟨0,0,0,0⟩
structure kF where
 kind:Int
 task:Int
 c:Yc
 err:Int
 res:Int
 an:gJ
 alive:Bool
 words:List Int
def Pz:kF:=⟨0,0,pT,0,0,⟨0,0,false,0⟩,false,[]⟩
structure bA where
 m:kW
 cl:Nat→Yc
 wt:Nat→Bool
 es:List kF
def iL{α:Type}(f:Nat→α)(j:Nat)(a:α):Nat→α:=fun i=>if i=j then a else f i
def Ni(s:aC):bA:=⟨aFN s,fun _=>pT,fun _=>false,[]⟩
def xC(w:bA)(t:Int):kF:={Pz with kind:=101,task:=t,c:=w.cl t.toNat,err:=(pS w.m.z t).1.1,res:=(pS w.m.z t).1.2.1}
def bA.end_(w:bA)(t:Int):bA:=if(pS w.m.z t).1.2.2=true then {w with m:=w.m.done t,es:=w.es++[xC w t]} else {w with m:=w.m.done t}
def bA.call(w:bA)(t:Int)(c:Yc):Int×bA:=((wE w.m.z t c.k c.d c.r c.v).1,if(wE w.m.z t c.k c.d c.r c.v).1≠0 then {w with m:=w.m.start t c.k c.d c.r c.v} else {w with m:=w.m.start t c.k c.d c.r c.v,cl:=iL w.cl t.toNat c,wt:=iL w.wt t.toNat true})
def bA.nJ(w:bA)(t:Int):Bool:=bZ 3 t&&(w.wt t.toNat&&decide (w.m.z.fM < 0))
def nR(w:bA)(t:Int):kF:={Pz with kind:=98,task:=t,c:=w.cl t.toNat}
def bA.pZ(s:aC)(w:bA)(t:Int):bA:=if w.nJ t then {w with m:=w.m.step s t,wt:=iL w.wt t.toNat false,es:=w.es++[nR w t]} else {w with m:=w.m.step s t}
def bA.task(s:aC)(w:bA)(t:Int):bA:=(w.pZ s t).end_ t
def bA.eC(s:aC)(w:bA):bA:={w with m:=w.m.eC s}
def Bq(s:aC)(x:aU)(a:gJ):kF:={Pz with kind:=100,an:=a,alive:=xK s x a.dev.toNat}
def bA.pK(s:aC)(w:bA)(aX:Int):bA:={w with m:=w.m.tick s aX,es:=w.es++(pY s w.m.x aX).2.map (Bq s w.m.x)}
def bA.tick(s:aC)(w:bA)(aX:Int):bA:=(((w.pK s aX).end_ 0).end_ 1).end_ 2
def bA.send(w:bA)(l:List Int):Int×bA:=((jZ w.m.y 1 l).1,if(jZ w.m.y 1 l).1≠0 then {w with m:=⟨w.m.z,(jZ w.m.y 1 l).2,w.m.x⟩} else {w with m:=⟨w.m.z,(jZ w.m.y 1 l).2,w.m.x⟩,es:=w.es++[{Pz with kind:=115,words:=l}]})
def bA.take(w:bA):bA:=match mK w.m.y 1 with
 | some l=>{w with m:=⟨w.m.z,lW w.m.y 1,w.m.x⟩,es:=w.es++[{Pz with kind:=114,words:=l}]}
 | none=>{w with m:=⟨w.m.z,lW w.m.y 1,w.m.x⟩}
structure Gy where
 kind:Int
 task:Int
 c:Yc
 aX:Int
 words:List Int
def bA.oU(s:aC)(w:bA)(p:Gy):Int×bA:=
 if p.kind=99 then w.call p.task p.c else if p.kind=116 then(0,w.task s p.task) else if p.kind=102 then(0,w.eC s) else if p.kind=104 then(0,w.tick s p.aX)
 else if p.kind=109 then w.send p.words else if p.kind=97 then(0,w.take) else(1,w)
def bA.round(s:aC)(w:bA)(aX:Int):bA:=((((w.task s 0).task s 1).task s 2).eC s).tick s aX
def bA.idle(w:bA):Bool:= !uF w.m.z 0&&(!uF w.m.z 1&&(!uF w.m.z 2&&(decide (w.m.y.at_ < 0)&& !decide (w.m.y.h1=1))))
structure iB(s:aC)(n:Nat)(w:bA):Prop where
 m:iJ s n w.m
 es:w.es.length≤13*n
 wd:∀e∈w.es,nB e.words∧e.words.length≤1000000
section
variable{s:aC}{n:Nat}{w:bA}
theorem iB.le{k:Nat}(h:iB s n w)(hk:n≤k):iB s k w:=⟨h.m.le hk,by have:=h.es;omega,h.wd⟩
theorem aBx(hm:s.made):iB s 0 (Ni s):=⟨aMP hm,Nat.zero_le _,fun _ h=>by cases h⟩
theorem iB.end_{b:Nat}(h:iJ s n w.m)(he:w.es.length≤b)(hw:∀e∈w.es,nB e.words∧e.words.length≤1000000)(t:Int):iJ s n (w.end_ t).m∧(w.end_ t).es.length≤b+1∧∀e∈(w.end_ t).es,nB e.words∧e.words.length≤1000000:=by
 unfold bA.end_;split
 ·refine⟨h.done t,by show(w.es++[_]).length≤_;rw[List.length_append];exact Nat.add_le_add_right he 1,fun e hm=>?_⟩;rcases List.mem_append.1 hm with hm | hm
  ·exact hw e hm
  ·rw[List.mem_singleton] at hm;subst hm;exact⟨(fun _ h=>by cases h),Nat.zero_le _⟩
 ·exact⟨h.done t,by show w.es.length≤_;omega,hw⟩
theorem iB.pZ(hm:s.made)(h:iB s n w)(t:Int):iJ s (n+1) (w.pZ s t).m∧(w.pZ s t).es.length≤13*n+1∧∀e∈(w.pZ s t).es,nB e.words∧e.words.length≤1000000:=by
 have he:=h.es
 unfold bA.pZ;split
 ·refine⟨h.m.step hm t,by show(w.es++[_]).length≤_;rw[List.length_append];exact Nat.add_le_add_right he 1,fun e hm=>?_⟩;rcases List.mem_append.1 hm with hm | hm
  ·exact h.wd e hm
  ·rw[List.mem_singleton] at hm;subst hm;exact⟨(fun _ h=>by cases h),Nat.zero_le _⟩
 ·exact⟨h.m.step hm t,by show w.es.length≤_;omega,h.wd⟩
theorem iB.task(hm:s.made)(h:iB s n w)(t:Int):iB s (n+1) (w.task s t):=by
 obtain⟨h1,h2,h3⟩:=h.pZ hm t;obtain⟨k1,k2,k3⟩:=iB.end_ h1 h2 h3 t;exact⟨k1,by show(bA.end_ _ _).es.length≤_;omega,k3⟩
theorem iB.pK(hm:s.made)(h:iB s n w)(aX:Int):iJ s n (w.pK s aX).m∧(w.pK s aX).es.length≤13*n+4∧∀e∈(w.pK s aX).es,nB e.words∧e.words.length≤1000000:=by
 have he:=h.es
 have hl:=aAF (s:=s) (x:=w.m.x) s.aD.length
 have hv:=hm.nv
 refine⟨h.m.tick hm aX,by show(w.es++List.map _ (fP s w.m.x s.aD.length).2).length≤_;rw[List.length_append,List.length_map];omega,fun e hm=>?_⟩;rcases List.mem_append.1 hm with hm | hm
 ·exact h.wd e hm
 ·obtain⟨a,_,rfl⟩:=List.mem_map.1 hm;exact⟨(fun _ h=>by cases h),Nat.zero_le _⟩
theorem iB.tick(hm:s.made)(h:iB s n w)(aX:Int):iJ s n (w.tick s aX).m∧(w.tick s aX).es.length≤13*n+7∧∀e∈(w.tick s aX).es,nB e.words∧e.words.length≤1000000:=by
 obtain⟨h1,h2,h3⟩:=h.pK hm aX;obtain⟨k1,k2,k3⟩:=iB.end_ h1 h2 h3 0;obtain⟨l1,l2,l3⟩:=iB.end_ k1 k2 k3 1;exact iB.end_ l1 l2 l3 2
theorem iB.eC(hm:s.made)(h:iB s n w):iB s n (w.eC s):=⟨h.m.eC hm,h.es,h.wd⟩
theorem iJ.aG7{m:kW}(h:iJ s n m){y':cJ}(hy:oJ s y'):iJ s n ⟨m.z,y',m.x⟩:=⟨h.zV,hy,h.hw,h.wt,h.po,h.w0,h.w1⟩
theorem aLn{y:cJ}(h:Ee s y){l:List Int}(hl:mK y 1=some l):nB l∧l.length≤1000000:=by
 unfold mK at hl;rw[if_neg (by decide),if_pos rfl] at hl;split at hl
 ·cases hl;exact⟨h.u1,h.n1⟩
 ·cases hl
def Gy.ok(p:Gy):Prop:=(0≤p.c.v∧p.c.v < 4294967296)∧(0≤p.aX∧p.aX < 4294967296)∧nB p.words∧p.words.length≤1000000
theorem iB.oU(hm : s.made)(h : iB s n w){p : Gy}(hp : p.ok) : iB s (n + 1) (w.oU s p).2 := by
 obtain⟨hv,hd,hu,hl⟩:=hp
 have he:=h.es
 unfold bA.oU;split
 ·unfold bA.call;dsimp only
  have:=h.m.start p.task p.c.k p.c.d p.c.r p.c.v hv
  split<;>exact⟨this.le (by omega),by show w.es.length≤_;omega,h.wd⟩
 ·split
  ·exact h.task hm _
  ·split
   ·exact(h.eC hm).le (by omega)
   ·split
    ·obtain⟨h1,h2,h3⟩:=h.tick hm p.aX;exact⟨h1.le (by omega),by show(bA.tick _ _ _).es.length≤_;omega,h3⟩
    ·split
     ·unfold bA.send;dsimp only
      have hs:=h.m.aG7 (h.m.fw.send 1 hu hl)
      split
      ·exact⟨hs.le (by omega),by show w.es.length≤_;omega,h.wd⟩
      ·refine⟨hs.le (by omega),by show(w.es++[_]).length≤_;rw[List.length_append];simp;omega,fun e hm=>?_⟩;rcases List.mem_append.1 hm with hm | hm
       ·exact h.wd e hm
       ·rw[List.mem_singleton] at hm;subst hm;exact⟨hu,hl⟩
     ·split
      ·unfold bA.take
       have hs:=h.m.aG7 (h.m.fw.read 1)
       split
       ·rename_i l hr
        refine⟨hs.le (by omega),by show(w.es++[_]).length≤_;rw[List.length_append];simp;omega,fun e hm=>?_⟩;rcases List.mem_append.1 hm with hm | hm
        ·exact h.wd e hm
        ·rw[List.mem_singleton] at hm;subst hm;exact aLn h.m.fw.fm hr
       ·exact⟨hs.le (by omega),by show w.es.length≤_;omega,h.wd⟩
      ·exact h.le (by omega)
theorem iB.round(hm:s.made)(h:iB s n w)(aX:Int):iB s (n+4) (w.round s aX):=by
 have h3:=((((h.task hm 0).task hm 1).task hm 2).eC hm)
 obtain⟨k1,k2,k3⟩:=h3.tick hm aX;exact⟨k1.le (by omega),by show(bA.tick _ _ _).es.length≤_;omega,k3⟩
end
def Kr(r:Int):Int:=[17,20,22,17,20,22,16,19].getD r.toNat 0
def Zo(p r:Int):Int:=if p=20∧r < 3 then 7 else[4,4,5,7,7,6,0,1,2].getD r.toNat 0
end
section
structure gR where
 op:Int
 task:Int
 kind:Int
 dev:Int
 cF:Int
 v:Int
 ag:Int
 pr:Int
 ms:Int
 id:Int
 aw:Int
 od:Int
def gR.cells(a:gR):List Value:=[iv a.op,iv a.task,iv a.kind,iv a.dev,iv a.cF,.int .u32 a.v,iv a.ag,iv a.pr,iv a.ms,iv a.id,iv a.aw,iv a.od]
def xR(a:Int):Prop:= -9223372036854775808≤a∧a≤9223372036854775807
structure gR.ok(a:gR):Prop where
 op:xR a.op
 task:xR a.task
 kind:xR a.kind
 dev:xR a.dev
 cF:xR a.cF
 v:0≤a.v∧a.v < 4294967296
 pr:xR a.pr
 ms:xR a.ms
 id:xR a.id
 aw:xR a.aw
 od:xR a.od
theorem gR.len(a:gR):a.cells.length=12:=rfl
end
section
def eT(c n:Int):Int:=(if c < 0 then 0 - (c+1) else c) % n
theorem Ah(c n:Int)(hn:0 < n):0≤eT c n∧eT c n < n:=⟨Int.emod_nonneg _ (by omega),Int.emod_lt_of_pos _ hn⟩
def aCo(r:Int):Int:=([103,103,103,112,112,114,119,114,119,115,109,109,120]:List Int).getD r.toNat 0
theorem aMX{r:Int}(h0:0≤r)(h1:r < 13):([.int .u8 103,.int .u8 103,.int .u8 103,.int .u8 112,.int .u8 112,.int .u8 114,.int .u8 119,.int .u8 114,.int .u8 119,.int .u8 115,.int .u8 109,.int .u8 109,.int .u8 120]:List Value)[r.toNat]? =some (.int .u8 (aCo r)):=by
 obtain⟨n,rfl⟩:∃n:Nat,r=(n:Int):=⟨r.toNat,by omega⟩
 have hn:n < 13:=by omega
 unfold aCo;rw[Int.toNat_natCast]
 match n,hn with
 | 0,_ | 1,_ | 2,_ | 3,_ | 4,_ | 5,_ | 6,_ | 7,_ | 8,_ | 9,_ | 10,_ | 11,_ | 12,_=>rfl
 | n+13,h=>omega
def Qu(a:gR):Int:=aCo (eT a.kind 13)
def Qv(a:gR)(many:Int):Int:=eT a.dev (many+1)
def Qt(a:gR):Int:=eT a.cF 4
end
section
def Zq(a:gR):Int:=Kr (eT a.pr 8)
def Ib(a:gR):Int:=Zo (Zq a) (eT a.ms 9)
def tO(a:gR):List Int:=[(gZ (Ib a) 0 (Zq a) (eT a.aw 1024)).1]++((if Ib a≠0∧Ib a≠1 then[eT a.id 10] else[])++(if Ib a=4∨Ib a=7 then[eT a.aw 4] else[]))
def sD(a:gR):List Int:=
 if eT a.od 30=0 then tO a++[0] else if eT a.od 30=1 then(tO a).take ((tO a).length - 1) else if eT a.od 30=2 then(tO a).set 0 (Ai ((tO a).headD 0) 268435456) else if eT a.od 30=3 then(tO a).set 0 (Ai ((tO a).headD 0) 256) else tO a
theorem aMq(a:gR):nB (tO a)∧1≤(tO a).length∧(tO a).length≤3:=by
 have h1:=Ah a.id 10 (by decide)
 have h2:=Ah a.aw 4 (by decide)
 have h3:=aFw (Ib a) 0 (Zq a) (eT a.aw 1024)
 unfold tO;constructor
 ·intro v hv;simp only[List.mem_append,List.mem_singleton] at hv;rcases hv with rfl | hv | hv
  ·exact h3
  ·split at hv
   ·rw[List.mem_singleton] at hv;omega
   ·cases hv
  ·split at hv
   ·rw[List.mem_singleton] at hv;omega
   ·cases hv
 ·split<;>split<;>simp
theorem aFA(a:gR):nB (sD a)∧(sD a).length≤4:=by
 obtain⟨h1,h2,h3⟩:=aMq a
 have lF:∀v:Int,0≤v∧v < 4294967296→nB ((tO a).set 0 v):=fun v hv u hu=>by
  rcases List.mem_or_eq_of_mem_set hu with h | h
  ·exact h1 u h
  ·rw[h];exact hv
 unfold sD;split
 ·refine⟨fun v hv=>?_,by rw[List.length_append];simp;omega⟩;rcases List.mem_append.1 hv with h | h
  ·exact h1 v h
  ·rw[List.mem_singleton] at h;subst h;decide
 ·split
  ·exact⟨fun v hv=>h1 v (List.mem_of_mem_take hv),by rw[List.length_take];omega⟩
  ·split
   ·exact⟨lF _ (aBO _ _),by rw[List.length_set];omega⟩
   ·split
    ·exact⟨lF _ (aBO _ _),by rw[List.length_set];omega⟩
    ·exact⟨h1,by omega⟩
def opK(r:Int):Int:=if r < 4 then 99 else if r < 12 then 116 else if r < 19 then 102 else if r < 26 then 104 else if r=26 then 109 else if r=27 then 97 else 0
def Hv(a:gR)(many:Int):Gy:=⟨opK (eT a.op 30),if eT a.cF 40=39 then eT a.task 6 - 2 else eT a.task 3,⟨Qu a,Qv a many,Qt a,a.v⟩,a.v,sD a⟩
theorem aFt{a:gR}(ha:a.ok)(many:Int):(Hv a many).ok:=⟨ha.v,ha.v,(aFA a).1,Nat.le_trans (aFA a).2 (by decide)⟩
def Xa(s:aC)(w:bA)(a:gR):bA:=if eT a.op 30=28 then w.round s a.v else(w.oU s (Hv a s.aD.length)).2
def runN(s:aC)(eU:List gR)(n:Nat):bA:=(eU.take n).foldl (Xa s) (Ni s)
theorem aEX{s:aC}{eU:List gR}{n:Nat}{a:gR}(h:eU[n]? =some a):runN s eU (n+1)=Xa s (runN s eU n) a:=by
 have hl:=(List.getElem?_eq_some_iff.1 h).1
 unfold runN;rw[List.take_succ,h,List.foldl_append];rfl
theorem aRr{s:aC}(hm:s.made){w:bA}{n:Nat}(h:iB s n w){a:gR}(ha:a.ok):iB s (n+4) (Xa s w a):=by
 unfold Xa;split
 ·exact h.round hm _
 ·exact(h.oU hm (aFt ha _)).le (by omega)
end
section
theorem mW(c n:Int)(w:World)(hc:xR c)(hn:0 < n):Cz 15 #[iv c,iv n] w (Rt (iv (eT c n)) w):=by
 unfold xR at hc;refine aO func15 ntmps15 ?_;refine aB ?_;refine aG rfl (fun h=>?_) (fun h=>?_)
 ·refine aB ?_;refine iS (by simp) ?_;rw[eT,if_pos h]
 ·refine aB ?_;refine iS (by simp) ?_;rw[eT,if_neg h]
end
section
def Jy(cs:List eW)(rows:List (List Value))(p:Piece):Prop:=Rows (qO (fI p)) 6 cs rows
theorem Jy.le{cs:List eW}{rows:List (List Value)}(p q:Piece)(h:p.Le q)(k:Jy cs rows p):Jy cs rows q:=Rows.mono (fun _ _=>qO.mono (kG h)) k
def Jv(vs:List cH)(rows:List (List Value))(p:Piece):Prop:=Rows (pV (fI p)) 6 vs rows
theorem Jv.le{vs:List cH}{rows:List (List Value)}(p q:Piece)(h:p.Le q)(k:Jv vs rows p):Jv vs rows q:=Rows.mono (fun _ _=>pV.mono (kG h)) k
def pE(sz:Nat)(A:Option Addr)(n:Nat)(xs:List Value)(p:Piece):Prop:=aI p sz A n xs
theorem pE.le{sz n:Nat}{A:Option Addr}{xs:List Value}(p q:Piece)(h:p.Le q)(k:pE sz A n xs p):pE sz A n xs q:=aI.le k h
def pU(cs:List eW)(rows:List (List Value)):HP:=HP.bU (Jy cs rows) (Jy.le (cs:=cs) (rows:=rows))
def Ds(vs:List cH)(rows:List (List Value)):HP:=HP.bU (Jv vs rows) (Jv.le (vs:=vs) (rows:=rows))
section
variable{N:cE}{w0:World}{K:Act→World→Prop}{e:Env}{R:List Piece}{H:List HP}
theorem aIa{p:HP}(hp:∀w,p.sat (fun _=>False) w)(h:XK N w0 K e R (p::H)):XK N w0 K e R H:=fun a w hr st=>by
 obtain⟨Z,F,hz,cR,hs,cY,eP⟩:=st.ex;refine h a w hr ⟨st.os,st.tape,st.output,st.size,Z,fun i=>match i with | 0=>fun _=>False | i+1=>F i,hz,cR,fun i r hi=>?_,fun i b hb=>?_,fun i j b hij hi=>?_⟩
 ·cases i with
  | zero=>simp at hi;subst hi;exact hp w
  | succ i=>exact hs i r (by simpa using hi)
 ·cases i with
  | zero=>exact hb.elim
  | succ i=>exact cY i b hb
 ·cases i with
  | zero=>exact hi.elim
  | succ i=>cases j with
   | zero=>exact id
   | succ j=>exact eP i j b (by omega) hi
theorem aRF{cs:List eW}{rows:List (List Value)}{cl:eW}{A:Option Addr}{c:Nat}(h:XK N w0 K e R (pU (cs++[cl]) (rows++[[.int .u8 cl.kind,.slice A cl.src.length c,.int .u64 cl.rate,iv cl.mul,iv cl.div,iv cl.lock]])::H)):XK N w0 K e R (HP.own 3 1 (.slice A cl.src.length c) cl.src.length (aN cl.src)::pU cs rows::H):=
 xL 0 (Φ:=pE 1 A cl.src.length (aN cl.src)) (hm:=pE.le) rfl (fun _ h=>h) (Jn (X:=Jy (cs++[cl]) (rows++[_])) (h3:=Jy.le) (fun p h1 h2=>h2.snoc rfl ⟨A,_,c,rfl,rfl,h1⟩) h)
theorem aRC{vs:List cH}{rows:List (List Value)}{d:cH}{A A':Option Addr}{c c':Nat}(h:XK N w0 K e R (Ds (vs++[d]) (rows++[[iv d.clock,iv d.domain,iv d.reset,.int .u32 d.iH,.slice A d.aR.length c,.slice A' d.iX.length c']])::H)):XK N w0 K e R (HP.own 95 2 (.slice A d.aR.length c) d.aR.length (d.aR.flatMap Rg.cells)::HP.own 3 1 (.slice A' d.iX.length c') d.iX.length (aN d.iX)::Ds vs rows::H):=
 xL 0 (Φ:=pE 2 A d.aR.length (d.aR.flatMap Rg.cells)) (hm:=pE.le) rfl (fun _ h=>h) (xL 1 (Φ:=pE 1 A' d.iX.length (aN d.iX)) (hm:=pE.le) rfl (fun _ h=>h) (Jn (X:=fun p=>pE 2 A d.aR.length (d.aR.flatMap Rg.cells) p∧pE 1 A' d.iX.length (aN d.iX) p) (h3:=fun p q hl h=>⟨pE.le p q hl h.1,pE.le p q hl h.2⟩) (fun p h1 h2=>⟨h1,h2⟩) (Jn (X:=Jv (vs++[d]) (rows++[_])) (h3:=Jv.le) (fun p h1 h2=>h2.snoc rfl ⟨A,_,c,A',_,c',rfl,rfl,rfl,h1.1,h1.2⟩) h)))
end
def aEf(v:Value)(hs:List HP)(_:Piece):Prop:=∃(s:aC) (A1 A2 A3 A4:Option Addr×Nat) (r1 r2 r3 r4:List (List Value)),v=.agg #[.slice A1.1 s.aF.length A1.2,.slice A2.1 s.domains.length A2.2,.slice A3.1 s.aY.length A3.2,.slice A4.1 s.aD.length A4.2]∧s.made∧Rows tE 3 s.domains r2∧Rows xN 1 s.aY r3∧
 hs=[HP.own 86 6 (.slice A1.1 s.aF.length A1.2) s.aF.length r1.flatten,pU s.aF r1,HP.own 88 3 (.slice A2.1 s.domains.length A2.2) s.domains.length r2.flatten,HP.own 90 1 (.slice A3.1 s.aY.length A3.2) s.aY.length r3.flatten,HP.own 93 6 (.slice A4.1 s.aD.length A4.2) s.aD.length r4.flatten,Ds s.aD r4]
theorem fZ.tail{w:World}{p:HP}{hs:List HP}{q:Piece}(h:fZ w (p::hs) q):fZ w hs q:=by
 obtain⟨F,f1,f2,f3,f4⟩:=h;exact⟨fun i=>F (i+1),fun i r hi=>f1 (i+1) r (by simpa using hi),fun i=>f2 (i+1),fun i j b hij=>f3 (i+1) (j+1) b (by omega),f4⟩
theorem aEf.weak{w w':World}{v:Value}{hs:List HP}{q:Piece}(h:aEf v hs q)(hq:q.w=w')(hn:fZ w hs q):∃cs s,v=.agg cs∧uK (fI (fresh w w')) s cs∧s.made:=by
 obtain⟨s,A1,A2,A3,A4,r1,r2,r3,r4,rfl,hm,h2,h3,rfl⟩:=h;obtain⟨F,f1,f2,_⟩:=hn;subst hq
 have hl:∀i,(⟨q.w,F i⟩:Piece).Le (fresh w q.w):=fun i b hb=>⟨⟨(f2 i b hb).1,(f2 i b hb).2.1⟩,rfl⟩
 have ho:∀{i:Nat} {t:TypeId} {sz n c:Nat} {A:Option Addr} {xs:List Value},(HP.own t sz (.slice A n c) n xs).sat (F i) q.w→aI (fresh w q.w) sz A n xs:=fun {i} _ _ _ _ _ _ hs=>(aI.own (q:=⟨q.w,F i⟩) ⟨F i,hs,fun _ h=>h⟩).le (hl i)
 exact⟨_,s,rfl,⟨A1.1,_,A1.2,A2.1,_,A2.2,A3.1,_,A3.2,A4.1,_,A4.2,rfl,⟨r1,Jy.le _ _ (hl 1) (f1 1 _ rfl),rfl,ho (f1 0 _ rfl)⟩,⟨r2,h2,rfl,ho (f1 2 _ rfl)⟩,⟨r3,h3,rfl,ho (f1 3 _ rfl)⟩,⟨r4,Jv.le _ _ (hl 5) (f1 5 _ rfl),rfl,ho (f1 4 _ rfl)⟩⟩,hm⟩
end
section
theorem aL2{r:Int}(h0:0≤r)(h1:r < 8):([iv 17,iv 20,iv 22,iv 17,iv 20,iv 22,iv 16,iv 19]:List Value)[r.toNat]? =some (iv (Kr r)):=by
 rcases(by omega:r=0∨r=1∨r=2∨r=3∨r=4∨r=5∨r=6∨r=7) with rfl | rfl | rfl | rfl | rfl | rfl | rfl | rfl<;>rfl
def Zp(r:Int):Int:=([4,4,5,7,7,6,0,1,2]:List Int).getD r.toNat 0
theorem aMp{r:Int}(h0:0≤r)(h1:r < 9):([iv 4,iv 4,iv 5,iv 7,iv 7,iv 6,iv 0,iv 1,iv 2]:List Value)[r.toNat]? =some (iv (Zp r)):=by
 rcases(by omega:r=0∨r=1∨r=2∨r=3∨r=4∨r=5∨r=6∨r=7∨r=8) with rfl | rfl | rfl | rfl | rfl | rfl | rfl | rfl | rfl<;>rfl
theorem aL1{r:Int}(h0:0≤r)(h1:r < 8):0≤Kr r∧Kr r < 256:=by
 rcases(by omega:r=0∨r=1∨r=2∨r=3∨r=4∨r=5∨r=6∨r=7) with rfl | rfl | rfl | rfl | rfl | rfl | rfl | rfl<;>decide
theorem aMo{r:Int}(h0:0≤r)(h1:r < 9):0≤Zp r∧Zp r < 256:=by
 rcases(by omega:r=0∨r=1∨r=2∨r=3∨r=4∨r=5∨r=6∨r=7∨r=8) with rfl | rfl | rfl | rfl | rfl | rfl | rfl | rfl | rfl<;>decide
theorem aMn{p r:Int}(h0:0≤r)(h1:r < 9):0≤Zo p r∧Zo p r < 256:=by
 unfold Zo;split
 ·decide
 ·exact aMo h0 h1
def Ka(A:Option Addr)(l:List Int):HP:=HP.bU (pE 1 A l.length (dV l)) pE.le
def Rv(l:List Int)(v:Value)(hs:List HP)(_:Piece):Prop:=∃A c,v=.slice A l.length c∧hs=[Ka A l]
theorem aHV{nn:Nat}{fn:Func}{t n c:Nat}{A:Option Addr}{w0:World}{e:Env}{R:List Piece}{H:List HP}(l:List Int)(hn:n=l.length)(hi:H[0]? =some (Ka A l):=by rfl)(hr:fn.results=#[.tmp t]:=by rfl)(ht:e.get t=some (.slice A n c):=by rfl)(hR:all w0∈R:=by simp):
  XK ⟨nn,[]⟩ w0 (bodyPost Tryz.prog fn (fun y w'=>(∃v hs q,y=.returned v∧q.w=w'∧Rv l v hs q∧fZ w0 hs q)∧Below w0.heap.size w0 w') .ret) e R H:=by
 subst hn;refine aT [0] (H':=[Ka A l]) ?_ (by decide) (fun _ h=>h) ?_
 ·unfold yG;rw[hi];rfl
 refine dG [] [] [0] (by simp) rfl (by decide) (by decide) fun q _ _ hfr=>?_;exact mF hr ht fun w1 st=>⟨⟨_,_,⟨w1,q.Z⟩,rfl,rfl,⟨A,c,rfl,rfl⟩,st.newR (by simp[hR]) (by simp) (hfr hR (by simp))⟩,st.below (by simp[hR])⟩
theorem aAO{nn:Nat}{fn:Func}{t n c:Nat}{A:Option Addr}{xs:List Value}{w0:World}{e:Env}{R:List Piece}{H:List HP}(l:List Int)(hn:n=l.length)(hx:xs=dV l)(hi:H[0]? =some (HP.own 37 1 (.slice A n c) n xs):=by rfl)(hr:fn.results=#[.tmp t]:=by rfl)(ht:e.get t=some (.slice A n c):=by rfl)(hR:all w0∈R:=by simp):
  XK ⟨nn,[]⟩ w0 (bodyPost Tryz.prog fn (fun y w'=>(∃v hs q,y=.returned v∧q.w=w'∧Rv l v hs q∧fZ w0 hs q)∧Below w0.heap.size w0 w') .ret) e R H:=by
 subst hn;subst hx;refine xL 0 (Φ:=pE 1 A l.length (dV l)) (hm:=pE.le) hi (fun _ h=>h) ?_;exact aHV l rfl (List.getElem?_set_self (wU hi)) hr ht hR
theorem aCd(a:gR)(ha:a.ok)(w:World):
  Cz 47 #[.agg #[iv a.ag,iv a.pr,iv a.ms,iv a.id,iv a.aw,iv a.od]] w (fun y w'=>(∃v hs q,y=.returned v∧q.w=w'∧Rv (sD a) v hs q∧fZ w hs q)∧Below w.heap.size w w'):=by
 have b1:=Ah a.pr 8 (by decide)
 have b2:=Ah a.ms 9 (by decide)
 have b3:=Ah a.id 10 (by decide)
 have b4:=Ah a.aw 4 (by decide)
 have b5:=Ah a.aw 1024 (by decide)
 have hP:=aL2 b1.1 b1.2
 have hM:=aMp b2.1 b2.2
 have hpb:=aL1 b1.1 b1.2
 have hmb:=aMn (p:=Kr (eT a.pr 8)) b2.1 b2.2
 have h1:=ha.pr
 have h2:=ha.ms
 have h3:=ha.id
 have h4:=ha.aw
 have h5:=ha.od
 have yM:Ib a=if Kr (eT a.pr 8)=20∧eT a.ms 9 < 3 then 7 else Zp (eT a.ms 9):=rfl
 obtain⟨m,hm⟩:∃m,Ib a=m:=⟨_,rfl⟩
 obtain⟨p,hp⟩:∃p,Kr (eT a.pr 8)=p:=⟨_,rfl⟩
 obtain⟨t1,sG⟩:∃t,(if m≠0∧m≠1 then[eT a.id 10] else[])=t:=⟨_,rfl⟩
 obtain⟨t2,qC⟩:∃t,(if m=4∨m=7 then[eT a.aw 4] else[])=t:=⟨_,rfl⟩
 obtain⟨x0,hx0⟩:∃x,(gZ m 0 p (eT a.aw 1024)).1=x:=⟨_,rfl⟩
 have iA:t1.length≤1:=by rw[←sG];split<;>simp
 have De:t2.length≤1:=by rw[←qC];split<;>simp
 have hm0:tO a=x0::(t1++t2):=by
  unfold tO;rw[hm,show Zq a=p from hp,hx0,sG,qC];rfl
 have hmF:sD a=if eT a.od 30=0 then(x0::(t1++t2))++[0] else if eT a.od 30=1 then(x0::(t1++t2)).take ((x0::(t1++t2)).length - 1) else if eT a.od 30=2 then(x0::(t1++t2)).set 0 (Ai x0 268435456) else if eT a.od 30=3 then(x0::(t1++t2)).set 0 (Ai x0 256) else x0::(t1++t2):=by
  unfold sD;rw[hm0];rfl
 obtain⟨od,hod⟩:∃o,eT a.od 30=o:=⟨_,rfl⟩
 rw[hod] at hmF;rw[hmF];rw[hp] at hP yM hpb;rw[hm] at yM
 have aNs:0≤m∧m < 256:=by rw[←hm];exact hmb
 have hpk:=aLC aNs hpb b5
 have hlen:(x0::(t1++t2)).length=t1.length+t2.length+1:=by simp
 refine aO func47 ntmps47 ?_;refine aB ?_;refine bO fun g1=>?_;refine aB ?_;refine eH fun g2=>?_;refine aB ?_;refine aS (fun w1 t=>mW _ 8 w1 h1 (by decide)) ?_;refine aB ?_;refine kd (bH rfl (Rd.aE 0 rfl hP)) ?_;refine aB ?_;refine eH fun g3=>?_;refine aB ?_;refine aS (fun w1 t=>mW _ 9 w1 h2 (by decide)) ?_;refine aB ?_;refine kd (bH rfl (Rd.aE 0 rfl hM)) ?_;refine bF ?_;refine fB ?_;refine Gr (α:=Unit) (fun _=>[(6,iv m),(4,iv p),(1,pt g1)]) (fun _=>[HP.aE g1 72 [iv a.ag,iv a.pr,iv a.ms,iv a.id,iv a.aw,iv a.od]]) (fun _=>True) ?_ fun _ _=>?_
 ·refine aB ?_;refine cG (t:=25) rfl (fun hg=>?_) (fun hg=>?_)
  ·refine aB ?_;refine aS (fun w1 t=>mW _ 9 w1 h2 (by decide)) ?_;refine aB ?_;refine aG rfl (fun h=>?_) (fun h=>?_)
   ·rw[if_pos ⟨hg,h⟩] at yM;subst yM;refine aB ?_;exact dJ ()
   ·rw[if_neg (fun hh=>h hh.2)] at yM;subst yM;refine aB ?_;exact dJ ()
  ·rw[if_neg (fun hh=>hg hh.1)] at yM;subst yM;refine aB ?_;exact dJ ()
 refine aB ?_;refine aS (fun w1 t=>mW _ 1024 w1 h4 (by decide)) ?_;refine aB ?_
 refine eM (aEd [x0]) (fun w1 t=>by
  have:=aHr m 0 p (eT a.aw 1024) none 0 0 [] w1 (aI.nil _ _) rfl (by omega) hpk
  rwa [hx0] at this) ?_
 rintro _ _ q1 ⟨A1,c1,rfl,rfl⟩ _;dsimp only[List.cons_append,List.nil_append];refine uI (R':=[all w]) (by simp) ?_;refine bF ?_;refine bF ?_;refine bF ?_;refine bF ?_;refine bF ?_;refine fB ?_;refine Gr (α:=Option Addr×Nat) (fun b=>[(7,.slice b.1 (x0::t1).length b.2),(6,iv m),(1,pt g1)]) (fun b=>[HP.own 37 1 (.slice b.1 (x0::t1).length b.2) (x0::t1).length (dV (x0::t1)),HP.aE g1 72 [iv a.ag,iv a.pr,iv a.ms,iv a.id,iv a.aw,iv a.od]]) (fun _=>True) ?_ fun b _=>?_
 ·refine aB ?_;refine cG (t:=43) rfl (fun hg=>?_) (fun hg=>?_)
  ·refine aB ?_;refine aG rfl (fun h=>?_) (fun h=>?_)
   ·rw[if_pos ⟨hg,h⟩] at sG;subst sG;refine aB ?_;refine aS (fun w1 t=>mW _ 10 w1 h3 (by decide)) ?_;refine aB ?_;refine eH fun g5=>?_;refine gY 1 1 4 1 (n':=([x0,eT a.id 10]).length) (el:=37) (by kernel_rfl) (by kernel_rfl) (by decide) rfl rfl rfl (lV 0 rfl rfl) (by simp[Value.oneCell']) (by simp) (by first | (simp;done) | (simp;omega)) (by first | (simp;done) | (simp;omega)) (by decide) fun A2 c2=>?_;dsimp only[List.set];refine aB ?_;rw[show dV ([x0])++[.int .u32 (eT a.id 10)]=dV ([x0,eT a.id 10]) by simp[dV]];exact dJ (A2,c2)
   ·rw[if_neg (fun hh=>h hh.2)] at sG;subst sG;refine aB ?_;exact dJ (A1,c1)
  ·rw[if_neg (fun hh=>hg hh.1)] at sG;subst sG;refine aB ?_;exact dJ (A1,c1)
 refine Gr (α:=Option Addr×Nat) (fun b=>[(7,.slice b.1 (x0::(t1++t2)).length b.2),(6,iv m),(1,pt g1)]) (fun b=>[HP.own 37 1 (.slice b.1 (x0::(t1++t2)).length b.2) (x0::(t1++t2)).length (dV (x0::(t1++t2))),HP.aE g1 72 [iv a.ag,iv a.pr,iv a.ms,iv a.id,iv a.aw,iv a.od]]) (fun _=>True) ?_ fun b _=>?_
 ·refine aB ?_;refine cG (t:=56) rfl (fun hg=>?_) (fun hg=>?_)
  ·rw[if_pos (.inl hg)] at qC;subst qC;refine aB ?_;refine aS (fun w1 t=>mW _ 4 w1 h4 (by decide)) ?_;refine aB ?_;refine eH fun g5=>?_;refine gY 1 1 4 1 (n':=(x0::(t1++[eT a.aw 4])).length) (el:=37) (by kernel_rfl) (by kernel_rfl) (by decide) rfl rfl rfl (lV 0 rfl rfl) (by simp[Value.oneCell']) (by simp) (by first | (simp;done) | (simp;omega)) (by first | (simp;done) | (simp;omega)) (by decide) fun A2 c2=>?_;dsimp only[List.set];refine aB ?_;rw[show dV (x0::t1)++[.int .u32 (eT a.aw 4)]=dV (x0::(t1++[eT a.aw 4])) by simp[dV]];exact dJ (A2,c2)
  ·refine aB ?_;refine aG rfl (fun h=>?_) (fun h=>?_)
   ·rw[if_pos (.inr h)] at qC;subst qC;refine aB ?_;refine aS (fun w1 t=>mW _ 4 w1 h4 (by decide)) ?_;refine aB ?_;refine eH fun g5=>?_;refine gY 1 1 4 1 (n':=(x0::(t1++[eT a.aw 4])).length) (el:=37) (by kernel_rfl) (by kernel_rfl) (by decide) rfl rfl rfl (lV 0 rfl rfl) (by simp[Value.oneCell']) (by simp) (by first | (simp;done) | (simp;omega)) (by first | (simp;done) | (simp;omega)) (by decide) fun A2 c2=>?_;dsimp only[List.set];refine aB ?_;rw[show dV (x0::t1)++[.int .u32 (eT a.aw 4)]=dV (x0::(t1++[eT a.aw 4])) by simp[dV]];exact dJ (A2,c2)
   ·rw[if_neg (fun hh=>hh.elim hg h)] at qC;subst qC;rw[List.append_nil];refine aB ?_;exact dJ b
 refine aB ?_;refine aS (fun w1 t=>mW _ 30 w1 h5 (by decide)) ?_;rw[hod];refine aB ?_;refine aG rfl (fun h=>?_) (fun h=>?_)
 ·rw[if_pos h];refine aB ?_;refine eH fun g7=>?_;refine gY 1 1 4 1 (n':=((x0::(t1++t2))++[0]).length) (el:=37) (by kernel_rfl) (by kernel_rfl) (by decide) rfl rfl rfl (lV 0 rfl rfl) (by simp[Value.oneCell']) (by simp[Nat.add_assoc]) (by first | (simp;done) | (simp;omega)) (by first | (simp;done) | (simp;omega)) (by decide) fun A2 c2=>?_;dsimp only[List.set];refine aB ?_;refine aT [1] rfl (by decide) (fun _ h=>h) ?_;exact aAO _ rfl (aJC _ _)
 rw[if_neg h];refine aB ?_;refine aG rfl (fun h=>?_) (fun h=>?_)
 ·rw[if_pos h];refine aR1 0 rfl fun hcap=>?_;refine aB ?_;refine aIP ((x0::(t1++t2)).length - 1) (el:=37) (sz:=1) (by kernel_rfl) (by kernel_rfl) rfl rfl (by omega) (by omega) (by decide) fun A3 hA3=>?_;refine aB ?_
  refine oA (q:=Ka A3 ((x0::(t1++t2)).take ((x0::(t1++t2)).length - 1))) 0 rfl (fun F w h=>by
   obtain⟨A9,c9,hB,Ul⟩:=zG (Y:=F) h (fun _ h=>h)
   injection hB with e1
   subst e1
   have:=Ul.aJN (k:=(x0::(t1++t2)).length - 1) (by omega) hA3
   rw[Nat.mul_one,dV,←List.map_take] at this
   show aI _ 1 A3 (List.length _) (dV _)
   rw[List.length_take,Nat.min_eq_left (by omega)]
   exact this) ?_
  exact aHV _ (by rw[List.length_take,Nat.min_eq_left (by omega)])
 rw[if_neg h];refine aB ?_;refine aG rfl (fun h=>?_) (fun h=>?_)
 ·rw[if_pos h];refine aAQ 0 rfl (by simp) ?_;rintro⟨gb,hgb⟩;rw[hgb];refine Gp 0 rfl fun cs jS hct hnc Lp=>?_;dsimp only[List.set]
  have hc0:cs[0]? =some (.int .u32 x0):=by
   rw[Nat.mul_one] at hct;rw[←List.getElem?_take_of_lt (show 0 < (x0::(t1++t2)).length by simp),hct];rfl
  refine aB ?_;refine kd (bH rfl (Rd.aE 0 rfl hc0)) ?_;refine Sg rfl rfl (fun w=>aES _ x0 268435456 w) (by simp) (by decide) ?_;refine aB ?_;refine Eb 0 (n:=(x0::(t1++t2)).length) (c:=b.2) (sz:=1) (xs:=dV ((x0::(t1++t2)).set 0 (Ai x0 268435456))) rfl (by simpa using jS) (by rw[←aEA,←hct,List.take_set]) hnc Lp ?_;dsimp only[List.set];exact aAO (n:=(x0::(t1++t2)).length) _ (by simp) rfl
 rw[if_neg h];refine aB ?_;refine aG rfl (fun h=>?_) (fun h=>?_)
 ·rw[if_pos h];refine aAQ 0 rfl (by simp) ?_;rintro⟨gb,hgb⟩;rw[hgb];refine Gp 0 rfl fun cs jS hct hnc Lp=>?_;dsimp only[List.set]
  have hc0:cs[0]? =some (.int .u32 x0):=by
   rw[Nat.mul_one] at hct;rw[←List.getElem?_take_of_lt (show 0 < (x0::(t1++t2)).length by simp),hct];rfl
  refine aB ?_;refine kd (bH rfl (Rd.aE 0 rfl hc0)) ?_;refine Sg rfl rfl (fun w=>aES _ x0 256 w) (by simp) (by decide) ?_;refine aB ?_;refine Eb 0 (n:=(x0::(t1++t2)).length) (c:=b.2) (sz:=1) (xs:=dV ((x0::(t1++t2)).set 0 (Ai x0 256))) rfl (by simpa using jS) (by rw[←aEA,←hct,List.take_set]) hnc Lp ?_;dsimp only[List.set];exact aAO (n:=(x0::(t1++t2)).length) _ (by simp) rfl
 rw[if_neg h];refine aB ?_;exact aAO _ rfl rfl
end
section
def aIy(p:Gy)(v:Value)(hs:List HP)(_:Piece):Prop:=∃A c p0,v=.agg #[.int .u8 p.kind,iv p.task,.int .u8 p.c.k,iv p.c.d,iv p.c.r,.int .u32 p.c.v,.int .u32 p.aX,.slice A p.words.length c]∧hs=[p0,Ka A p.words]
theorem aLA(a:gR)(many:Int)(w:World)(ha:a.ok)(hm:0≤many∧many≤1000):
  Cz 21 #[.agg a.cells.toArray,iv many] w (fun y w'=>(∃v hs q,y=.returned v∧q.w=w'∧aIy (Hv a many) v hs q∧fZ w hs q)∧Below w.heap.size w w'):=by
 have b1:=Ah a.kind 13 (by decide)
 have b2:=Ah a.dev (many+1) (by omega)
 have b3:=Ah a.task 6 (by decide)
 have hk:=aMX b1.1 b1.2
 have h1:=ha.kind
 have h2:=ha.dev
 have h3:=ha.cF
 have h4:=ha.task
 have h5:=ha.op
 unfold Hv;obtain⟨K,hK⟩:∃K,opK (eT a.op 30)=K:=⟨_,rfl⟩
 rw[hK];unfold opK at hK;refine aO func21 ntmps21 ?_;refine aB ?_;refine bO fun g2=>?_;refine bY fun g4=>?_;refine aB ?_;refine eH fun g5=>?_;refine aB ?_;refine Rh (α:=Nat) (fun g6=>[(6,pt g6),(4,pt g4),(2,pt g2)]) (fun g6=>[HP.aE g6 39 [.int .u8 (Qu a),iv (Qv a many),iv (Qt a),.int .u32 a.v],HP.aE g4 65 [.int .u8 0,iv 0,.int .u8 0,iv 0,iv 0,.int .u32 0,.int .u32 0,sn],HP.aE g2 74 a.cells]) (fun _=>True) ?_ fun g6 _=>?_
 ·refine aIb ?_;refine zD 3 17 rfl rfl (by kernel_rfl) ?_ ?_
  ·refine aS (fun w1 t=>mW _ 13 w1 h1 (by decide)) ?_;refine bB ?_;refine mG 4 ?_;refine mG 5 ?_ (cM:=bH rfl (Rd.aE 0 rfl hk));refine zD 10 17 rfl rfl (by kernel_rfl) ?_ ?_
   ·refine aS (fun w1 t=>mW _ (many+1) w1 h2 (by omega)) ?_;refine bB ?_;refine zD 13 17 rfl rfl (by kernel_rfl) ?_ ?_
    ·refine aS (fun w1 t=>mW _ 4 w1 h3 (by decide)) ?_;refine bB ?_;refine mG 16 ?_;refine aL 17 ?_;refine bY fun g6=>?_;refine bB ?_;refine aL 18 ?_;refine lO 0 rfl ?_;dsimp only[List.set];refine cI ?_;refine dY ?_;refine aB ?_;exact dJ g6
    ·refine bY fun g6=>?_;refine bB ?_;refine aL 13 ?_;refine aS (fun w1 t=>mW _ 4 w1 h3 (by decide)) ?_;refine bB ?_;refine mG 16 ?_;refine aL 18 ?_;refine lO 0 rfl ?_;dsimp only[List.set];refine cI ?_;refine dY ?_;refine aB ?_;exact dJ g6
   ·refine bY fun g6=>?_;refine bB ?_;refine aL 10 ?_;refine aS (fun w1 t=>mW _ (many+1) w1 h2 (by omega)) ?_;refine bB ?_;refine aL 13 ?_;refine aS (fun w1 t=>mW _ 4 w1 h3 (by decide)) ?_;refine bB ?_;refine mG 16 ?_;refine aL 18 ?_;refine lO 0 rfl ?_;dsimp only[List.set];refine cI ?_;refine dY ?_;refine aB ?_;exact dJ g6
  ·refine bY fun g6=>?_;refine bB ?_;refine aL 3 ?_;refine aS (fun w1 t=>mW _ 13 w1 h1 (by decide)) ?_;refine bB ?_;refine mG 4 ?_;refine mG 5 ?_ (cM:=bH rfl (Rd.aE 0 rfl hk));refine aL 10 ?_;refine aS (fun w1 t=>mW _ (many+1) w1 h2 (by omega)) ?_;refine bB ?_;refine aL 13 ?_;refine aS (fun w1 t=>mW _ 4 w1 h3 (by decide)) ?_;refine bB ?_;refine mG 16 ?_;refine aL 18 ?_;refine lO 0 rfl ?_;dsimp only[List.set];refine cI ?_;refine dY ?_;refine aB ?_;exact dJ g6
 refine aB ?_;refine Rh (α:=Nat×Option Addr×Nat) (fun z=>[(7,pt z.1),(4,pt g4),(2,pt g2)]) (fun z=>[HP.aE z.1 65 [.int .u8 0,iv (eT a.task 3),.int .u8 (Qu a),iv (Qv a many),iv (Qt a),.int .u32 a.v,.int .u32 a.v,.slice z.2.1 (sD a).length z.2.2],Ka z.2.1 (sD a),HP.aE g4 65 [.int .u8 0,iv 0,.int .u8 0,iv 0,iv 0,.int .u32 0,.int .u32 0,sn],HP.aE g2 74 a.cells]) (fun _=>True) ?_ fun z _=>?_
 ·refine aIb ?_;refine mG 7 ?_ (cM:=jM rfl (aM.mid (vs:=[iv a.ag,iv a.pr,iv a.ms,iv a.id,iv a.aw,iv a.od]) 2 rfl rfl));refine zD 2 10 rfl rfl (by kernel_rfl) ?_ ?_
  ·refine aS (fun w1 t=>mW _ 3 w1 h4 (by decide)) ?_;refine bB ?_;refine zD 8 10 rfl rfl (by kernel_rfl) ?_ ?_
   ·refine eM (Rv (sD a)) (fun w1 t=>aCd a ha w1) ?_;rintro _ _ q1 ⟨A1,c1,rfl,rfl⟩ _;dsimp only[List.cons_append,List.nil_append];refine uI (R':=[all w]) (by simp) ?_;refine bB ?_;refine mG 9 ?_;refine aL 10 ?_;refine bY fun g7=>?_;refine bB ?_;refine aL 11 ?_;refine lO 0 rfl ?_;dsimp only[List.set];refine cI ?_;refine dY ?_;refine aB ?_;exact dJ (g7,A1,c1)
   ·refine bY fun g7=>?_;refine bB ?_;refine aL 8 ?_;refine eM (Rv (sD a)) (fun w1 t=>aCd a ha w1) ?_;rintro _ _ q1 ⟨A1,c1,rfl,rfl⟩ _;dsimp only[List.cons_append,List.nil_append];refine uI (R':=[all w]) (by simp) ?_;refine bB ?_;refine mG 9 ?_;refine aL 11 ?_;refine lO 1 rfl ?_;dsimp only[List.set];refine cI ?_;refine dY ?_;refine aB ?_;exact dJ (g7,A1,c1)
  ·refine bY fun g7=>?_;refine bB ?_;refine aL 2 ?_;refine aS (fun w1 t=>mW _ 3 w1 h4 (by decide)) ?_;refine bB ?_;refine aL 8 ?_;refine eM (Rv (sD a)) (fun w1 t=>aCd a ha w1) ?_;rintro _ _ q1 ⟨A1,c1,rfl,rfl⟩ _;dsimp only[List.cons_append,List.nil_append];refine uI (R':=[all w]) (by simp) ?_;refine bB ?_;refine mG 9 ?_;refine aL 11 ?_;refine lO 1 rfl ?_;dsimp only[List.set];refine cI ?_;refine dY ?_;refine aB ?_;exact dJ (g7,A1,c1)
 refine aB ?_;refine aS (fun w1 t=>mW _ 30 w1 h5 (by decide)) ?_;refine aB ?_;refine oF (α:=Unit) (fun _=>[(7,pt z.1),(4,pt g4),(2,pt g2)]) (fun _=>[HP.aE z.1 65 [.int .u8 K,iv (eT a.task 3),.int .u8 (Qu a),iv (Qv a many),iv (Qt a),.int .u32 a.v,.int .u32 a.v,.slice z.2.1 (sD a).length z.2.2],Ka z.2.1 (sD a),HP.aE g4 65 [.int .u8 0,iv 0,.int .u8 0,iv 0,iv 0,.int .u32 0,.int .u32 0,sn],HP.aE g2 74 a.cells]) (fun _=>True) ?_ fun _ _=>?_
 ·refine aB ?_;refine aG rfl (fun h=>?_) (fun n0=>?_)
  ·obtain rfl:99=K:=by rw[←hK,if_pos h]
   refine aB ?_;exact dJ ()
  refine aB ?_;refine aG rfl (fun h=>?_) (fun n1=>?_)
  ·obtain rfl:116=K:=by rw[←hK,if_neg n0,if_pos h]
   refine aB ?_;exact dJ ()
  refine aB ?_;refine aG rfl (fun h=>?_) (fun n2=>?_)
  ·obtain rfl:102=K:=by rw[←hK,if_neg n0,if_neg n1,if_pos h]
   refine aB ?_;exact dJ ()
  refine aB ?_;refine aG rfl (fun h=>?_) (fun n3=>?_)
  ·obtain rfl:104=K:=by rw[←hK,if_neg n0,if_neg n1,if_neg n2,if_pos h]
   refine aB ?_;exact dJ ()
  refine aB ?_;refine aG rfl (fun h=>?_) (fun n4=>?_)
  ·obtain rfl:109=K:=by rw[←hK,if_neg n0,if_neg n1,if_neg n2,if_neg n3,if_pos h]
   refine aB ?_;exact dJ ()
  refine aB ?_;refine aG rfl (fun h=>?_) (fun n5=>?_)
  ·obtain rfl:97=K:=by rw[←hK,if_neg n0,if_neg n1,if_neg n2,if_neg n3,if_neg n4,if_pos h]
   refine aB ?_;exact dJ ()
  obtain rfl:0=K:=by rw[←hK,if_neg n0,if_neg n1,if_neg n2,if_neg n3,if_neg n4,if_neg n5]
  refine aB ?_;exact dJ ()
 refine aB ?_;refine aS (fun w1 t=>mW _ 40 w1 h3 (by decide)) ?_;refine aB ?_;refine aG rfl (fun h=>?_) (fun h=>?_)
 ·rw[if_pos h];refine aB ?_;refine aS (fun w1 t=>mW _ 6 w1 h4 (by decide)) ?_;refine aB ?_;refine aT [2,1] rfl (by decide) (fun _ h=>h) ?_;refine dG [] [] [0,1] (by simp) rfl (by decide) (by decide) fun q _ _ hfr=>?_;exact Gn (vs:=[.int .u8 K,iv (eT a.task 6 - 2),.int .u8 (Qu a),iv (Qv a many),iv (Qt a),.int .u32 a.v,.int .u32 a.v,.slice z.2.1 (sD a).length z.2.2]) rfl (by kernel_rfl) rfl rfl (aM.whole 0 rfl) fun w1 st=>⟨⟨_,_,⟨w1,q.Z⟩,rfl,rfl,⟨_,_,_,rfl,rfl⟩,st.newR (by simp) (by simp) (hfr (by simp) (by simp))⟩,st.below (by simp)⟩
 ·rw[if_neg h];refine aB ?_;refine aT [2,1] rfl (by decide) (fun _ h=>h) ?_;refine dG [] [] [0,1] (by simp) rfl (by decide) (by decide) fun q _ _ hfr=>?_;exact Gn (vs:=[.int .u8 K,iv (eT a.task 3),.int .u8 (Qu a),iv (Qv a many),iv (Qt a),.int .u32 a.v,.int .u32 a.v,.slice z.2.1 (sD a).length z.2.2]) rfl (by kernel_rfl) rfl rfl (aM.whole 0 rfl) fun w1 st=>⟨⟨_,_,⟨w1,q.Z⟩,rfl,rfl,⟨_,_,_,rfl,rfl⟩,st.newR (by simp) (by simp) (hfr (by simp) (by simp))⟩,st.below (by simp)⟩
end
section
def kF.row(e:kF)(A:Option Addr)(c:Nat):List Value:=[.int .u8 e.kind,iv e.task,.int .u8 e.c.k,iv e.c.d,iv e.c.r,.int .u32 e.c.v,iv e.err,.int .u32 e.res,iv e.an.id,iv e.an.dev,.bool e.an.dead,.int .u32 e.an.val,.bool e.alive,.slice A e.words.length c]
def Xz(S:sZ)(e:kF)(r:List Value):Prop:=∃A c,r=e.row A c∧S 37 1 A e.words.length (dV e.words)
theorem Xz.mono{S S':sZ}(h:∀t sz A n xs,S t sz A n xs→S' t sz A n xs){e:kF}{r:List Value}(k:Xz S e r):Xz S' e r:=by
 obtain⟨A,c,h1,h2⟩:=k;exact⟨A,c,h1,h _ _ _ _ _ h2⟩
def jO(es:List kF)(rows:List (List Value))(p:Piece):Prop:=Rows (Xz (fI p)) 14 es rows
theorem jO.le{es:List kF}{rows:List (List Value)}(p q:Piece)(h:p.Le q)(k:jO es rows p):jO es rows q:=Rows.mono (fun _ _=>Xz.mono (kG h)) k
theorem aDR{α:Type}{R:α→List Value→Prop}{sz:Nat}:∀{es es':List α} {rs rs':List (List Value)},Rows R sz es rs→Rows R sz es' rs'→Rows R sz (es++es') (rs++rs')
 | [],_,[],_,_,h=>h
 | [],_,_::_,_,h,_=>h.elim
 | _::_,_,[],_,h,_=>h.elim
 | _::_,_,_::_,_,h,k=>⟨h.1,h.2.1,aDR h.2.2 k⟩
theorem jO.one{e:kF}{A:Option Addr}{c:Nat}{p:Piece}(h:aI p 1 A e.words.length (dV e.words)):jO [e] [e.row A c] p:=⟨rfl,⟨A,c,rfl,h⟩,trivial⟩
theorem aSn{e:kF}{p:Piece}(h:e.words=[]):jO [e] [e.row none 0] p:=⟨rfl,⟨none,0,rfl,by rw[h];exact aI.nil _ _⟩,trivial⟩
def mB(es:List kF)(rows:List (List Value)):HP:=HP.bU (jO es rows) (jO.le (es:=es) (rows:=rows))
structure jD where
 A:Option Addr
 c:Nat
 rows:List (List Value)
def lD(f r:Nat)(hL:HL)(s:aC)(w:bA)(L:jD):List Value:=
  [.pointer (some ⟨hL.h,0,none⟩),pt f,pt r,iv s.aD.length,iv (s.domains.length+s.aF.length+s.aY.length:Nat),
   .int .u8 (w.cl 0).k,iv (w.cl 0).d,iv (w.cl 0).r,.int .u32 (w.cl 0).v,.int .u8 (w.cl 1).k,iv (w.cl 1).d,iv (w.cl 1).r,.int .u32 (w.cl 1).v,.int .u8 (w.cl 2).k,iv (w.cl 2).d,iv (w.cl 2).r,.int .u32 (w.cl 2).v,
   .bool (w.wt 0),.bool (w.wt 1),.bool (w.wt 2),.slice L.A w.es.length L.c]
def kE(g f r:Nat)(hL:HL)(s:aC)(w:bA)(L:jD):HP:=HP.many [HP.aE g 103 (lD f r hL s w L),iO r f hL s w.m,HP.own 46 14 (.slice L.A w.es.length L.c) w.es.length L.rows.flatten,mB w.es L.rows]
def dI(g f r:Nat)(hL:HL)(s:aC)(w:bA):HP:=HP.ex fun L:jD=>kE g f r hL s w L
end
section
theorem aOI(t:TypeId)(sz:Nat)(w:World):(HP.own t sz (.slice none 0 0) 0 []).sat (fun _=>False) w:=⟨fun g h=>by simp[Value.ownBlock] at h,by simp,.inl ⟨rfl,rfl⟩⟩
theorem aOK(w:World):(mB [] []).sat (fun _=>False) w:=(trivial:jO [] [] ⟨w,fun _=>False⟩)
def aDK(s:aC)(v:Value)(hs:List HP)(_:Piece):Prop:=∃(g f r:Nat) (hL:HL),v=.tuple #[pt g,iv 0]∧hs=[dI g f r hL s (Ni s)]∧gA hL s
theorem aE4(s:aC)(A1 A2 A3 A4:Option Addr)(n1 k1 n2 k2 n3 k3 n4 k4:Nat)(w:World)(hW:iD w s A1 n1 A2 n2 A3 n3 A4 n4)(hm:s.made):
  Cz 23 #[.agg #[.slice A1 n1 k1,.slice A2 n2 k2,.slice A3 n3 k3,.slice A4 n4 k4]] w (fun y w'=>(∃v hs q,y=.returned v∧q.w=w'∧aDK s v hs q∧fZ w hs q)∧Below w.heap.size w w'):=by
 have hH:=hm.dK
 have hnc:=hm.nc
 have hnd:=hm.nd
 have iN:=hm.nr
 obtain rfl:=hW.qT;obtain rfl:=hW.qS;obtain rfl:=hW.tQ;obtain rfl:=hW.sE;refine aO func23 ntmps23 ?_;refine aB ?_;refine bO fun g1=>?_;refine aB ?_;refine eM (aI7 s) (fun w1 t=>aNQ s hH A1 A2 A3 A4 _ k1 _ k2 _ k3 _ k4 w1 (hW.le (t.started (by simp)))) ?_;rintro _ _ q2 ⟨hL,rfl,rfl,iA,De⟩ _;dsimp only[List.cons_append,List.nil_append];refine aB ?_;refine eM (aIG hL.h s) (fun w1 t=>aO3 hL.h s hH A1 A2 A3 A4 _ k1 _ k2 _ k3 _ k4 w1 (hW.le (t.started (by simp)))) ?_;rintro _ _ q3 ⟨f,rfl,rfl⟩ _;dsimp only[List.cons_append,List.nil_append];refine aB ?_;refine eM (aIt hL.h f s) (fun w1 t=>aKD s A1 A2 A3 A4 _ k1 _ k2 _ k3 _ k4 w1 hL.h f hm (hW.le (t.started (by simp)))) ?_;rintro _ _ q4 ⟨r,rfl,rfl⟩ _;dsimp only[List.cons_append,List.nil_append];refine aB ?_;refine bO fun g=>?_;refine aB ?_;refine aT [1,2,3,0] rfl (by decide) (R':=[all w]) (by simp) ?_;refine vI ?_;refine nU (p:=mB [] []) aOK ?_;refine nU (p:=HP.own 46 14 (.slice none 0 0) 0 []) (aOI _ _) ?_;refine aT [3,2,0,1] rfl (by decide) (R':=[all w]) (by simp) ?_;refine mR ?_;refine qG ?_;refine qG ?_;refine uJ 0 (f:=fun L:jD=>kE g f r hL s (Ni s) L) ⟨none,0,[]⟩ rfl ?_;dsimp only[List.set];refine dG [] [] [0] (by simp) rfl (by decide) (by decide) fun q _ _ hfr=>?_;exact fS rfl rfl rfl fun w1 t=>⟨⟨_,_,⟨w1,q.Z⟩,rfl,rfl,⟨g,f,r,hL,rfl,rfl,⟨iA,De⟩⟩,t.newR (by simp) (by simp) (hfr (by simp) (by simp))⟩,t.below (by simp)⟩
end
section
def aIm(g f r:Nat)(hL:HL)(s:aC)(W:bA)(gs:Nat)(es':List kF)(zX:List (List Value)):HP:=HP.many [dI g f r hL s W,HP.aE gs 46 zX.flatten,mB es' zX]
section
variable(g f r:Nat)(hL:HL)(s:aC)(W:bA)(w:World)(F:Nat→Prop)
theorem aE2(es':List kF)(zX:List (List Value))(gs m c:Nat)(hm:es'.length=m)(hl:zX.flatten.length=m*14)(h1:∀u∈zX.flatten,u.oneCell'=true)(hn:W.es.length+es'.length≤1000000000)
  (hp:(aIm g f r hL s W gs es' zX).sat F w) (hF:∀b,F b→b < w.heap.size):
  Cz 40 #[pt g,.slice (some ⟨gs,0,none⟩) m c] w (Wr (.tuple #[]) (dI g f r hL s {W with es:=W.es++es'}) w F):=by
 have fN:(W.es++es').length=W.es.length+m:=by rw[List.length_append,hm]
 refine cT func40 ntmps40 hp hF ?_;refine aW 0 0 ?_;refine aW 1 1 ?_;refine aW 2 2 ?_;refine iT 2 fun L=>?_;refine aW 2 0 ?_;refine aW 3 2 ?_;refine aW 4 3 ?_;dsimp only[lD];refine aB ?_;refine gY 1 14 120 m (n':=(W.es++es').length) (el:=46) (by kernel_rfl) (by kernel_rfl) (by decide) rfl rfl rfl (lV 4 rfl hl) h1 (by rw[List.length_append,hm]) (by have:=fN;omega) (by have:=fN;omega) (by decide) fun A' c'=>?_;dsimp only[List.set];rw[←List.flatten_append];refine aB ?_;refine aT [0,3,1,2,5] rfl (by decide) (fun _ h=>h) ?_;refine Jn (X:=jO (W.es++es') (L.rows++zX)) (h3:=jO.le) (fun p h1 h2=>aDR h1 h2) ?_;refine aJ 2 3 ?_;refine aJ 1 2 ?_;refine aJ 0 0 ?_;refine cQ 0 (fun L:jD=>kE g f r hL s {W with es:=W.es++es'} L) ⟨A',c',L.rows++zX⟩ ?_;exact fA 0 hF
theorem Hi(e:kF)(A:Option Addr)(k gs:Nat)(hn:W.es.length≤900000000)(hp:(aIm g f r hL s W gs [e] [e.row A k]).sat F w)(hF:∀b,F b→b < w.heap.size):
  Cz 40 #[pt g,.slice (some ⟨gs,0,none⟩) 1 1] w (Wr (.tuple #[]) (dI g f r hL s {W with es:=W.es++[e]}) w F):=
 aE2 g f r hL s W w F [e] [e.row A k] gs 1 1 rfl rfl (by simp[kF.row,Value.oneCell']) (by simp;omega) hp hF
theorem Qa(e:kF)(h:e.words=[])(w:World):(mB [e] [e.row none 0]).sat (fun _=>False) w:=aSn (p:=⟨w,fun _=>False⟩) h
theorem aJX{z:bL}{t k d r v:Int}(h:(wE z t k d r v).1=0):t=0∨t=1∨t=2:=by
 unfold wE at h;split at h
 ·simp at h
 ·rename_i hin
  obtain⟨j,rfl,hj⟩:=Ew (t:=t) (by simpa using hin);omega
theorem aJt(t k d q v:Int)(hp:(dI g f r hL s W).sat F w)(hF:∀b,F b→b < w.heap.size):
  Cz 34 #[pt g,iv t,.agg #[.int .u8 k,iv d,iv q,.int .u32 v]] w (Wr (iv (W.call t ⟨k,d,q,v⟩).1) (dI g f r hL s (W.call t ⟨k,d,q,v⟩).2) w F):=by
 unfold bA.call;refine cT func34 ntmps34 hp hF ?_;refine aB ?_;refine bO fun g5=>?_;refine aB ?_;refine iT 1 fun L=>?_;refine aW 1 0 ?_;refine aW 2 1 ?_;dsimp only[lD];refine Gq [1,2,3,5] ?_;refine bJ 0 ?_ (hsub:=fun _ h=>h.bM);refine aK 1 ?_ (hsub:=fun _ h=>h.bM);refine aK 2 ?_ (hsub:=fun _ h=>h.bM);refine aK 3 ?_ (hsub:=fun _ h=>h.bM);refine bJ 4 ?_ (hsub:=fun _ h=>h.bM);refine aK 5 ?_ (hsub:=fun _ h=>h.bM);refine aL 6 ?_;refine bT 0 (iO r f hL s (W.m.start t k d q v)) (fun w1 F1 t1 h1 h2 h3=>aM7 r f hL s W.m w1 F1 t k d q v h1 h2) ?_;refine bB ?_ (hS:=fun _ h=>h.bM);refine sV [7] ?_;refine aB ?_;refine aG rfl (fun he=>?_) (fun he=>?_)
 ·rw[if_pos he];refine aB ?_;refine aJ 2 1 ?_;refine aJ 1 0 ?_;refine cQ 1 (fun L:jD=>kE g f r hL s {W with m:=W.m.start t k d q v} L) L ?_;exact bP 1 hF
 ·have h0:=Decidable.not_not.1 he
  rw[if_neg he,h0];rcases aJX h0 with rfl | rfl | rfl
  ·refine aB ?_;refine aT [1,0,2,3] rfl (by decide) (fun _ h=>h) ?_;refine Gq [4,5,6,7,9,10] ?_;refine bJ 0 ?_ (hsub:=fun _ h=>h.bM);refine bJ 1 ?_ (hsub:=fun _ h=>h.bM);refine bJ 2 ?_ (hsub:=fun _ h=>h.bM);refine bJ 3 ?_ (hsub:=fun _ h=>h.bM);refine aK 4 ?_ (hsub:=fun _ h=>h.bM);refine aK 5 ?_ (hsub:=fun _ h=>h.bM);refine aK 6 ?_ (hsub:=fun _ h=>h.bM);refine aK 7 ?_ (hsub:=fun _ h=>h.bM) (cM:=by exact fG 0 5);refine aK 9 ?_ (hsub:=fun _ h=>h.bM);refine aK 10 ?_ (hsub:=fun _ h=>h.bM);refine aL 8 ?_;refine Cv 0 rfl ?_;dsimp only[List.set];simp only[fR,List.take,List.drop,List.nil_append,List.append_nil,List.length_cons,List.length_nil,List.cons_append,Nat.reduceAdd];refine bB ?_ (hS:=fun _ h=>h.bM);refine aL 11 ?_;refine kd (fG 0 17) ?_;refine bB ?_ (hS:=fun _ h=>h.bM);refine aL 12 ?_;refine eO rfl rfl ?_;dsimp only[List.set];refine bB ?_ (hS:=fun _ h=>h.bM);refine dY ?_;refine aB ?_;refine oA (q:=HP.aE g 103 (lD f r hL s {W with m:=W.m.start 0 k d q v,cl:=iL W.cl (0:Int).toNat ⟨k,d,q,v⟩,wt:=iL W.wt (0:Int).toNat true} L)) 0 rfl (fun F w h=>by simpa[lD,iL] using h) ?_;dsimp only[List.set];refine aJ 2 0 ?_;refine aJ 1 1 ?_;refine cQ 1 (fun L:jD=>kE g f r hL s {W with m:=W.m.start 0 k d q v,cl:=iL W.cl (0:Int).toNat ⟨k,d,q,v⟩,wt:=iL W.wt (0:Int).toNat true} L) L ?_;exact bP 1 hF
  ·refine aB ?_;refine aT [1,0,2,3] rfl (by decide) (fun _ h=>h) ?_;refine Gq [4,5,6,7,9,10] ?_;refine bJ 0 ?_ (hsub:=fun _ h=>h.bM);refine bJ 1 ?_ (hsub:=fun _ h=>h.bM);refine bJ 2 ?_ (hsub:=fun _ h=>h.bM);refine bJ 3 ?_ (hsub:=fun _ h=>h.bM);refine aK 4 ?_ (hsub:=fun _ h=>h.bM);refine aK 5 ?_ (hsub:=fun _ h=>h.bM);refine aK 6 ?_ (hsub:=fun _ h=>h.bM);refine aK 7 ?_ (hsub:=fun _ h=>h.bM) (cM:=by exact fG 1 9);refine aK 9 ?_ (hsub:=fun _ h=>h.bM);refine aK 10 ?_ (hsub:=fun _ h=>h.bM);refine aL 8 ?_;refine Cv 0 rfl ?_;dsimp only[List.set];simp only[fR,List.take,List.drop,List.nil_append,List.append_nil,List.length_cons,List.length_nil,List.cons_append,Nat.reduceAdd];refine bB ?_ (hS:=fun _ h=>h.bM);refine aL 11 ?_;refine kd (fG 1 18) ?_;refine bB ?_ (hS:=fun _ h=>h.bM);refine aL 12 ?_;refine eO rfl rfl ?_;dsimp only[List.set];refine bB ?_ (hS:=fun _ h=>h.bM);refine dY ?_;refine aB ?_;refine oA (q:=HP.aE g 103 (lD f r hL s {W with m:=W.m.start 1 k d q v,cl:=iL W.cl (1:Int).toNat ⟨k,d,q,v⟩,wt:=iL W.wt (1:Int).toNat true} L)) 0 rfl (fun F w h=>by simpa[lD,iL] using h) ?_;dsimp only[List.set];refine aJ 2 0 ?_;refine aJ 1 1 ?_;refine cQ 1 (fun L:jD=>kE g f r hL s {W with m:=W.m.start 1 k d q v,cl:=iL W.cl (1:Int).toNat ⟨k,d,q,v⟩,wt:=iL W.wt (1:Int).toNat true} L) L ?_;exact bP 1 hF
  ·refine aB ?_;refine aT [1,0,2,3] rfl (by decide) (fun _ h=>h) ?_;refine Gq [4,5,6,7,9,10] ?_;refine bJ 0 ?_ (hsub:=fun _ h=>h.bM);refine bJ 1 ?_ (hsub:=fun _ h=>h.bM);refine bJ 2 ?_ (hsub:=fun _ h=>h.bM);refine bJ 3 ?_ (hsub:=fun _ h=>h.bM);refine aK 4 ?_ (hsub:=fun _ h=>h.bM);refine aK 5 ?_ (hsub:=fun _ h=>h.bM);refine aK 6 ?_ (hsub:=fun _ h=>h.bM);refine aK 7 ?_ (hsub:=fun _ h=>h.bM) (cM:=by exact fG 2 13);refine aK 9 ?_ (hsub:=fun _ h=>h.bM);refine aK 10 ?_ (hsub:=fun _ h=>h.bM);refine aL 8 ?_;refine Cv 0 rfl ?_;dsimp only[List.set];simp only[fR,List.take,List.drop,List.nil_append,List.append_nil,List.length_cons,List.length_nil,List.cons_append,Nat.reduceAdd];refine bB ?_ (hS:=fun _ h=>h.bM);refine aL 11 ?_;refine kd (fG 2 19) ?_;refine bB ?_ (hS:=fun _ h=>h.bM);refine aL 12 ?_;refine eO rfl rfl ?_;dsimp only[List.set];refine bB ?_ (hS:=fun _ h=>h.bM);refine dY ?_;refine aB ?_;refine oA (q:=HP.aE g 103 (lD f r hL s {W with m:=W.m.start 2 k d q v,cl:=iL W.cl (2:Int).toNat ⟨k,d,q,v⟩,wt:=iL W.wt (2:Int).toNat true} L)) 0 rfl (fun F w h=>by simpa[lD,iL] using h) ?_;dsimp only[List.set];refine aJ 2 0 ?_;refine aJ 1 1 ?_;refine cQ 1 (fun L:jD=>kE g f r hL s {W with m:=W.m.start 2 k d q v,cl:=iL W.cl (2:Int).toNat ⟨k,d,q,v⟩,wt:=iL W.wt (2:Int).toNat true} L) L ?_;exact bP 1 hF
theorem aPd{z:bL}{t:Int}(h:(pS z t).1.2.2=true):t=0∨t=1∨t=2:=by
 unfold pS at h;split at h
 ·simp at h
 ·rename_i hin
  obtain⟨j,rfl,hj⟩:=Ew (t:=t) (by simpa using hin);omega
theorem xZ(hn:W.es.length≤900000000)(t:Int)(hp:(dI g f r hL s W).sat F w)(hF:∀b,F b→b < w.heap.size):
  Cz 88 #[pt g,iv t] w (Wr (.tuple #[]) (dI g f r hL s (W.end_ t)) w F):=by
 unfold bA.end_;refine cT func88 ntmps88 hp hF ?_;refine iT 0 fun L=>?_;refine aW 0 0 ?_;refine aW 1 1 ?_;dsimp only[lD];refine aB ?_;refine bT 0 (iO r f hL s (W.m.done t)) (fun w1 F1 t1 h1 h2 h3=>aMA r f hL s W.m w1 F1 t h1 h2) ?_;refine aB ?_;refine bY fun g4=>?_;refine aB ?_;cases hb:(pS W.m.z t).1.2.2 with
 | false=>
  rw[if_neg (by decide)];refine aB ?_;refine aT [1,2,3] rfl (by decide) (fun _ h=>h) ?_;refine aJ 1 1 ?_;refine aJ 0 0 ?_;refine cQ 0 (fun L:jD=>kE g f r hL s {W with m:=W.m.done t} L) L ?_;exact fA 0 hF
 | true =>
  rw[if_pos rfl];refine aB ?_;rcases aPd hb with rfl | rfl | rfl
  ·refine rE ?_;refine mG 7 ?_ (cM:=jM rfl (aM.mid (vs:=[.int .u8 (W.cl 0).k,iv (W.cl 0).d,iv (W.cl 0).r,.int .u32 (W.cl 0).v]) 2 rfl rfl));refine mG 9 ?_;refine aL 10 ?_;refine eH fun g2=>?_;refine bB ?_;refine sV [11] ?_;refine aT [2,3,4,0] rfl (by decide) (fun _ h=>h) ?_;refine aJ 1 1 ?_;refine aJ 0 0 ?_;refine cQ 0 (fun L:jD=>kE g f r hL s {W with m:=W.m.done 0} L) L ?_;refine nU (p:=mB [xC W 0] [(xC W 0).row none 0]) (Qa _ rfl) ?_;refine aT [1,2,0] rfl (by decide) (fun _ h=>h) ?_;refine vI ?_;refine bT 0 (dI g f r hL s {W with m:=W.m.done 0,es:=W.es++[xC W 0]}) (fun w1 F1 t1 h1 h2 h3=>Hi g f r hL s {W with m:=W.m.done 0} w1 F1 (xC W 0) none 0 g2 hn h1 h2) ?_;exact fA 0 hF
  ·refine rE ?_;refine mG 7 ?_ (cM:=jM rfl (aM.mid (vs:=[.int .u8 (W.cl 1).k,iv (W.cl 1).d,iv (W.cl 1).r,.int .u32 (W.cl 1).v]) 2 rfl rfl));refine mG 9 ?_;refine aL 10 ?_;refine eH fun g2=>?_;refine bB ?_;refine sV [11] ?_;refine aT [2,3,4,0] rfl (by decide) (fun _ h=>h) ?_;refine aJ 1 1 ?_;refine aJ 0 0 ?_;refine cQ 0 (fun L:jD=>kE g f r hL s {W with m:=W.m.done 1} L) L ?_;refine nU (p:=mB [xC W 1] [(xC W 1).row none 0]) (Qa _ rfl) ?_;refine aT [1,2,0] rfl (by decide) (fun _ h=>h) ?_;refine vI ?_;refine bT 0 (dI g f r hL s {W with m:=W.m.done 1,es:=W.es++[xC W 1]}) (fun w1 F1 t1 h1 h2 h3=>Hi g f r hL s {W with m:=W.m.done 1} w1 F1 (xC W 1) none 0 g2 hn h1 h2) ?_;exact fA 0 hF
  ·refine rE ?_;refine mG 7 ?_ (cM:=jM rfl (aM.mid (vs:=[.int .u8 (W.cl 2).k,iv (W.cl 2).d,iv (W.cl 2).r,.int .u32 (W.cl 2).v]) 2 rfl rfl));refine mG 9 ?_;refine aL 10 ?_;refine eH fun g2=>?_;refine bB ?_;refine sV [11] ?_;refine aT [2,3,4,0] rfl (by decide) (fun _ h=>h) ?_;refine aJ 1 1 ?_;refine aJ 0 0 ?_;refine cQ 0 (fun L:jD=>kE g f r hL s {W with m:=W.m.done 2} L) L ?_;refine nU (p:=mB [xC W 2] [(xC W 2).row none 0]) (Qa _ rfl) ?_;refine aT [1,2,0] rfl (by decide) (fun _ h=>h) ?_;refine vI ?_;refine bT 0 (dI g f r hL s {W with m:=W.m.done 2,es:=W.es++[xC W 2]}) (fun w1 F1 t1 h1 h2 h3=>Hi g f r hL s {W with m:=W.m.done 2} w1 F1 (xC W 2) none 0 g2 hn h1 h2) ?_;exact fA 0 hF
end
end
section
section
variable(g f r:Nat)(hL:HL)(s:aC)(n:Nat)(W:bA)(w:World)(F:Nat→Prop)
theorem aJr(hm:s.made)(aQ:gA hL s)(hok:iB s n W)(hn:n≤50000000)(t:Int)(cZ:eG ⟨w,fun b=>b < w.heap.size∧¬F b⟩)(hp:(dI g f r hL s W).sat F w)(hF:∀b,F b→b < w.heap.size):
  Cz 35 #[pt g,iv t] w (Wr (.tuple #[]) (dI g f r hL s (W.task s t)) w F):=by
 have Vi:=hok.es
 have gM:W.es.length≤900000000:=by omega
 refine cT func35 ntmps35 hp hF ?_;refine iT 0 fun L=>?_;refine aW 0 0 ?_;refine aW 1 1 ?_;dsimp only[lD];refine aB ?_;refine cG (t:=7) rfl (fun h0=>?_) (fun h0=>?_)
 ·refine aB ?_;refine cG (t:=11) rfl (fun h3=>?_) (fun h3=>?_)
  ·rcases(show t=0∨t=1∨t=2 by omega) with rfl | rfl | rfl
   ·refine aB ?_;refine pX (t:=19) rfl (fun hw=>?_) (fun hw=>?_)
    ·refine aB ?_;refine aS (fun w1 t1=>aCe r f hL s W.m w1 0 t1 rfl) ?_;refine aB ?_;refine bT 0 (iO r f hL s (W.m.step s 0)) (fun w1 F1 t1 h1 h2 h3=>Ic r f hL s n W.m w1 F1 hm aQ hok.m (by omega) 0 h1 h2 (eG.le cZ (h3 _ (by simp)))) ?_;refine aB ?_;refine aG rfl (fun hlt=>?_) (fun hge=>?_)
     ·have hb:W.nJ 0=true:=by unfold bA.nJ;rw[show W.wt (0:Int).toNat=W.wt 0 from rfl,hw,decide_eq_true hlt];rfl
      have tZ:(W.es++[nR W 0]).length≤900000000:=by rw[List.length_append];exact Nat.le_trans (Nat.add_le_add_right Vi 1) (by omega)
      refine aB ?_;refine kd (jM rfl (aM.mid (vs:=[.int .u8 (W.cl 0).k,iv (W.cl 0).d,iv (W.cl 0).r,.int .u32 (W.cl 0).v]) 1 rfl rfl)) ?_;refine aB ?_;refine eH fun g2=>?_;refine aB ?_;refine aT [1,2,3,0] rfl (by decide) (fun _ h=>h) ?_;refine oA (q:=HP.aE g 103 (lD f r hL s {W with m:=W.m.step s 0,wt:=iL W.wt (0:Int).toNat false} L)) 1 rfl (fun F w h=>by simpa[lD,iL] using h) ?_;dsimp only[List.set];refine aJ 1 1 ?_;refine aJ 0 0 ?_;refine cQ 0 (fun L:jD=>kE g f r hL s {W with m:=W.m.step s 0,wt:=iL W.wt (0:Int).toNat false} L) L ?_;refine nU (p:=mB [nR W 0] [(nR W 0).row none 0]) (Qa _ rfl) ?_;refine aT [1,2,0] rfl (by decide) (fun _ h=>h) ?_;refine vI ?_;refine bT 0 (dI g f r hL s {W with m:=W.m.step s 0,wt:=iL W.wt (0:Int).toNat false,es:=W.es++[nR W 0]}) (fun w1 F1 t1 h1 h2 h3=>Hi g f r hL s {W with m:=W.m.step s 0,wt:=iL W.wt (0:Int).toNat false} w1 F1 (nR W 0) none 0 g2 gM h1 h2) ?_;refine aB ?_
      refine bT 0 (dI g f r hL s (W.task s 0)) (fun w1 F1 t1 h1 h2 h3=>by
       have:=xZ g f r hL s {W with m:=W.m.step s 0,wt:=iL W.wt (0:Int).toNat false,es:=W.es++[nR W 0]} w1 F1 (by first | exact gM | exact tZ) 0 h1 h2
       rwa [show bA.end_ {W with m:=W.m.step s 0,wt:=iL W.wt (0:Int).toNat false,es:=W.es++[nR W 0]} 0=W.task s 0 by unfold bA.task bA.pZ;rw[hb];rfl] at this) ?_
      exact fA 0 hF
     ·have hb:W.nJ 0=false:=by unfold bA.nJ;rw[show W.wt (0:Int).toNat=W.wt 0 from rfl,hw,decide_eq_false hge];rfl
      refine aB ?_;refine aJ 1 1 ?_;refine aJ 0 0 ?_;refine cQ 0 (fun L:jD=>kE g f r hL s {W with m:=W.m.step s 0} L) L ?_;refine aB ?_
      refine bT 0 (dI g f r hL s (W.task s 0)) (fun w1 F1 t1 h1 h2 h3=>by
       have:=xZ g f r hL s {W with m:=W.m.step s 0} w1 F1 (by first | exact gM | exact tZ) 0 h1 h2
       rwa [show bA.end_ {W with m:=W.m.step s 0} 0=W.task s 0 by unfold bA.task bA.pZ;rw[hb];rfl] at this) ?_
      exact fA 0 hF
    ·have hb:W.nJ 0=false:=by unfold bA.nJ;rw[show W.wt (0:Int).toNat=W.wt 0 from rfl,hw];rfl
     refine aB ?_;refine bT 0 (iO r f hL s (W.m.step s 0)) (fun w1 F1 t1 h1 h2 h3=>Ic r f hL s n W.m w1 F1 hm aQ hok.m (by omega) 0 h1 h2 (eG.le cZ (h3 _ (by simp)))) ?_;refine aB ?_;refine aJ 1 1 ?_;refine aJ 0 0 ?_;refine cQ 0 (fun L:jD=>kE g f r hL s {W with m:=W.m.step s 0} L) L ?_;refine aB ?_
     refine bT 0 (dI g f r hL s (W.task s 0)) (fun w1 F1 t1 h1 h2 h3=>by
      have:=xZ g f r hL s {W with m:=W.m.step s 0} w1 F1 (by first | exact gM | exact tZ) 0 h1 h2
      rwa [show bA.end_ {W with m:=W.m.step s 0} 0=W.task s 0 by unfold bA.task bA.pZ;rw[hb];rfl] at this) ?_
     exact fA 0 hF
   ·refine aB ?_;refine pX (t:=19) rfl (fun hw=>?_) (fun hw=>?_)
    ·refine aB ?_;refine aS (fun w1 t1=>aCe r f hL s W.m w1 0 t1 rfl) ?_;refine aB ?_;refine bT 0 (iO r f hL s (W.m.step s 1)) (fun w1 F1 t1 h1 h2 h3=>Ic r f hL s n W.m w1 F1 hm aQ hok.m (by omega) 1 h1 h2 (eG.le cZ (h3 _ (by simp)))) ?_;refine aB ?_;refine aG rfl (fun hlt=>?_) (fun hge=>?_)
     ·have hb:W.nJ 1=true:=by unfold bA.nJ;rw[show W.wt (1:Int).toNat=W.wt 1 from rfl,hw,decide_eq_true hlt];rfl
      have tZ:(W.es++[nR W 1]).length≤900000000:=by rw[List.length_append];exact Nat.le_trans (Nat.add_le_add_right Vi 1) (by omega)
      refine aB ?_;refine kd (jM rfl (aM.mid (vs:=[.int .u8 (W.cl 1).k,iv (W.cl 1).d,iv (W.cl 1).r,.int .u32 (W.cl 1).v]) 1 rfl rfl)) ?_;refine aB ?_;refine eH fun g2=>?_;refine aB ?_;refine aT [1,2,3,0] rfl (by decide) (fun _ h=>h) ?_;refine oA (q:=HP.aE g 103 (lD f r hL s {W with m:=W.m.step s 1,wt:=iL W.wt (1:Int).toNat false} L)) 1 rfl (fun F w h=>by simpa[lD,iL] using h) ?_;dsimp only[List.set];refine aJ 1 1 ?_;refine aJ 0 0 ?_;refine cQ 0 (fun L:jD=>kE g f r hL s {W with m:=W.m.step s 1,wt:=iL W.wt (1:Int).toNat false} L) L ?_;refine nU (p:=mB [nR W 1] [(nR W 1).row none 0]) (Qa _ rfl) ?_;refine aT [1,2,0] rfl (by decide) (fun _ h=>h) ?_;refine vI ?_;refine bT 0 (dI g f r hL s {W with m:=W.m.step s 1,wt:=iL W.wt (1:Int).toNat false,es:=W.es++[nR W 1]}) (fun w1 F1 t1 h1 h2 h3=>Hi g f r hL s {W with m:=W.m.step s 1,wt:=iL W.wt (1:Int).toNat false} w1 F1 (nR W 1) none 0 g2 gM h1 h2) ?_;refine aB ?_
      refine bT 0 (dI g f r hL s (W.task s 1)) (fun w1 F1 t1 h1 h2 h3=>by
       have:=xZ g f r hL s {W with m:=W.m.step s 1,wt:=iL W.wt (1:Int).toNat false,es:=W.es++[nR W 1]} w1 F1 (by first | exact gM | exact tZ) 1 h1 h2
       rwa [show bA.end_ {W with m:=W.m.step s 1,wt:=iL W.wt (1:Int).toNat false,es:=W.es++[nR W 1]} 1=W.task s 1 by unfold bA.task bA.pZ;rw[hb];rfl] at this) ?_
      exact fA 0 hF
     ·have hb:W.nJ 1=false:=by unfold bA.nJ;rw[show W.wt (1:Int).toNat=W.wt 1 from rfl,hw,decide_eq_false hge];rfl
      refine aB ?_;refine aJ 1 1 ?_;refine aJ 0 0 ?_;refine cQ 0 (fun L:jD=>kE g f r hL s {W with m:=W.m.step s 1} L) L ?_;refine aB ?_
      refine bT 0 (dI g f r hL s (W.task s 1)) (fun w1 F1 t1 h1 h2 h3=>by
       have:=xZ g f r hL s {W with m:=W.m.step s 1} w1 F1 (by first | exact gM | exact tZ) 1 h1 h2
       rwa [show bA.end_ {W with m:=W.m.step s 1} 1=W.task s 1 by unfold bA.task bA.pZ;rw[hb];rfl] at this) ?_
      exact fA 0 hF
    ·have hb:W.nJ 1=false:=by unfold bA.nJ;rw[show W.wt (1:Int).toNat=W.wt 1 from rfl,hw];rfl
     refine aB ?_;refine bT 0 (iO r f hL s (W.m.step s 1)) (fun w1 F1 t1 h1 h2 h3=>Ic r f hL s n W.m w1 F1 hm aQ hok.m (by omega) 1 h1 h2 (eG.le cZ (h3 _ (by simp)))) ?_;refine aB ?_;refine aJ 1 1 ?_;refine aJ 0 0 ?_;refine cQ 0 (fun L:jD=>kE g f r hL s {W with m:=W.m.step s 1} L) L ?_;refine aB ?_
     refine bT 0 (dI g f r hL s (W.task s 1)) (fun w1 F1 t1 h1 h2 h3=>by
      have:=xZ g f r hL s {W with m:=W.m.step s 1} w1 F1 (by first | exact gM | exact tZ) 1 h1 h2
      rwa [show bA.end_ {W with m:=W.m.step s 1} 1=W.task s 1 by unfold bA.task bA.pZ;rw[hb];rfl] at this) ?_
     exact fA 0 hF
   ·refine aB ?_;refine pX (t:=19) rfl (fun hw=>?_) (fun hw=>?_)
    ·refine aB ?_;refine aS (fun w1 t1=>aCe r f hL s W.m w1 0 t1 rfl) ?_;refine aB ?_;refine bT 0 (iO r f hL s (W.m.step s 2)) (fun w1 F1 t1 h1 h2 h3=>Ic r f hL s n W.m w1 F1 hm aQ hok.m (by omega) 2 h1 h2 (eG.le cZ (h3 _ (by simp)))) ?_;refine aB ?_;refine aG rfl (fun hlt=>?_) (fun hge=>?_)
     ·have hb:W.nJ 2=true:=by unfold bA.nJ;rw[show W.wt (2:Int).toNat=W.wt 2 from rfl,hw,decide_eq_true hlt];rfl
      have tZ:(W.es++[nR W 2]).length≤900000000:=by rw[List.length_append];exact Nat.le_trans (Nat.add_le_add_right Vi 1) (by omega)
      refine aB ?_;refine kd (jM rfl (aM.mid (vs:=[.int .u8 (W.cl 2).k,iv (W.cl 2).d,iv (W.cl 2).r,.int .u32 (W.cl 2).v]) 1 rfl rfl)) ?_;refine aB ?_;refine eH fun g2=>?_;refine aB ?_;refine aT [1,2,3,0] rfl (by decide) (fun _ h=>h) ?_;refine oA (q:=HP.aE g 103 (lD f r hL s {W with m:=W.m.step s 2,wt:=iL W.wt (2:Int).toNat false} L)) 1 rfl (fun F w h=>by simpa[lD,iL] using h) ?_;dsimp only[List.set];refine aJ 1 1 ?_;refine aJ 0 0 ?_;refine cQ 0 (fun L:jD=>kE g f r hL s {W with m:=W.m.step s 2,wt:=iL W.wt (2:Int).toNat false} L) L ?_;refine nU (p:=mB [nR W 2] [(nR W 2).row none 0]) (Qa _ rfl) ?_;refine aT [1,2,0] rfl (by decide) (fun _ h=>h) ?_;refine vI ?_;refine bT 0 (dI g f r hL s {W with m:=W.m.step s 2,wt:=iL W.wt (2:Int).toNat false,es:=W.es++[nR W 2]}) (fun w1 F1 t1 h1 h2 h3=>Hi g f r hL s {W with m:=W.m.step s 2,wt:=iL W.wt (2:Int).toNat false} w1 F1 (nR W 2) none 0 g2 gM h1 h2) ?_;refine aB ?_
      refine bT 0 (dI g f r hL s (W.task s 2)) (fun w1 F1 t1 h1 h2 h3=>by
       have:=xZ g f r hL s {W with m:=W.m.step s 2,wt:=iL W.wt (2:Int).toNat false,es:=W.es++[nR W 2]} w1 F1 (by first | exact gM | exact tZ) 2 h1 h2
       rwa [show bA.end_ {W with m:=W.m.step s 2,wt:=iL W.wt (2:Int).toNat false,es:=W.es++[nR W 2]} 2=W.task s 2 by unfold bA.task bA.pZ;rw[hb];rfl] at this) ?_
      exact fA 0 hF
     ·have hb:W.nJ 2=false:=by unfold bA.nJ;rw[show W.wt (2:Int).toNat=W.wt 2 from rfl,hw,decide_eq_false hge];rfl
      refine aB ?_;refine aJ 1 1 ?_;refine aJ 0 0 ?_;refine cQ 0 (fun L:jD=>kE g f r hL s {W with m:=W.m.step s 2} L) L ?_;refine aB ?_
      refine bT 0 (dI g f r hL s (W.task s 2)) (fun w1 F1 t1 h1 h2 h3=>by
       have:=xZ g f r hL s {W with m:=W.m.step s 2} w1 F1 (by first | exact gM | exact tZ) 2 h1 h2
       rwa [show bA.end_ {W with m:=W.m.step s 2} 2=W.task s 2 by unfold bA.task bA.pZ;rw[hb];rfl] at this) ?_
      exact fA 0 hF
    ·have hb:W.nJ 2=false:=by unfold bA.nJ;rw[show W.wt (2:Int).toNat=W.wt 2 from rfl,hw];rfl
     refine aB ?_;refine bT 0 (iO r f hL s (W.m.step s 2)) (fun w1 F1 t1 h1 h2 h3=>Ic r f hL s n W.m w1 F1 hm aQ hok.m (by omega) 2 h1 h2 (eG.le cZ (h3 _ (by simp)))) ?_;refine aB ?_;refine aJ 1 1 ?_;refine aJ 0 0 ?_;refine cQ 0 (fun L:jD=>kE g f r hL s {W with m:=W.m.step s 2} L) L ?_;refine aB ?_
     refine bT 0 (dI g f r hL s (W.task s 2)) (fun w1 F1 t1 h1 h2 h3=>by
      have:=xZ g f r hL s {W with m:=W.m.step s 2} w1 F1 (by first | exact gM | exact tZ) 2 h1 h2
      rwa [show bA.end_ {W with m:=W.m.step s 2} 2=W.task s 2 by unfold bA.task bA.pZ;rw[hb];rfl] at this) ?_
     exact fA 0 hF
  ·have hb:W.nJ t=false:=by unfold bA.nJ;rw[show bZ 3 t=false from decide_eq_false (by omega)];rfl
   refine aB ?_;refine bT 0 (iO r f hL s (W.m.step s t)) (fun w1 F1 t1 h1 h2 h3=>Ic r f hL s n W.m w1 F1 hm aQ hok.m (by omega) t h1 h2 (eG.le cZ (h3 _ (by simp)))) ?_;refine aB ?_;refine aJ 1 1 ?_;refine aJ 0 0 ?_;refine cQ 0 (fun L:jD=>kE g f r hL s {W with m:=W.m.step s t} L) L ?_;refine aB ?_
   refine bT 0 (dI g f r hL s (W.task s t)) (fun w1 F1 t1 h1 h2 h3=>by
    have:=xZ g f r hL s {W with m:=W.m.step s t} w1 F1 (by first | exact gM | exact tZ) t h1 h2
    rwa [show bA.end_ {W with m:=W.m.step s t} t=W.task s t by unfold bA.task bA.pZ;rw[hb];rfl] at this) ?_
   exact fA 0 hF
 ·have hb:W.nJ t=false:=by unfold bA.nJ;rw[show bZ 3 t=false from decide_eq_false (by omega)];rfl
  refine aB ?_;refine bT 0 (iO r f hL s (W.m.step s t)) (fun w1 F1 t1 h1 h2 h3=>Ic r f hL s n W.m w1 F1 hm aQ hok.m (by omega) t h1 h2 (eG.le cZ (h3 _ (by simp)))) ?_;refine aB ?_;refine aJ 1 1 ?_;refine aJ 0 0 ?_;refine cQ 0 (fun L:jD=>kE g f r hL s {W with m:=W.m.step s t} L) L ?_;refine aB ?_
  refine bT 0 (dI g f r hL s (W.task s t)) (fun w1 F1 t1 h1 h2 h3=>by
   have:=xZ g f r hL s {W with m:=W.m.step s t} w1 F1 (by first | exact gM | exact tZ) t h1 h2
   rwa [show bA.end_ {W with m:=W.m.step s t} t=W.task s t by unfold bA.task bA.pZ;rw[hb];rfl] at this) ?_
  exact fA 0 hF
end
end
section
theorem aMJ{z:Array Value}{n sz:Nat}(hz:z.size=sz)(hpos:0 < sz):madeCells z (n*sz)=(List.replicate n z.toList).flatten.toArray:=by
 have hl:∀r∈List.replicate n z.toList,r.length=sz:=fun r hr=>by rw[List.eq_of_mem_replicate hr];simpa using hz
 unfold madeCells;refine Array.ext (by simp[Kn _ hl]) fun j h1 h2=>?_
 have hj:j < n*sz:=by simpa using h1
 have hk:j / sz < n:=Nat.div_lt_of_lt_mul (by rw[Nat.mul_comm];exact hj)
 have hf:j % sz < sz:=Nat.mod_lt _ hpos
 have:=Pw (sz:=sz) (List.replicate n z.toList) hl (j / sz) (j % sz) z.toList (by rw[List.getElem?_replicate,if_pos hk]) hf
 rw[show j / sz*sz+j % sz=j by rw[Nat.mul_comm];exact Nat.div_add_mod j sz] at this;rw[←Option.some_inj]
 have e2:some ((List.replicate n z.toList).flatten.toArray[j])=(List.replicate n z.toList).flatten[j]? :=by rw[List.getElem_toArray,List.getElem?_eq_getElem]
 rw[e2,this]
 have hzj:j % z.size < z.size:=by rw[hz];exact hf
 rw[Array.getElem_map,Array.getElem_range,getElem!_pos z _ hzj];subst hz;simp
theorem aLy{sz i:Nat}{rows:List (List Value)}{r':List Value}(hr:∀r∈rows,r.length=sz)(hi:i < rows.length)(hr':r'.length=sz):fR rows.flatten (i*sz) r'=(rows.set i r').flatten:=by
 have h1:rows=rows.take i++rows[i]::rows.drop (i+1):=by rw[←List.drop_eq_getElem_cons hi,List.take_append_drop]
 have h2:(rows.take i).flatten.length=i*sz:=by rw[Kn _ (fun r h=>hr r (List.mem_of_mem_take h)),List.length_take,Nat.min_eq_left (by omega)]
 have h3:rows[i].length=sz:=hr _ (List.getElem_mem hi)
 have h4:rows.flatten=(rows.take i).flatten++(rows[i]++(rows.drop (i+1)).flatten):=by
  have:=congrArg List.flatten h1
  rwa [List.flatten_append,List.flatten_cons] at this
 unfold fR;rw[List.set_eq_take_append_cons_drop,if_pos hi,h4,List.take_left' h2,←List.drop_drop,List.drop_left' h2,List.drop_left' (h3.trans hr'.symm),List.flatten_append,List.flatten_cons,List.append_assoc]
theorem aFE{α:Type}{new old:List α}{i:Nat}{x:α}(hx:new[i]? =some x)(hl:old.length=new.length):(new.take i++old.drop i).set i x=new.take (i+1)++old.drop (i+1):=by
 obtain⟨hi,rfl⟩:=List.getElem?_eq_some_iff.1 hx;rw[List.take_succ_eq_append_getElem hi,List.drop_eq_getElem_cons (i:=i) (l:=old) (by omega),List.set_append_right _ _ (by rw[List.length_take];omega),show i - (new.take i).length=0 by rw[List.length_take];omega,List.set_cons_zero,List.append_assoc];rfl
section
variable{P:Program}{N:cE}{w0:World}{e:Env}{R:List Piece}{H:List HP}{Q:Exit→Act→World→Prop}{ops:Array Oper}{rest:List Oper}{d:Nat}{ty:TypeId}{pos:String}{aH:Array Edge}
theorem aIT(sz bytes:Nat){x y:Operand}{t el:TypeId}{n:Nat}{zs:List Value}{kd oN:IntKind}(ht:P.underlying t=some (.slice el))(hT:(P.info? el).map (fun i=>(i.zero.map (fun z=>z.cells.toList),i.size,i.bytes))=some (some zs,sz,bytes))(Kz:zs.length=sz)(hpos:0 < sz)(hx:e.ev x=some (.int kd (n:Int)))(hy:e.ev y=some (.int oN (n:Int)))
  (hb:bytes*n≤281474976710656) (hn:(n:Int)≤9223372036854775807) (hd:d < N.n) (k:∀g,XK N w0 (wpList P ops Q rest) ((d,.slice (some ⟨g,0,none⟩) n n)::e) R (HP.aE g el (List.replicate n zs).flatten::H)):
  XK N w0 (wpList P ops Q (⟨some d,.makeSlice t x y,ty,pos,aH,none⟩::rest)) e R H:=by
 obtain⟨i,hi,he⟩:=Option.map_eq_some_iff.1 hT;simp only[Prod.mk.injEq] at he;obtain⟨h1,h2,rfl⟩:=he;obtain⟨z,hz,rfl⟩:=Option.map_eq_some_iff.1 h1;refine Sc (val:=fun g=>.slice (some ⟨g,0,none⟩) n n) rfl rfl hd (fun a w hr st=>?_) k
 have:=run_make (P:=P) w t el i z ht hi hz kd oN n n (by omega) (Int.le_refl _) (by rw[←Int.natCast_mul];omega) hn
 simp only[Int.toNat_natCast,h2,aMJ (n:=n) (show z.cells.size=sz by simpa using Kz) hpos] at this;simp only[execOp,hr.ev hx,hr.ev hy,Sem.run_bind,this,Result.andThen_ok,Sem.run_pure]
end
end
section
section
variable{s:aC}{x:aU}{y:cJ}{z:bL}{j:Nat}
theorem aQY{x:aU}{i:Nat}{a:gJ}(h:(iI s x i).2=some a):a.dev=(i:Int)∧(x.wt[i]?).join≠none:=by
 unfold iI at h;split at h
 ·rename_i t d p h1 _ _
  split at h<;>(obtain rfl:=Option.some.inj h;exact⟨rfl,by rw[h1];simp⟩)
 ·cases h
theorem aQT{x:aU}{i k:Nat}(h:((iI s x i).1.wt[k]?).join≠none):(x.wt[k]?).join≠none:=by
 unfold iI at h
 have key:((x.wt.set i none)[k]?).join≠none→(x.wt[k]?).join≠none:=fun h=>by
  by_cases e:i=k
  ·subst e;rw[List.getElem?_set] at h;split at h
   ·split at h
    ·exact absurd rfl h
    ·exact absurd rfl h
   ·exact h
  ·rwa [List.getElem?_set_ne e] at h
 split at h
 ·split at h
  ·exact key h
  ·exact key h
 ·exact h
theorem aHE{x:aU}{k:Nat}:∀n,((fP s x n).1.wt[k]?).join≠none→(x.wt[k]?).join≠none
 | 0,h=>h
 | n+1,h=>aHE n (aQT h)
theorem aHH{x:aU}{a:gJ}:∀n,a∈(fP s x n).2→∃i:Nat,a.dev=(i:Int)∧(x.wt[i]?).join≠none
 | 0,h=>by cases h
 | n + 1, h => by
  rcases List.mem_append.1 h with h | h
  ·exact aHH n h
  ·have h:(iI s (fP s x n).1 n).2=some a:=by simpa using h
   obtain⟨h1,h2⟩:=aQY h;exact⟨n,h1,aHE n h2⟩
end
section
variable{s:aC}{n:Nat}{w:bA}
end
end
section
def Bt(s:aC)(x:aU)(i:Nat):List Value:=((List.range s.aD.length).map fun k=>Value.bool (xK s x k)).take i++(List.replicate s.aD.length (Value.bool false)).drop i
theorem aRg{s:aC}(x:aU):List.replicate s.aD.length (Value.bool false)=Bt s x 0:=by simp[Bt]
theorem aRe{s:aC}{x:aU}{i:Nat}:(Bt s x i).length=s.aD.length:=by simp[Bt];omega
theorem aRd{s:aC}{x:aU}{i:Nat}(hi:i < s.aD.length):(Bt s x i).set i (.bool (xK s x i))=Bt s x (i+1):=aFE (by simp[hi]) (by simp)
theorem aRf{s:aC}{x:aU}{i:Nat}(hi:i < s.aD.length):(Bt s x s.aD.length)[i]? =some (.bool (xK s x i)):=by simp[Bt,hi,List.getElem?_append]
def zEv:List Value:=[.int .u8 0,iv 0,.int .u8 0,iv 0,iv 0,.int .u32 0,iv 0,.int .u32 0,iv 0,iv 0,.bool false,.int .u32 0,.bool false,sn]
def xG(s:aC)(x:aU)(l:List gJ):List (List Value):=l.map fun a=>(Bq s x a).row none 0
def Bp(s:aC)(x:aU)(l:List gJ)(i:Nat):List (List Value):=(xG s x l).take i++(List.replicate l.length zEv).drop i
theorem aPB{s:aC}(x:aU)(l:List gJ):List.replicate l.length zEv=Bp s x l 0:=by simp[Bp]
theorem aHm{s:aC}{x:aU}{l:List gJ}:Bp s x l l.length=xG s x l:=by unfold Bp xG;rw[List.take_of_length_le (by simp),List.drop_of_length_le (by simp),List.append_nil]
theorem aHn{s:aC}{x:aU}{l:List gJ}{i:Nat}:(Bp s x l i).length=l.length:=by simp[Bp,xG];omega
theorem aDg{s:aC}{x:aU}{l:List gJ}{i:Nat}:∀r∈Bp s x l i,r.length=14:=fun r hr=>by
 rcases List.mem_append.1 hr with h | h
 ·obtain⟨a,_,rfl⟩:=List.mem_map.1 (List.mem_of_mem_take h);rfl
 ·rw[List.eq_of_mem_replicate (List.mem_of_mem_drop h)];rfl
theorem aPA{s:aC}{x:aU}{l:List gJ}{i:Nat}{a:gJ}(ha:l[i]? =some a):fR (Bp s x l i).flatten (i*14) ((Bq s x a).row none 0)=(Bp s x l (i+1)).flatten:=by
 have hi:=(List.getElem?_eq_some_iff.1 ha).1
 rw[aLy aDg (by rw[aHn];exact hi) rfl];exact congrArg _ (aFE (by simp[xG,ha]) (by simp[xG]))
theorem aII{p:Piece}:∀{es:List kF},(∀e∈es,e.words=[])→jO es (es.map fun e=>e.row none 0) p
 | [],_=>trivial
 | e::es,h=>⟨rfl,⟨none,0,rfl,by rw[h e (by simp)];exact aI.nil _ _⟩,aII fun e' he=>h e' (by simp[he])⟩
theorem aP8(s:aC)(x:aU)(l:List gJ):∀w,(mB (l.map (Bq s x)) (xG s x l)).sat (fun _=>False) w:=fun w=>by
 have:=aII (p:=⟨w,fun _=>False⟩) (es:=l.map (Bq s x)) fun e he=>by
  obtain⟨a,_,rfl⟩:=List.mem_map.1 he;rfl
 rwa [List.map_map] at this
theorem aP9(s:aC)(x:aU)(l:List gJ):(xG s x l).flatten.length=l.length*14:=by rw[Kn (sz:=14) _ (by rw[←aHm];exact aDg)];simp[xG]
theorem aP7(s:aC)(x:aU)(l:List gJ):∀u∈(xG s x l).flatten,u.oneCell'=true:=fun u hu=>by
 obtain⟨r,hr,hu⟩:=List.mem_flatten.1 hu;obtain⟨a,_,rfl⟩:=List.mem_map.1 hr;simp only[kF.row,List.mem_cons,List.not_mem_nil,or_false] at hu;rcases hu with rfl | rfl | rfl | rfl | rfl | rfl | rfl | rfl | rfl | rfl | rfl | rfl | rfl | rfl<;>rfl
def bA.ends(w:bA):Nat→bA
 | 0=>w
 | k+1=>(w.ends k).end_ (k:Int)
theorem aOH(w:bA)(t:Int):(w.end_ t).es.length≤w.es.length+1:=by
 unfold bA.end_;split
 ·show(w.es++[_]).length≤_
  rw[List.length_append];exact Nat.le_refl _
 ·exact Nat.le_add_right _ _
theorem aGS(w:bA):∀k,(w.ends k).es.length≤w.es.length+k
 | 0=>Nat.le_refl _
 | k+1=>Nat.le_trans (aOH (w.ends k) k) (Nat.add_le_add_right (aGS w k) 1)
section
variable(g f r:Nat)(hL:HL)(s:aC)(n:Nat)(W:bA)(w:World)(F:Nat→Prop)
theorem aMC(m:kW)(hok:oG s m.z)(l:List gJ)(hl:l.length≤1000)(A:Option Addr)(c:Nat)(hs:aI ⟨w,fun b=>b < w.heap.size∧¬F b⟩ 4 A l.length (l.flatMap gJ.cells))(hp:(iO r f hL s m).sat F w)(hF:∀b,F b→b < w.heap.size):
  Cz 95 #[pt r,.slice A l.length c] w (Wr (.tuple #[]) (iO r f hL s ⟨sP m.z l,m.y,m.x⟩) w F):=
 Vv 0 rfl (p':=jI r hL.h f s (sP m.z l)) (v:=.tuple #[]) (fun F0 h1 h2 h3=>aKS r hL.h f s m.z w F0 A c l hl hok.po h1 h2 (hs.le fun b hb=>⟨⟨hb.1,fun h0=>hb.2 (h3 b h0)⟩,rfl⟩)) hp hF
theorem aMD(m:kW)(hm:s.made)(aQ:gA hL s)(hok:cX s m.x)(v:Nat)(hv:v < s.aD.length){w0:World}{R:List Piece}{H:List HP}(i:Nat)(st:St w0 R H w)(hi:H[i]? =some (iO r f hL s m)):Cz 93 #[.pointer (some ⟨hL.h,0,none⟩),iv (v:Int)] w (Rt (.bool (xK s m.x v)) w):=by
 obtain⟨F,h1,h2,_⟩:=st.chunk hi;obtain⟨G,g1,g2,_⟩:=h1;exact aG1 hL s m.x w hm.dK aQ hok v hv (aI8 (g1 2 _ rfl) (fun b hb=>h2 b (g2 2 b hb)) aQ hok)
theorem aJq(hm:s.made)(aQ:gA hL s)(hok:iB s n W)(hn:n≤50000000)(aX:Int)(hd:0≤aX∧aX < 4294967296)(hp:(dI g f r hL s W).sat F w)(hF:∀b,F b→b < w.heap.size):
  Cz 37 #[pt g,.int .u32 aX] w (Wr (.tuple #[]) (dI g f r hL s (W.tick s aX)) w F):=by
 have qW:=hm.nv
 have Vi:=hok.es
 have aGi:=(hok.pK hm aX).2.1
 have hT:=fun w F=>aM6 r f hL s n W.m w F hm aQ hok.m aX hd
 have aC9:∀a∈(pY s W.m.x aX).2,∃i:Nat,a.dev=(i:Int)∧i < s.aD.length:=fun a ha=>by
  obtain⟨i,h1,h2⟩:=aHH (s:=s) (x:=W.m.x) (a:=a) s.aD.length ha;refine⟨i,h1,?_⟩;rcases Nat.lt_or_ge i s.aD.length with h | h
  ·exact h
  ·rw[List.getElem?_eq_none (by rw[hok.m.hw.wt];exact h)] at h2;exact absurd rfl h2
 have tY:(pY s W.m.x aX).2.length≤1000:=Nat.le_trans (aAF (s:=s) (x:=W.m.x) s.aD.length) (by omega)
 obtain⟨W3,Pp⟩:∃W3,W.pK s aX=W3:=⟨_,rfl⟩
 have vB:W.tick s aX=W3.ends 3:=by rw[←Pp];rfl
 rw[Pp] at aGi;unfold bA.pK kW.tick at Pp;obtain⟨⟨x',l⟩,hxl⟩:∃p,pY s W.m.x aX=p:=⟨_,rfl⟩
 rw[hxl] at hT aC9 tY Pp;dsimp only at hT aC9 tY Pp;rw[vB];clear vB;refine cT func37 ntmps37 hp hF ?_;refine iT 0 fun L=>?_;refine aW 0 0 ?_;refine aW 1 1 ?_;dsimp only[lD];refine aB ?_;refine lT (n:=s.aD.length) 1 (el:=4) (z:=.bool false) (by kernel_rfl) (by kernel_rfl) rfl rfl rfl (by omega) (by omega) (by decide) fun gl=>?_;rw[aRg W.m.x];refine aB ?_;refine oF (α:=Unit) (fun _=>[(0,pt g),(1,.int .u32 aX),(4,.slice (some ⟨gl,0,none⟩) s.aD.length s.aD.length)]) (fun _=>[iO r f hL s W.m,HP.aE gl 4 (Bt s W.m.x s.aD.length),HP.aE g 103 (lD f r hL s W L),HP.many [bX,bX,HP.own 46 14 (.slice L.A W.es.length L.c) W.es.length L.rows.flatten,mB W.es L.rows]]) (fun _=>True) ?_ fun _ _=>?_
 ·refine oB (α:=Unit) (fun i _=>[(18,iv i),(17,iv s.aD.length),(0,pt g),(1,.int .u32 aX),(4,.slice (some ⟨gl,0,none⟩) s.aD.length s.aD.length)]) (fun i _=>[iO r f hL s W.m,HP.aE gl 4 (Bt s W.m.x i),HP.aE g 103 (lD f r hL s W L),HP.many [bX,bX,HP.own 46 14 (.slice L.A W.es.length L.c) W.es.length L.rows.flatten,mB W.es L.rows]]) (fun _ _=>True) s.aD.length () trivial fun i _ hi _=>?_;refine aB ?_;refine aG rfl (fun hlt=>?_) (fun hge=>?_)
  ·have hlt:i < s.aD.length:=by omega
   refine aB ?_;refine aS (fun w1 t=>aMD f r hL s w1 W.m hm aQ hok.m.hw i hlt 0 t rfl) ?_;refine aB ?_;refine eO rfl rfl ?_ (hs:=eL.mk 1 rfl cO.h rfl (by rw[aRe];exact hlt));dsimp only[List.set];rw[aRd hlt];refine aB ?_;exact jV ()
  ·obtain rfl:i=s.aD.length:=by omega
   refine aB ?_;exact dJ ()
 refine aB ?_;refine vQ (α:=Option Addr×Nat) 0 (f:=94) (fi:=[]) (ca:=[]) (fun a=>.slice a.1 l.length a.2) (fun a=>aIl r f hL s ⟨W.m.z,W.m.y,x'⟩ l a) (fun _=>True) (by kernel_rfl) rfl rfl rfl (by decide) (fun w1 F1 t h1 h2 h3=>by simpa using hT w1 F1 h1 h2) fun aa _=>?_;dsimp only[List.set];obtain⟨Aa,ca⟩:=aa;refine aW 0 1 ?_;refine aW 1 0 ?_;refine dG [] [1] [0,3,4,5] (by simp) rfl (by decide) (by decide) fun q hq _ _=>?_;obtain⟨F2,wH,vM⟩:=hq 1 _ (by simp) rfl
 have Vg:aI q 4 Aa l.length (l.flatMap gJ.cells):=aI.own ⟨F2,wH,vM⟩
 refine aB ?_;refine aIT 14 120 (n:=l.length) (el:=46) (zs:=zEv) (by kernel_rfl) (by kernel_rfl) rfl (by decide) rfl rfl (by omega) (by omega) (by decide) fun gd=>?_;rw[aPB (s:=s) W.m.x l];refine aB ?_;refine oF (α:=Unit) (fun _=>[(0,pt g),(6,.slice Aa l.length ca),(7,.slice (some ⟨gd,0,none⟩) l.length l.length)]) (fun _=>[HP.aE gd 46 (xG s W.m.x l).flatten,iO r f hL s ⟨W.m.z,W.m.y,x'⟩,HP.aE g 103 (lD f r hL s W L),HP.many [bX,bX,HP.own 46 14 (.slice L.A W.es.length L.c) W.es.length L.rows.flatten,mB W.es L.rows]]) (fun _=>True) ?_ fun _ _=>?_
 ·refine oB (α:=Unit) (fun i _=>[(42,iv i),(41,iv l.length),(40,.slice Aa l.length ca),(0,pt g),(4,.slice (some ⟨gl,0,none⟩) s.aD.length s.aD.length),(6,.slice Aa l.length ca),(7,.slice (some ⟨gd,0,none⟩) l.length l.length)]) (fun i _=>[HP.aE gd 46 (Bp s W.m.x l i).flatten,HP.aE gl 4 (Bt s W.m.x s.aD.length),iO r f hL s ⟨W.m.z,W.m.y,x'⟩,HP.aE g 103 (lD f r hL s W L),HP.many [bX,bX,HP.own 46 14 (.slice L.A W.es.length L.c) W.es.length L.rows.flatten,mB W.es L.rows]]) (fun _ _=>True) l.length () trivial fun i _ hi _=>?_;refine aB ?_;refine aG rfl (fun hlt=>?_) (fun hge=>?_)
  ·have hlt:i < l.length:=by omega
   obtain⟨a,ha⟩:=get_some hlt;obtain⟨dv,Dg,lC⟩:=aC9 a (List.mem_of_getElem? ha)
   have hfl:(Bp s W.m.x l i).flatten.length=l.length*14:=by rw[Kn (sz:=14) _ aDg,aHn]
   have hput:=aPA (s:=s) (x:=W.m.x) ha
   obtain⟨b,off,rfl,fF,hc⟩:=Vg.2 (by omega)
   have eY:=fun k v hv=>hc _ _ (aHC (k:=k) (v:=v) ha hv)
   obtain⟨Gk,Qy,Dz,Br⟩:=a;dsimp only at Dg;subst Dg;refine aB ?_;refine kd (jM rfl (aM.of (vs:=[iv Gk,iv dv,.bool Dz,.int .u32 Br]) fun k v hv=>Rd.ro (p:=q) (by simp) fF (by rw[Nat.add_assoc];exact eY k v hv))) ?_;refine bY fun g1=>?_;refine aB ?_;refine rE ?_;refine mG 7 ?_ (cM:=bH rfl (Rd.aE 2 rfl (aRf lC)));refine mG 8 ?_;refine mG 9 ?_;refine aL 10 ?_;refine Cv 1 rfl ?_ (vs:=(Bq s W.m.x ⟨Gk,dv,Dz,Br⟩).row none 0) (hl:=decide_eq_true (by show i*14+14≤_;rw[hfl];omega));dsimp only[List.set];rw[hput];refine cI ?_;refine dY ?_;refine aB ?_;exact jV ()
  ·obtain rfl:i=l.length:=by omega
   rw[aHm];refine aB ?_;exact dJ ()
 refine aB ?_;refine aT [1,2,3,0] rfl (by decide) (fun _ h=>h) ?_;refine aJ 1 1 ?_;refine aJ 0 0 ?_;refine cQ 0 (fun L:jD=>kE g f r hL s {W with m:=⟨W.m.z,W.m.y,x'⟩} L) L ?_;refine nU (p:=mB (l.map (Bq s W.m.x)) (xG s W.m.x l)) (aP8 _ _ _) ?_;refine aT [1,2,0] rfl (by decide) (fun _ h=>h) ?_;refine vI ?_;refine bT 0 (dI g f r hL s {W with m:=⟨W.m.z,W.m.y,x'⟩,es:=W.es++l.map (Bq s W.m.x)}) (fun w1 F1 t1 h1 h2 h3=>aE2 g f r hL s {W with m:=⟨W.m.z,W.m.y,x'⟩} w1 F1 (l.map (Bq s W.m.x)) (xG s W.m.x l) gd l.length l.length (by simp) (aP9 _ _ _) (aP7 _ _ _) (by show W.es.length+_≤_;rw[List.length_map];omega) h1 h2) ?_;refine iT 0 fun L2=>?_;refine aW 0 0 ?_;refine aW 1 1 ?_;dsimp only[lD];refine aB ?_;refine bT 0 (iO r f hL s ⟨sP W.m.z l,W.m.y,x'⟩) (fun w1 F1 t1 h1 h2 h3=>aMC f r hL s w1 F1 ⟨W.m.z,W.m.y,x'⟩ hok.m.zV l tY Aa ca (Vg.le (h3 _ (by simp))) h1 h2) ?_;refine aB ?_;refine aJ 1 1 ?_;refine aJ 0 0 ?_;subst Pp;refine cQ 0 (fun L:jD=>kE g f r hL s {W with m:=⟨sP W.m.z l,W.m.y,x'⟩,es:=W.es++l.map (Bq s W.m.x)} L) L2 ?_;generalize ({W with m:=⟨sP W.m.z l,W.m.y,x'⟩,es:=W.es++l.map (Bq s W.m.x)}:bA)=W3 at aGi⊢;refine oB (α:=Unit) (fun i _=>[(67,iv i),(0,pt g)]) (fun i _=>[dI g f r hL s (W3.ends i)]) (fun _ _=>True) 3 () trivial fun i _ hi _=>?_
 have hel:=aGS W3 i
 refine aB ?_;refine aG rfl (fun hlt=>?_) (fun hge=>?_)
 ·refine aB ?_;refine bT 0 (dI g f r hL s (W3.ends (i+1))) (fun w1 F1 t1 h1 h2 h3=>xZ g f r hL s (W3.ends i) w1 F1 (by omega) i h1 h2) ?_;refine aB ?_;exact jV ()
 ·obtain rfl:i=3:=by omega
  refine aB ?_;exact fA 0 hF
end
end
section
section
variable(g f r:Nat)(hL:HL)(s:aC)(W:bA)(w:World)(F:Nat→Prop)
theorem aM8(m:kW)(A:Option Addr)(n c:Nat)(l:List Int)(hs:aI ⟨w,fun b=>b < w.heap.size∧¬F b⟩ 1 A n (dV l))(hn:n=l.length)(hn2:n≤1000000)(hp:(iO r f hL s m).sat F w)(hF:∀b,F b→b < w.heap.size):
  Cz 96 #[pt f,iv 1,.slice A n c] w (Wr (iv (jZ m.y 1 l).1) (iO r f hL s ⟨m.z,(jZ m.y 1 l).2,m.x⟩) w F):=
 Vv 1 rfl (fun F0 h1 h2 h3=>aGE f hL.h s m.y 1 A n c l w F0 h1 h2 (hs.le fun b hb=>⟨⟨hb.1,fun h0=>hb.2 (h3 b h0)⟩,rfl⟩) hn hn2) hp hF
def Cg(k:Int)(l:List Int):kF:={Pz with kind:=k,words:=l}
theorem aJs(hn:W.es.length≤900000000)(A:Option Addr)(n c:Nat)(l:List Int)(hs:aI ⟨w,fun b=>b < w.heap.size∧¬F b⟩ 1 A n (dV l))(fN:n=l.length)(hn2:n≤1000000)(hp:(dI g f r hL s W).sat F w)(hF:∀b,F b→b < w.heap.size):
  Cz 38 #[pt g,.slice A n c] w (Wr (iv (W.send l).1) (dI g f r hL s (W.send l).2) w F):=by
 subst fN;unfold bA.send;refine cT func38 ntmps38 hp hF ?_;refine iT 0 fun L=>?_;refine aW 0 0 ?_;refine aW 1 1 ?_;dsimp only[lD];refine aB ?_;refine bT 0 (iO r f hL s ⟨W.m.z,(jZ W.m.y 1 l).2,W.m.x⟩) (fun w1 F1 t1 h1 h2 h3=>aM8 f r hL s w1 F1 W.m A _ c l (hs.le (h3 _ (by simp))) rfl hn2 h1 h2) ?_;refine aB ?_;refine aG rfl (fun he=>?_) (fun he=>?_)
 ·rw[if_pos he];refine aB ?_;refine aJ 1 1 ?_;refine aJ 0 0 ?_;refine cQ 0 (fun L:jD=>kE g f r hL s {W with m:=⟨W.m.z,(jZ W.m.y 1 l).2,W.m.x⟩} L) L ?_;exact bP 0 hF
 ·rw[if_neg he,Decidable.not_not.1 he];refine aB ?_;refine eM (Yb l.length (dV l)) (fun w1 t=>aA4 A _ c _ w1 (hs.le (t.le (by simp))) (Hj _) hn2) ?_;rintro _ _ q2 ⟨Aw,cw,rfl,rfl⟩ _;dsimp only[List.cons_append,List.nil_append];refine aB ?_;refine eH fun g2=>?_;refine aB ?_;refine aT [2,3,4,0,1] rfl (by decide) (R':=[⟨w,fun b=>b < w.heap.size∧¬F b⟩]) (by simp) ?_;refine aJ 1 1 ?_;refine aJ 0 0 ?_;refine cQ 0 (fun L:jD=>kE g f r hL s {W with m:=⟨W.m.z,(jZ W.m.y 1 l).2,W.m.x⟩} L) L ?_;refine xL 2 (Φ:=jO [Cg 115 l] [(Cg 115 l).row Aw cw]) (hm:=jO.le) rfl (fun _ h=>jO.one h) ?_;dsimp only[List.set];refine vI ?_;refine bT 0 (dI g f r hL s {W with m:=⟨W.m.z,(jZ W.m.y 1 l).2,W.m.x⟩,es:=W.es++[Cg 115 l]}) (fun w1 F1 t1 h1 h2 h3=>Hi g f r hL s {W with m:=⟨W.m.z,(jZ W.m.y 1 l).2,W.m.x⟩} w1 F1 (Cg 115 l) Aw cw g2 hn h1 h2) ?_;refine aB ?_;exact bP 0 hF
end
end
section
def bA.rR(s:aC)(w:bA):Nat→bA
 | 0=>w
 | k+1=>(w.rR s k).task s (k:Int)
theorem Si{s:aC}(hm:s.made){n:Nat}{w:bA}(h:iB s n w):∀k,iB s (n+k) (w.rR s k)
 | 0=>h
 | k+1=>(Si hm h k).task hm k
section
variable(g f r:Nat)(hL:HL)(s:aC)(n:Nat)(W:bA)(w:World)(F:Nat→Prop)
theorem Ci(hm:s.made)(aQ:gA hL s)(hok:iB s n W)(hn:n≤50000000)(p:Gy)(hpk:p.ok)(A:Option Addr)(k c:Nat)(hs:aI ⟨w,fun b=>b < w.heap.size∧¬F b⟩ 1 A k (dV p.words))(hk:k=p.words.length)(cZ:eG ⟨w,fun b=>b < w.heap.size∧¬F b⟩)(hp:(dI g f r hL s W).sat F w)(hF:∀b,F b→b < w.heap.size):
  Cz 17 #[pt g,.agg #[.int .u8 p.kind,iv p.task,.int .u8 p.c.k,iv p.c.d,iv p.c.r,.int .u32 p.c.v,.int .u32 p.aX,.slice A k c]] w (Wr (iv (W.oU s p).1) (dI g f r hL s (W.oU s p).2) w F):=by
 have Vi:=hok.es
 have gM:W.es.length≤900000000:=by omega
 obtain⟨hv,hd,hu,hl⟩:=hpk;obtain⟨pk,Zk,⟨c1,c2,c3,c4⟩,pd,pw⟩:=p;dsimp only at hs hk hv hd hu hl⊢;unfold bA.oU;dsimp only;refine cT func17 ntmps17 hp hF ?_;refine aB ?_;refine bO fun g3=>?_;refine aB ?_;refine aG rfl (fun h=>?_) (fun h=>?_)
 ·rw[if_pos h];refine aB ?_;refine kd (jM rfl (aM.mid (vs:=[.int .u8 c1,iv c2,iv c3,.int .u32 c4]) 0 rfl rfl)) ?_;refine bT 1 (dI g f r hL s (W.call Zk ⟨c1,c2,c3,c4⟩).2) (fun w1 F1 t1 h1 h2 h3=>aJt g f r hL s W w1 F1 Zk c1 c2 c3 c4 h1 h2) ?_;refine aB ?_;exact bP 1 hF
 rw[if_neg h];refine aB ?_;refine aG rfl (fun h=>?_) (fun h=>?_)
 ·rw[if_pos h];refine aB ?_;refine bT 1 (dI g f r hL s (W.task s Zk)) (fun w1 F1 t1 h1 h2 h3=>aJr g f r hL s n W w1 F1 hm aQ hok hn Zk (eG.le cZ (h3 _ (by simp))) h1 h2) ?_;refine aB ?_;exact bP 1 hF
 rw[if_neg h];refine aB ?_;refine aG rfl (fun h=>?_) (fun h=>?_)
 ·rw[if_pos h];refine iT 1 fun L=>?_;refine aW 1 0 ?_;refine aW 2 1 ?_;dsimp only[lD];refine aB ?_;refine bT 0 (iO r f hL s (W.m.eC s)) (fun w1 F1 t1 h1 h2 h3=>aM9 r f hL s n W.m w1 F1 hm aQ hok.m h1 h2 (eG.le cZ (h3 _ (by simp)))) ?_;refine aB ?_;refine aJ 2 1 ?_;refine aJ 1 0 ?_;refine cQ 1 (fun L:jD=>kE g f r hL s (W.eC s) L) L ?_;exact bP 1 hF
 rw[if_neg h];refine aB ?_;refine aG rfl (fun h=>?_) (fun h=>?_)
 ·rw[if_pos h];refine aB ?_;refine bT 1 (dI g f r hL s (W.tick s pd)) (fun w1 F1 t1 h1 h2 h3=>aJq g f r hL s n W w1 F1 hm aQ hok hn pd hd h1 h2) ?_;refine aB ?_;exact bP 1 hF
 rw[if_neg h];refine aB ?_;refine aG rfl (fun h=>?_) (fun h=>?_)
 ·rw[if_pos h];refine aB ?_;refine bT 1 (dI g f r hL s (W.send pw).2) (fun w1 F1 t1 h1 h2 h3=>aJs g f r hL s W w1 F1 gM A k c pw (hs.le (h3 _ (by simp))) hk (by omega) h1 h2) ?_;refine aB ?_;exact bP 1 hF
 rw[if_neg h];refine aB ?_;refine aG rfl (fun h=>?_) (fun h=>?_)
 ·rw[if_pos h];unfold bA.take;refine iT 1 fun L=>?_;refine aW 1 0 ?_;refine aW 2 1 ?_;dsimp only[lD];refine aW 0 1 ?_;refine aB ?_;refine vQ (α:=AC) 0 (f:=39) (fi:=[]) (ca:=[]) (fun c=>Nx (mK W.m.y 1) c) (fun c=>Es f hL.h s (lW W.m.y 1) ((mK W.m.y 1).getD []) c) (fun _=>True) (by kernel_rfl) rfl rfl rfl (by decide) (fun w1 F1 t h1 h2 h3=>aCS f hL.h s W.m.y 1 w1 F1 h1 h2) fun cc _=>?_;dsimp only[List.set];refine aW 0 0 ?_;refine aJ 1 1 ?_;cases hw:mK W.m.y 1 with
  | none=>
   refine aB ?_;refine aT [1,2,3,4] rfl (by decide) (fun _ h=>h) ?_;refine aJ 2 1 ?_;refine aJ 1 0 ?_;refine cQ 1 (fun L:jD=>kE g f r hL s {W with m:=⟨W.m.z,lW W.m.y 1,W.m.x⟩} L) L ?_;exact bP 1 hF
  | some l=>
   refine aB ?_;refine eH fun g2=>?_;refine aB ?_;refine aW 1 1 ?_;refine aT [3,4,6,1,0] rfl (by decide) (fun _ h=>h) ?_;refine aJ 1 1 ?_;refine aJ 0 0 ?_;refine cQ 0 (fun L:jD=>kE g f r hL s {W with m:=⟨W.m.z,lW W.m.y 1,W.m.x⟩} L) L ?_;refine oA (q:=mB [Cg 114 l] [(Cg 114 l).row cc.1 cc.2]) 2 rfl (fun F w h=>jO.one h) ?_;dsimp only[List.set];refine vI ?_;refine bT 0 (dI g f r hL s {W with m:=⟨W.m.z,lW W.m.y 1,W.m.x⟩,es:=W.es++[Cg 114 l]}) (fun w1 F1 t1 h1 h2 h3=>Hi g f r hL s {W with m:=⟨W.m.z,lW W.m.y 1,W.m.x⟩} w1 F1 (Cg 114 l) cc.1 cc.2 g2 gM h1 h2) ?_;refine aB ?_;exact bP 0 hF
 rw[if_neg h];refine aB ?_;exact bP 1 hF
theorem aHk(t:Int):W.oU s ⟨116,t,pT,0,[]⟩=(0,W.task s t):=rfl
theorem aHl(t:Int):W.oU s ⟨102,t,pT,0,[]⟩=(0,W.eC s):=rfl
theorem aHj(t d:Int):W.oU s ⟨104,t,pT,d,[]⟩=(0,W.tick s d):=rfl
theorem Cr{k t d:Int}(hd:0≤d∧d < 4294967296):(Gy.mk k t pT d []).ok:=⟨⟨Int.le_refl _,(by decide:(0:Int) < 4294967296)⟩,hd,(fun _ h=>by cases h),Nat.zero_le _⟩
theorem aE3(hm:s.made)(aQ:gA hL s)(hok:iB s n W)(hn:n≤40000000)(aX:Int)(hd:0≤aX∧aX < 4294967296)(cZ:eG ⟨w,fun b=>b < w.heap.size∧¬F b⟩)(hp:(dI g f r hL s W).sat F w)(hF:∀b,F b→b < w.heap.size):
  Cz 16 #[pt g,.int .u32 aX] w (Wr (.tuple #[]) (dI g f r hL s (W.round s aX)) w F):=by
 have Fk:=Si hm hok 3
 refine cT func16 ntmps16 hp hF ?_;refine aB ?_;refine oF (α:=Unit) (fun _=>[(0,pt g),(1,.int .u32 aX)]) (fun _=>[dI g f r hL s (W.rR s 3)]) (fun _=>True) ?_ fun _ _=>?_
 ·refine oB (α:=Unit) (fun i _=>[(5,iv i),(0,pt g),(1,.int .u32 aX)]) (fun i _=>[dI g f r hL s (W.rR s i)]) (fun _ _=>True) 3 () trivial fun i _ hi _=>?_
  have tU:=Si hm hok i
  refine aB ?_;refine aG rfl (fun hlt=>?_) (fun hge=>?_)
  ·refine aB ?_
   refine bT 0 (dI g f r hL s (W.rR s (i+1))) (fun w1 F1 t1 h1 h2 h3=>by
    have:=Ci g f r hL s (n+i) (W.rR s i) w1 F1 hm aQ tU (by omega) ⟨116,i,pT,0,[]⟩ (Cr (by decide)) none 0 0 (aI.nil _ _) rfl (eG.le cZ (h3 _ (by simp))) h1 h2
    rwa [aHk] at this) ?_
   refine aB ?_;exact jV ()
  ·obtain rfl:i=3:=by omega
   refine aB ?_;exact dJ ()
 refine aB ?_
 refine bT 0 (dI g f r hL s ((W.rR s 3).eC s)) (fun w1 F1 t1 h1 h2 h3=>by
  have:=Ci g f r hL s (n+3) (W.rR s 3) w1 F1 hm aQ Fk (by omega) ⟨102,0,pT,0,[]⟩ (Cr (by decide)) none 0 0 (aI.nil _ _) rfl (eG.le cZ (h3 _ (by simp))) h1 h2
  rwa [aHl] at this) ?_
 refine aB ?_
 refine bT 0 (dI g f r hL s (W.round s aX)) (fun w1 F1 t1 h1 h2 h3=>by
  have:=Ci g f r hL s (n+3) ((W.rR s 3).eC s) w1 F1 hm aQ (Fk.eC hm) (by omega) ⟨104,0,pT,aX,[]⟩ (Cr hd) none 0 0 (aI.nil _ _) rfl (eG.le cZ (h3 _ (by simp))) h1 h2
  rwa [aHj] at this) ?_
 refine aB ?_;exact fA 0 hF
end
end
section
structure WdR(w:World)(g:Nat)(L:jD)(es:List kF):Prop where
 c:fK w g 20 (.slice L.A es.length L.c)
 row:aI (all w) 14 L.A es.length L.rows.flatten
 ev:jO es L.rows (all w)
theorem St.wdR{w0 w:World}{R:List Piece}{H:List HP}{g f r:Nat}{hL:HL}{s:aC}{W:bA}(t:St w0 R H w)(i:Nat)(hi:H[i]? =some (dI g f r hL s W)):∃L,WdR w g L W.es:=by
 obtain⟨F,h1,h2,_⟩:=t.chunk hi;obtain⟨L,G,g1,g2,_⟩:=h1
 have h0:=g1 0 _ rfl
 have hb:∀i b,G i b→b < w.heap.size:=fun i b hb=>h2 b (g2 i b hb)
 obtain⟨A',c',he,hs⟩:=zG (Y:=fun b=>b < w.heap.size) (g1 2 _ rfl) (fun b hb'=>hb 2 b hb')
 injection he with he
 subst he;exact⟨L,⟨h0.2.lt,by rw[h0.2.cell];rfl⟩,hs,jO.le ⟨w,G 3⟩ (all w) (fun b hb'=>⟨hb 3 b hb',rfl⟩) (g1 3 _ rfl)⟩
def aIL(n:Nat)(xs:List Value)(v:Value)(hs:List HP)(_:Piece):Prop:=∃A c,v=.slice A n c∧hs=[HP.own 46 14 (.slice A n c) n xs]
theorem aPQ(A:Option Addr)(n c:Nat)(xs:List Value)(w:World)(hs:aI (all w) 14 A n xs)(h1:∀u∈xs,u.oneCell'=true)(hn:n≤1000000):
  Cz 25 #[.slice A n c] w (fun y w'=>(∃v hs q,y=.returned v∧q.w=w'∧aIL n xs v hs q∧fZ w hs q)∧Below w.heap.size w w'):=by
 refine aO func25 ntmps25 ?_;refine aA ?_;refine Sd (el:=46) (by kernel_rfl) rfl (by decide) ?_;refine fB ?_;refine oX rfl (fun hA=>?_) (fun hA=>?_)
 ·refine aA ?_
  have hn0:n=0:=by
   rcases Nat.eq_zero_or_pos n with h | h
   ·exact h
   ·obtain⟨b,off,rfl,_⟩:=hs.2 h;cases hA
  subst hn0
  have hx:xs=[]:=List.eq_nil_of_length_eq_zero (by simpa using hs.1)
  subst hx;refine lI 46 14 ?_;refine dG [] [] [0] (by simp) rfl (by decide) (by decide) fun q _ _ hfr=>?_;exact aP (h:=fun w1 st=>⟨_,_,⟨w1,q.Z⟩,rfl,rfl,⟨_,_,rfl,rfl⟩,st.newR (by simp) (by simp) (hfr (by simp) (by simp))⟩)
 ·refine aA ?_;refine Sb (el:=46) (sz:=14) (by kernel_rfl) (by kernel_rfl) (by decide) fun g=>?_;refine Mn 0 14 0 rfl rfl (by omega) ?_;dsimp only[List.set];refine aA ?_;refine gY 0 14 120 n (n':=n) (el:=46) (by kernel_rfl) (by kernel_rfl) (by decide) rfl rfl rfl (rU (by simp) hs) h1 (by omega) (by omega) (by omega) (by decide) fun A' k'=>?_;dsimp only[List.set,List.nil_append];refine aA ?_;refine dG [] [] [0] (by simp) rfl (by decide) (by decide) fun q _ _ hfr=>?_;exact aP (h:=fun w1 st=>⟨_,_,⟨w1,q.Z⟩,rfl,rfl,⟨_,_,rfl,rfl⟩,st.newR (by simp) (by simp) (hfr (by simp) (by simp))⟩)
theorem aR9{N:cE}{w0:World}{K:Act→World→Prop}{e:Env}{R:List Piece}{H:List HP}{es:List kF}{rows:List (List Value)}{x:kF}{A:Option Addr}{c:Nat}(h:XK N w0 K e R (mB (es++[x]) (rows++[x.row A c])::H)):XK N w0 K e R (HP.own 37 1 (.slice A x.words.length c) x.words.length (dV x.words)::mB es rows::H):=
 xL 0 (Φ:=pE 1 A x.words.length (dV x.words)) (hm:=pE.le) rfl (fun _ h=>h) (Jn (X:=jO (es++[x]) (rows++[x.row A c])) (h3:=jO.le) (fun p h1 h2=>aDR h2 ⟨rfl,⟨A,c,rfl,h1⟩,trivial⟩) h)
theorem aOL(w:World):(mB [] []).sat (fun _=>False) w:=(trivial:jO [] [] ⟨w,fun _=>False⟩)
theorem jO.one'{es:List kF}{rows:List (List Value)}{p:Piece}(h:jO es rows p):∀u∈rows.flatten,u.oneCell'=true:=fun u hu=>by
 obtain⟨r,hr,hu⟩:=List.mem_flatten.1 hu;obtain⟨i,hi⟩:=List.getElem?_of_mem hr;obtain⟨e,_,_,A,c,rfl,_⟩:=Rows.at_ h hi;simp only[kF.row,List.mem_cons,List.not_mem_nil,or_false] at hu;rcases hu with rfl | rfl | rfl | rfl | rfl | rfl | rfl | rfl | rfl | rfl | rfl | rfl | rfl | rfl<;>rfl
theorem aMu{nr old:List (List Value)}{r:List Value}{i:Nat}(h1:nr.length=i)(h2:i < old.length):(nr++old.drop i).set i r=(nr++[r])++old.drop (i+1):=by
 subst h1;rw[List.set_append_right _ _ (Nat.le_refl _),Nat.sub_self,List.drop_eq_getElem_cons h2,List.set_cons_zero,List.append_assoc];rfl
def aBj(es:List kF)(v:Value)(hs:List HP)(q:Piece):Prop:=∃A c rows,v=.slice A es.length c∧hs=[]∧aI q 14 A es.length rows.flatten∧jO es rows q
theorem aBw(g:Nat)(L:jD)(es:List kF)(w:World)(hn:es.length≤1000000)(hw:∀e∈es,e.words.length≤1000000)(hr:WdR w g L es):
  Cz 11 #[pt g] w (fun y w'=>(∃v hs q,y=.returned v∧q.w=w'∧aBj es v hs q∧fZ w hs q)∧Below w.heap.size w w'):=by
 have Cy:=hr.c
 have hlr:=(Rows.len hr.ev).1
 have aNu:=Rows.Gj hr.ev
 refine aO func11 ntmps11 ?_;refine aB ?_;refine eM (aIL es.length L.rows.flatten) (fun w1 t=>aPQ L.A _ L.c _ w1 (hr.row.le (t.le (by simp))) hr.ev.one' hn) ?_;rintro _ _ q2 ⟨A,c,rfl,rfl⟩ _;dsimp only[List.cons_append,List.nil_append];refine aB ?_;refine uI (R':=[all w]) (by simp) ?_;refine nU (p:=mB [] []) aOL ?_;refine oF (α:=List (List Value)) (fun _=>[(3,.slice A es.length c)]) (fun nr=>[HP.own 46 14 (.slice A es.length c) es.length nr.flatten,mB es nr]) (fun _=>True) ?_ fun nr _=>?_
 ·refine oB (α:=List (List Value)) (fun i _=>[(12,iv i),(11,iv es.length),(3,.slice A es.length c)]) (fun i nr=>[HP.own 46 14 (.slice A es.length c) es.length (nr++L.rows.drop i).flatten,mB (es.take i) nr]) (fun i nr=>nr.length=i∧∀r∈nr,r.length=14) es.length [] ⟨rfl,fun _ h=>by cases h⟩ fun i nr hi hx=>?_;obtain⟨iN,aGj⟩:=hx;refine aB ?_;refine aG rfl (fun hlt=>?_) (fun hge=>?_)
  ·have hlt:i < es.length:=by omega
   obtain⟨ro,hro⟩:=get_some (l:=L.rows) (i:=i) (by omega);obtain⟨e,he,_,Aw,cw,rfl,wR⟩:=Rows.at_ hr.ev hro
   have hwe:=hw e (List.mem_of_getElem? he)
   have hall:∀r∈nr++L.rows.drop i,r.length=14:=fun r h=>by
    rcases List.mem_append.1 h with h | h
    ·exact aGj r h
    ·exact aNu r (List.mem_of_mem_drop h)
   have tY:(nr++L.rows.drop i).length=es.length:=by rw[List.length_append,List.length_drop];omega
   refine aAQ 0 rfl (by omega) ?_;rintro⟨gb,rfl⟩;refine Gp 0 rfl fun cs jS hct hnc Lp=>?_;dsimp only[List.set]
   have hri:(nr++L.rows.drop i)[i]? =some (e.row Aw cw):=by
    rw[List.getElem?_append_right (by omega),iN,Nat.sub_self,List.getElem?_drop,Nat.add_zero];exact hro
   have hsub:=Dm hct tY hall hri
   have hcc:i*14+14≤cs.length:=by
    have:=Nat.mul_le_mul_right 14 (show i+1≤c by omega)
    omega
   refine aB ?_;refine kd (bH rfl (Rd.sub 0 13 rfl hsub rfl rfl)) ?_;refine aB ?_;refine eM (Yb e.words.length (dV e.words)) (fun w1 t=>aA4 Aw _ cw _ w1 (aI.le wR (t.le (by simp))) (Hj _) hwe) ?_;rintro _ _ q3 ⟨A2,c2,rfl,rfl⟩ _;dsimp only[List.cons_append,List.nil_append];refine aB ?_;refine Eb 1 (n:=es.length) (c:=c) (sz:=14) (xs:=((nr++L.rows.drop i).set i (e.row A2 c2)).flatten) rfl (by rw[List.length_set];exact jS) (Bj hct tY hall hlt (by omega) rfl (Sub.set hsub 13 _ (show 13 < 14 by decide) (by omega)) ((sX.refl cs (i*14) 14).set 13 _ (by decide))) hnc Lp ?_;dsimp only[List.set];rw[aMu iN (by omega)];refine aT [0,2,1] rfl (by decide) (R':=[all w]) (by simp) ?_;refine aR9 (x:=e) ?_;rw[show es.take i++[e]=es.take (i+1) by rw[List.take_add_one,he];rfl]
   exact jV (nr++[e.row A2 c2]) (hg:=⟨by rw[List.length_append,iN];rfl,fun r h=>by
    rcases List.mem_append.1 h with h | h
    ·exact aGj r h
    ·rw[List.mem_singleton] at h;subst h
     rfl⟩)
  ·obtain rfl:i=es.length:=by omega
   rw[List.drop_of_length_le (by omega),List.append_nil,List.take_length];refine aB ?_;exact dJ nr
 refine aB ?_;refine dG [] [0,1] [] (by simp) rfl (by decide) (by decide) fun q hq _ hfr=>?_;obtain⟨F0,Ta,Sa⟩:=hq 0 _ (by simp) rfl;obtain⟨F1,sf1,zf1⟩:=hq 1 _ (by simp) rfl
 have Ul:aI q 14 A es.length nr.flatten:=aI.own ⟨F0,Ta,Sa⟩
 have hz9:jO es nr q:=jO.le ⟨q.w,F1⟩ q (fun b hb=>⟨zf1 b hb,rfl⟩) sf1
 exact aP (h:=fun w1 st=>⟨_,[],⟨w1,q.Z⟩,rfl,rfl,⟨A,c,nr,rfl,rfl,Ul.le fun b hb=>⟨hb,st.ro (by simp) hb⟩,jO.le q _ (fun b hb=>⟨hb,st.ro (by simp) hb⟩) hz9⟩,st.newR (by simp) (by simp) (hfr (by simp) (by simp))⟩)
end
section
theorem aBB{s:aC}(hm:s.made){eU:List gR}(ha:∀a∈eU,a.ok):∀k,k≤eU.length→iB s (k*4) (runN s eU k)
 | 0,_=>aBx hm
 | k+1,hk=>by
  obtain⟨a,eY⟩:=get_some (l:=eU) (i:=k) (by omega);rw[aEX eY];exact(aRr hm (aBB hm ha k (by omega)) (ha a (List.mem_of_getElem? eY))).le (by omega)
theorem aRu{eU:List gR}{i k:Nat}{a:gR}{v:Value}(h:eU[i]? =some a)(hv:a.cells[k]? =some v):(eU.flatMap gR.cells)[i*12+k]? =some v:=by
 have hk:k < 12:=by
  have:=(List.getElem?_eq_some_iff.1 hv).1
  rwa [gR.len] at this
 exact(Pv gR.cells 12 eU (fun _ _=>rfl) i k a h hk).trans hv
theorem aRs{w:World}{A:Option Addr}{eU:List gR}(hs:aI (all w) 12 A eU.length (eU.flatMap gR.cells)){i:Nat}{a:gR}(ha:eU[i]? =some a):∃b off,A=some ⟨b,off,none⟩∧dQ w b (off+i*12) a.cells:=by
 have hi:=(List.getElem?_eq_some_iff.1 ha).1
 obtain⟨b,off,rfl,hz,hc⟩:=hs.2 (by omega);exact⟨b,off,rfl,hz,fun j v hv=>by rw[Nat.add_assoc];exact hc _ _ (aRu ha hv)⟩
def aDP(s:aC)(W:bA)(v:Value)(hs:List HP)(_:Piece):Prop:=∃(g f r:Nat) (hL:HL),v=pt g∧hs=[dI g f r hL s W]∧gA hL s
theorem aEY(s:aC)(A1 A2 A3 A4:Option Addr)(n1 k1 n2 k2 n3 k3 n4 k4:Nat)(B:Option Addr)(cb:Nat)(eU:List gR)(w:World)(hW:iD w s A1 n1 A2 n2 A3 n3 A4 n4)(hm:s.made)(hs:aI (all w) 12 B eU.length (eU.flatMap gR.cells))(hac:∀a∈eU,a.ok)(hnb:eU.length≤2000000)(cZ:eG (all w)):
  Cz 10 #[.agg #[.slice A1 n1 k1,.slice A2 n2 k2,.slice A3 n3 k3,.slice A4 n4 k4],.slice B eU.length cb] w (fun y w'=>(∃v hs q,y=.returned v∧q.w=w'∧aDP s (runN s eU eU.length) v hs q∧fZ w hs q)∧Below w.heap.size w w'):=by
 have qW:=hm.nv
 obtain rfl:=hW.sE;refine aO func10 ntmps10 ?_;refine aB ?_;refine bO fun g2=>?_;refine aB ?_;refine eM (aDK s) (fun w1 t=>aE4 s A1 A2 A3 A4 _ k1 _ k2 _ k3 _ k4 w1 (hW.le (t.started (by simp))) hm) ?_;rintro _ _ q1 ⟨g,f,r,hL,rfl,rfl,aQ⟩ _;dsimp only[List.cons_append,List.nil_append];refine uI (R':=[all w]) (by simp) ?_;refine aB ?_;refine oF (α:=Unit) (fun _=>[(5,pt g)]) (fun _=>[dI g f r hL s (runN s eU eU.length)]) (fun _=>True) ?_ fun _ _=>?_
 ·refine oB (α:=Unit) (fun i _=>[(7,iv i),(5,pt g),(1,.slice B eU.length cb),(2,pt g2)]) (fun i _=>[dI g f r hL s (runN s eU i),HP.aE g2 30 [.slice A1 n1 k1,.slice A2 n2 k2,.slice A3 n3 k3,.slice A4 s.aD.length k4]]) (fun _ _=>True) eU.length () trivial fun i _ hi _=>?_
  have hok:=aBB hm hac i hi
  refine aB ?_;refine cG (t:=17) rfl (fun hlt=>?_) (fun hge=>?_)
  ·have hlt:i < eU.length:=by omega
   obtain⟨a,ha⟩:=get_some hlt
   have hao:=hac a (List.mem_of_getElem? ha)
   have dD:=aEX (s:=s) ha
   unfold Xa at dD;obtain⟨b,off,rfl,ka⟩:=aRs hs ha
   have k0:=ka.at_ (j:=0) rfl
   have k5:=ka.at_ (j:=5) rfl
   refine aB ?_;refine aS (fun w1 t=>mW _ 30 w1 hao.op (by decide)) ?_;refine aB ?_;refine aG rfl (fun h=>?_) (fun h=>?_)
   ·rw[if_pos h] at dD;refine aB ?_
    refine bT 0 (dI g f r hL s (runN s eU (i+1))) (fun w1 F1 t h1 h2 h3=>by
     rw[dD]
     exact aE3 g f r hL s (i*4) _ w1 F1 hm aQ hok (by omega) a.v hao.v (eG.le cZ (h3 _ (by simp))) h1 h2) ?_
    refine aB ?_;exact jV ()
   ·rw[if_neg h] at dD;refine aB ?_;refine rE ?_;refine aL 8 ?_;refine eM (aIy (Hv a s.aD.length)) (fun w1 t=>aLA a s.aD.length w1 hao ⟨by omega,by omega⟩) ?_;rintro _ _ q2 ⟨Aw,cw,p0,rfl,rfl⟩ _;dsimp only[List.cons_append,List.nil_append];refine uI (R':=[all w]) (by simp) ?_;refine bB ?_;refine aL 9 ?_;refine dG [] [1] [2,3] (by simp) rfl (by decide) (by decide) fun q hq _ _=>?_;obtain⟨F1,sf1,zf1⟩:=hq 1 _ (by simp) rfl
    have hwd:aI q 1 Aw (Hv a s.aD.length).words.length (dV (Hv a s.aD.length).words):=pE.le ⟨q.w,F1⟩ q (fun b hb=>⟨zf1 b hb,rfl⟩) sf1
    refine bT 0 (dI g f r hL s (runN s eU (i+1))) (fun w1 F1 t h1 h2 h3=>by
     rw[dD]
     exact Ci g f r hL s (i*4) _ w1 F1 hm aQ hok (by omega) (Hv a s.aD.length) (aFt hao _) Aw _ cw (hwd.le (h3 _ (by simp))) rfl (eG.le cZ (h3 _ (by simp))) h1 h2) ?_
    refine uI (R':=[all w]) (by simp) ?_;refine cI ?_;refine dY ?_;refine aB ?_;exact jV ()
  ·obtain rfl:i=eU.length:=by omega
   refine aB ?_;exact dJ ()
 refine aB ?_;refine dG [] [] [0] (by simp) rfl (by decide) (by decide) fun q _ _ hfr=>?_;exact aP (h:=fun w1 st=>⟨_,_,⟨w1,q.Z⟩,rfl,rfl,⟨g,f,r,hL,rfl,rfl,aQ⟩,st.newR (by simp) (by simp) (hfr (by simp) (by simp))⟩)
end
section
theorem Ep:nM.made:=⟨Fits.nil _,Fits.nil _,(fun _ h=>by cases h),Fits.nil _,by decide,by decide,by decide,by decide⟩
def Hp:Int:=(gZ 0 0 16 0).1
def Sz:Gy:=⟨109,0,pT,0,[Hp]⟩
def Yv:bA:=((Ni nM).oU nM Sz).2
def Yu:bA:=(Yv.oU nM ⟨102,0,pT,0,[]⟩).2
def Sy:bA:=(Yu.oU nM ⟨97,0,pT,0,[]⟩).2
theorem aKk:((Ni nM).oU nM Sz).1=0:=by decide+kernel
theorem aKj:(Yv.oU nM ⟨102,0,pT,0,[]⟩).1=0:=rfl
theorem aKi:(Yu.oU nM ⟨97,0,pT,0,[]⟩).1=0:=rfl
theorem aB6:Sy.es=[Cg 115 [Hp],Cg 114 [Hp,0,131072]]:=by kernel_rfl
theorem aB7:0≤Hp∧Hp < 4294967296∧(gZ 0 0 16 0).2=0:=by decide+kernel
theorem aEK:Sz.ok:=⟨⟨Int.le_refl _,(by decide:(0:Int) < 4294967296)⟩,⟨Int.le_refl _,(by decide:(0:Int) < 4294967296)⟩,(fun x hx=>by
 have:x=Hp:=by simpa[Sz] using hx
 rw[this]
 exact⟨aB7.1,aB7.2.1⟩),(by decide:1≤1000000)⟩
theorem aEJ:iB nM 1 Yv:=(aBx Ep).oU Ep aEK
theorem aEI:iB nM 2 Yu:=aEJ.oU Ep (Cr (by decide))
theorem aKf:iB nM 3 Sy:=aEI.oU Ep (Cr (by decide))
theorem aKd(w:World)(cZ:eG (all w)):Cz 8 #[] w (Rt (.bool true) w):=by
 refine aO func8 ntmps8 ?_;refine aB ?_;refine eM (aDK nM) (fun w1 t=>aE4 nM none none none none 0 0 0 0 0 0 0 0 w1 (aKa w1) Ep) ?_;rintro _ _ q1 ⟨g,f,r,hL,rfl,rfl,aQ⟩ _;dsimp only[List.cons_append,List.nil_append];refine aB ?_;refine eM (aEd [Hp]) (fun w1 t=>aHr 0 0 16 0 none 0 0 [] w1 (aI.nil _ _) rfl (by omega) aB7.2.2) ?_;rintro _ _ q2 ⟨Aw,cw,rfl,rfl⟩ _;dsimp only[List.cons_append,List.nil_append];refine dG [] [0] [1] (by simp) rfl (by decide) (by decide) fun q hq _ _=>?_;obtain⟨F0,Ta,Sa⟩:=hq 0 _ (by simp) rfl
 have hwd:aI q 1 Aw 1 (dV [Hp]):=aI.own ⟨F0,Ta,Sa⟩
 refine uI (R':=[q,all w]) (by simp) ?_;refine aB ?_
 refine bT 0 (dI g f r hL nM Yv) (fun w1 F1 t h1 h2 h3=>by
  have:=Ci g f r hL nM 0 _ w1 F1 Ep aQ (aBx Ep) (by omega) Sz aEK Aw 1 cw (hwd.le (h3 _ (by simp))) rfl (eG.le cZ (h3 _ (by simp))) h1 h2
  rw[aKk] at this
  exact this) ?_
 refine aB ?_
 refine bT 0 (dI g f r hL nM Yu) (fun w1 F1 t h1 h2 h3=>by
  have:=Ci g f r hL nM 1 _ w1 F1 Ep aQ aEJ (by omega) ⟨102,0,pT,0,[]⟩ (Cr (by decide)) none 0 0 (aI.nil _ _) rfl (eG.le cZ (h3 _ (by simp))) h1 h2
  rw[aKj] at this
  exact this) ?_
 refine aB ?_
 refine bT 0 (dI g f r hL nM Sy) (fun w1 F1 t h1 h2 h3=>by
  have:=Ci g f r hL nM 2 _ w1 F1 Ep aQ aEI (by omega) ⟨97,0,pT,0,[]⟩ (Cr (by decide)) none 0 0 (aI.nil _ _) rfl (eG.le cZ (h3 _ (by simp))) h1 h2
  rw[aKi] at this
  exact this) ?_
 refine aB ?_
 refine eM (aBj Sy.es) (fun w1 t=>by
  obtain⟨L,hr⟩:=t.wdR 0 rfl
  exact aBw g L _ w1 (by rw[aB6];decide) (fun e he=>(aKf.wd e he).2) hr) ?_
 rintro _ _ q3 ⟨Av,cv,rows,rfl,rfl,hs,hz⟩ _;dsimp only[List.nil_append];rw[show Sy.es.length=2 by rw[aB6];rfl] at hs⊢;rw[aB6] at hz;refine aT [] rfl (by decide) (R':=[q3,all w]) (by simp) ?_;obtain⟨r1,dO⟩:=get_some (l:=rows) (i:=0) (by rw[(Rows.len hz).1];decide);obtain⟨r2,fJ⟩:=get_some (l:=rows) (i:=1) (by rw[(Rows.len hz).1];decide);obtain⟨e1,gM,_,B1,b1,rfl,_⟩:=Rows.at_ hz dO;obtain⟨e2,tZ,_,B2,b2,rfl,_⟩:=Rows.at_ hz fJ;cases gM;cases tZ;obtain⟨b,off,rfl,fF,Pk⟩:=aI.uT hs (Rows.Gj hz) dO (by decide);obtain⟨b',off',hA,_,mZ⟩:=aI.uT hs (Rows.Gj hz) fJ (by decide);cases hA;refine aD5 (Rd.ro (p:=q3) (b:=b) (o:=off+0*14+0) (by simp) fF (Pk 0 _ rfl)) fun d1=>?_;refine aD5 (Rd.ro (p:=q3) (b:=b) (o:=off+1*14+0) (by simp) fF (mZ 0 _ rfl)) fun d2=>?_;refine aD5 (Rd.ro (p:=q3) (b:=b) (o:=off+1*14+13) (by simp) fF (mZ 13 _ rfl)) fun d3=>?_;refine aB ?_;exact dH
end
section
theorem aLB(c n:Int)(w:World)(hc: -9223372036854775808≤c∧c≤9223372036854775807)(hn:0 < n):
  Cz 15 #[iv c,iv n] w fun x w'=>(∃v,x=.returned v∧∃r:Int,v=iv r∧0≤r∧r < n)∧Below w.heap.size w w':=by
 refine aO func15 ntmps15 ?_;refine aB ?_;refine Rh (α:=Int) (fun c=>[(0,iv c),(1,iv n)]) (fun _=>[]) (fun c=>0≤c) ?_ fun c hc0=>?_
 ·refine aB ?_;refine aG rfl (fun h=>?_) (fun h=>?_)
  ·refine aB ?_;exact dJ _
  ·refine aB ?_;exact dJ _
 refine aB ?_;exact mF rfl rfl fun w' st=>⟨⟨_,rfl,_,rfl,Int.emod_nonneg _ (by omega),Int.emod_lt_of_pos _ hn⟩,st.below (by simp)⟩
set_option maxRecDepth 100000 in
theorem aQf(A : Option Addr)(n c : Nat)(zs : List Int)(w : World)(h0 : aI (all w) 1 A n (aN zs))(hz : aBi zs)(hn : n = zs.length)(hn2 : n ≤ 9223372036854775807) :
    Cz 9 #[.slice A n c] w fun x w'=>(∃v hs q,x=.returned v∧q.w=w'∧(∃p hs',hs=p::hs'∧aEf v hs' q)∧fZ w hs q)∧Below w.heap.size w w':=by
  refine aO func9 ntmps9 ?_;refine aB ?_;refine bY fun g1=>?_;refine aB ?_;refine lT 8 (n:=120) (el:=3) (z:=iv 0) (by kernel_rfl) (by kernel_rfl) rfl rfl rfl (by omega) (by omega) (by decide) fun g2=>?_;refine aB ?_;refine oF (α:=List Int) (fun _=>[(4,.slice (some ⟨g2,0,none⟩) 120 120),(2,pt g1)]) (fun ds=>[HP.aE g2 3 (aN ds),HP.aE g1 30 [sn,sn,sn,sn]]) xT ?_ fun ds hd=>?_
  · refine oB (α:=List Int) (fun i _=>[(5,iv i),(4,.slice (some ⟨g2,0,none⟩) 120 120),(2,pt g1),(0,.slice A n c)]) (fun _ ds=>[HP.aE g2 3 (aN ds),HP.aE g1 30 [sn,sn,sn,sn]]) (fun _ ds=>xT ds) 120 (List.replicate 120 0) xT.zero fun k ds hk hd=>?_
    refine aB ?_;refine cG (t:=23) rfl (fun hg=>?_) (fun hg=>?_)
    · refine aB ?_
      refine aG rfl (fun h=>?_) (fun h=>?_)
      · have hk2:k < 120:=by omega
        have hn0:0 < n:=by omega
        obtain⟨b,off,rfl,fF,hc⟩:=h0.2 hn0
        have hkb:=Fw (k:Int) (n:=(n:Int)) (by omega)
        have hdb:0≤(k:Int) / (n:Int)∧(k:Int) / (n:Int)≤k:=⟨Int.ediv_nonneg (by omega) (by omega),Int.ediv_le_self _ (by omega)⟩
        have k0:fK w b (off+((k:Int) % (n:Int)).toNat) (iv (zs[((k:Int) % (n:Int)).toNat]?.getD 0)):=⟨fF,hc _ _ (aCq zs _ (by omega))⟩
        have hyb:=aJM (z:=zs[((k:Int) % (n:Int)).toNat]?.getD 0) (d:=1+(k:Int) / (n:Int)) (lo:= -9223372036854775808) (hi:=9223372036854775807) (by omega) (by omega) (by omega) (hz _)
        refine aB ?_;refine rE ?_;refine aL 15 ?_;refine kcV (fun v=>∃r:Int,v=iv r∧0≤r∧r < 1000000) (fun w1 st=>aLB _ _ w1 hyb (by omega)) fun v hv=>?_;obtain⟨r,rfl,Cy,dO⟩:=hv;refine bB ?_;refine sV [16,17] ?_;refine aB ?_;refine eO rfl rfl ?_ (hs:=eL.mk 0 rfl cO.h rfl (by simp[aN,hd.1];omega));dsimp only[List.set];rw[aAd];refine aB ?_;exact jV _ (hg:=hd.kZ k Cy dO)
      · refine aB ?_
        exact dJ _
    · refine aB ?_
      exact dJ _
  refine aB ?_;refine eH fun g3=>?_;refine aB ?_;refine bY fun g4=>?_;refine aB ?_;refine Mn 1 6 1 rfl rfl (by omega) ?_;dsimp only[List.set];refine aIa (p:=pU [⟨111,[],1+dv ds 0 % 1000000,0,0,0⟩] [[.int .u8 111,sn,.int .u64 (1+dv ds 0 % 1000000),iv 0,iv 0,iv 0]]) (fun w=>⟨rfl,⟨none,0,0,rfl,rfl,rfl,fun h=>absurd h (by omega)⟩,trivial⟩) ?_;refine oF (α:=(List eW×List (List Value))×(Option Addr×Nat)×Nat) (fun _=>[(6,pt g4),(4,.slice (some ⟨g2,0,none⟩) 120 120),(2,pt g1)]) (fun x=>[pU x.1.1 x.1.2,HP.own 86 6 (.slice x.2.1.1 x.2.2 x.2.1.2) x.2.2 x.1.2.flatten,HP.aE g4 30 [.slice x.2.1.1 x.2.2 x.2.1.2,sn,sn,sn],HP.aE g2 3 (aN ds),HP.aE g1 30 [sn,sn,sn,sn]]) (fun x=>x.1.1.length=x.2.2∧1≤x.2.2∧x.2.2≤9∧Fits eW.fit x.1.1) ?_ fun x hx=>?_
  · refine oB (α:=(List eW×List (List Value))×(Option Addr×Nat)×List Value) (fun i _=>[(8,iv i),(7,.string ⟨#[112,100,103,109,103]⟩),(6,pt g4),(4,.slice (some ⟨g2,0,none⟩) 120 120),(3,iv 1),(2,pt g1)]) (fun i x=>[pU x.1.1 x.1.2,HP.own 86 6 (.slice x.2.1.1 (i+1) x.2.1.2) (i+1) x.2.2,HP.aE g4 30 [.slice x.2.1.1 (i+1) x.2.1.2,sn,sn,sn],HP.aE g2 3 (aN ds),HP.aE g1 30 [sn,sn,sn,sn]]) (fun i x=>x.1.1.length=i+1∧i≤8∧Fits eW.fit x.1.1∧x.2.2=x.1.2.flatten) 9 (([⟨111,[],1+dv ds 0 % 1000000,0,0,0⟩],[[.int .u8 111,sn,.int .u64 (1+dv ds 0 % 1000000),iv 0,iv 0,iv 0]]),(_,_),_) ⟨rfl,by omega,(Fits.nil eW.fit).snoc ⟨by simp,.inl ⟨rfl,rfl,by dsimp only;omega,by dsimp only;omega,rfl,rfl,rfl⟩⟩,rfl⟩ fun i x hi hx=>?_
    obtain⟨⟨cs,rows⟩,⟨B,cB⟩,xs⟩:=x;dsimp only at hx⊢;obtain⟨jS,hi8,hcf,rfl⟩:=hx;refine aB ?_;refine aG rfl (fun h=>?_) (fun h=>?_)
    · obtain⟨kb,hkb,aNw⟩:=aMW (q:=(dv ds (10+3*(i:Int)).toNat % 1000000 % 5).toNat) (by omega)
      have f0:=Fw (dv ds ((10+3*(i:Int))+1).toNat % 1000000) (n:=((i+1:Nat):Int)) (by omega)
      refine aB ?_;refine Rh (α:=Nat×Nat) (fun x=>[(10,.pointer (some ⟨x.2,0,none⟩)),(9,iv (10+3*(i:Int))),(8,iv i),(7,.string ⟨#[112,100,103,109,103]⟩),(6,pt g4),(4,.slice (some ⟨g2,0,none⟩) 120 120),(3,iv 1),(2,pt g1)]) (fun x=>[HP.aE x.2 86 [.int .u8 kb.toNat,.slice (some ⟨x.1,0,none⟩) 1 1,.int .u64 0,iv 0,iv 0,iv 0],HP.aE x.1 3 [iv (dv ds ((10+3*(i:Int))+1).toNat % 1000000 % ((i+1:Nat):Int))],pU cs rows,HP.own 86 6 (.slice B (i+1) cB) (i+1) rows.flatten,HP.aE g4 30 [.slice B (i+1) cB,sn,sn,sn],HP.aE g2 3 (aN ds),HP.aE g1 30 [sn,sn,sn,sn]]) (fun _=>True) ?_ fun x _=>?_
      · refine rE ?_
        refine zD 16 18 rfl rfl (by kernel_rfl) ?_ ?_
        · refine eH fun g5=>?_
          refine bB ?_;refine mG 17 ?_;refine aL 18 ?_;refine bY fun g6=>?_;refine bB ?_;refine sV [19] ?_;refine aB ?_;exact dJ (_,_)
        · refine bY fun g6=>?_
          refine bB ?_;refine aL 16 ?_;refine eH fun g5=>?_;refine bB ?_;refine mG 17 ?_;refine sV [19] ?_;refine aCp ?_;refine lO 1 rfl ?_;dsimp only[List.set];refine aB ?_;exact dJ (_,_)
      obtain⟨g5,g6⟩:=x;dsimp only
      have f1:=Fw (dv ds ((10+3*(i:Int))+2).toNat % 1000000) (n:=((i+1:Nat):Int)) (by omega)
      refine Mn 1 1 1 rfl rfl (by omega) ?_;dsimp only[List.set];refine aB ?_;refine oF (α:=eW×(Option Addr×Nat)) (fun _=>[(10,pt g6),(8,iv i),(7,.string ⟨#[112,100,103,109,103]⟩),(6,pt g4),(4,.slice (some ⟨g2,0,none⟩) 120 120),(3,iv 1),(2,pt g1)]) (fun x=>[HP.aE g6 86 [.int .u8 x.1.kind,.slice x.2.1 x.1.src.length x.2.2,.int .u64 x.1.rate,iv x.1.mul,iv x.1.div,iv x.1.lock],HP.own 3 1 (.slice x.2.1 x.1.src.length x.2.2) x.1.src.length (aN x.1.src),pU cs rows,HP.own 86 6 (.slice B (i+1) cB) (i+1) rows.flatten,HP.aE g4 30 [.slice B (i+1) cB,sn,sn,sn],HP.aE g2 3 (aN ds),HP.aE g1 30 [sn,sn,sn,sn]]) (fun x=>x.1.fit (i+1)) ?_ fun x hx=>?_
      · refine aG rfl (fun h1=>?_) (fun h1=>?_)
        · refine aB ?_
          exact dJ (⟨_,[dv ds ((10+3*(i:Int))+1).toNat % 1000000 % ((i+1:Nat):Int)],_,_,_,_⟩,_,_) (hg:=⟨(fun f hf=>by rcases List.mem_singleton.1 hf with rfl;exact f0),.inr (.inl ⟨h1,rfl,rfl,by dsimp only;omega,by dsimp only;omega,by dsimp only;omega,by dsimp only;omega,by dsimp only;omega,by dsimp only;omega⟩)⟩)
        refine aB ?_;refine aG rfl (fun h2=>?_) (fun h2=>?_)
        · refine aB ?_
          exact dJ (⟨_,[dv ds ((10+3*(i:Int))+1).toNat % 1000000 % ((i+1:Nat):Int)],_,_,_,_⟩,_,_) (hg:=⟨(fun f hf=>by rcases List.mem_singleton.1 hf with rfl;exact f0),.inr (.inr (.inl ⟨h2,rfl,rfl,rfl,by dsimp only;omega,by dsimp only;omega,rfl⟩))⟩)
        refine aB ?_;refine aG rfl (fun h3=>?_) (fun h3=>?_)
        · refine rE ?_
          refine aL 11 ?_;refine eH fun g7=>?_;refine bB ?_;refine sV [12,13,14] ?_;refine aB ?_;refine Ih 2 fun A' k'=>?_;dsimp only[List.set];refine aB ?_;exact dJ (⟨_,[dv ds ((10+3*(i:Int))+1).toNat % 1000000 % ((i+1:Nat):Int),dv ds ((10+3*(i:Int))+2).toNat % 1000000 % ((i+1:Nat):Int)],_,_,_,_⟩,_,_) (hg:=⟨(fun f hf=>by simp only[List.mem_cons,List.not_mem_nil,or_false] at hf;rcases hf with rfl | rfl;exact f0;exact f1),.inr (.inr (.inr (.inr ⟨h3,rfl,rfl,rfl,rfl,rfl⟩)))⟩)
        · refine aB ?_
          exact dJ (⟨_,[dv ds ((10+3*(i:Int))+1).toNat % 1000000 % ((i+1:Nat):Int)],_,_,_,_⟩,_,_) (hg:=⟨(fun f hf=>by rcases List.mem_singleton.1 hf with rfl;exact f0),.inr (.inr (.inr (.inl ⟨by rcases aNw with h | h | h | h<;>simp_all,rfl,rfl,rfl,rfl,rfl⟩)))⟩)
      obtain⟨cl,Af,cf⟩:=x;dsimp only at hx⊢;refine aB ?_;refine eH fun g7=>?_;refine aB ?_;refine Ih 4 fun A' k'=>?_;dsimp only[List.set];refine aB ?_;refine aT [2,3,4,5,6,7] rfl (by decide) (fun _ h=>h) ?_;refine aRF ?_;exact jV ((_,_),(_,_),_) (hg:=⟨by simp[jS],by omega,hcf.snoc (by rw[jS];exact hx),by simp⟩)
    · refine aB ?_
      exact dJ ((_,_),(_,_),_) (hg:=⟨jS,Nat.succ_pos i,Nat.succ_le_succ hi8,hcf⟩)
  obtain⟨⟨cs,rows⟩,⟨B,cB⟩,nc⟩:=x;dsimp only at hx⊢;obtain⟨jS,Pk,hc9,hcf⟩:=hx;refine aB ?_;refine lI 88 3 ?_;refine oF (α:=(List Dom×List (List Value))×(Option Addr×Nat)×Nat) (fun _=>[(6,pt g4),(4,.slice (some ⟨g2,0,none⟩) 120 120),(2,pt g1)]) (fun x=>[HP.own 88 3 (.slice x.2.1.1 x.2.2 x.2.1.2) x.2.2 x.1.2.flatten,pU cs rows,HP.own 86 6 (.slice B nc cB) nc rows.flatten,HP.aE g4 30 [.slice B nc cB,.slice x.2.1.1 x.2.2 x.2.1.2,sn,sn],HP.aE g2 3 (aN ds),HP.aE g1 30 [sn,sn,sn,sn]]) (fun x=>x.1.1.length=x.2.2∧1≤x.2.2∧x.2.2≤4∧Fits Dom.fit x.1.1∧Rows tE 3 x.1.1 x.1.2) ?_ fun x hx=>?_
  · refine oB (α:=(List Dom×List (List Value))×(Option Addr×Nat)×List Value) (fun i _=>[(11,iv i),(6,pt g4),(4,.slice (some ⟨g2,0,none⟩) 120 120),(2,pt g1)]) (fun i x=>[HP.own 88 3 (.slice x.2.1.1 i x.2.1.2) i x.2.2,pU cs rows,HP.own 86 6 (.slice B nc cB) nc rows.flatten,HP.aE g4 30 [.slice B nc cB,.slice x.2.1.1 i x.2.1.2,sn,sn],HP.aE g2 3 (aN ds),HP.aE g1 30 [sn,sn,sn,sn]]) (fun i x=>x.1.1.length=i∧Fits Dom.fit x.1.1∧Rows tE 3 x.1.1 x.1.2∧x.2.2=x.1.2.flatten) 4 (([],[]),(none,0),[]) ⟨rfl,Fits.nil _,trivial,rfl⟩ fun i x hi hx=>?_
    obtain⟨⟨dm,yR⟩,⟨D,cD⟩,xs⟩:=x;dsimp only at hx⊢;obtain⟨lC,hdf,Pg,rfl⟩:=hx;refine aB ?_;refine aG rfl (fun h=>?_) (fun h=>?_)
    · refine aB ?_
      refine rE ?_;refine aL 15 ?_;refine bY fun g5=>?_;refine bB ?_;refine sV [16] ?_;refine aCp ?_;refine lO 0 rfl ?_;dsimp only[List.set];refine aFU ?_;refine gO ?_;refine Gr (α:=Int) (fun _=>[(12,pt g5),(11,iv i),(6,pt g4),(4,.slice (some ⟨g2,0,none⟩) 120 120),(2,pt g1)]) (fun v=>[HP.aE g5 88 [iv v,iv (dv ds (40+(i:Int)).toNat % 4),.bool (decide (dv ds (40+(i:Int)).toNat % 1000000 / 4 % 2=1))],HP.own 88 3 (.slice D i cD) i yR.flatten,pU cs rows,HP.own 86 6 (.slice B nc cB) nc rows.flatten,HP.aE g4 30 [.slice B nc cB,.slice D i cD,sn,sn],HP.aE g2 3 (aN ds),HP.aE g1 30 [sn,sn,sn,sn]]) (fun v=>v= -1∨(0≤v∧v < i)) ?_ fun v hv=>?_
      · refine aB ?_
        refine cG (t:=172) rfl (fun hg=>?_) (fun hg=>?_)
        · have f2:=Fw (dv ds (44+(i:Int)).toNat % 1000000 / 3) (n:=(i:Int)) hg
          refine aB ?_;refine aG rfl (fun h3=>?_) (fun h3=>?_)
          · refine aB ?_
            exact dJ _ (hg:=.inr f2)
          · refine aB ?_
            exact dJ _ (hg:=.inl rfl)
        · refine aB ?_
          exact dJ _ (hg:=.inl rfl)
      refine aB ?_;refine eH fun g7=>?_;refine aB ?_;refine Ih 2 fun A' k'=>?_;dsimp only[List.set];refine aB ?_;exact jV ((dm++[⟨v,dv ds (40+(i:Int)).toNat % 4,decide (dv ds (40+(i:Int)).toNat % 1000000 / 4 % 2=1)⟩],yR++[_]),(_,_),_) (hg:=⟨by simp[lC],hdf.snoc ⟨by rw[lC];exact hv,by dsimp only;omega,by dsimp only;omega⟩,Pg.snoc rfl rfl,by simp⟩)
    · refine aB ?_
      exact dJ ((_,_),(_,_),_) (hg:=⟨lC,by show 1≤i;omega,hi,hdf,Pg⟩)
  obtain⟨⟨dm,yR⟩,⟨D,cD⟩,nd⟩:=x;dsimp only at hx⊢;obtain⟨lC,dB,hd4,hdf,Pg⟩:=hx;refine aB ?_;refine lI 90 1 ?_;refine oF (α:=(List Int×List (List Value))×(Option Addr×Nat)×Nat) (fun _=>[(6,pt g4),(4,.slice (some ⟨g2,0,none⟩) 120 120),(2,pt g1)]) (fun x=>[HP.own 90 1 (.slice x.2.1.1 x.2.2 x.2.1.2) x.2.2 x.1.2.flatten,HP.own 88 3 (.slice D nd cD) nd yR.flatten,pU cs rows,HP.own 86 6 (.slice B nc cB) nc rows.flatten,HP.aE g4 30 [.slice B nc cB,.slice D nd cD,.slice x.2.1.1 x.2.2 x.2.1.2,sn],HP.aE g2 3 (aN ds),HP.aE g1 30 [sn,sn,sn,sn]]) (fun x=>x.1.1.length=x.2.2∧1≤x.2.2∧x.2.2≤3∧(∀r∈x.1.1,0≤r∧r≤3)∧Rows xN 1 x.1.1 x.1.2) ?_ fun x hx=>?_
  · refine oB (α:=(List Int×List (List Value))×(Option Addr×Nat)×List Value) (fun i _=>[(13,iv i),(6,pt g4),(4,.slice (some ⟨g2,0,none⟩) 120 120),(2,pt g1)]) (fun i x=>[HP.own 90 1 (.slice x.2.1.1 i x.2.1.2) i x.2.2,HP.own 88 3 (.slice D nd cD) nd yR.flatten,pU cs rows,HP.own 86 6 (.slice B nc cB) nc rows.flatten,HP.aE g4 30 [.slice B nc cB,.slice D nd cD,.slice x.2.1.1 i x.2.1.2,sn],HP.aE g2 3 (aN ds),HP.aE g1 30 [sn,sn,sn,sn]]) (fun i x=>x.1.1.length=i∧(∀r∈x.1.1,0≤r∧r≤3)∧Rows xN 1 x.1.1 x.1.2∧x.2.2=x.1.2.flatten) 3 (([],[]),(none,0),[]) ⟨rfl,by simp,trivial,rfl⟩ fun i x hi hx=>?_
    obtain⟨⟨rs,rrs⟩,⟨L,cL⟩,xs⟩:=x;dsimp only at hx⊢;obtain⟨hrl,Fa,cR,rfl⟩:=hx;refine aB ?_;refine aG rfl (fun h=>?_) (fun h=>?_)
    · refine aB ?_
      refine rE ?_;refine aL 9 ?_;refine eH fun g7=>?_;refine bB ?_;refine sV [10,11,12] ?_;refine aB ?_;refine Ih 1 fun A' k'=>?_;dsimp only[List.set];refine aB ?_
      exact jV ((rs++[dv ds (50+(i:Int)).toNat % 4],rrs++[_]),(_,_),_) (hg:=⟨by simp[hrl],(fun r hr=>by
        rcases List.mem_append.1 hr with hr | hr
        · exact Fa r hr
        · rcases List.mem_singleton.1 hr with rfl
          omega),cR.snoc rfl rfl,by simp⟩)
    · refine aB ?_
      exact dJ ((_,_),(_,_),_) (hg:=⟨hrl,by show 1≤i;omega,hi,Fa,cR⟩)
  obtain⟨⟨rs,rrs⟩,⟨L,cL⟩,nr⟩:=x;dsimp only at hx⊢;obtain⟨hrl,dO,wS,Fa,cR⟩:=hx;refine aB ?_;refine lI 93 6 ?_;refine aIa (p:=Ds [] []) (fun w=>trivial) ?_;refine oF (α:=(List cH×List (List Value))×(Option Addr×Nat)×Nat) (fun _=>[(6,pt g4),(4,.slice (some ⟨g2,0,none⟩) 120 120),(2,pt g1)]) (fun x=>[Ds x.1.1 x.1.2,HP.own 93 6 (.slice x.2.1.1 x.2.2 x.2.1.2) x.2.2 x.1.2.flatten,HP.own 90 1 (.slice L nr cL) nr rrs.flatten,HP.own 88 3 (.slice D nd cD) nd yR.flatten,pU cs rows,HP.own 86 6 (.slice B nc cB) nc rows.flatten,HP.aE g4 30 [.slice B nc cB,.slice D nd cD,.slice L nr cL,.slice x.2.1.1 x.2.2 x.2.1.2],HP.aE g2 3 (aN ds),HP.aE g1 30 [sn,sn,sn,sn]]) (fun x=>x.1.1.length=x.2.2∧1≤x.2.2∧x.2.2≤4∧Fits (cH.fit nc nd nr) x.1.1) ?_ fun x hx=>?_
  · refine oB (α := (List cH × List (List Value)) × (Option Addr × Nat) × List Value) (fun i _ => [(14, iv i), (6, pt g4), (4, .slice (some ⟨g2, 0, none⟩) 120 120), (2, pt g1)]) (fun i x => [Ds x.1.1 x.1.2, HP.own 93 6 (.slice x.2.1.1 i x.2.1.2) i x.2.2, HP.own 90 1 (.slice L nr cL) nr rrs.flatten, HP.own 88 3 (.slice D nd cD) nd yR.flatten, pU cs rows, HP.own 86 6 (.slice B nc cB) nc rows.flatten, HP.aE g4 30 [.slice B nc cB, .slice D nd cD, .slice L nr cL, .slice x.2.1.1 i x.2.1.2], HP.aE g2 3 (aN ds), HP.aE g1 30 [sn, sn, sn, sn]]) (fun i x => x.1.1.length = i ∧ Fits (cH.fit nc nd nr) x.1.1 ∧ x.2.2 = x.1.2.flatten) 4 (([], []), (none, 0), []) ⟨rfl, Fits.nil _, rfl⟩ fun i x hi hx => ?_
    obtain⟨⟨vs,r4⟩,⟨V,cV⟩,xs⟩:=x;dsimp only at hx⊢;obtain⟨hvl,hvf,rfl⟩:=hx;refine aB ?_;refine aG rfl (fun h=>?_) (fun h=>?_)
    · have q0 := Fw (dv ds (60 + 12 * (i : Int)).toNat % 1000000) (n := (nc : Int)) (by omega)
      have q1:=Fw (dv ds (60+12*(i:Int)+1).toNat % 1000000) (n:=(nd:Int)) (by omega)
      have q2:=Fw (dv ds (60+12*(i:Int)+2).toNat % 1000000) (n:=(nr:Int)) (by omega)
      refine aB ?_;refine rE ?_;refine aL 34 ?_;refine bY fun g5=>?_;refine bB ?_;refine sV [35] ?_;refine aB ?_;refine lI 95 2 ?_;refine oF (α:=List Rg×(Option Addr×Nat)×Nat) (fun _=>[(16,pt g5),(15,iv (60+12*(i:Int))),(14,iv i),(6,pt g4),(4,.slice (some ⟨g2,0,none⟩) 120 120),(2,pt g1)]) (fun x=>[HP.own 95 2 (.slice x.2.1.1 x.2.2 x.2.1.2) x.2.2 (x.1.flatMap Rg.cells),HP.aE g5 93 [iv (dv ds (60+12*(i:Int)).toNat % 1000000 % (nc:Int)),iv (dv ds (60+12*(i:Int)+1).toNat % 1000000 % (nd:Int)),iv (dv ds (60+12*(i:Int)+2).toNat % 1000000 % (nr:Int)),.int .u32 (dv ds (60+12*(i:Int)+3).toNat % 1000000 % 3),.slice x.2.1.1 x.2.2 x.2.1.2,sn],Ds vs r4,HP.own 93 6 (.slice V i cV) i r4.flatten,HP.own 90 1 (.slice L nr cL) nr rrs.flatten,HP.own 88 3 (.slice D nd cD) nd yR.flatten,pU cs rows,HP.own 86 6 (.slice B nc cB) nc rows.flatten,HP.aE g4 30 [.slice B nc cB,.slice D nd cD,.slice L nr cL,.slice V i cV],HP.aE g2 3 (aN ds),HP.aE g1 30 [sn,sn,sn,sn]]) (fun x=>x.1.length=x.2.2∧x.2.2≤4∧∀r∈x.1,0≤r.reset∧r.reset≤6) ?_ fun x hx=>?_
      · refine oB (α:=List Rg×(Option Addr×Nat)×List Value) (fun j _=>[(17,iv j),(16,pt g5),(15,iv (60+12*(i:Int))),(14,iv i),(6,pt g4),(4,.slice (some ⟨g2,0,none⟩) 120 120),(2,pt g1)]) (fun j x=>[HP.own 95 2 (.slice x.2.1.1 j x.2.1.2) j x.2.2,HP.aE g5 93 [iv (dv ds (60+12*(i:Int)).toNat % 1000000 % (nc:Int)),iv (dv ds (60+12*(i:Int)+1).toNat % 1000000 % (nd:Int)),iv (dv ds (60+12*(i:Int)+2).toNat % 1000000 % (nr:Int)),.int .u32 (dv ds (60+12*(i:Int)+3).toNat % 1000000 % 3),.slice x.2.1.1 j x.2.1.2,sn],Ds vs r4,HP.own 93 6 (.slice V i cV) i r4.flatten,HP.own 90 1 (.slice L nr cL) nr rrs.flatten,HP.own 88 3 (.slice D nd cD) nd yR.flatten,pU cs rows,HP.own 86 6 (.slice B nc cB) nc rows.flatten,HP.aE g4 30 [.slice B nc cB,.slice D nd cD,.slice L nr cL,.slice V i cV],HP.aE g2 3 (aN ds),HP.aE g1 30 [sn,sn,sn,sn]]) (fun j x=>x.1.length=j∧(∀r∈x.1,0≤r.reset∧r.reset≤6)∧x.2.2=x.1.flatMap Rg.cells) 4 ([],(none,0),[]) ⟨rfl,by simp,rfl⟩ fun j x hj hx=>?_
        obtain⟨rg,⟨W,cW⟩,xs⟩:=x;dsimp only at hx⊢;obtain⟨nY,hgf,rfl⟩:=hx;refine aB ?_;refine aG rfl (fun h5=>?_) (fun h5=>?_)
        · refine aB ?_
          refine rE ?_;refine aL 22 ?_;refine eH fun g7=>?_;refine bB ?_;refine sV [23,24,25] ?_;refine aB ?_;refine Ih 1 fun A' k'=>?_;dsimp only[List.set];refine aB ?_
          exact jV (rg++[⟨dv ds (60+12*(i:Int)+5+(j:Int)).toNat % 1000000 % 7,decide (dv ds (60+12*(i:Int)+5+(j:Int)).toNat % 1000000 / 7 % 2=0)⟩],(_,_),_) (hg:=⟨by simp[nY],(fun r hr=>by
            rcases List.mem_append.1 hr with hr | hr
            · exact hgf r hr
            · rcases List.mem_singleton.1 hr with rfl
              dsimp only
              omega),by simp[Rg.cells]⟩)
        · refine aB ?_
          exact dJ (_,(_,_),_) (hg:=⟨nY,hj,hgf⟩)
      obtain⟨rg,⟨W,cW⟩,ng⟩:=x;dsimp only at hx⊢;obtain⟨rfl,hg4,hgf⟩:=hx;refine lI 3 1 ?_;refine Gr (α:=(List Int×List Value)×(Option Addr×Nat)×Nat) (fun _=>[(16,pt g5),(15,iv (60+12*(i:Int))),(14,iv i),(6,pt g4),(4,.slice (some ⟨g2,0,none⟩) 120 120),(2,pt g1)]) (fun x=>[HP.own 3 1 (.slice x.2.1.1 x.2.2 x.2.1.2) x.2.2 x.1.2,HP.own 95 2 (.slice W rg.length cW) rg.length (rg.flatMap Rg.cells),HP.aE g5 93 [iv (dv ds (60+12*(i:Int)).toNat % 1000000 % (nc:Int)),iv (dv ds (60+12*(i:Int)+1).toNat % 1000000 % (nd:Int)),iv (dv ds (60+12*(i:Int)+2).toNat % 1000000 % (nr:Int)),.int .u32 (dv ds (60+12*(i:Int)+3).toNat % 1000000 % 3),.slice W rg.length cW,.slice x.2.1.1 x.2.2 x.2.1.2],Ds vs r4,HP.own 93 6 (.slice V i cV) i r4.flatten,HP.own 90 1 (.slice L nr cL) nr rrs.flatten,HP.own 88 3 (.slice D nd cD) nd yR.flatten,pU cs rows,HP.own 86 6 (.slice B nc cB) nc rows.flatten,HP.aE g4 30 [.slice B nc cB,.slice D nd cD,.slice L nr cL,.slice V i cV],HP.aE g2 3 (aN ds),HP.aE g1 30 [sn,sn,sn,sn]]) (fun x=>x.1.1.length=x.2.2∧x.2.2≤1∧x.1.2=aN x.1.1∧∀f∈x.1.1,0≤f∧f < i) ?_ fun x hx=>?_
      · refine aB ?_
        refine cG (t:=300) rfl (fun hg=>?_) (fun hg=>?_)
        · have f2:=Fw (dv ds (60+12*(i:Int)+10).toNat % 1000000) (n:=(i:Int)) hg
          refine aB ?_;refine aG rfl (fun h3=>?_) (fun h3=>?_)
          · refine rE ?_
            refine aL 9 ?_;refine eH fun g7=>?_;refine bB ?_;refine sV [10,11,12] ?_;refine aB ?_;refine Ih 1 fun A' k'=>?_;dsimp only[List.set];refine aB ?_;exact dJ (([_],_),(_,_),_) (hg:=⟨rfl,Nat.le_refl _,rfl,fun f hf=>by rcases List.mem_singleton.1 hf with rfl;exact f2⟩)
          · refine aB ?_
            exact dJ (([],_),(_,_),_) (hg:=⟨rfl,Nat.zero_le _,rfl,by simp⟩)
        · refine aB ?_
          exact dJ (([],_),(_,_),_) (hg:=⟨rfl,Nat.zero_le _,rfl,by simp⟩)
      obtain⟨⟨ns,xs⟩,⟨U,cU⟩,nn⟩:=x;dsimp only at hx⊢;obtain⟨fN,qD,rfl,hnf⟩:=hx;refine Gr (α:=(List Int×List Value)×(Option Addr×Nat)×Nat) (fun _=>[(16,pt g5),(15,iv (60+12*(i:Int))),(14,iv i),(6,pt g4),(4,.slice (some ⟨g2,0,none⟩) 120 120),(2,pt g1)]) (fun x=>[HP.own 3 1 (.slice x.2.1.1 x.2.2 x.2.1.2) x.2.2 x.1.2,HP.own 95 2 (.slice W rg.length cW) rg.length (rg.flatMap Rg.cells),HP.aE g5 93 [iv (dv ds (60+12*(i:Int)).toNat % 1000000 % (nc:Int)),iv (dv ds (60+12*(i:Int)+1).toNat % 1000000 % (nd:Int)),iv (dv ds (60+12*(i:Int)+2).toNat % 1000000 % (nr:Int)),.int .u32 (dv ds (60+12*(i:Int)+3).toNat % 1000000 % 3),.slice W rg.length cW,.slice x.2.1.1 x.2.2 x.2.1.2],Ds vs r4,HP.own 93 6 (.slice V i cV) i r4.flatten,HP.own 90 1 (.slice L nr cL) nr rrs.flatten,HP.own 88 3 (.slice D nd cD) nd yR.flatten,pU cs rows,HP.own 86 6 (.slice B nc cB) nc rows.flatten,HP.aE g4 30 [.slice B nc cB,.slice D nd cD,.slice L nr cL,.slice V i cV],HP.aE g2 3 (aN ds),HP.aE g1 30 [sn,sn,sn,sn]]) (fun x=>x.1.1.length=x.2.2∧x.2.2≤2∧x.1.2=aN x.1.1∧∀f∈x.1.1,0≤f∧f < i) ?_ fun x hx=>?_
      · refine aB ?_
        refine cG (t:=323) rfl (fun hg=>?_) (fun hg=>?_)
        · have f2:=Fw (dv ds (60+12*(i:Int)+11).toNat % 1000000 / 3) (n:=(i:Int)) (by omega)
          refine aB ?_;refine aG rfl (fun h3=>?_) (fun h3=>?_)
          · refine rE ?_
            refine aL 10 ?_;refine eH fun g7=>?_;refine bB ?_;refine sV [11,12,13] ?_;refine aB ?_;refine Ih 1 fun A' k'=>?_;dsimp only[List.set];refine aB ?_
            exact dJ ((ns++[dv ds (60+12*(i:Int)+11).toNat % 1000000 / 3 % (i:Int)],_),(_,_),_) (hg:=⟨by simp[fN],by show nn+1≤2;omega,by simp[aN],fun f hf=>by
              rcases List.mem_append.1 hf with hf | hf
              · exact hnf f hf
              · rcases List.mem_singleton.1 hf with rfl
                exact f2⟩)
          · refine aB ?_
            exact dJ ((_,_),(_,_),_) (hg:=⟨fN,Nat.le_succ_of_le qD,rfl,hnf⟩)
        · refine aB ?_
          exact dJ ((_,_),(_,_),_) (hg:=⟨fN,Nat.le_succ_of_le qD,rfl,hnf⟩)
      obtain⟨⟨ns,xs⟩,⟨U,cU⟩,nn⟩:=x;dsimp only at hx⊢;obtain⟨rfl,hn2,rfl,hnf⟩:=hx;refine aB ?_;refine eH fun g7=>?_;refine aB ?_;refine Ih 5 fun A' k'=>?_;dsimp only[List.set];refine aB ?_;refine aT [2,1,4,5,6,7,8,9,10,11,12] rfl (by decide) (fun _ h=>h) ?_;refine aRC (d:=⟨dv ds (60+12*(i:Int)).toNat % 1000000 % (nc:Int),dv ds (60+12*(i:Int)+1).toNat % 1000000 % (nd:Int),dv ds (60+12*(i:Int)+2).toNat % 1000000 % (nr:Int),dv ds (60+12*(i:Int)+3).toNat % 1000000 % 3,rg,ns⟩) ?_;exact jV ((_,_),(_,_),_) (hg:=⟨by simp[hvl],hvf.snoc ⟨q0.1,q0.2,q1.1,q1.2,q2.1,q2.2,by dsimp only;omega,by dsimp only;omega,hg4,hgf,hn2,by rw[hvl];exact hnf⟩,by simp⟩)
    · refine aB ?_
      exact dJ ((_,_),(_,_),_) (hg:=⟨hvl,by show 1≤i;omega,hi,hvf⟩)
  obtain⟨⟨vs,r4⟩,⟨V,cV⟩,nv⟩:=x;dsimp only at hx⊢;obtain⟨rfl,hv1,hv4,hvf⟩:=hx;subst jS;subst lC;subst hrl;refine aB ?_;refine lO 8 rfl ?_;dsimp only[List.set];refine aB ?_;refine aT [8,5,4,3,2,1,0] rfl (by decide) (fun _ h=>h) ?_;refine dG [] [] [0,1,2,3,4,5,6] (by simp) rfl (by decide) (by decide) fun q _ _ hfr=>?_;exact Gn rfl (by kernel_rfl) rfl rfl (aM.whole 0 rfl) fun w1 t=>⟨⟨_,_,⟨w1,q.Z⟩,rfl,rfl,⟨_,_,rfl,⟨⟨cs,dm,rs,vs⟩,(B,cB),(D,cD),(L,cL),(V,cV),rows,yR,rrs,r4,rfl,⟨hcf,hdf,Fa,hvf,⟨Nat.zero_le _,hc9⟩,⟨Nat.zero_le _,hd4⟩,⟨Nat.zero_le _,wS⟩,⟨Nat.zero_le _,hv4⟩⟩,Pg,cR,rfl⟩⟩,t.newR (by simp) (by simp) (hfr (by simp) (by simp))⟩,t.below (by simp)⟩
theorem aQg(A:Option Addr)(n c:Nat)(zs:List Int)(w:World)(h0:aI (all w) 1 A n (aN zs))(hz:aBi zs)(hn:n=zs.length)(hn2:n≤9223372036854775807):
  Cz 9 #[.slice A n c] w fun x w'=>(∃v,x=.returned v∧∃cs s,v=.agg cs∧uK (fI (fresh w w')) s cs∧s.made)∧Below w.heap.size w w':=
 (aQf A n c zs w h0 hz hn hn2).mono fun x w' ⟨⟨v,hs,q,h1,h2,⟨p,hs',h3,h4⟩,h5⟩,h6⟩=>⟨⟨v,h1,h4.weak h2 (by subst h3;exact h5.tail)⟩,h6⟩
end
end Go.Proofs.YtkgekojkboingaaGreatDoor
