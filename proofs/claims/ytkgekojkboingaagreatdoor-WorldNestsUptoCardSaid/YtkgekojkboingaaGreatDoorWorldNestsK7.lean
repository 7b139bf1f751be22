/- The chip, its firmware and its tasks: what holds always. No walk in sight. -/
import Derived.Test.YtkgekojkboingaaGreatDoorWorldNestsK6
namespace Go.Proofs.YtkgekojkboingaaGreatDoor
set_option linter.all false
set_option maxHeartbeats 4000000
set_option maxRecDepth 20000
open Go.RowKit Go.Proofs.Tryz
section
theorem aNF:([(4,17),(7,20),(4,22)]:List (Int×Int)).all (fun q=>(List.range 1024).all fun k=>aG5 q.1 q.2 k)=true:=by decide+kernel
def Ya(p:fD):Prop:=(p.msg=4∧p.pr=17)∨(p.msg=7∧p.pr=20)∨(p.msg=4∧p.pr=22)
theorem aNG{p:fD}(h:Ya p){k:Int}(h0:0≤k)(h1:k < 1024):(gZ p.msg 0 p.pr k).2=0∧cK (gZ p.msg 0 p.pr k).1 28 4=0∧cK (gZ p.msg 0 p.pr k).1 0 8=p.msg∧cK (gZ p.msg 0 p.pr k).1 8 2=0∧cK (gZ p.msg 0 p.pr k).1 10 8=p.pr:=by
 have ha:=aNF
 rw[List.all_eq_true] at ha;obtain⟨n,rfl⟩:∃n:Nat,k=n:=⟨k.toNat,by omega⟩
 have key:aG5 p.msg p.pr (n:Int)=true:=by
  have h2:=ha (p.msg,p.pr) (by
   obtain⟨pr,msg,id,v⟩:=p;dsimp only[Ya] at h⊢
   rcases h with⟨rfl,rfl⟩ | ⟨rfl,rfl⟩ | ⟨rfl,rfl⟩<;>simp)
  rw[List.all_eq_true] at h2;exact h2 n (List.mem_range.2 (by omega))
 obtain⟨e1,e2,e3,e4,e5,_⟩:=of_decide_eq_true key;exact⟨e1,e2,e3,e4,e5⟩
theorem aF9(m t p k:Int):0≤(gZ m t p k).1∧(gZ m t p k).1 < 4294967296:=by
 unfold gZ
 repeat' split
 all_goals first | exact aL7 _ _ _ _ | exact⟨Int.le_refl 0,(by decide:(0:Int) < 4294967296)⟩
theorem aRz{s:aC}{x y:dR}:∀p∈allM s x y,Ya p:=by
 intro p hp;unfold allM vO at hp;simp only[List.mem_append,pU,List.mem_map] at hp;rcases hp with⟨i,_,rfl⟩ | ⟨i,_,rfl⟩ | ⟨i,_,rfl⟩ | ⟨i,_,rfl⟩ | ⟨i,_,rfl⟩ | ⟨i,_,rfl⟩
 all_goals simp[Ya]
theorem aRf{s:aC}{x:aR}{l:List Int}{st:Int}(hl:nK l):nK (Jm s x l st):=by
 have h0:0≤l.headD 0∧l.headD 0 < 4294967296:=by
  cases l with
  | nil=>exact⟨by decide,by decide⟩
  | cons a r=>exact hl a (by simp)
 have hm : nK (oK s x l) := by
  intro v hv;unfold oK at hv;dsimp only at hv;split at hv
  ·simp at hv;subst hv;decide
  ·split at hv
   ·simp at hv;subst hv;exact Nx _
   ·split at hv
    ·simp at hv;subst hv;unfold Ic
     repeat' split
     all_goals decide
    ·split at hv
     ·simp at hv;rcases hv with rfl | rfl<;>exact Nx _
     ·cases hv
 intro v hv;unfold Jm at hv;rw[List.mem_cons,List.mem_cons] at hv;rcases hv with rfl | rfl | hv
 ·exact h0
 ·exact Nx _
 ·split at hv
  ·exact hm v hv
  ·cases hv
theorem aRg{s:aC}{x:aR}{l:List Int}{st:Int}:2≤(Jm s x l st).length∧(Jm s x l st).length≤4:=by
 have:=aFR s x l
 unfold Jm;split<;>simp<;>omega
theorem aHz{s:aC}{x y:dR}{wt:List Int}{ag:Nat}{l:List Int}(hu:nK l):((oO s x y wt ag l).2.1=0∧((oO s x y wt ag l).1=0→tE l))∨((oO s x y wt ag l).1=0∧(oO s x y wt ag l).2=(fF s l).2∧(fF s l).1=0∧(oO s x y wt ag l).2.1≠0∧tE l∧Nk s (oO s x y wt ag l).2.1 (oO s x y wt ag l).2.2):=by
 unfold oO
 by_cases h:(fF s l).1≠0∨(fF s l).2.1=0∨tN (if ag=0 then x else y) (fF s l).2.1 (fF s l).2.2=decide (qX (fF s l).2.1)
 ·rw[if_pos h];exact .inl ⟨rfl,fun h=>aFz hu h⟩
 ·rw[if_neg h]
  have h1:(fF s l).1=0:=Classical.byContradiction fun hc=>h (.inl hc)
  have h2:(fF s l).2.1≠0:=fun hc=>h (.inr (.inl hc))
  have hr:=aFz hu h1
  have hk:Nk s (fF s l).2.1 (fF s l).2.2:=by
   rcases aF0 (s:=s) hu with⟨h0,_⟩ | ⟨_,hk,nT,hi1,_,_⟩
   ·exact absurd h0 h2
   ·refine⟨by unfold Ui at hk;omega,fun h99=>⟨nT,?_⟩⟩;rw[h99] at hi1
    simpa[Ba,Pd] using hi1
  have no:∀e:Int,e≠0→e=0→tE l:=fun _ h k=>absurd k h
  by_cases ho:qX (fF s l).2.1
  ·rw[if_pos ho];split
   ·exact .inl ⟨rfl,no _ (by decide)⟩
   ·exact .inr ⟨rfl,rfl,h1,h2,hr,hk⟩
  ·rw[if_neg ho];split
   ·exact .inl ⟨rfl,no _ (by decide)⟩
   ·split
    ·exact .inl ⟨rfl,no _ (by decide)⟩
    ·exact .inr ⟨rfl,rfl,h1,h2,hr,hk⟩
theorem aHV(s:aC)(x:aR)(k id:Int):(Jo s x k id).1.wt=x.wt∧(Jo s x k id).1.aU=x.aU:=by
 unfold Jo Ol Xb Of Kw Jl
 repeat' split
 all_goals exact⟨rfl,rfl⟩
structure FwB(s:aC)(y:cI):Prop where
 fm:Ej s y
 ax:y.x.of s
 ay:y.y.of s
 h0:y.h0=0∨y.h0=1∨y.h0=2
 h1:y.h1=0∨y.h1=1∨y.h1=2
 r0:y.h0=2→2≤y.w0.length
 r1:y.h1=2→2≤y.w1.length
structure oU(s:aC)(y:cI):Prop extends FwB s y where
 at_:y.at_= -1∨∃a:Nat,y.at_=(a:Int)∧a < 2∧yX y a=1∧Nk s y.kind y.id∧tE (kB y a)
theorem oU.step{s:aC}{x:aR}{y:cI}(h:oU s y)(hx:cX s x):aIx s x y:=by
 refine⟨hx,h.fm,?_,fun _ a _ h1 h2=>?_,fun _ a _ h1=>?_⟩
 ·rcases h.at_ with h1 | ⟨a,h1,h2,_,h3,h4⟩
  ·exact .inl (by omega)
  ·exact .inr ⟨a,h1,h2,h3,h4⟩
 ·rcases aHz (s:=s) (x:=y.x) (y:=y.y) (wt:=mK s x) (ag:=a) (h.fm.box a).1 with⟨_,h3⟩ | ⟨_,_,_,h3,_⟩
  ·exact h3 h2
  ·exact absurd h1 h3
 ·rcases aHz (s:=s) (x:=y.x) (y:=y.y) (wt:=mK s x) (ag:=a) (h.fm.box a).1 with⟨h3,_⟩ | ⟨_,_,_,_,h4,h5⟩
  ·exact absurd h3 h1
  ·exact⟨h5,h4⟩
theorem aIO{s:aC}{x:aR}{y:cI}(h:FwB s y)(eO:y.at_= -1){a:Nat}(ha:a < 2)(st:Int):oU s (yO s x y a st):=by
 have hb:=h.fm.box a
 have hu:=aRf (s:=s) (x:=x) (st:=st) hb.1
 have hl:=aRg (s:=s) (x:=x) (l:=kB y a) (st:=st)
 have Dk:(Jm s x (kB y a) st).length≤1000000:=Nat.le_trans hl.2 (by decide)
 unfold yO aF2;split
 ·exact⟨⟨⟨h.fm.la,hu,h.fm.u1,Dk,h.fm.n1,h.fm.sx,h.fm.sy⟩,h.ax,h.ay,.inr (.inr rfl),h.h1,fun _=>hl.1,h.r1⟩,.inl eO⟩
 ·exact⟨⟨⟨h.fm.la,h.fm.u0,hu,h.fm.n0,Dk,h.fm.sx,h.fm.sy⟩,h.ax,h.ay,h.h0,.inr (.inr rfl),h.r0,fun _=>hl.1⟩,.inl eO⟩
theorem aEY{s:aC}{x:dR}(h:x.of s)(k id:Int):(oZ x k id).of s:=by
 obtain⟨h1,h2,h3⟩:=aEZ x k id;exact⟨h1.trans h.d,h2.trans h.c,h3.trans h.l⟩
theorem oU.end_{s:aC}{y:cI}(h:oU s y){a:Nat}(eO:y.at_=(a:Int))(ha:a < 2)(r:aR×Bool):oU s (Gf s y r):=by
 unfold Gf;split
 ·rw[eO,Int.toNat_natCast];exact aIO (y:={y with at_:= -1}) ⟨⟨h.fm.la,h.fm.u0,h.fm.u1,h.fm.n0,h.fm.n1,h.fm.sx,h.fm.sy⟩,h.ax,h.ay,h.h0,h.h1,h.r0,h.r1⟩ rfl ha 0
 ·exact h
theorem oU.next{s:aC}{x:aR}{y:cI}(hH:s.dH)(h:oU s y)(hx:cX s x):oU s (wM s x y).1∧cX s (wM s x y).2∧(wM s x y).2.wt=x.wt∧(wM s x y).2.aU=x.aU:=by
 unfold wM;dsimp only;rcases h.at_ with eO | ⟨a,eO,ha,_⟩
 ·have hlt:y.at_ < 0:=by omega
  cases hn:sH y with
  | none=>
   have ht:nP s x y=(y,false):=by unfold nP;rw[hn]
   rw[ht,if_pos ⟨hlt,rfl⟩];exact⟨h,hx,rfl,rfl⟩
  | some a =>
   have ha:=aFK h.fm.la hn
   have Bk:yX y a=1:=by
    unfold sH at hn;split at hn
    ·cases hn;assumption
    ·split at hn
     ·cases hn;assumption
     ·cases hn
   have hla:(a:Int)=0∨(a:Int)=1:=by omega
   have ht:nP s x y=wK s x y a:=by unfold nP;rw[hn]
   rw[ht]
   by_cases hd:(gI s x y a).2.1=0
   ·have e:wK s x y a=(yO s x {y with last:=a} a (gI s x y a).1,false):=by
     unfold wK;dsimp only;rw[if_pos hd]
    rw[e,if_pos ⟨hlt,rfl⟩];exact⟨aIO (y:={y with last:=a}) ⟨⟨hla,h.fm.u0,h.fm.u1,h.fm.n0,h.fm.n1,h.fm.sx,h.fm.sy⟩,h.ax,h.ay,h.h0,h.h1,h.r0,h.r1⟩ eO ha _,hx,rfl,rfl⟩
   ·have e:wK s x y a=({y with last:=a,x:=lG y.x a (gI s x y a).2.1 (gI s x y a).2.2,y:=lF y.y a (gI s x y a).2.1 (gI s x y a).2.2,at_:=a,kind:=(gI s x y a).2.1,id:=(gI s x y a).2.2},true):=by
     unfold wK;dsimp only;rw[if_neg hd]
    rw[e,if_neg (by simp),if_pos hlt];dsimp only;obtain⟨hk,hr⟩:=(h.step hx).new hlt a hn hd
    have hax:(lG y.x a (gI s x y a).2.1 (gI s x y a).2.2).of s:=by
     unfold lG;split
     ·exact aEY h.ax _ _
     ·exact h.ax
    have hay:(lF y.y a (gI s x y a).2.1 (gI s x y a).2.2).of s:=by
     unfold lF;split
     ·exact h.ay
     ·exact aEY h.ay _ _
    obtain⟨w1,w2⟩:=aHV s x (gI s x y a).2.1 (gI s x y a).2.2
    exact⟨oU.end_ (y:={y with last:=a,x:=lG y.x a (gI s x y a).2.1 (gI s x y a).2.2,y:=lF y.y a (gI s x y a).2.1 (gI s x y a).2.2,at_:=a,kind:=(gI s x y a).2.1,id:=(gI s x y a).2.2})
     ⟨⟨⟨hla,h.fm.u0,h.fm.u1,h.fm.n0,h.fm.n1,aPu h.fm.sx _ _ _,aPt h.fm.sy _ _ _⟩,hax,hay,h.h0,h.h1,h.r0,h.r1⟩,.inr ⟨a,rfl,ha,Bk,hk,hr⟩⟩ rfl ha _,aD9 hH hx _ _,w1,w2⟩
 ·have hlt:¬y.at_ < 0:=by omega
  rw[if_neg (fun hh=>hlt hh.1),if_neg hlt];obtain⟨w1,w2⟩:=aHV s x y.kind y.id;exact⟨h.end_ eO ha _,aD9 hH hx _ _,w1,w2⟩
theorem oU.send{s:aC}{y:cI}(h:oU s y)(a:Int){l:List Int}(hu:nK l)(hn:l.length≤1000000):oU s (jZ y a l).2:=by
 have eO:∀b:Nat,y.at_= -1∨(∃c:Nat,y.at_=(c:Int)∧c < 2∧yX y c=1∧Nk s y.kind y.id∧tE (kB y c)):=fun _=>h.at_
 unfold jZ;split
 ·exact h
 ·split
  ·split
   ·exact h
   ·rename_i Dq
    have Dq:y.h0=0:=Classical.byContradiction Dq
    refine⟨⟨⟨h.fm.la,hu,h.fm.u1,hn,h.fm.n1,h.fm.sx,h.fm.sy⟩,h.ax,h.ay,.inr (.inl rfl),h.h1,(fun h=>absurd (show(1:Int)=2 from h) (by decide)),h.r1⟩,?_⟩;rcases h.at_ with h1 | ⟨c,h1,h2,h3,h4,h5⟩
    ·exact .inl h1
    ·refine .inr ⟨c,h1,h2,?_⟩;obtain rfl | rfl:c=0∨c=1:=by omega
     ·exact absurd (Dq.symm.trans h3) (by decide)
     ·exact⟨h3,h4,h5⟩
  ·split
   ·exact h
   ·rename_i Dq
    have Dq:y.h1=0:=Classical.byContradiction Dq
    refine⟨⟨⟨h.fm.la,h.fm.u0,hu,h.fm.n0,hn,h.fm.sx,h.fm.sy⟩,h.ax,h.ay,h.h0,.inr (.inl rfl),h.r0,fun h=>absurd (show(1:Int)=2 from h) (by decide)⟩,?_⟩;rcases h.at_ with h1 | ⟨c,h1,h2,h3,h4,h5⟩
    ·exact .inl h1
    ·refine .inr ⟨c,h1,h2,?_⟩;obtain rfl | rfl:c=0∨c=1:=by omega
     ·exact⟨h3,h4,h5⟩
     ·exact absurd (Dq.symm.trans h3) (by decide)
theorem oU.read{s:aC}{y:cI}(h:oU s y)(a:Int):oU s (mA y a):=by
 unfold mA;split
 ·split
  ·rename_i h2
   refine⟨⟨⟨h.fm.la,(fun _ hv=>by cases hv),h.fm.u1,Nat.zero_le _,h.fm.n1,h.fm.sx,h.fm.sy⟩,h.ax,h.ay,.inl rfl,h.h1,(fun h=>absurd (show(0:Int)=2 from h) (by decide)),h.r1⟩,?_⟩;rcases h.at_ with h1 | ⟨c,h1,hc,h3,h4,h5⟩
   ·exact .inl h1
   ·refine .inr ⟨c,h1,hc,?_⟩;obtain rfl | rfl:c=0∨c=1:=by omega
    ·exact absurd (h2.symm.trans h3) (by decide)
    ·exact⟨h3,h4,h5⟩
  ·exact h
 ·split
  ·split
   ·rename_i h2
    refine⟨⟨⟨h.fm.la,h.fm.u0,(fun _ hv=>by cases hv),h.fm.n0,Nat.zero_le _,h.fm.sx,h.fm.sy⟩,h.ax,h.ay,h.h0,.inl rfl,h.r0,fun h=>absurd (show(0:Int)=2 from h) (by decide)⟩,?_⟩;rcases h.at_ with h1 | ⟨c,h1,hc,h3,h4,h5⟩
    ·exact .inl h1
    ·refine .inr ⟨c,h1,hc,?_⟩;obtain rfl | rfl:c=0∨c=1:=by omega
     ·exact⟨h3,h4,h5⟩
     ·exact absurd (h2.symm.trans h3) (by decide)
   ·exact h
  ·exact h
theorem FwB.ans{s:aC}{y:cI}(h:FwB s y){b:Int}{a:List Int}(ha:mP y b=some a):2≤a.length:=by
 unfold mP at ha;split at ha
 ·split at ha
  ·cases ha;exact h.r0 (by assumption)
  ·cases ha
 ·split at ha
  ·split at ha
   ·cases ha;exact h.r1 (by assumption)
   ·cases ha
  ·cases ha
theorem aOE{s:aC}(hT:s.wW):oU s (sQ s):=
 ⟨⟨⟨.inr rfl,(fun _ hv=>by simp[sQ] at hv),(fun _ hv=>by simp[sQ] at hv),by simp[sQ],by simp[sQ],aEv hT,aEv hT⟩,⟨by simp[sQ,jM],by simp[sQ,jM],by simp[sQ,jM]⟩,⟨by simp[sQ,jM],by simp[sQ,jM],by simp[sQ,jM]⟩,.inl rfl,.inl rfl,(fun h=>by simp[sQ] at h),(fun h=>by simp[sQ] at h)⟩,.inl rfl⟩
end
section
theorem aCZ:∀(l:List (Int×Int)) (k v j:Int),jH (Aj l k v) j=if j=k then v else jH l j
 | [], k, v, j => by
  by_cases h:j=k
  ·subst h;simp[jH,Aj]
  ·rw[if_neg h]
   have h2:¬k=j:=fun e=>h e.symm
   simp[jH,Aj,h2]
 | (a, b) :: l, k, v, j => by
  have ih:=aCZ l k v j
  unfold Aj
  by_cases Fz:a=k
  ·subst Fz;rw[if_pos rfl]
   by_cases h:j=a
   ·subst h;simp[jH]
   ·have h2:¬a=j:=fun e=>h e.symm
    simp[jH,h,h2]
  ·rw[if_neg Fz]
   by_cases haj:a=j
   ·subst haj;rw[if_neg Fz];simp[jH]
   ·have e1:∀m,jH ((a,b)::m) j=jH m j:=fun m=>by simp[jH,haj]
    rw[e1,e1,ih]
theorem nN(a b:Int){p:Prop}(h:a=b)(hn:a≠b:=by decide):p:=absurd h hn
theorem Eu{z:bH}{i j:Nat}{t:qA}(hi:T3 i)(hj:T3 j):(z.jC j t).tk i=if i=j then t else z.tk i:=by
 rcases hi with rfl | rfl | rfl<;>rcases hj with rfl | rfl | rfl<;>rfl
structure RwB(s:aC)(z:bH):Prop where
 wn:z.wn.of s
 len:∀j,T3 j→(z.tk j).hs.length=6
 nn:∀j,T3 j→∀i,0≤hG (z.tk j) i
 cnt:∀i:Nat,hG (z.tk 0) i+hG (z.tk 1) i+hG (z.tk 2) i=jH z.cn.l (i:Int)
 c7:∀i:Nat,jH z.cn.l (i:Int)≤7
 call:∀j,T3 j→(z.tk j).st=1→vE (z.tk j).kind
 st:∀j,T3 j→0≤(z.tk j).st∧(z.tk j).st≤3
 val:∀j,T3 j→0≤(z.tk j).val∧(z.tk j).val < 4294967296
 many:0≤z.many∧z.many < 1024
 Cs:∀p∈z.steps,Ya p∧p.ok
def aBw(z:bH):Prop:=(z.cM= -1∧(∀j,T3 j→(z.tk j).st≠2)∧z.aU=false∧z.steps=[]∧z.sent=false)∨(∃j:Nat,T3 j∧z.cM=(j:Int)∧(∀i,T3 i→((z.tk i).st=2↔i=j))∧(z.aU=false→z.steps≠[]))
structure oP(s:aC)(z:bH):Prop extends RwB s z where
 cM:aBw z
theorem aOl{s:aC}{z:bH}(h:RwB s z){j:Nat}(hj:T3 j)(i:Nat):hG (z.tk j) i≤7:=by
 have h0:=h.nn 0 (.inl rfl) i
 have h1:=h.nn 1 (.inr (.inl rfl)) i
 have h2:=h.nn 2 (.inr (.inr rfl)) i
 have h3:=h.cnt i
 have h4:=h.c7 i
 rcases hj with rfl | rfl | rfl<;>omega
theorem RwB.rp{s:aC}{z:bH}(h:RwB s z):Sb s z:=⟨h.wn,fun j hj=>⟨h.len j hj,fun i=>⟨h.nn j hj i,by have:=aOl h hj i;omega⟩⟩⟩
theorem RwB.jC{s:aC}{z:bH}(h:RwB s z){j:Nat}(hj:T3 j){t:qA}(hh:t.hs=(z.tk j).hs)(hs:0≤t.st∧t.st≤3)(hv:0≤t.val∧t.val < 4294967296)(hc:t.st=1→vE t.kind):RwB s (z.jC j t):=by
 have hg:∀i,T3 i→((z.jC j t).tk i).hs=(z.tk i).hs:=fun i hi=>by
  rw[Eu hi hj];split
  ·rename_i e;subst e;exact hh
  ·rfl
 have hG':∀i,T3 i→∀k,hG ((z.jC j t).tk i) k=hG (z.tk i) k:=fun i hi k=>by unfold hG;rw[hg i hi]
 refine⟨h.wn,fun i hi=>by rw[hg i hi];exact h.len i hi,fun i hi k=>by rw[hG' i hi];exact h.nn i hi k,fun i=>?_,h.c7,fun i hi=>?_,fun i hi=>?_,fun i hi=>?_,h.many,h.Cs⟩
 ·rw[hG' 0 (.inl rfl),hG' 1 (.inr (.inl rfl)),hG' 2 (.inr (.inr rfl))];exact h.cnt i
 ·rw[Eu hi hj];split
  ·exact hc
  ·exact h.call i hi
 ·rw[Eu hi hj];split
  ·exact hs
  ·exact h.st i hi
 ·rw[Eu hi hj];split
  ·exact hv
  ·exact h.val i hi
theorem RwB.qE{s:aC}{z:bH}(h:RwB s z){j:Nat}(hj:T3 j){d:Nat}(hd:d < 6){k:Int}{c:Cn}(hc:∀i:Nat,jH c.l (i:Int)=if i=d then jH z.cn.l (d:Int)+k else jH z.cn.l (i:Int))(h0:0≤hG (z.tk j) d+k)(h7:jH z.cn.l (d:Int)+k≤7):RwB s {z.jC j (qE (z.tk j) d k) with cn:=c}:=by
 have ht:∀i,T3 i→({z.jC j (Go.Proofs.YtkgekojkboingaaGreatDoor.qE (z.tk j) d k) with cn:=c}:bH).tk i=if i=j then Go.Proofs.YtkgekojkboingaaGreatDoor.qE (z.tk j) d k else z.tk i:=fun i hi=>(show _=(z.jC j (Go.Proofs.YtkgekojkboingaaGreatDoor.qE (z.tk j) d k)).tk i from rfl).trans (Eu hi hj)
 have hu:∀i,hG (Go.Proofs.YtkgekojkboingaaGreatDoor.qE (z.tk j) d k) i=if d=i then hG (z.tk j) d+k else hG (z.tk j) i:=fun i=>aGH (h.len j hj) hd
 have hg:∀i,T3 i→∀n,hG (({z.jC j (Go.Proofs.YtkgekojkboingaaGreatDoor.qE (z.tk j) d k) with cn:=c}:bH).tk i) n=hG (z.tk i) n+(if i=j∧n=d then k else 0):=fun i hi n=>by
  rw[ht i hi]
  by_cases e:i=j
  ·subst e;rw[if_pos rfl,hu]
   by_cases e2:d=n
   ·subst e2;simp
   ·rw[if_neg e2,if_neg (fun hh=>e2 hh.2.symm)];omega
  ·rw[if_neg e,if_neg (fun hh=>e hh.1)];omega
 refine⟨h.wn,fun i hi=>?_,fun i hi n=>?_,fun n=>?_,fun n=>?_,fun i hi=>?_,fun i hi=>?_,fun i hi=>?_,h.many,h.Cs⟩
 ·rw[ht i hi];split
  ·show((z.tk j).hs.set _ _).length=6
   rw[List.length_set];exact h.len j hj
  ·exact h.len i hi
 ·rw[hg i hi]
  have:=h.nn i hi n
  split
  ·rename_i e
   obtain⟨rfl,rfl⟩:=e;exact h0
  ·omega
 ·rw[hg 0 (.inl rfl),hg 1 (.inr (.inl rfl)),hg 2 (.inr (.inr rfl))]
  show _=jH c.l (n:Int)
  rw[hc]
  have:=h.cnt n
  by_cases e:n=d
  ·subst e;rcases hj with rfl | rfl | rfl<;>simp<;>omega
  ·rw[if_neg e,if_neg (fun hh=>e hh.2),if_neg (fun hh=>e hh.2),if_neg (fun hh=>e hh.2)];omega
 ·show jH c.l (n:Int)≤7
  rw[hc];split
  ·exact h7
  ·exact h.c7 n
 ·rw[ht i hi];split
  ·rename_i e;subst e;exact h.call _ hi
  ·exact h.call i hi
 ·rw[ht i hi];split
  ·rename_i e;subst e;exact h.st _ hi
  ·exact h.st i hi
 ·rw[ht i hi];split
  ·rename_i e;subst e;exact h.val _ hi
  ·exact h.val i hi
theorem aQC{n:Nat}{c:Cn}{d:Int}(h:(rJ n c d).1=0)(h0:0≤jH c.l d):c.lS=false∧0≤d∧d < n∧jH c.l d < 7∧(rJ n c d).2=⟨Aj c.l d (jH c.l d+1),c.lS⟩:=by
 unfold rJ at h⊢;split at h
 ·simp at h
 ·rename_i h1
  split at h
  ·simp at h
  ·rename_i h2
   split at h
   ·simp at h
   ·rename_i h3
    rw[if_neg h1,if_neg h2,if_neg h3,iU (by omega)];exact⟨by simpa using h1,by omega,by omega,by omega,rfl⟩
theorem aPZ{n:Nat}{c:Cn}{d:Int}(h:(uJ n c d).1=0)(h7:jH c.l d≤7):c.lS=false∧0≤d∧d < n∧0 < jH c.l d∧(uJ n c d).2=⟨Aj c.l d (jH c.l d - 1),c.lS⟩:=by
 unfold uJ at h⊢;split at h
 ·simp at h
 ·rename_i h1
  split at h
  ·simp at h
  ·rename_i h2
   split at h
   ·simp at h
   ·rename_i h3
    rw[if_neg h1,if_neg h2,if_neg h3,iU (by omega)];exact⟨by simpa using h1,by omega,by omega,by omega,rfl⟩
theorem aBp{s:aC}{z:bH}(hm:s.made)(h:RwB s z):RwB s (uT s z):=
 ⟨aJ4 s z,h.len,h.nn,h.cnt,h.c7,h.call,h.st,h.val,h.many,fun p hp=>⟨aRz p hp,aR0 hm _ _ p hp⟩⟩
theorem RwB.same{s:aC}{z:bH}(h:RwB s z)(c:Cn)(hc:c.l=z.cn.l):RwB s {z with cn:=c}:=
 ⟨h.wn,h.len,h.nn,fun i=>by show _=jH c.l _;rw[hc];exact h.cnt i,fun i=>by show jH c.l _≤7;rw[hc];exact h.c7 i,h.call,h.st,h.val,h.many,h.Cs⟩
structure aEm(s:aC)(z:bH)(x:aR)(r:Int×bH×aR):Prop where
 b:RwB s r.2.1
 st:∀i,(r.2.1.tk i).st=(z.tk i).st
 err:r.1≠0→r.2.1=z∧r.2.2=x
 x_:r.2.1.aU=false→r.2.2=x
 po:r.2.1.aU=true→z.aU=true∨∃(d:Nat) (wr:Bool) (rg v:Int) (dv:cG),s.aD[d]? =some dv∧0≤rg∧rg < dv.aS.length∧0≤v∧v < 4294967296∧r.2.1.id=x.aU∧r.2.2=Ia x d wr rg v
theorem aPc{s:aC}(hm:s.made){z:bH}(h:RwB s z)(x:aR){j:Nat}(hj:T3 j)(k:Int):aEm s z x (uH s x z j k):=by
 have hnd:=Zx s
 have rE:=hm.nv
 have same:∀e:Int,aEm s z x (e,z,x):=fun e=>⟨h,fun _=>rfl,fun _=>⟨rfl,rfl⟩,fun _=>rfl,fun hp=>.inl hp⟩
 have Kq:∀(d:Nat) (q:Int) (c:Cn) (i:Nat),((uT s {z.jC j (qE (z.tk j) d q) with cn:=c}).tk i).st=(z.tk i).st:=fun d q c i=>by
  show((z.jC j (qE (z.tk j) d q)).tk i).st=_
  rcases hj with rfl | rfl | rfl
  all_goals
   match i with
   | 0=>rfl
   | 1=>rfl
   | n+2=>rfl
 have acc : ∀ wr : Bool, aEm s z x (vP s x z j wr) := fun wr => by
  unfold vP;split
  ·exact same 4
  ·rename_i hb
   split
   ·exact same 6
   ·split
    ·refine⟨⟨h.wn,h.len,h.nn,h.cnt,h.c7,h.call,h.st,h.val,h.many,h.Cs⟩,fun _=>rfl,fun h=>absurd rfl h,(fun h=>by cases h),fun _=>.inr ?_⟩
     have h1:bT s.aD.length (z.tk j).dev=true:=by
      cases hh:bT s.aD.length (z.tk j).dev with
      | true=>rfl
      | false=>exact absurd (.inl hh) hb
     have h2:=of_decide_eq_true h1
     obtain⟨dv,Dm⟩:=get_some (l:=s.aD) (i:=(z.tk j).dev.toNat) (by omega)
     have h3:¬(z.tk j).bO < 0:=fun hh=>hb (.inr (.inl hh))
     have h4:¬Tr s (z.tk j).dev≤(z.tk j).bO:=fun hh=>hb (.inr (.inr hh))
     unfold Tr at h4;rw[Dm] at h4;simp only[Option.map_some,Option.getD_some] at h4;exact⟨_,wr,(z.tk j).bO,(z.tk j).val,dv,Dm,by omega,by omega,(h.val j hj).1,(h.val j hj).2,rfl,rfl⟩
    ·exact same 6
 unfold uH;split
 ·unfold Ga;split
  ·exact same _
  ·rename_i h1
   have h1:(rJ (dK s).length z.cn (z.tk j).dev).1=0:=Classical.byContradiction h1
   have hd0:=aHB h1
   obtain⟨d,hd⟩:∃d:Nat,(z.tk j).dev=d:=⟨(z.tk j).dev.toNat,by omega⟩
   rw[hd] at h1 hd0⊢;obtain⟨_,_,h2,h3,h4⟩:=aQC h1 (by have:=h.cnt d;have:=h.nn 0 (.inl rfl) d;have:=h.nn 1 (.inr (.inl rfl)) d;have:=h.nn 2 (.inr (.inr rfl)) d;omega);rw[h4,Int.toNat_natCast];refine⟨aBp hm (h.qE hj (by omega) (fun i=>?_) (by have:=h.nn j hj d;omega) (by omega)),Kq _ _ _,fun h=>absurd rfl h,fun _=>rfl,fun hp=>.inl hp⟩;dsimp only;rw[aCZ]
   by_cases e:i=d
   ·subst e;simp
   ·rw[if_neg (by omega),if_neg e]
 ·split
  ·unfold Fb;split
   ·exact same _
   ·rename_i hin
    split
    ·exact same _
    ·rename_i h0
     split
     ·exact same _
     ·rename_i h1
      have h1:(uJ (dK s).length z.cn (z.tk j).dev).1=0:=Classical.byContradiction h1
      have hin:bT s.aD.length (z.tk j).dev=true:=by simpa using hin
      have hin:=of_decide_eq_true hin
      obtain⟨d,hd⟩:∃d:Nat,(z.tk j).dev=d:=⟨(z.tk j).dev.toNat,by omega⟩
      rw[hd] at h1 h0 hin⊢;rw[Int.toNat_natCast] at h0⊢;obtain⟨_,_,h2,h3,h4⟩:=aPZ h1 (h.c7 d);rw[h4];refine⟨aBp hm (h.qE hj (by omega) (fun i=>?_) (by have:=h.nn j hj d;omega) (by have:=h.c7 d;omega)),Kq _ _ _,fun h=>absurd rfl h,fun _=>rfl,fun hp=>.inl hp⟩;dsimp only;rw[aCZ]
      by_cases e:i=d
      ·subst e;simp;omega
      ·rw[if_neg (by omega),if_neg e]
  ·split
   ·exact acc false
   ·split
    ·exact acc true
    ·split
     ·unfold Ew;split
      ·exact same _
      ·rename_i h1
       refine⟨aBp hm (h.same _ ?_),fun _=>rfl,fun h=>absurd rfl h,fun _=>rfl,fun hp=>.inl hp⟩;unfold xQ;split<;>rfl
     ·unfold Ez;split
      ·exact same _
      ·refine⟨aBp hm (h.same _ ?_),fun _=>rfl,fun h=>absurd rfl h,fun _=>rfl,fun hp=>.inl hp⟩;unfold xR;split<;>rfl
theorem RwB.end_{s:aC}{z:bH}(h:RwB s z){j:Nat}(hj:T3 j)(h2:∀i,T3 i→(z.tk i).st=2→i=j)(e r:Int):oP s (oB z j e r):=by
 have h1:=h.jC hj (t:={z.tk j with st:=3,err:=e,res:=r}) rfl ⟨by show(0:Int)≤3;decide,by show(3:Int)≤3;decide⟩ (h.val j hj) (fun hh=>nN 3 1 hh)
 refine⟨⟨h1.wn,h1.len,h1.nn,h1.cnt,h1.c7,h1.call,h1.st,h1.val,h1.many,fun p hp=>by cases hp⟩,.inl ⟨rfl,fun i hi hst=>?_,rfl,rfl,rfl⟩⟩
 have hst:((z.jC j {z.tk j with st:=3,err:=e,res:=r}).tk i).st=2:=hst
 rw[Eu hi hj] at hst;split at hst
 ·exact nN 3 2 hst
 ·rename_i hne
  exact hne (h2 i hi hst)
theorem aMg{z:bH}{i j:Nat}(hi:T3 i)(hj:T3 j):(pE z j).tk i=if i=j then {z.tk j with st:=2} else z.tk i:=Eu hi hj
theorem aQX{s:aC}(hm:s.made){z:bH}(h:oP s z)(hh:z.cM < 0)(x:aR){j:Nat}(hj:T3 j):oP s (lR s x z j).1∧z.aU=false∧((lR s x z j).1.aU=false→(lR s x z j).2=x)∧((lR s x z j).1.aU=true→∃(d:Nat) (wr:Bool) (rg v:Int) (dv:cG),s.aD[d]? =some dv∧0≤rg∧rg < dv.aS.length∧0≤v∧v < 4294967296∧(lR s x z j).1.id=x.aU∧(lR s x z j).2=Ia x d wr rg v):=by
 obtain⟨_,hno,lO,hsp,kY⟩:z.cM= -1∧(∀j,T3 j→(z.tk j).st≠2)∧z.aU=false∧z.steps=[]∧z.sent=false:=by
  rcases h.cM with h1 | ⟨i,_,h1,_⟩
  ·exact h1
  ·omega
 have hb:RwB s (pE z j):=by
  have:=h.toRwB.jC hj (t:={z.tk j with st:=2}) rfl ⟨by show(0:Int)≤2;decide,by show(2:Int)≤3;decide⟩ (h.val j hj) (fun hh=>nN 2 1 hh)
  exact⟨this.wn,this.len,this.nn,this.cnt,this.c7,this.call,this.st,this.val,this.many,this.Cs⟩
 have h2:∀i,T3 i→(((pE z j).tk i).st=2↔i=j):=fun i hi=>by
  rw[aMg hi hj];split
  ·rename_i e;exact⟨fun _=>e,fun _=>rfl⟩
  ·rename_i e;exact⟨fun hh=>absurd hh (hno i hi),fun hh=>absurd hh e⟩
 have he:=aPc hm hb x hj (z.tk j).kind
 have hho:=aHf s x (pE z j) j (z.tk j).kind
 have aNw:(pE z j).aU=false:=lO
 unfold lR;dsimp only;generalize uH s x (pE z j) j (z.tk j).kind=r at he hho;split
 ·rename_i hne
  obtain⟨e1,e2⟩:=he.err hne;rw[e1,e2];exact⟨hb.end_ hj (fun i hi hst=>(h2 i hi).1 hst) _ _,lO,fun _=>rfl,fun hp=>by cases hp⟩
 ·have h3:∀i,T3 i→((r.2.1.tk i).st=2↔i=j):=fun i hi=>by rw[he.st i];exact h2 i hi
  split
  ·rename_i hc
   exact⟨he.b.end_ hj (fun i hi hst=>(h3 i hi).1 hst) _ _,lO,fun _=>he.x_ hc.1,fun hp=>by cases hp⟩
  ·rename_i hc
   refine⟨⟨he.b,.inr ⟨j,hj,hho,h3,fun hp hs=>hc ⟨hp,by rw[hs];rfl⟩⟩⟩,lO,he.x_,fun hp=>?_⟩;rcases he.po hp with h4 | h4
   ·rw[aNw] at h4;cases h4
   ·exact h4
theorem aR6{s:aC}{z:bH}{y:cI}(h:oP s z)(hy:oU s y){j:Nat}(hj:T3 j)(hst:(z.tk j).st=2)(lO:z.aU=false):oP s (mU z y j).1∧oU s (mU z y j).2∧(mU z y j).1.aU=false:=by
 obtain⟨hh,h2,hne⟩:z.cM=(j:Int)∧(∀i,T3 i→((z.tk i).st=2↔i=j))∧z.steps≠[]:=by
  rcases h.cM with⟨_,h1,_⟩ | ⟨i,hi,h1,h2,h3⟩
  ·exact absurd hst (h1 j hj)
  ·obtain rfl:=(h2 j hj).1 hst;exact⟨h1,h2,h3 lO⟩
 unfold mU;split
 ·cases hr:mP y 0 with
  | none=>exact⟨h,hy.read 0,lO⟩
  | some a =>
   dsimp only
   have hb:RwB s (oY z a):=by
    unfold oY;split
    ·exact⟨h.wn,h.len,h.nn,h.cnt,h.c7,h.call,h.st,h.val,h.many,fun p hp=>h.Cs p (List.mem_of_mem_tail hp)⟩
    ·exact⟨h.wn,h.len,h.nn,h.cnt,h.c7,h.call,h.st,h.val,h.many,h.Cs⟩
   have ht:∀i,(oY z a).tk i=z.tk i:=fun i=>by unfold oY;split<;>rfl
   have hhh:(oY z a).cM=z.cM:=by unfold oY;split<;>rfl
   have hpp:(oY z a).aU=z.aU:=by unfold oY;split<;>rfl
   split
   ·exact⟨hb.end_ hj (fun i hi hs=>by rw[ht] at hs;exact(h2 i hi).1 hs) _ _,hy.read 0,rfl⟩
   ·rename_i hl
    exact⟨⟨hb,.inr ⟨j,hj,hhh.trans hh,fun i hi=>by rw[ht];exact h2 i hi,fun _ hs=>hl (by rw[hs];rfl)⟩⟩,hy.read 0,hpp.trans lO⟩
 ·cases hs:z.steps with
  | nil=>exact absurd hs hne
  | cons p tl =>
   dsimp only;obtain⟨hk,hok⟩:=h.Cs p (by rw[hs];simp)
   have hu:nK (wE p z.many):=fun v hv=>by
    simp only[wE,List.mem_cons,List.not_mem_nil,or_false] at hv;rcases hv with rfl | rfl | rfl
    ·exact aF9 _ _ _ _
    ·exact hok.id
    ·exact hok.v
   have hy2:=hy.send 0 hu (by simp[wE])
   split
   ·refine⟨⟨⟨h.wn,h.len,h.nn,h.cnt,h.c7,h.call,h.st,h.val,?_,fun q hq=>h.Cs q (by rw[hs];exact hq)⟩,.inr ⟨j,hj,hh,h2,fun _ hc=>by cases hc⟩⟩,hy2,lO⟩
    have:=h.many
    show 0≤(z.many+1) % 1024∧(z.many+1) % 1024 < 1024
    omega
   ·exact⟨h,hy2,lO⟩
theorem aKh{s:aC}{z:bH}(h:oP s z)(t k d r v:Int)(hv:0≤v∧v < 4294967296):oP s (qF z t k d r v).2∧(qF z t k d r v).2.aU=z.aU∧(qF z t k d r v).2.id=z.id:=by
 unfold qF;split
 ·exact⟨h,rfl,rfl⟩
 ·rename_i hin
  obtain⟨j,rfl,hj⟩:=yR (t:=t) (by simpa using hin);rw[Int.toNat_natCast];split
  ·exact⟨h,rfl,rfl⟩
  ·rename_i h0
   have h0:(z.tk j).st=0:=Classical.byContradiction h0
   split
   ·exact⟨h,rfl,rfl⟩
   ·rename_i hk
    have hk:vE k:=Classical.byContradiction hk
    refine⟨⟨h.toRwB.jC hj rfl ⟨by show(0:Int)≤1;decide,by show(1:Int)≤3;decide⟩ hv (fun _=>hk),?_⟩,rfl,rfl⟩
    have key:∀i,T3 i→(((z.jC j {z.tk j with st:=1,kind:=k,dev:=d,bO:=r,val:=v}).tk i).st=2↔(z.tk i).st=2):=fun i hi=>by
     rw[Eu hi hj];split
     ·rename_i e;subst e
      rw[h0];exact⟨fun h=>nN 1 2 h,fun h=>nN 0 2 h⟩
     ·exact Iff.rfl
    rcases h.cM with⟨h1,h2,h3⟩ | ⟨i,hi,h1,h2,h3⟩
    ·exact .inl ⟨h1,fun i hi hs=>h2 i hi ((key i hi).1 hs),h3⟩
    ·exact .inr ⟨i,hi,h1,fun k hk=>(key k hk).trans (h2 k hk),h3⟩
theorem aPp{s:aC}{z:bH}(h:oP s z)(t:Int):oP s (iQ z t).2∧(iQ z t).2.aU=z.aU∧(iQ z t).2.id=z.id:=by
 unfold iQ;split
 ·exact⟨h,rfl,rfl⟩
 ·rename_i hin
  obtain⟨j,rfl,hj⟩:=yR (t:=t) (by simpa using hin);rw[Int.toNat_natCast];split
  ·exact⟨h,rfl,rfl⟩
  ·rename_i h0
   have h0:(z.tk j).st=3:=Classical.byContradiction h0
   refine⟨⟨h.toRwB.jC hj rfl ⟨by show(0:Int)≤0;decide,by show(0:Int)≤3;decide⟩ ⟨by show(0:Int)≤0;decide,by show(0:Int) < 4294967296;decide⟩ (fun h=>nN 0 1 h),?_⟩,rfl,rfl⟩
   have key:∀i,T3 i→(((z.jC j {z.tk j with st:=0,kind:=0,dev:=0,bO:=0,val:=0,err:=0,res:=0}).tk i).st=2↔(z.tk i).st=2):=fun i hi=>by
    rw[Eu hi hj];split
    ·rename_i e;subst e
     rw[h0];exact⟨fun h=>nN 0 2 h,fun h=>nN 3 2 h⟩
    ·exact Iff.rfl
   rcases h.cM with⟨h1,h2,h3⟩ | ⟨i,hi,h1,h2,h3⟩
   ·exact .inl ⟨h1,fun i hi hs=>h2 i hi ((key i hi).1 hs),h3⟩
   ·exact .inr ⟨i,hi,h1,fun k hk=>(key k hk).trans (h2 k hk),h3⟩
theorem aRh{s:aC}{z:bH}(h:oP s z)(a:fO):oP s (sX z a):=by
 unfold sX;split
 ·exact h
 ·rename_i hp
  obtain⟨j,hj,hh,h2⟩:∃j:Nat,T3 j∧z.cM=(j:Int)∧∀i,T3 i→((z.tk i).st=2↔i=j):=by
   rcases h.cM with⟨_,_,h1,_⟩ | ⟨i,hi,h1,h2,_⟩
   ·exact absurd h1 hp
   ·exact⟨i,hi,h1,h2⟩
  have h3:∀e r,oP s (oB z z.cM.toNat e r):=fun e r=>by
   rw[hh,Int.toNat_natCast];exact h.toRwB.end_ hj (fun i hi hs=>(h2 i hi).1 hs) e r
  split
  ·exact h
  ·split
   ·exact h3 _ _
   ·exact h3 _ _
theorem aHQ{s:aC}:∀(l:List fO) {z:bH},oP s z→oP s (nU z l)
 | [],_,h=>h
 | a::l,_,h=>aHQ l (aRh h a)
theorem oP.po{s:aC}{z:bH}(h:oP s z):Nf z:=fun hp=>by
 rcases h.cM with⟨_,_,h1,_⟩ | ⟨i,hi,h1,_⟩
 ·rw[h1] at hp;cases hp
 ·exact⟨i,h1,hi⟩
theorem oP.go{s:aC}{z:bH}{y:cI}(h:oP s z)(hy:FwB s y):aI3 s z y:=by
 refine⟨h.rp,h.call,fun j hj hst=>?_,h.many,fun p hp=>(aNG (h.Cs p hp).1 h.many.1 h.many.2).1,fun a ha=>hy.ans ha⟩;rcases h.cM with⟨_,h1,_⟩ | ⟨i,hi,h1,h2,h3⟩
 ·exact absurd hst (h1 j hj)
 ·obtain rfl:=(h2 j hj).1 hst;exact⟨h1,h3⟩
theorem aKU{s:aC}:oP s (Tn s):=by
 have ht:∀j,T3 j→(Tn s).tk j=Su:=by rintro j (rfl | rfl | rfl)<;>rfl
 have h0:∀i,hG Su i=0:=fun i=>by
  match i with
  | 0 | 1 | 2 | 3 | 4 | 5=>rfl
  | n+6=>rfl
 refine⟨⟨aBA s [],fun j hj=>by rw[ht j hj];rfl,fun j hj i=>by rw[ht j hj,h0];decide,fun i=>?_,fun i=>?_,fun j hj h=>?_,fun j hj=>?_,fun j hj=>?_,⟨by show(0:Int)≤0;decide,by show(0:Int) < 1024;decide⟩,fun p hp=>by cases hp⟩,.inl ⟨rfl,fun j hj h=>?_,rfl,rfl,rfl⟩⟩
 ·rw[ht 0 (.inl rfl),ht 1 (.inr (.inl rfl)),ht 2 (.inr (.inr rfl)),h0];rfl
 ·show(0:Int)≤7
  decide
 ·rw[ht j hj] at h;exact nN 0 1 h
 ·rw[ht j hj];decide
 ·rw[ht j hj];decide
 ·rw[ht j hj] at h;exact nN 0 2 h
end
section
theorem aSx{w0:World}{R:List Piece}{H:List HP}{q:Piece}{A:Option Addr}{es:List (Int×Nat)}{j:Nat}{p:Int×Nat}(hq:q∈R)(hs:aI q 2 A es.length (es.flatMap Dv))(hj:es[j]? =some p):∃b off,A=some ⟨b,off,none⟩∧aO w0 R H b (off+j*2) (Dv p):=by
 have hlt:=(List.getElem?_eq_some_iff.1 hj).1
 obtain⟨b,off,hA,hz,hc⟩:=aI.tQ (rows:=es.map Dv) (sz:=2) (k:=j) (r:=Dv p) (n:=es.length) (by rw[←List.flatMap_def];exact hs) (fun r hr=>by
  obtain⟨x,_,rfl⟩:=List.mem_map.1 hr
  rfl) (by rw[List.getElem?_map,hj];rfl) hlt
 exact⟨b,off,hA,.of fun k v hv=>Rd.ro hq hz (hc k v hv)⟩
def fN(s:aC)(x:aR):Nat→aR×List fO
 | 0=>(x,[])
 | n+1=>((iH s (fN s x n).1 n).1,(fN s x n).2++(iH s (fN s x n).1 n).2.toList)
def nA(s:aC)(x:aR)(aZ:Int):aR×List fO:=(Ny s (fN s x s.aD.length).1 aZ,(fN s x s.aD.length).2)
theorem Mr{s:aC}{x:aR}(hok:cX s x)(lN:Ef s x):∀n,cX s (fN s x n).1∧Ef s (fN s x n).1
 | 0=>⟨hok,lN⟩
 | n+1=>⟨aRm (Mr hok lN n).1 (Mr hok lN n).2 n,aRk (Mr hok lN n).2 n⟩
theorem aAQ{s:aC}{x:aR}:∀n,(fN s x n).2.length≤n
 | 0=>Nat.le_refl _
 | n+1=>by
  have:=aAQ (s:=s) (x:=x) n
  show((fN s x n).2++_).length≤_
  rw[List.length_append];cases(iH s (fN s x n).1 n).2<;>simp<;>omega
theorem aAP{s:aC}{x:aR}{i:Nat}(h:(x.wt[i]?).join=none):iH s x i=(x,none):=by
 unfold iH;rw[h]
theorem aD3{s:aC}{x:aR}{i:Nat}{t:iZ}(hok:cX s x)(hi:i < s.aD.length)(h:(x.wt[i]?).join=some t):∃a,(iH s x i).2=some a∧(iH s x i).1.wt=x.wt.set i none:=by
 obtain⟨d,hd⟩:=get_some hi;obtain⟨p,hp⟩:=get_some (l:=x.dv) (i:=i) (by have:=hok.dv;omega);unfold iH;rw[h,hd,hp];dsimp only;split<;>exact⟨_,rfl,rfl⟩
theorem aRn{s:aC}{x:aR}(hok:cX s x)(i j:Nat)(h:j=i∨(x.wt[j]?).join=none):((iH s x i).1.wt[j]?).join=none:=by
 cases hq:(x.wt[i]?).join with
 | none=>
  rw[aAP hq];rcases h with rfl | h
  ·exact hq
  ·exact h
 | some t =>
  have hlt:i < s.aD.length:=by
   have:=hok.wt
   rcases Nat.lt_or_ge i x.wt.length with h | h
   ·omega
   ·rw[List.getElem?_eq_none h] at hq;cases hq
  obtain⟨a,_,h2⟩:=aD3 hok hlt hq;rw[h2];cases hj:((x.wt.set i none)[j]?).join with
  | none=>rfl
  | some t' =>
   have h3:=aBL hj
   rcases h with rfl | h
   ·rw[List.getElem?_set] at hj;simp at hj;split at hj<;>cases hj
   ·rw[h] at h3;cases h3
theorem aHP{s:aC}{x:aR}(hok:cX s x)(lN:Ef s x):∀n j,j < n→((fN s x n).1.wt[j]?).join=none
 | 0,_,h=>absurd h (by omega)
 | n+1,j,h=>aRn (Mr hok lN n).1 n j (by
  by_cases hj:j=n
  ·exact .inl hj
  ·exact .inr (aHP hok lN n j (by omega)))
theorem aHM{s:aC}{x:aR}(hok:cX s x)(lN:Ef s x)(i:Nat):oX (fN s x s.aD.length).1.wt i=0:=by
 have h:=(Mr hok lN s.aD.length).1.wt
 unfold oX;rcases Nat.lt_or_ge i s.aD.length with hi | hi
 ·rw[aHP hok lN _ i hi];rfl
 ·rw[List.getElem?_eq_none (by omega)];rfl
theorem aNL(L:HL)(s:aC)(x0:aR)(w:World)(hH:s.dH)(aQ:gA L s)(aCI:cX s x0)(aGj:Ef s x0)(aZ:Int)(hd:0≤aZ∧aZ < 4294967296)(F:Nat→Prop)(hp:(dL L s x0).sat F w)(hF:∀b,F b→b < w.heap.size):
  Cz 94 #[.pointer (some ⟨L.h,0,none⟩),.int .u32 aZ] w (fun y w'=>∃a:Option Addr×Nat,y=.returned (.slice a.1 (nA s x0 aZ).2.length a.2)∧True∧∃F',(HP.many [dL L s (nA s x0 aZ).1,HP.own 44 4 (.slice a.1 (nA s x0 aZ).2.length a.2) (nA s x0 aZ).2.length ((nA s x0 aZ).2.flatMap fO.cells)]).sat F' w'∧iC w w' F F'):=by
 have rE:=hH.t.nv
 have hnd:=hH.t.nd
 have hls:=aQ.ds
 refine cT func94 ntmps94 hp hF ?_;generalize cO:(⟨w,fun b=>b < w.heap.size∧¬F b⟩:Piece)=R0;refine aA ?_;refine aV (fun w1 t=>Bh L s x0 w1 (t.mG 0 rfl aQ aCI)) ?_;refine aA ?_;refine kd (bJ rfl (pQ 0 rfl rfl)) ?_;refine aA ?_;refine lT 44 4 ?_;refine bM [(24,iv 0),(23,iv s.aD.length),(5,sn),(0,.pointer (some ⟨L.h,0,none⟩)),(1,.int .u32 aZ)] ?_;refine eU (fun m e R H=>∃(i:Nat) (A:Option Addr) (c:Nat),i≤s.aD.length∧m=s.aD.length - i∧e=[(24,iv i),(23,iv s.aD.length),(5,.slice A (fN s x0 i).2.length c),(0,.pointer (some ⟨L.h,0,none⟩)),(1,.int .u32 aZ)]∧R=[R0]∧H=[HP.own 44 4 (.slice A (fN s x0 i).2.length c) (fN s x0 i).2.length ((fN s x0 i).2.flatMap fO.cells),dL L s (fN s x0 i).1]) s.aD.length ⟨0,none,0,by omega,rfl,rfl,rfl,rfl⟩ fun m e R H hI=>?_;obtain⟨i,A0,c0,hi,rfl,rfl,rfl,rfl⟩:=hI;obtain⟨Dj,aAq⟩:=Mr aCI aGj i
 have hlen:=aAQ (s:=s) (x:=x0) i
 refine aA ?_;refine aG rfl (fun hlt=>?_) (fun hge=>?_)
 ·have hlt:i < s.aD.length:=by omega
  have dB:fN s x0 (i+1)=((iH s (fN s x0 i).1 i).1,(fN s x0 i).2++(iH s (fN s x0 i).1 i).2.toList):=rfl
  generalize hr:fN s x0 i=r at Dj aAq hlen dB⊢;obtain⟨xi,l⟩:=r;dsimp only at Dj aAq hlen dB⊢;cases hj:(xi.wt[i]?).join with
  | none=>
   rw[aAP hj] at dB;refine aA ?_;refine aV (fun w1 t=>aNT L s xi i hlt (by unfold oX;rw[hj];rfl) w1 (t.mG 1 rfl aQ Dj)) ?_;refine aA ?_;refine cE fun g1=>?_;refine aA ?_;refine aT [1,2] rfl (by decide) (fun _ h=>h) ?_;refine bM [(24,iv (i+1:Nat)),(23,iv s.aD.length),(5,.slice A0 l.length c0),(0,.pointer (some ⟨L.h,0,none⟩)),(1,.int .u32 aZ)] ?_;exact gQ (s.aD.length - (i+1)) (by omega) ⟨i+1,A0,c0,hlt,rfl,by rw[dB];simp,rfl,by rw[dB];simp⟩
  | some t=>
   obtain⟨d,cZ⟩:=get_some hlt;obtain⟨a,ha,_⟩:=aD3 Dj hlt hj;obtain⟨Gt,Rj,Ec,By⟩:=a;rw[ha] at dB;refine aA ?_;refine aAm (v:=.tuple #[.agg #[iv Gt,iv Rj,.bool Ec,.int .u32 By],.bool true]) 1 (dL L s (iH s xi i).1) (fun w1 F1 st h1 h2 h3=>aNS L s xi w1 hH aQ Dj aAq i d cZ t hj _ ha F1 h1 h2) ?_;dsimp only[List.set];refine aA ?_;refine cE fun g1=>?_;refine aA ?_;refine eK fun g4=>?_;refine aA ?_;refine iF 2 4 24 1 (n':=l.length+1) (el:=44) (by kernel_rfl) (by kernel_rfl) (by decide) rfl rfl rfl (mO 0 rfl rfl) (by simp[Value.oneCell']) rfl (by omega) (by omega) (by decide) fun An cn=>?_;dsimp only[List.set];refine aA ?_;refine aT [2,3] rfl (by decide) (fun _ h=>h) ?_;refine bM [(24,iv (i+1:Nat)),(23,iv s.aD.length),(5,.slice An (l.length+1) cn),(0,.pointer (some ⟨L.h,0,none⟩)),(1,.int .u32 aZ)] ?_;exact gQ (s.aD.length - (i+1)) (by omega) ⟨i+1,An,cn,hlt,rfl,by rw[dB];simp,rfl,by rw[dB];simp[fO.cells]⟩
 obtain rfl:i=s.aD.length:=by omega
 have lN:=aHM aCI aGj
 have aCM:nA s x0 aZ=(Ny s (fN s x0 s.aD.length).1 aZ,(fN s x0 s.aD.length).2):=rfl
 generalize hr:fN s x0 s.aD.length=r at Dj aAq hlen lN aCM⊢;obtain⟨x,l⟩:=r;dsimp only at Dj lN hlen aCM⊢;rw[aCM]
 have hok:=Dj
 have kZ:=hok.dv
 refine aT [1,0] rfl (by decide) (fun _ h=>h) ?_;generalize hT:HP.own 44 4 (.slice A0 l.length c0) l.length (l.flatMap fO.cells)=T;generalize hTv:Value.slice A0 l.length c0=tv;refine aA ?_;refine kd (bJ rfl (pQ 0 rfl rfl)) ?_;refine aA ?_
 have De:Cy x aZ 0=x.dv:=Ou _ _
 refine bM [(44,iv 0),(43,iv s.aD.length),(42,.slice L.A s.aD.length L.c),(5,tv),(0,.pointer (some ⟨L.h,0,none⟩)),(1,.int .u32 aZ)] ?_;refine eU (fun m e R H=>∃i:Nat,i≤s.aD.length∧m=s.aD.length - i∧e=[(44,iv i),(43,iv s.aD.length),(42,.slice L.A s.aD.length L.c),(5,tv),(0,.pointer (some ⟨L.h,0,none⟩)),(1,.int .u32 aZ)]∧R=[R0]∧H=[dL L s {x with dv:=Cy x aZ i},T]) s.aD.length ⟨0,by omega,rfl,rfl,rfl,by rw[De]⟩ fun m e R H hI=>?_;obtain⟨i,hi,rfl,rfl,rfl,rfl⟩:=hI
 have mQ:=aCo hH hok aZ i
 refine aA ?_;refine aG rfl (fun hlt=>?_) (fun hge=>?_)
 ·have hlt:i < s.aD.length:=by omega
  obtain⟨d,cZ⟩:=get_some hlt;obtain⟨l,iA⟩:=get_some (l:=L.ds) (i:=i) (by omega);obtain⟨p,gF⟩:=get_some (l:=x.dv) (i:=i) (by omega)
  have kN:(Cy x aZ i)[i]? =some p:=Ow gF
  have hstep:(Cy x aZ i).set i (p.1,yL p.2 (decide (0 < oX x.wt i)) (Wx aZ i))=Cy x aZ (i+1):=Ov (f:=fun i p=>(p.1,yL p.2 (decide (0 < oX x.wt i)) (Wx aZ i))) gF
  have hw0:decide (0 < oX x.wt i)=false:=by rw[lN i];rfl
  rw[hw0] at hstep;refine Mv 0 rfl aQ mQ (by omega) fun b off hA=>?_;refine aA ?_;refine kd (dat i (off+i*6) (hx:=by rw[←hA];rfl)) ?_;refine kd (jT rfl (aO.dev 0 rfl aQ mQ hA cZ iA rfl)) ?_;refine cE fun g1=>?_;refine aA ?_;refine iY [0,1,3,4,5,11,12,13] ?_;refine bK 2 ?_;refine bK 6 ?_;refine bK 9 ?_;refine bK 10 ?_;refine aK 0 ?_;refine aK 1 ?_;refine aK 3 ?_;refine aK 4 ?_;refine aK 5 ?_ (cN:=bJ rfl (pQ 1 rfl rfl));refine aK 11 ?_ (cN:=aHo rfl rfl (c:=aZ.fdiv (2 ^ min i 32)) (by omega) rfl);refine aK 12 ?_ (cN:=aHv (c:=aAS (aZ.fdiv (2 ^ min i 32)) 1) rfl rfl (fun _=>rfl) (by simp));refine aK 13 ?_;refine aL 7 ?_;refine aV (fun w1 t=>aHC L.B (jR s) x.wt x.aU i (by rw[Fh];exact hlt) w1 (t.mG 1 rfl aQ mQ).bus) ?_;refine bE ?_;refine aL 8 ?_;refine bF ?_;refine bE ?_;refine aL 14 ?_;refine Rp 1 i rfl cZ iA kN ?_;dsimp only[List.set];refine aY 0 1 ?_;refine bX 0 (tF l.2 (yL p.2 (decide ((oX x.wt i:Int)>0)) (Wx aZ i))) (fun w1 F1 t h1 h2 h3=>aL4 _ _ h1 h2) ?_;refine aJ 0 1 ?_;refine Rw 1 i rfl cZ iA kN (p':=(p.1,yL p.2 (decide ((oX x.wt i:Int)>0)) (Wx aZ i))) ?_;dsimp only[List.set]
  have hw1:decide ((oX x.wt i:Int)>0)=false:=by rw[lN i];rfl
  rw[hw1,hstep];refine cH ?_;refine eC ?_;refine aA ?_;refine aT [1,2] rfl (by decide) (fun _ h=>h) ?_;exact eP (s.aD.length - (i+1)) ⟨i+1,hlt,rfl,rfl,rfl,rfl⟩
 obtain rfl:i=s.aD.length:=by omega
 have aCH:=aCo hH hok aZ s.aD.length
 generalize Dm:Cy x aZ s.aD.length=Bu at aCH⊢;refine aA ?_;refine kd (bJ rfl (pQ 0 rfl rfl)) ?_;refine aA ?_;refine aY 0 1 ?_;refine bX 0 (pM L.T s (mM s x.ck)) (fun w1 F1 t h1 h2 h3=>aQn L.T s x.ck hH aQ.fa hok.ck w1 F1 h1 h2) ?_;refine aJ 0 1 ?_
 change XK _ _ _ _ _ [dL L s {x with ck:=mM s x.ck,dv:=Bu},T]
 refine aA ?_;refine kd (bJ rfl (pQ 0 rfl rfl)) ?_;refine aA ?_;refine aY 0 2 ?_;refine wA (α:=Option Addr×Nat) 0 (f:=155) (fi:=[]) (ca:=[]) (fun a=>.slice a.1 (kO x.dm s.domains.length).length a.2) (fun a=>HP.many [uR L.G s (pT x.dm),HP.own 242 2 (.slice a.1 (kO x.dm s.domains.length).length a.2) (kO x.dm s.domains.length).length ((kO x.dm s.domains.length).flatMap Dv)]) (fun _=>True) (by kernel_rfl) rfl rfl rfl (by decide) (fun w1 F1 t h1 h2 h3=>aLE L.G s x.dm hok.dm (by omega) w1 F1 h1 h2) ?_;rintro⟨Ae,ce⟩ _;dsimp only[List.set];refine aY 0 0 ?_;refine aJ 1 2 ?_;refine aY 0 1 ?_;refine dG [] [0] [2,3] (by simp) rfl (by decide) (by decide) fun q hq _ hfr=>?_;obtain⟨F2,wR,vW⟩:=hq 0 _ (by simp) rfl
 have Vm:aI q 2 Ae (kO x.dm s.domains.length).length ((kO x.dm s.domains.length).flatMap Dv):=aI.own ⟨F2,wR,vW⟩
 have mR:cX s {x with ck:=mM s x.ck,dm:=pT x.dm,dv:=Bu}:=⟨aBH hH hok.ck,aBG hok.dm,hok.ln,aCH.dv,aCH.each,hok.wt⟩
 have hel:(kO x.dm s.domains.length).length≤1000:=Nat.le_trans (aHc x.dm s.domains.length) (by omega)
 generalize Lv:kO x.dm s.domains.length=es at Vm hel⊢
 change XK _ _ _ _ _ [dL L s {x with ck:=mM s x.ck,dm:=pT x.dm,dv:=Bu},T]
 refine aA ?_;refine bM [(76,iv 0),(75,iv es.length),(74,.slice Ae es.length ce),(5,tv),(0,.pointer (some ⟨L.h,0,none⟩))] ?_;refine eU (fun m e R H=>∃j:Nat,j≤es.length∧m=es.length - j∧e=[(76,iv j),(75,iv es.length),(74,.slice Ae es.length ce),(5,tv),(0,.pointer (some ⟨L.h,0,none⟩))]∧R=[q,R0]∧H=[dL L s {x with ck:=mM s x.ck,dm:=pT x.dm,dv:=(es.take j).foldl (uI s) Bu},T]) es.length ⟨0,by omega,rfl,rfl,rfl,rfl⟩ fun m e R H hI=>?_;obtain⟨j,hj,rfl,rfl,rfl,rfl⟩:=hI
 have Pp:cX s {x with ck:=mM s x.ck,dm:=pT x.dm,dv:=(es.take j).foldl (uI s) Bu}:=aDb hH (es.take j) _ mR
 refine aA ?_;refine aG rfl (fun hlt=>?_) (fun hge=>?_)
 ·have hlt:j < es.length:=by omega
  obtain⟨p,gF⟩:=get_some hlt
  have dB:(es.take (j+1)).foldl (uI s) Bu=uI s ((es.take j).foldl (uI s) Bu) p:=by
   rw[List.take_add_one,gF,List.foldl_append];rfl
  generalize hx3:({x with ck:=mM s x.ck,dm:=pT x.dm,dv:=(es.take j).foldl (uI s) Bu}:aR)=x3 at Pp
  have hx4:({x with ck:=mM s x.ck,dm:=pT x.dm,dv:=(es.take (j+1)).foldl (uI s) Bu}:aR)={x3 with dv:=uI s x3.dv p}:=by rw[dB,←hx3]
  have aSG:=Pp.dv
  obtain⟨be,aMk,hAe,hrd⟩:=aSx (w0:=w) (R:=[q,R0]) (H:=[dL L s x3,T]) (by simp) Vm gF;obtain⟨kn,dm⟩:=p;refine aA ?_;refine kd (dat j (aMk+j*2) (hx:=by rw[←hAe];rfl)) ?_;refine kd (jT rfl hrd) ?_;refine cE fun g1=>?_;refine aA ?_;refine aV (fun w1 t=>aNQ kn w1) ?_
  by_cases hk:kn=115∨kn=114∨kn=108∨kn=110
  ·obtain⟨f,aCN,hcb,yW⟩:=aPT hk;rw[aCN];refine aA ?_;refine kd (aHu rfl (.inr ⟨⟨_,_,_,rfl⟩,rfl⟩)) ?_;refine aA ?_;refine kd (bJ rfl (pQ 1 rfl rfl)) ?_;refine aA ?_
   have hm0:Da s x3.dv (kn,dm) 0=x3.dv:=Ou _ _
   refine bM [(90,iv 0),(89,iv s.aD.length),(88,.slice L.A s.aD.length L.c),(13,.func (.func f) #[] #[]),(12,pt g1),(76,iv j),(75,iv es.length),(74,.slice Ae es.length ce),(5,tv),(0,.pointer (some ⟨L.h,0,none⟩))] ?_;refine eU (fun m e R H=>∃i:Nat,i≤s.aD.length∧m=s.aD.length - i∧e=[(90,iv i),(89,iv s.aD.length),(88,.slice L.A s.aD.length L.c),(13,.func (.func f) #[] #[]),(12,pt g1),(76,iv j),(75,iv es.length),(74,.slice Ae es.length ce),(5,tv),(0,.pointer (some ⟨L.h,0,none⟩))]∧R=[q,R0]∧H=[HP.aE g1 242 [.int .u8 kn,iv (dm:Int)],dL L s {x3 with dv:=Da s x3.dv (kn,dm) i},T]) s.aD.length ⟨0,by omega,rfl,rfl,rfl,by rw[hm0];rfl⟩ fun m e R H hI=>?_;obtain⟨i,hi,rfl,rfl,rfl,rfl⟩:=hI
   have mQ:=aFT hH Pp (kn,dm) i
   refine aA ?_;refine aG rfl (fun hlt=>?_) (fun hge=>?_)
   ·have hlt:i < s.aD.length:=by omega
    obtain⟨d,cZ⟩:=get_some hlt;obtain⟨l,iA⟩:=get_some (l:=L.ds) (i:=i) (by omega);obtain⟨p,gF⟩:=get_some (l:=x3.dv) (i:=i) (by omega)
    have kN:(Da s x3.dv (kn,dm) i)[i]? =some p:=Ow gF
    have hstep:(Da s x3.dv (kn,dm) i).set i (Gm s (kn,dm) i p)=Da s x3.dv (kn,dm) (i+1):=Ov (f:=Gm s (kn,dm)) gF
    have hfo:=(mQ.each i d p cZ kN).1
    refine Mv 1 rfl aQ mQ (by omega) fun b off hA=>?_;refine aA ?_;refine kd (dat i (off+i*6) (hx:=by rw[←hA];rfl)) ?_;refine kd (jT rfl (aO.dev 1 rfl aQ mQ hA cZ iA rfl)) ?_;refine cE fun g2=>?_;refine aA ?_;refine aG rfl (fun he=>?_) (fun he=>?_)
    ·have nD:Gm s (kn,dm) i p=(Gl kn d p.1,p.2):=by
      unfold Gm;rw[cZ];exact if_pos he
     refine aA ?_;refine Rp 2 i rfl cZ iA kN ?_;dsimp only[List.set];refine aY 0 0 ?_;refine aAl 0 (fi:=[]) (ca:=[]) (gR l.1 d (Gl kn d p.1)) (fun w1 F1 t h1 h2 h3=>by simpa using yW l.1 d p.1 (by have:=(hH.t.aD i d cZ).2.2.2.2.2.2.2.2.1;omega) hfo w1 F1 h1 h2) ?_ (hf:=hcb);dsimp only[List.set];refine aJ 0 0 ?_;refine Rw 2 i rfl cZ iA kN (p':=(Gl kn d p.1,p.2)) ?_;dsimp only[List.set];rw[←nD,hstep];refine aA ?_;refine aT [1,2,3] rfl (by decide) (fun _ h=>h) ?_;exact eP (s.aD.length - (i+1)) ⟨i+1,hlt,rfl,rfl,rfl,rfl⟩
    ·have nD:Gm s (kn,dm) i p=p:=by
      unfold Gm;rw[cZ];exact if_neg he
     rw[nD,wS kN] at hstep;rw[hstep];refine aA ?_;refine aT [1,2,3] rfl (by decide) (fun _ h=>h) ?_;exact eP (s.aD.length - (i+1)) ⟨i+1,hlt,rfl,rfl,rfl,rfl⟩
   obtain rfl:i=s.aD.length:=by omega
   refine aA ?_;refine aT [1,2] rfl (by decide) (fun _ h=>h) ?_;refine bM [(76,iv (j+1:Nat)),(75,iv es.length),(74,.slice Ae es.length ce),(5,tv),(0,.pointer (some ⟨L.h,0,none⟩))] ?_;exact gQ (es.length - (j+1)) (by omega) ⟨j+1,by omega,rfl,rfl,rfl,by rw[hx4];rfl⟩
  ·have aCN:Gk kn=.nilFunc:=by
    rw[Gk,if_neg (by omega),if_neg (by omega),if_neg (by omega)]
   rw[aCN];refine aA ?_;refine kd (aHu rfl (.inl ⟨rfl,rfl⟩)) ?_;refine aA ?_;refine aT [1,2] rfl (by decide) (fun _ h=>h) ?_;refine bM [(76,iv (j+1:Nat)),(75,iv es.length),(74,.slice Ae es.length ce),(5,tv),(0,.pointer (some ⟨L.h,0,none⟩))] ?_;exact gQ (es.length - (j+1)) (by omega) ⟨j+1,by omega,rfl,rfl,rfl,by rw[hx4,aM7 hk,←hx3]⟩
 obtain rfl:j=es.length:=by omega
 rw[List.take_length];refine aA ?_;refine kd (bJ rfl (pQ 0 rfl rfl)) ?_;refine aA ?_;refine aY 0 3 ?_;refine wA (α:=Option Addr×Nat×Nat) 0 (f:=157) (fi:=[]) (ca:=[]) (fun a=>.slice a.1 a.2.1 a.2.2) (fun _=>oQ L.R s (Ht x.ln)) (fun _=>True) (by kernel_rfl) rfl rfl rfl (by decide) (fun w1 F1 t h1 h2 h3=>aKK L.R s x.ln hH hok.ln w1 F1 h1 h2) ?_;rintro _ _;dsimp only[List.set];refine aJ 0 3 ?_
 change XK _ _ _ _ _ [dL L s {x with ck:=mM s x.ck,dm:=pT x.dm,ln:=Ht x.ln,dv:=es.foldl (uI s) Bu},T]
 have vI:({x with ck:=mM s x.ck,dm:=pT x.dm,ln:=Ht x.ln,dv:=es.foldl (uI s) Bu}:aR)=Ny s x aZ:=by rw[Ny,Dm,Lv]
 rw[vI];refine aA ?_;subst cO;subst hT;subst hTv;refine mV ?_;exact mI rfl rfl fun w1 t=>⟨(A0,c0),rfl,trivial,t.turns hF (by simp) (i:=0) rfl⟩
end
section
structure iN where
 z:bH
 y:cI
 x:aR
def iN.start(m:iN)(t k d r v:Int):iN:=⟨(qF m.z t k d r v).2,m.y,m.x⟩
def iN.done(m:iN)(t:Int):iN:=⟨(iQ m.z t).2,m.y,m.x⟩
def iN.step(s:aC)(m:iN)(t:Int):iN:=⟨(tO s m.z m.y m.x t).1,(tO s m.z m.y m.x t).2.1,(tO s m.z m.y m.x t).2.2⟩
def iN.dW(s:aC)(m:iN):iN:=⟨m.z,(wM s m.x m.y).1,(wM s m.x m.y).2⟩
def iN.tick(s:aC)(m:iN)(aZ:Int):iN:=⟨nU m.z (nA s m.x aZ).2,m.y,(nA s m.x aZ).1⟩
structure fI(s:aC)(n:Nat)(m:iN):Prop where
 sA:oP s m.z
 fw:oU s m.y
 hw:cX s m.x
 wt:Ef s m.x
 po:0≤m.x.aU∧m.x.aU≤n
 w0:m.z.aU=false→∀i:Nat,(m.x.wt[i]?).join=none
 w1:m.z.aU=true→∃(i:Nat) (t:iZ),i < s.aD.length∧(m.x.wt[i]?).join=some t∧t.id=m.z.id∧∀k:Nat,k≠i→(m.x.wt[k]?).join=none
section
variable{s:aC}{n:Nat}{m:iN}
theorem fI.le{k:Nat}(h:fI s n m)(hk:n≤k):fI s k m:=⟨h.sA,h.fw,h.hw,h.wt,by have:=h.po;omega,h.w0,h.w1⟩
theorem fI.start(h:fI s n m)(t k d r v:Int)(hv:0≤v∧v < 4294967296):fI s n (m.start t k d r v):=by
 obtain⟨h1,h2,h3⟩:=aKh h.sA t k d r v hv;refine⟨h1,h.fw,h.hw,h.wt,h.po,fun hp=>h.w0 (h2.symm.trans hp),fun hp=>?_⟩
 have h4:=h.w1 (h2.symm.trans hp)
 rwa [←h3] at h4
theorem fI.done(h:fI s n m)(t:Int):fI s n (m.done t):=by
 obtain⟨h1,h2,h3⟩:=aPp h.sA t;refine⟨h1,h.fw,h.hw,h.wt,h.po,fun hp=>h.w0 (h2.symm.trans hp),fun hp=>?_⟩
 have h4:=h.w1 (h2.symm.trans hp)
 rwa [←h3] at h4
theorem fI.dW(hm:s.made)(h:fI s n m):fI s n (m.dW s):=by
 obtain⟨h1,h2,h3,h4⟩:=h.fw.next hm.dH h.hw;refine⟨h.sA,h1,h2,fun i d t hd ht=>h.wt i d t hd (by rw[←h3];exact ht),by rw[show(m.dW s).x.aU=m.x.aU from h4];exact h.po,fun hp i=>?_,fun hp=>?_⟩
 ·show((wM s m.x m.y).2.wt[i]?).join=none
  rw[h3];exact h.w0 hp i
 ·show ∃i t,i < s.aD.length∧((wM s m.x m.y).2.wt[i]?).join=some t∧t.id=m.z.id∧∀k:Nat,k≠i→((wM s m.x m.y).2.wt[k]?).join=none
  rw[h3];exact h.w1 hp
theorem fI.idle(h:fI s n m)(hp:m.z.aU=false)(hn:n≤1000000000):HwP s m.x:=⟨h.hw,h.w0 hp,by have:=h.po;omega⟩
theorem fI.free(h:fI s n m)(hh:m.z.cM < 0):m.z.aU=false:=by
 rcases h.sA.cM with⟨_,_,h1,_⟩ | ⟨i,_,h1,_⟩
 ·exact h1
 ·omega
theorem fI.step(hm:s.made)(h:fI s n m)(t:Int):fI s (n+1) (m.step s t):=by
 have same:fI s (n+1) ⟨m.z,m.y,m.x⟩:=h.le (by omega)
 unfold iN.step tO;split
 ·exact same
 ·rename_i hin
  obtain⟨j,rfl,hj⟩:=yR (t:=t) (by simpa using hin);rw[Int.toNat_natCast];split
  ·split
   ·rename_i hh
    have hp:=h.free hh
    have hw0:=h.w0 hp
    obtain⟨h1,h2,h3,h4⟩:=aQX hm h.sA hh m.x hj;dsimp only;generalize lR s m.x m.z j=r at h1 h3 h4;obtain⟨z',x'⟩:=r;dsimp only at h1 h3 h4⊢;cases hp':z'.aU with
    | false=>
     cases h3 hp';exact⟨h1,h.fw,h.hw,h.wt,by have:=h.po;dsimp only;omega,fun _=>hw0,fun hc=>by dsimp only at hc;rw[hp'] at hc;cases hc⟩
    | true =>
     obtain⟨d,wr,rg,v,dv,Dm,r0,r1,v0,v1,hid,rfl⟩:=h4 hp'
     have hlt:=(List.getElem?_eq_some_iff.1 Dm).1
     have wZ:=h.hw.wt
     have eO:∀k:Nat,(((m.x.wt.set d (some ⟨m.x.aU,wr,rg,v⟩))[k]?).join)=if k=d then some ⟨m.x.aU,wr,rg,v⟩ else none:=fun k=>by
      rw[List.getElem?_set]
      by_cases e:d=k
      ·subst e;rw[if_pos rfl,if_pos (by omega),if_pos rfl];rfl
      ·rw[if_neg e,if_neg (fun hh=>e hh.symm)];exact hw0 k
     refine⟨h1,h.fw,aB2 h.hw d _ _,fun i e t he ht=>?_,?_,fun hc=>?_,fun _=>⟨d,⟨m.x.aU,wr,rg,v⟩,hlt,?_,hid.symm,fun k hk=>?_⟩⟩
     ·have qJ:((m.x.wt.set d (some ⟨m.x.aU,wr,rg,v⟩))[i]?).join=some t:=ht
      rw[eO] at qJ
      by_cases e1:i=d
      ·rw[if_pos e1] at qJ;cases qJ;rw[e1,Dm] at he;cases he;exact⟨r0,r1,v0,v1⟩
      ·rw[if_neg e1] at qJ;cases qJ
     ·have:=h.po
      show 0≤m.x.aU+1∧m.x.aU+1≤((n+1:Nat):Int)
      omega
     ·dsimp only at hc;rw[hp'] at hc;cases hc
     ·show((m.x.wt.set d (some ⟨m.x.aU,wr,rg,v⟩))[d]?).join=_
      rw[eO,if_pos rfl]
     ·show((m.x.wt.set d (some ⟨m.x.aU,wr,rg,v⟩))[k]?).join=_
      rw[eO,if_neg hk]
   ·exact same
  ·split
   ·rename_i hst
    split
    ·rename_i hp
     obtain⟨h1,h2,h3⟩:=aR6 h.sA h.fw hj hst hp;exact⟨h1,h2,h.hw,h.wt,by have:=h.po;dsimp only;omega,fun _=>h.w0 hp,fun hc=>by dsimp only at hc;rw[h3] at hc;cases hc⟩
    ·exact same
   ·exact same
theorem aAR{x:aR}:∀n:Nat,(∀k,k < n→(x.wt[k]?).join=none)→fN s x n=(x,[])
 | 0,_=>rfl
 | n+1,h=>by
  have ih:=aAR n fun k hk=>h k (by omega)
  have hx:=aAP (s:=s) (h n (by omega))
  show((iH s (fN s x n).1 n).1,(fN s x n).2++(iH s (fN s x n).1 n).2.toList)=_
  rw[ih];dsimp only;rw[hx];rfl
theorem aRp{x:aR}(hok:cX s x){i:Nat}{t:iZ}(hi:i < s.aD.length)(ht:(x.wt[i]?).join=some t)(ho:∀k:Nat,k≠i→(x.wt[k]?).join=none):
  ∃a,(iH s x i).2=some a∧a.id=t.id∧a.dev=i∧∀d,fN s x (i+1+d)=((iH s x i).1,[a]):=by
 obtain⟨a,ha,lN⟩:=aD3 hok hi ht;refine⟨a,ha,?_,?_,fun d=>?_⟩
 ·obtain⟨d,hd⟩:=get_some hi;obtain⟨p,hp⟩:=get_some (l:=x.dv) (i:=i) (by have:=hok.dv;omega);unfold iH at ha;rw[ht,hd,hp] at ha;dsimp only at ha;split at ha<;>cases ha<;>rfl
 ·obtain⟨d,hd⟩:=get_some hi;obtain⟨p,hp⟩:=get_some (l:=x.dv) (i:=i) (by have:=hok.dv;omega);unfold iH at ha;rw[ht,hd,hp] at ha;dsimp only at ha;split at ha<;>cases ha<;>rfl
 ·induction d with
  | zero=>
   show((iH s (fN s x i).1 i).1,(fN s x i).2++(iH s (fN s x i).1 i).2.toList)=_
   rw[aAR i fun k hk=>ho k (by omega)];dsimp only;rw[ha];rfl
  | succ d ih =>
   show((iH s (fN s x (i+1+d)).1 (i+1+d)).1,(fN s x (i+1+d)).2++(iH s (fN s x (i+1+d)).1 (i+1+d)).2.toList)=_
   rw[ih];dsimp only
   have hx:iH s (iH s x i).1 (i+1+d)=((iH s x i).1,none):=aAP (by
    rw[lN,List.getElem?_set,if_neg (by omega)]
    exact ho _ (by omega))
   rw[hx];rfl
theorem fI.ans(h:fI s n m)(aZ:Int):(m.z.aU=false→(nA s m.x aZ).2=[])∧(m.z.aU=true→∃a,(nA s m.x aZ).2=[a]∧a.id=m.z.id):=by
 refine⟨fun hp=>?_,fun hp=>?_⟩
 ·show(fN s m.x s.aD.length).2=[]
  rw[aAR _ fun k _=>h.w0 hp k]
 ·obtain⟨i,t,hi,ht,hid,ho⟩:=h.w1 hp;obtain⟨a,_,ha,_,hn⟩:=aRp h.hw hi ht ho;obtain⟨d,hd⟩:∃d,s.aD.length=i+1+d:=⟨s.aD.length - (i+1),by omega⟩
  refine⟨a,?_,ha.trans hid⟩
  show(fN s m.x s.aD.length).2=[a]
  rw[hd,hn d]
theorem fI.aEL(h:fI s n m)(aZ:Int):(m.tick s aZ).z.aU=false:=by
 obtain⟨h1,h2⟩:=h.ans aZ
 show(nU m.z (nA s m.x aZ).2).aU=false
 cases hp:m.z.aU with
 | false=>rw[h1 hp];exact hp
 | true=>
  obtain⟨a,h3,h4⟩:=h2 hp;rw[h3]
  show(sX m.z a).aU=false
  unfold sX;rw[if_neg (by rw[hp];simp),if_neg (fun hc=>hc h4)];split<;>rfl
theorem aRl(s:aC)(x:aR)(i:Nat):(iH s x i).1.aU=x.aU:=by
 unfold iH;split
 ·split<;>rfl
 ·rfl
theorem aHO(s:aC)(x:aR):∀n,(fN s x n).1.aU=x.aU
 | 0=>rfl
 | n+1=>(aRl s _ n).trans (aHO s x n)
theorem fI.tick(hm:s.made)(h:fI s n m)(aZ:Int):fI s n (m.tick s aZ):=by
 obtain⟨a1,a2⟩:=Mr h.hw h.wt s.aD.length
 have hz:∀i:Nat,(((m.tick s aZ).x.wt)[i]?).join=none:=fun i=>by
  have:=aHM h.hw h.wt i
  show((fN s m.x s.aD.length).1.wt[i]?).join=none
  unfold oX at this;cases hh:((fN s m.x s.aD.length).1.wt[i]?).join with
  | none=>rfl
  | some t=>rw[hh] at this;simp at this
 refine⟨aHQ _ h.sA,h.fw,aJQ hm.dH a1 aZ,(fun i d t _ ht=>by rw[hz i] at ht;cases ht),?_,fun _=>hz,fun hp=>by rw[h.aEL aZ] at hp;cases hp⟩
 show 0≤(fN s m.x s.aD.length).1.aU∧(fN s m.x s.aD.length).1.aU≤n
 rw[aHO];exact h.po
end
def Ug(s:aC):iN:=⟨Tn s,sQ s,hw0 s⟩
theorem aMZ{s:aC}(hm:s.made):fI s 0 (Ug s):=by
 have hx:=aNp hm.dH
 have hw:∀i:Nat,((hw0 s).wt[i]?).join=none:=fun i=>by
  show((s.aD.map fun _=>(none:Option iZ))[i]?).join=none
  rw[List.getElem?_map];cases s.aD[i]? <;>rfl
 exact⟨aKU,aOE hm.wW,hx,(fun i d t _ ht=>by
  have:=(hw i).symm.trans ht
  cases this),⟨Int.le_refl 0,Int.le_refl 0⟩,fun _=>hw,fun hp=>by cases hp⟩
theorem Wb{P:Program}{fn:FuncId}{args:Array Value}{w:World}{ps:List HP}(i:Nat){p p':HP}{v:Value}{F:Nat→Prop}(hi:ps[i]? =some p)(h:∀F0,p.sat F0 w→(∀b,F0 b→b < w.heap.size)→(∀b,F0 b→F b)→Calls P fn args w fun y w'=>y=.returned v∧∃F',p'.sat F' w'∧iC w w' F0 F')
  (hp:(HP.many ps).sat F w) (hF:∀b,F b→b < w.heap.size):Calls P fn args w fun y w'=>y=.returned v∧∃F',(HP.many (ps.set i p')).sat F' w'∧iC w w' F F':=by
 obtain⟨G,g1,g2,g3⟩:=hp
 have hlt:=(List.getElem?_eq_some_iff.1 hi).1
 refine(h (G i) (g1 i p hi) (fun b hb=>hF b (g2 i b hb)) (g2 i)).mono fun y w' ⟨hy,F',h1,ht⟩=>⟨hy,fun b=>F' b∨∃k,k≠i∧k < ps.length∧G k b,⟨fun k=>if k=i then F' else fun b=>k < ps.length∧G k b,fun k r hr=>?_,fun k b hb=>?_,fun j k b kH hj hk=>?_⟩,⟨ht.os,ht.tape,ht.output,ht.size,fun b hb=>?_,fun b hb hn=>?_⟩⟩
 ·by_cases e:i=k
  ·subst e;rw[List.getElem?_set_self hlt] at hr;cases hr
   simpa using h1
  ·rw[List.getElem?_set_ne e] at hr
   have hk:=(List.getElem?_eq_some_iff.1 hr).1
   simp only[if_neg (Ne.symm e)];rw[show(fun b=>k < ps.length∧G k b)=G k by funext b;simp[hk]];exact r.loc _ _ _ (g1 k r hr) fun b hb=>ht.old b (hF b (g2 k b hb)) fun h0=>g3 i k b e h0 hb
 ·dsimp only at hb;split at hb
  ·exact .inl hb
  ·exact .inr ⟨k,by assumption,hb.1,hb.2⟩
 ·have key:∀k b,k≠i→F' b→G k b→False:=fun k b hki h0 h2=>by
   rcases(ht.new b h0).1 with h3 | h3
   ·exact g3 i k b (Ne.symm hki) h3 h2
   ·have:=hF b (g2 k b h2)
    omega
  dsimp only at hj hk;split at hj<;>split at hk
  ·rename_i e1 e2;exact kH (e1.trans e2.symm)
  ·rename_i e1 e2;exact key k b e2 hj hk.2
  ·rename_i e1 e2;exact key j b e1 hk hj.2
  ·exact g3 j k b kH hj.2 hk.2
 ·rcases hb with hb | ⟨k,_,_,hb⟩
  ·refine⟨?_,(ht.new b hb).2⟩;rcases(ht.new b hb).1 with h3 | h3
   ·exact .inl (g2 i b h3)
   ·exact .inr h3
  ·exact⟨.inl (g2 k b hb),Nat.lt_of_lt_of_le (hF b (g2 k b hb)) ht.size⟩
 ·exact ht.old b hb fun h0=>hn (g2 i b h0)
theorem aMR{a b c:HP}{F:Nat→Prop}{w:World}(h:(HP.many [a,b,c]).sat F w):(HP.many [a,HP.many [b,c]]).sat F w:=by
 obtain⟨G,g1,g2,g3⟩:=h
 have h1:=g1 1 b rfl
 have h2:=g1 2 c rfl
 have key:∀k,k < 3→(fun b=>k < 3∧G k b)=G k:=fun k hk=>by funext b;simp[hk]
 refine⟨fun i=>match i with | 0=>G 0 | 1=>fun b=>G 1 b∨G 2 b | _=>fun _=>False,fun i p hi=>?_,fun i b hb=>?_,fun i j b hij hi hj=>?_⟩
 ·match i,hi with
  | 0,hi=>cases hi;exact g1 0 _ rfl
  | 1, hi =>
   cases hi;refine⟨fun i=>match i with | 0=>G 1 | 1=>G 2 | _=>fun _=>False,fun i p hi=>?_,fun i b hb=>?_,fun i j b hij hi hj=>?_⟩
   ·match i,hi with
    | 0,hi=>cases hi;exact h1
    | 1,hi=>cases hi;exact h2
    | i+2,hi=>simp at hi
   ·match i,hb with
    | 0,hb=>exact .inl hb
    | 1,hb=>exact .inr hb
    | i+2,hb=>exact hb.elim
   ·match i,j,hi,hj with
    | 0,0,_,_=>exact absurd rfl hij
    | 0,1,hi,hj=>exact g3 1 2 b (by decide) hi hj
    | 1,0,hi,hj=>exact g3 2 1 b (by decide) hi hj
    | 1,1,_,_=>exact absurd rfl hij
    | i+2,_,hi,_=>exact hi.elim
    | _,j+2,_,hj=>exact hj.elim
  | i+2,hi=>simp at hi
 ·match i,hb with
  | 0,hb=>exact g2 0 b hb
  | 1,hb=>rcases hb with hb | hb<;>exact g2 _ b hb
  | i+2,hb=>exact hb.elim
 ·match i,j,hi,hj with
  | 0,0,_,_=>exact absurd rfl hij
  | 0,1,hi,hj=>rcases hj with hj | hj<;>exact g3 _ _ b (by decide) hi hj
  | 1,0,hi,hj=>rcases hi with hi | hi<;>exact g3 _ _ b (by decide) hi hj
  | 1,1,_,_=>exact absurd rfl hij
  | i+2,_,hi,_=>exact hi.elim
  | _,j+2,_,hj=>exact hj.elim
theorem aMQ{a b c:HP}{F:Nat→Prop}{w:World}(h:(HP.many [a,HP.many [b,c]]).sat F w):(HP.many [a,b,c]).sat F w:=by
 obtain⟨G,g1,g2,g3⟩:=h;obtain⟨I,i1,i2,i3⟩:=g1 1 _ rfl;refine⟨fun i=>match i with | 0=>G 0 | 1=>I 0 | 2=>I 1 | _=>fun _=>False,fun i p hi=>?_,fun i b hb=>?_,fun i j b hij hi hj=>?_⟩
 ·match i,hi with
  | 0,hi=>cases hi;exact g1 0 _ rfl
  | 1,hi=>cases hi;exact i1 0 _ rfl
  | 2,hi=>cases hi;exact i1 1 _ rfl
  | i+3,hi=>simp at hi
 ·match i,hb with
  | 0,hb=>exact g2 0 b hb
  | 1,hb=>exact g2 1 b (i2 0 b hb)
  | 2,hb=>exact g2 1 b (i2 1 b hb)
  | i+3,hb=>exact hb.elim
 ·match i,j,hi,hj with
  | 0,0,_,_ | 1,1,_,_ | 2,2,_,_=>exact absurd rfl hij
  | 0,1,hi,hj=>exact g3 0 1 b (by decide) hi (i2 0 b hj)
  | 0,2,hi,hj=>exact g3 0 1 b (by decide) hi (i2 1 b hj)
  | 1,0,hi,hj=>exact g3 0 1 b (by decide) hj (i2 0 b hi)
  | 2,0,hi,hj=>exact g3 0 1 b (by decide) hj (i2 1 b hi)
  | 1,2,hi,hj=>exact i3 0 1 b (by decide) hi hj
  | 2,1,hi,hj=>exact i3 0 1 b (by decide) hj hi
  | i+3,_,hi,_=>exact hi.elim
  | _,j+3,_,hj=>exact hj.elim
def jL(g f:Nat)(hL:HL)(s:aC)(m:iN):HP:=aBs g f hL s m.z m.y m.x
def aIs(g f:Nat)(hL:HL)(s:aC)(m:iN)(l:List fO)(a:Option Addr×Nat):HP:=HP.many [jL g f hL s m,HP.own 44 4 (.slice a.1 l.length a.2) l.length (l.flatMap fO.cells)]
theorem St.mac{w0 w:World}{R:List Piece}{H:List HP}{g f:Nat}{hL:HL}{s:aC}{m:iN}(t:St w0 R H w)(i:Nat)(hi:H[i]? =some (jL g f hL s m)):∃L,Yc w g hL.h f L s m.z:=by
 obtain⟨F,h1,h2,_⟩:=t.chunk hi;obtain⟨G,g1,g2,_⟩:=h1;obtain⟨L,hL⟩:=g1 0 _ rfl;exact⟨L,aI2 hL fun b hb=>h2 b (g2 0 b hb)⟩
section
variable(g f:Nat)(hL:HL)(s:aC)(n:Nat)(m:iN)(w:World)(F:Nat→Prop)
theorem aMI(t k d r v:Int)(hp:(jL g f hL s m).sat F w)(hF:∀b,F b→b < w.heap.size):
  Cz 85 #[pt g,iv t,.agg #[.int .u8 k,iv d,iv r,.int .u32 v]] w (Wr (iv (qF m.z t k d r v).1) (jL g f hL s (m.start t k d r v)) w F):=
 Wb 0 rfl (fun F0 h1 h2 _=>aKR g hL.h f s m.z w F0 t k d r v h1 h2) hp hF
theorem aML(t:Int)(hp:(jL g f hL s m).sat F w)(hF:∀b,F b→b < w.heap.size):
  Cz 135 #[pt g,iv t] w (Wr (.tuple #[.agg #[iv (iQ m.z t).1.1,.int .u32 (iQ m.z t).1.2.1],.bool (iQ m.z t).1.2.2]) (jL g f hL s (m.done t)) w F):=
 Wb 0 rfl (fun F0 h1 h2 _=>aKX g hL.h f s m.z w F0 t h1 h2) hp hF
theorem Ij(hm:s.made)(aQ:gA hL s)(hok:fI s n m)(hn:n≤1000000000)(t:Int)(hp:(jL g f hL s m).sat F w)(hF:∀b,F b→b < w.heap.size)(dD:eS ⟨w,fun b=>b < w.heap.size∧¬F b⟩):
  Cz 87 #[pt g,iv t] w (Wr (.tuple #[]) (jL g f hL s (m.step s t)) w F):=
 aKQ g f hL s m.z m.y m.x w F t hm aQ (fun hh=>hok.idle (hok.free hh) hn) (hok.sA.go hok.fw.toFwB) hp hF dD
theorem aMK(hm:s.made)(aQ:gA hL s)(hok:fI s n m)(hp:(jL g f hL s m).sat F w)(hF:∀b,F b→b < w.heap.size)(dD:eS ⟨w,fun b=>b < w.heap.size∧¬F b⟩):
  Cz 36 #[pt f] w (Wr (.tuple #[]) (jL g f hL s (m.dW s)) w F):=
 (Wb 1 rfl (fun F0 h1 h2 h3=>aO3 f hL s m.y m.x w hm.dH aQ (hok.fw.step hok.hw) F0 h1 h2 (eS.le dD fun b hb=>⟨⟨hb.1,fun h0=>hb.2 (h3 b h0)⟩,rfl⟩)) (aMR hp) hF).mono fun _ _ ⟨hy,F',h1,h2⟩=>⟨hy,F',aMQ h1,h2⟩
theorem aMH(hm:s.made)(aQ:gA hL s)(hok:fI s n m)(aZ:Int)(hd:0≤aZ∧aZ < 4294967296)(hp:(jL g f hL s m).sat F w)(hF:∀b,F b→b < w.heap.size):
  Cz 94 #[.pointer (some ⟨hL.h,0,none⟩),.int .u32 aZ] w (fun y w'=>∃a:Option Addr×Nat,y=.returned (.slice a.1 (nA s m.x aZ).2.length a.2)∧True∧∃F',(aIs g f hL s ⟨m.z,m.y,(nA s m.x aZ).1⟩ (nA s m.x aZ).2 a).sat F' w'∧iC w w' F F'):=by
 obtain⟨G,g1,g2,g3⟩:=hp
 have hG:∀i b,G i b→b < w.heap.size:=fun i b hb=>hF b (g2 i b hb)
 have h0:=g1 0 _ rfl
 have h1:=g1 1 _ rfl
 refine(aNL hL s m.x w hm.dH aQ hok.hw hok.wt aZ hd (G 2) (g1 2 _ rfl) (hG 2)).mono fun y w' ⟨a,hy,_,F',⟨I,i1,i2,i3⟩,ht⟩=>⟨a,hy,trivial,fun b=>F' b∨G 0 b∨G 1 b,⟨fun i=>match i with | 0=>fun b=>I 0 b∨G 0 b∨G 1 b | 1=>I 1 | _=>fun _=>False,fun i p hi=>?_,fun i b hb=>?_,fun i j b hij hi hj=>?_⟩,⟨ht.os,ht.tape,ht.output,ht.size,fun b hb=>?_,fun b hb hn=>?_⟩⟩
 ·have old:∀i,i≠2→∀b,G i b→w'.heap[b]? =w.heap[b]? :=fun i hi b hb=>ht.old b (hG i b hb) fun h=>g3 2 i b (Ne.symm hi) h hb
  have fr:∀i,i≠2→∀b,F' b→¬G i b:=fun i hi b hb hc=>by
   rcases(ht.new b hb).1 with h | h
   ·exact g3 2 i b (Ne.symm hi) h hc
   ·have:=hG i b hc
    omega
  match i,hi with
  | 0, hi =>
   cases hi;refine⟨fun i=>match i with | 0=>G 0 | 1=>G 1 | 2=>I 0 | _=>fun _=>False,fun i p hi=>?_,fun i b hb=>?_,fun i j b hij hi hj=>?_⟩
   ·match i,hi with
    | 0,hi=>cases hi;exact HP.loc _ _ _ _ h0 (old 0 (by decide))
    | 1,hi=>cases hi;exact HP.loc _ _ _ _ h1 (old 1 (by decide))
    | 2,hi=>cases hi;exact i1 0 _ rfl
    | i+3,hi=>simp at hi
   ·match i,hb with
    | 0,hb=>exact .inr (.inl hb)
    | 1,hb=>exact .inr (.inr hb)
    | 2,hb=>exact .inl hb
    | i+3,hb=>exact hb.elim
   ·match i,j,hi,hj with
    | 0,0,_,_ | 1,1,_,_ | 2,2,_,_=>exact absurd rfl hij
    | 0,1,hi,hj=>exact g3 0 1 b (by decide) hi hj
    | 1,0,hi,hj=>exact g3 1 0 b (by decide) hi hj
    | 0,2,hi,hj=>exact fr 0 (by decide) b (i2 0 b hj) hi
    | 2,0,hi,hj=>exact fr 0 (by decide) b (i2 0 b hi) hj
    | 1,2,hi,hj=>exact fr 1 (by decide) b (i2 0 b hj) hi
    | 2,1,hi,hj=>exact fr 1 (by decide) b (i2 0 b hi) hj
    | i+3,_,hi,_=>exact hi.elim
    | _,j+3,_,hj=>exact hj.elim
  | 1,hi=>cases hi;exact i1 1 _ rfl
  | i+2,hi=>simp at hi
 ·match i,hb with
  | 0,hb=>
   rcases hb with hb | hb
   ·exact .inl (i2 0 b hb)
   ·exact .inr hb
  | 1,hb=>exact .inl (i2 1 b hb)
  | i+2,hb=>exact hb.elim
 ·have fr:∀i,i≠2→∀b,F' b→¬G i b:=fun i hi b hb hc=>by
   rcases(ht.new b hb).1 with h | h
   ·exact g3 2 i b (Ne.symm hi) h hc
   ·have:=hG i b hc
    omega
  match i,j,hi,hj with
  | 0,0,_,_ | 1,1,_,_=>exact absurd rfl hij
  | 0,1,hi,hj=>
   rcases hi with hi | hi | hi
   ·exact i3 0 1 b (by decide) hi hj
   ·exact fr 0 (by decide) b (i2 1 b hj) hi
   ·exact fr 1 (by decide) b (i2 1 b hj) hi
  | 1,0,hi,hj=>
   rcases hj with hj | hj | hj
   ·exact i3 0 1 b (by decide) hj hi
   ·exact fr 0 (by decide) b (i2 1 b hi) hj
   ·exact fr 1 (by decide) b (i2 1 b hi) hj
  | i+2,_,hi,_=>exact hi.elim
  | _,j+2,_,hj=>exact hj.elim
 ·rcases hb with hb | hb | hb
  ·refine⟨?_,(ht.new b hb).2⟩;rcases(ht.new b hb).1 with h | h
   ·exact .inl (g2 2 b h)
   ·exact .inr h
  ·exact⟨.inl (g2 0 b hb),Nat.lt_of_lt_of_le (hG 0 b hb) ht.size⟩
  ·exact⟨.inl (g2 1 b hb),Nat.lt_of_lt_of_le (hG 1 b hb) ht.size⟩
 ·exact ht.old b hb fun h=>hn (g2 2 b h)
theorem aCs{w0:World}{R:List Piece}{H:List HP}(i:Nat)(st:St w0 R H w)(hi:H[i]? =some (jL g f hL s m)):Cz 86 #[pt g] w (Rt (iv m.z.cM) w):=by
 obtain⟨L,hR⟩:=st.mac i hi;exact aKV g hL.h f L s m.z w hR
end
end
section
structure nW where
 k:Int
 d:Int
 r:Int
 v:Int
instance:DecidableEq nW:=fun a b=>decidable_of_iff (a.k=b.k∧a.d=b.d∧a.r=b.r∧a.v=b.v) ⟨fun h=>by
 obtain⟨a1,a2,a3,a4⟩:=a;obtain⟨b1,b2,b3,b4⟩:=b;obtain⟨rfl,rfl,rfl,rfl⟩:=h
 rfl,fun h=>by subst h;exact⟨rfl,rfl,rfl,rfl⟩⟩
def rI:nW:=⟨0,0,0,0⟩
structure iT where
 kind:Int
 task:Int
 c:nW
 err:Int
 res:Int
 an:fO
 alive:Bool
 words:List Int
def Qk:iT:=⟨0,0,rI,0,0,⟨0,0,false,0⟩,false,[]⟩
structure aX where
 m:iN
 cl:Nat→nW
 wt:Nat→Bool
 es:List iT
def fU{α:Type}(f:Nat→α)(j:Nat)(a:α):Nat→α:=fun i=>if i=j then a else f i
def Ki(s:aC):aX:=⟨Ug s,fun _=>rI,fun _=>false,[]⟩
def vK(w:aX)(t:Int):iT:={Qk with kind:=101,task:=t,c:=w.cl t.toNat,err:=(iQ w.m.z t).1.1,res:=(iQ w.m.z t).1.2.1}
def aX.end_(w:aX)(t:Int):aX:=if(iQ w.m.z t).1.2.2=true then {w with m:=w.m.done t,es:=w.es++[vK w t]} else {w with m:=w.m.done t}
def aX.call(w:aX)(t:Int)(c:nW):Int×aX:=((qF w.m.z t c.k c.d c.r c.v).1,if(qF w.m.z t c.k c.d c.r c.v).1≠0 then {w with m:=w.m.start t c.k c.d c.r c.v} else {w with m:=w.m.start t c.k c.d c.r c.v,cl:=fU w.cl t.toNat c,wt:=fU w.wt t.toNat true})
def aX.mH(w:aX)(t:Int):Bool:=bT 3 t&&(w.wt t.toNat&&decide (w.m.z.cM < 0))
def nI(w:aX)(t:Int):iT:={Qk with kind:=98,task:=t,c:=w.cl t.toNat}
def aX.mN(s:aC)(w:aX)(t:Int):aX:=if w.mH t then {w with m:=w.m.step s t,wt:=fU w.wt t.toNat false,es:=w.es++[nI w t]} else {w with m:=w.m.step s t}
def aX.task(s:aC)(w:aX)(t:Int):aX:=(w.mN s t).end_ t
def aX.dW(s:aC)(w:aX):aX:={w with m:=w.m.dW s}
def rG(s:aC)(x:aR)(a:fO):iT:={Qk with kind:=100,an:=a,alive:=xT s x a.dev.toNat}
def aX.nB(s:aC)(w:aX)(aZ:Int):aX:={w with m:=w.m.tick s aZ,es:=w.es++(nA s w.m.x aZ).2.map (rG s w.m.x)}
def aX.tick(s:aC)(w:aX)(aZ:Int):aX:=(((w.nB s aZ).end_ 0).end_ 1).end_ 2
def aX.send(w:aX)(l:List Int):Int×aX:=((jZ w.m.y 1 l).1,if(jZ w.m.y 1 l).1≠0 then {w with m:=⟨w.m.z,(jZ w.m.y 1 l).2,w.m.x⟩} else {w with m:=⟨w.m.z,(jZ w.m.y 1 l).2,w.m.x⟩,es:=w.es++[{Qk with kind:=115,words:=l}]})
def aX.take(w:aX):aX:=match mP w.m.y 1 with
 | some l=>{w with m:=⟨w.m.z,mA w.m.y 1,w.m.x⟩,es:=w.es++[{Qk with kind:=114,words:=l}]}
 | none=>{w with m:=⟨w.m.z,mA w.m.y 1,w.m.x⟩}
structure Eh where
 kind:Int
 task:Int
 c:nW
 aZ:Int
 words:List Int
def aX.nH(s:aC)(w:aX)(p:Eh):Int×aX:=
 if p.kind=99 then w.call p.task p.c else if p.kind=116 then(0,w.task s p.task) else if p.kind=102 then(0,w.dW s) else if p.kind=104 then(0,w.tick s p.aZ)
 else if p.kind=109 then w.send p.words else if p.kind=97 then(0,w.take) else(1,w)
def aX.round(s:aC)(w:aX)(aZ:Int):aX:=((((w.task s 0).task s 1).task s 2).dW s).tick s aZ
structure iB(s:aC)(n:Nat)(w:aX):Prop where
 m:fI s n w.m
 es:w.es.length≤13*n
 wd:∀e∈w.es,nK e.words∧e.words.length≤1000000
section
variable{s:aC}{n:Nat}{w:aX}
theorem iB.le{k:Nat}(h:iB s n w)(hk:n≤k):iB s k w:=⟨h.m.le hk,by have:=h.es;omega,h.wd⟩
theorem Yu(hm:s.made):iB s 0 (Ki s):=⟨aMZ hm,Nat.zero_le _,fun _ h=>by cases h⟩
theorem iB.end_{b:Nat}(h:fI s n w.m)(he:w.es.length≤b)(hw:∀e∈w.es,nK e.words∧e.words.length≤1000000)(t:Int):fI s n (w.end_ t).m∧(w.end_ t).es.length≤b+1∧∀e∈(w.end_ t).es,nK e.words∧e.words.length≤1000000:=by
 unfold aX.end_;split
 ·refine⟨h.done t,by show(w.es++[_]).length≤_;rw[List.length_append];exact Nat.add_le_add_right he 1,fun e hm=>?_⟩;rcases List.mem_append.1 hm with hm | hm
  ·exact hw e hm
  ·rw[List.mem_singleton] at hm;subst hm;exact⟨(fun _ h=>by cases h),Nat.zero_le _⟩
 ·exact⟨h.done t,by show w.es.length≤_;omega,hw⟩
theorem iB.mN(hm:s.made)(h:iB s n w)(t:Int):fI s (n+1) (w.mN s t).m∧(w.mN s t).es.length≤13*n+1∧∀e∈(w.mN s t).es,nK e.words∧e.words.length≤1000000:=by
 have he:=h.es
 unfold aX.mN;split
 ·refine⟨h.m.step hm t,by show(w.es++[_]).length≤_;rw[List.length_append];exact Nat.add_le_add_right he 1,fun e hm=>?_⟩;rcases List.mem_append.1 hm with hm | hm
  ·exact h.wd e hm
  ·rw[List.mem_singleton] at hm;subst hm;exact⟨(fun _ h=>by cases h),Nat.zero_le _⟩
 ·exact⟨h.m.step hm t,by show w.es.length≤_;omega,h.wd⟩
theorem iB.task(hm:s.made)(h:iB s n w)(t:Int):iB s (n+1) (w.task s t):=by
 obtain⟨h1,h2,h3⟩:=h.mN hm t;obtain⟨k1,k2,k3⟩:=iB.end_ h1 h2 h3 t;exact⟨k1,by show(aX.end_ _ _).es.length≤_;omega,k3⟩
theorem iB.nB(hm:s.made)(h:iB s n w)(aZ:Int):fI s n (w.nB s aZ).m∧(w.nB s aZ).es.length≤13*n+4∧∀e∈(w.nB s aZ).es,nK e.words∧e.words.length≤1000000:=by
 have he:=h.es
 have hl:=aAQ (s:=s) (x:=w.m.x) s.aD.length
 have hv:=hm.nv
 refine⟨h.m.tick hm aZ,by show(w.es++List.map _ (fN s w.m.x s.aD.length).2).length≤_;rw[List.length_append,List.length_map];omega,fun e hm=>?_⟩;rcases List.mem_append.1 hm with hm | hm
 ·exact h.wd e hm
 ·obtain⟨a,_,rfl⟩:=List.mem_map.1 hm;exact⟨(fun _ h=>by cases h),Nat.zero_le _⟩
theorem iB.tick(hm:s.made)(h:iB s n w)(aZ:Int):fI s n (w.tick s aZ).m∧(w.tick s aZ).es.length≤13*n+7∧∀e∈(w.tick s aZ).es,nK e.words∧e.words.length≤1000000:=by
 obtain⟨h1,h2,h3⟩:=h.nB hm aZ;obtain⟨k1,k2,k3⟩:=iB.end_ h1 h2 h3 0;obtain⟨l1,l2,l3⟩:=iB.end_ k1 k2 k3 1;exact iB.end_ l1 l2 l3 2
theorem iB.dW(hm:s.made)(h:iB s n w):iB s n (w.dW s):=⟨h.m.dW hm,h.es,h.wd⟩
theorem fI.aGJ{m:iN}(h:fI s n m){y':cI}(hy:oU s y'):fI s n ⟨m.z,y',m.x⟩:=⟨h.sA,hy,h.hw,h.wt,h.po,h.w0,h.w1⟩
theorem aLx{y:cI}(h:Ej s y){l:List Int}(hl:mP y 1=some l):nK l∧l.length≤1000000:=by
 unfold mP at hl;rw[if_neg (by decide),if_pos rfl] at hl;split at hl
 ·cases hl;exact⟨h.u1,h.n1⟩
 ·cases hl
def Eh.ok(p:Eh):Prop:=(0≤p.c.v∧p.c.v < 4294967296)∧(0≤p.aZ∧p.aZ < 4294967296)∧nK p.words∧p.words.length≤1000000
theorem iB.nH(hm : s.made)(h : iB s n w){p : Eh}(hp : p.ok) : iB s (n + 1) (w.nH s p).2 := by
 obtain⟨hv,hd,hu,hl⟩:=hp
 have he:=h.es
 unfold aX.nH;split
 ·unfold aX.call;dsimp only
  have:=h.m.start p.task p.c.k p.c.d p.c.r p.c.v hv
  split<;>exact⟨this.le (by omega),by show w.es.length≤_;omega,h.wd⟩
 ·split
  ·exact h.task hm _
  ·split
   ·exact(h.dW hm).le (by omega)
   ·split
    ·obtain⟨h1,h2,h3⟩:=h.tick hm p.aZ;exact⟨h1.le (by omega),by show(aX.tick _ _ _).es.length≤_;omega,h3⟩
    ·split
     ·unfold aX.send;dsimp only
      have hs:=h.m.aGJ (h.m.fw.send 1 hu hl)
      split
      ·exact⟨hs.le (by omega),by show w.es.length≤_;omega,h.wd⟩
      ·refine⟨hs.le (by omega),by show(w.es++[_]).length≤_;rw[List.length_append];simp;omega,fun e hm=>?_⟩;rcases List.mem_append.1 hm with hm | hm
       ·exact h.wd e hm
       ·rw[List.mem_singleton] at hm;subst hm;exact⟨hu,hl⟩
     ·split
      ·unfold aX.take
       have hs:=h.m.aGJ (h.m.fw.read 1)
       split
       ·rename_i l hr
        refine⟨hs.le (by omega),by show(w.es++[_]).length≤_;rw[List.length_append];simp;omega,fun e hm=>?_⟩;rcases List.mem_append.1 hm with hm | hm
        ·exact h.wd e hm
        ·rw[List.mem_singleton] at hm;subst hm;exact aLx h.m.fw.fm hr
       ·exact⟨hs.le (by omega),by show w.es.length≤_;omega,h.wd⟩
      ·exact h.le (by omega)
theorem iB.round(hm:s.made)(h:iB s n w)(aZ:Int):iB s (n+4) (w.round s aZ):=by
 have h3:=((((h.task hm 0).task hm 1).task hm 2).dW hm)
 obtain⟨k1,k2,k3⟩:=h3.tick hm aZ;exact⟨k1.le (by omega),by show(aX.tick _ _ _).es.length≤_;omega,k3⟩
end
def Kv(r:Int):Int:=[17,20,22,17,20,22,16,19].getD r.toNat 0
def Zy(p r:Int):Int:=if p=20∧r < 3 then 7 else[4,4,5,7,7,6,0,1,2].getD r.toNat 0
end
section
structure gL where
 op:Int
 task:Int
 kind:Int
 dev:Int
 bO:Int
 v:Int
 ag:Int
 pr:Int
 ms:Int
 id:Int
 aw:Int
 od:Int
def gL.cells(a:gL):List Value:=[iv a.op,iv a.task,iv a.kind,iv a.dev,iv a.bO,.int .u32 a.v,iv a.ag,iv a.pr,iv a.ms,iv a.id,iv a.aw,iv a.od]
def zR(a:Int):Prop:= -9223372036854775808≤a∧a≤9223372036854775807
structure gL.ok(a:gL):Prop where
 op:zR a.op
 task:zR a.task
 kind:zR a.kind
 dev:zR a.dev
 bO:zR a.bO
 v:0≤a.v∧a.v < 4294967296
 pr:zR a.pr
 ms:zR a.ms
 id:zR a.id
 aw:zR a.aw
 od:zR a.od
theorem gL.len(a:gL):a.cells.length=12:=rfl
end
section
def eZ(c n:Int):Int:=(if c < 0 then 0 - (c+1) else c) % n
theorem Cw(c n:Int)(hn:0 < n):0≤eZ c n∧eZ c n < n:=⟨Int.emod_nonneg _ (by omega),Int.emod_lt_of_pos _ hn⟩
def aC2(r:Int):Int:=([103,103,103,112,112,114,119,114,119,115,109,109,120]:List Int).getD r.toNat 0
theorem aNh{r:Int}(h0:0≤r)(h1:r < 13):([.int .u8 103,.int .u8 103,.int .u8 103,.int .u8 112,.int .u8 112,.int .u8 114,.int .u8 119,.int .u8 114,.int .u8 119,.int .u8 115,.int .u8 109,.int .u8 109,.int .u8 120]:List Value)[r.toNat]? =some (.int .u8 (aC2 r)):=by
 obtain⟨n,rfl⟩:∃n:Nat,r=(n:Int):=⟨r.toNat,by omega⟩
 have hn:n < 13:=by omega
 unfold aC2;rw[Int.toNat_natCast]
 match n,hn with
 | 0,_ | 1,_ | 2,_ | 3,_ | 4,_ | 5,_ | 6,_ | 7,_ | 8,_ | 9,_ | 10,_ | 11,_ | 12,_=>rfl
 | n+13,h=>omega
def Re(a:gL):Int:=aC2 (eZ a.kind 13)
def Rf(a:gL)(many:Int):Int:=eZ a.dev (many+1)
def Rc(a:gL):Int:=eZ a.bO 4
end
section
def aAa(a:gL):Int:=Kv (eZ a.pr 8)
def Ii(a:gL):Int:=Zy (aAa a) (eZ a.ms 9)
def tT(a:gL):List Int:=[(gZ (Ii a) 0 (aAa a) (eZ a.aw 1024)).1]++((if Ii a≠0∧Ii a≠1 then[eZ a.id 10] else[])++(if Ii a=4∨Ii a=7 then[eZ a.aw 4] else[]))
def sI(a:gL):List Int:=
 if eZ a.od 30=0 then tT a++[0] else if eZ a.od 30=1 then(tT a).take ((tT a).length - 1) else if eZ a.od 30=2 then(tT a).set 0 (Az ((tT a).headD 0) 268435456) else if eZ a.od 30=3 then(tT a).set 0 (Az ((tT a).headD 0) 256) else tT a
theorem aM1(a:gL):nK (tT a)∧1≤(tT a).length∧(tT a).length≤3:=by
 have h1:=Cw a.id 10 (by decide)
 have h2:=Cw a.aw 4 (by decide)
 have h3:=aF9 (Ii a) 0 (aAa a) (eZ a.aw 1024)
 unfold tT;constructor
 ·intro v hv;simp only[List.mem_append,List.mem_singleton] at hv;rcases hv with rfl | hv | hv
  ·exact h3
  ·split at hv
   ·rw[List.mem_singleton] at hv;omega
   ·cases hv
  ·split at hv
   ·rw[List.mem_singleton] at hv;omega
   ·cases hv
 ·split<;>split<;>simp
theorem aFO(a:gL):nK (sI a)∧(sI a).length≤4:=by
 obtain⟨h1,h2,h3⟩:=aM1 a
 have lE:∀v:Int,0≤v∧v < 4294967296→nK ((tT a).set 0 v):=fun v hv u hu=>by
  rcases List.mem_or_eq_of_mem_set hu with h | h
  ·exact h1 u h
  ·rw[h];exact hv
 unfold sI;split
 ·refine⟨fun v hv=>?_,by rw[List.length_append];simp;omega⟩;rcases List.mem_append.1 hv with h | h
  ·exact h1 v h
  ·rw[List.mem_singleton] at h;subst h;decide
 ·split
  ·exact⟨fun v hv=>h1 v (List.mem_of_mem_take hv),by rw[List.length_take];omega⟩
  ·split
   ·exact⟨lE _ (aCb _ _),by rw[List.length_set];omega⟩
   ·split
    ·exact⟨lE _ (aCb _ _),by rw[List.length_set];omega⟩
    ·exact⟨h1,by omega⟩
def opK(r:Int):Int:=if r < 4 then 99 else if r < 12 then 116 else if r < 19 then 102 else if r < 26 then 104 else if r=26 then 109 else if r=27 then 97 else 0
def Ib(a:gL)(many:Int):Eh:=⟨opK (eZ a.op 30),if eZ a.bO 40=39 then eZ a.task 6 - 2 else eZ a.task 3,⟨Re a,Rf a many,Rc a,a.v⟩,a.v,sI a⟩
theorem aF6{a:gL}(ha:a.ok)(many:Int):(Ib a many).ok:=⟨ha.v,ha.v,(aFO a).1,Nat.le_trans (aFO a).2 (by decide)⟩
def Rm(s:aC)(w:aX)(a:gL):aX:=if eZ a.op 30=28 then w.round s a.v else(w.nH s (Ib a s.aD.length)).2
def runN(s:aC)(eL:List gL)(n:Nat):aX:=(eL.take n).foldl (Rm s) (Ki s)
theorem aBO{s:aC}{eL:List gL}{n:Nat}{a:gL}(h:eL[n]? =some a):runN s eL (n+1)=Rm s (runN s eL n) a:=by
 have hl:=(List.getElem?_eq_some_iff.1 h).1
 unfold runN;rw[List.take_succ,h,List.foldl_append];rfl
theorem aHT{s:aC}(hm:s.made){w:aX}{n:Nat}(h:iB s n w){a:gL}(ha:a.ok):iB s (n+4) (Rm s w a):=by
 unfold Rm;split
 ·exact h.round hm _
 ·exact(h.nH hm (aF6 ha _)).le (by omega)
end
section
theorem nQ(c n:Int)(w:World)(hc:zR c)(hn:0 < n):Cz 15 #[iv c,iv n] w (Rt (iv (eZ c n)) w):=by
 unfold zR at hc;refine aN func15 ntmps15 ?_;refine aB ?_;refine aG rfl (fun h=>?_) (fun h=>?_)
 ·refine aB ?_;refine jJ (by simp) ?_;rw[eZ,if_pos h]
 ·refine aB ?_;refine jJ (by simp) ?_;rw[eZ,if_neg h]
end
section
def Kc(cs:List eV)(rows:List (List Value))(p:Piece):Prop:=Rows (qV (fH p)) 6 cs rows
theorem Kc.le{cs:List eV}{rows:List (List Value)}(p q:Piece)(h:p.Le q)(k:Kc cs rows p):Kc cs rows q:=Rows.mono (fun _ _=>qV.mono (kF h)) k
def Ka(vs:List cG)(rows:List (List Value))(p:Piece):Prop:=Rows (qB (fH p)) 6 vs rows
theorem Ka.le{vs:List cG}{rows:List (List Value)}(p q:Piece)(h:p.Le q)(k:Ka vs rows p):Ka vs rows q:=Rows.mono (fun _ _=>qB.mono (kF h)) k
def pO(sz:Nat)(A:Option Addr)(n:Nat)(xs:List Value)(p:Piece):Prop:=aI p sz A n xs
theorem pO.le{sz n:Nat}{A:Option Addr}{xs:List Value}(p q:Piece)(h:p.Le q)(k:pO sz A n xs p):pO sz A n xs q:=aI.le k h
def pZ(cs:List eV)(rows:List (List Value)):HP:=HP.bU (Kc cs rows) (Kc.le (cs:=cs) (rows:=rows))
def Dw(vs:List cG)(rows:List (List Value)):HP:=HP.bU (Ka vs rows) (Ka.le (vs:=vs) (rows:=rows))
section
variable{N:bY}{w0:World}{K:Act→World→Prop}{e:Env}{R:List Piece}{H:List HP}
theorem aIh{p:HP}(hp:∀w,p.sat (fun _=>False) w)(h:XK N w0 K e R (p::H)):XK N w0 K e R H:=fun a w hr st=>by
 obtain⟨Z,F,hz,cQ,hs,cY,eD⟩:=st.ex;refine h a w hr ⟨st.os,st.tape,st.output,st.size,Z,fun i=>match i with | 0=>fun _=>False | i+1=>F i,hz,cQ,fun i r hi=>?_,fun i b hb=>?_,fun i j b hij hi=>?_⟩
 ·cases i with
  | zero=>simp at hi;subst hi;exact hp w
  | succ i=>exact hs i r (by simpa using hi)
 ·cases i with
  | zero=>exact hb.elim
  | succ i=>exact cY i b hb
 ·cases i with
  | zero=>exact hi.elim
  | succ i=>cases j with
   | zero=>exact id
   | succ j=>exact eD i j b (by omega) hi
theorem aRU{cs:List eV}{rows:List (List Value)}{cl:eV}{A:Option Addr}{c:Nat}(h:XK N w0 K e R (pZ (cs++[cl]) (rows++[[.int .u8 cl.kind,.slice A cl.src.length c,.int .u64 cl.rate,iv cl.mul,iv cl.div,iv cl.lock]])::H)):XK N w0 K e R (HP.own 3 1 (.slice A cl.src.length c) cl.src.length (aM cl.src)::pZ cs rows::H):=
 xU 0 (Φ:=pO 1 A cl.src.length (aM cl.src)) (hm:=pO.le) rfl (fun _ h=>h) (Jq (X:=Kc (cs++[cl]) (rows++[_])) (h3:=Kc.le) (fun p h1 h2=>h2.snoc rfl ⟨A,_,c,rfl,rfl,h1⟩) h)
theorem aRS{vs:List cG}{rows:List (List Value)}{d:cG}{A A':Option Addr}{c c':Nat}(h:XK N w0 K e R (Dw (vs++[d]) (rows++[[iv d.clock,iv d.domain,iv d.reset,.int .u32 d.iG,.slice A d.aS.length c,.slice A' d.iV.length c']])::H)):XK N w0 K e R (HP.own 95 2 (.slice A d.aS.length c) d.aS.length (d.aS.flatMap Rg.cells)::HP.own 3 1 (.slice A' d.iV.length c') d.iV.length (aM d.iV)::Dw vs rows::H):=
 xU 0 (Φ:=pO 2 A d.aS.length (d.aS.flatMap Rg.cells)) (hm:=pO.le) rfl (fun _ h=>h) (xU 1 (Φ:=pO 1 A' d.iV.length (aM d.iV)) (hm:=pO.le) rfl (fun _ h=>h) (Jq (X:=fun p=>pO 2 A d.aS.length (d.aS.flatMap Rg.cells) p∧pO 1 A' d.iV.length (aM d.iV) p) (h3:=fun p q hl h=>⟨pO.le p q hl h.1,pO.le p q hl h.2⟩) (fun p h1 h2=>⟨h1,h2⟩) (Jq (X:=Ka (vs++[d]) (rows++[_])) (h3:=Ka.le) (fun p h1 h2=>h2.snoc rfl ⟨A,_,c,A',_,c',rfl,rfl,rfl,h1.1,h1.2⟩) h)))
end
def aEq(v:Value)(hs:List HP)(_:Piece):Prop:=∃(s:aC) (A1 A2 A3 A4:Option Addr×Nat) (r1 r2 r3 r4:List (List Value)),v=.agg #[.slice A1.1 s.aF.length A1.2,.slice A2.1 s.domains.length A2.2,.slice A3.1 s.bA.length A3.2,.slice A4.1 s.aD.length A4.2]∧s.made∧Rows tI 3 s.domains r2∧Rows xW 1 s.bA r3∧
 hs=[HP.own 86 6 (.slice A1.1 s.aF.length A1.2) s.aF.length r1.flatten,pZ s.aF r1,HP.own 88 3 (.slice A2.1 s.domains.length A2.2) s.domains.length r2.flatten,HP.own 90 1 (.slice A3.1 s.bA.length A3.2) s.bA.length r3.flatten,HP.own 93 6 (.slice A4.1 s.aD.length A4.2) s.aD.length r4.flatten,Dw s.aD r4]
theorem gJ.tail{w:World}{p:HP}{hs:List HP}{q:Piece}(h:gJ w (p::hs) q):gJ w hs q:=by
 obtain⟨F,f1,f2,f3,f4⟩:=h;exact⟨fun i=>F (i+1),fun i r hi=>f1 (i+1) r (by simpa using hi),fun i=>f2 (i+1),fun i j b hij=>f3 (i+1) (j+1) b (by omega),f4⟩
theorem aEq.weak{w w':World}{v:Value}{hs:List HP}{q:Piece}(h:aEq v hs q)(hq:q.w=w')(hn:gJ w hs q):∃cs s,v=.agg cs∧uP (fH (fresh w w')) s cs∧s.made:=by
 obtain⟨s,A1,A2,A3,A4,r1,r2,r3,r4,rfl,hm,h2,h3,rfl⟩:=h;obtain⟨F,f1,f2,_⟩:=hn;subst hq
 have hl:∀i,(⟨q.w,F i⟩:Piece).Le (fresh w q.w):=fun i b hb=>⟨⟨(f2 i b hb).1,(f2 i b hb).2.1⟩,rfl⟩
 have ho:∀{i:Nat} {t:TypeId} {sz n c:Nat} {A:Option Addr} {xs:List Value},(HP.own t sz (.slice A n c) n xs).sat (F i) q.w→aI (fresh w q.w) sz A n xs:=fun {i} _ _ _ _ _ _ hs=>(aI.own (q:=⟨q.w,F i⟩) ⟨F i,hs,fun _ h=>h⟩).le (hl i)
 exact⟨_,s,rfl,⟨A1.1,_,A1.2,A2.1,_,A2.2,A3.1,_,A3.2,A4.1,_,A4.2,rfl,⟨r1,Kc.le _ _ (hl 1) (f1 1 _ rfl),rfl,ho (f1 0 _ rfl)⟩,⟨r2,h2,rfl,ho (f1 2 _ rfl)⟩,⟨r3,h3,rfl,ho (f1 3 _ rfl)⟩,⟨r4,Ka.le _ _ (hl 5) (f1 5 _ rfl),rfl,ho (f1 4 _ rfl)⟩⟩,hm⟩
end
section
theorem aLC{r:Int}(h0:0≤r)(h1:r < 8):([iv 17,iv 20,iv 22,iv 17,iv 20,iv 22,iv 16,iv 19]:List Value)[r.toNat]? =some (iv (Kv r)):=by
 rcases(by omega:r=0∨r=1∨r=2∨r=3∨r=4∨r=5∨r=6∨r=7) with rfl | rfl | rfl | rfl | rfl | rfl | rfl | rfl<;>rfl
def Zz(r:Int):Int:=([4,4,5,7,7,6,0,1,2]:List Int).getD r.toNat 0
theorem aM0{r:Int}(h0:0≤r)(h1:r < 9):([iv 4,iv 4,iv 5,iv 7,iv 7,iv 6,iv 0,iv 1,iv 2]:List Value)[r.toNat]? =some (iv (Zz r)):=by
 rcases(by omega:r=0∨r=1∨r=2∨r=3∨r=4∨r=5∨r=6∨r=7∨r=8) with rfl | rfl | rfl | rfl | rfl | rfl | rfl | rfl | rfl<;>rfl
theorem aLB{r:Int}(h0:0≤r)(h1:r < 8):0≤Kv r∧Kv r < 256:=by
 rcases(by omega:r=0∨r=1∨r=2∨r=3∨r=4∨r=5∨r=6∨r=7) with rfl | rfl | rfl | rfl | rfl | rfl | rfl | rfl<;>decide
theorem aMz{r:Int}(h0:0≤r)(h1:r < 9):0≤Zz r∧Zz r < 256:=by
 rcases(by omega:r=0∨r=1∨r=2∨r=3∨r=4∨r=5∨r=6∨r=7∨r=8) with rfl | rfl | rfl | rfl | rfl | rfl | rfl | rfl | rfl<;>decide
theorem aMy{p r:Int}(h0:0≤r)(h1:r < 9):0≤Zy p r∧Zy p r < 256:=by
 unfold Zy;split
 ·decide
 ·exact aMz h0 h1
def Kf(A:Option Addr)(l:List Int):HP:=HP.bU (pO 1 A l.length (eA l)) pO.le
def Se(l:List Int)(v:Value)(hs:List HP)(_:Piece):Prop:=∃A c,v=.slice A l.length c∧hs=[Kf A l]
theorem aId{nn:Nat}{fn:Func}{t n c:Nat}{A:Option Addr}{w0:World}{e:Env}{R:List Piece}{H:List HP}(l:List Int)(hn:n=l.length)(hi:H[0]? =some (Kf A l):=by rfl)(hr:fn.results=#[.tmp t]:=by rfl)(ht:e.get t=some (.slice A n c):=by rfl)(hR:all w0∈R:=by simp):
  XK ⟨nn,[]⟩ w0 (bodyPost Tryz.prog fn (fun y w'=>(∃v hs q,y=.returned v∧q.w=w'∧Se l v hs q∧gJ w0 hs q)∧Below w0.heap.size w0 w') .ret) e R H:=by
 subst hn;refine aT [0] (H':=[Kf A l]) ?_ (by decide) (fun _ h=>h) ?_
 ·unfold yN;rw[hi];rfl
 refine dG [] [] [0] (by simp) rfl (by decide) (by decide) fun q _ _ hfr=>?_;exact mI hr ht fun w1 st=>⟨⟨_,_,⟨w1,q.Z⟩,rfl,rfl,⟨A,c,rfl,rfl⟩,st.newR (by simp[hR]) (by simp) (hfr hR (by simp))⟩,st.below (by simp[hR])⟩
theorem aBb{nn:Nat}{fn:Func}{t n c:Nat}{A:Option Addr}{xs:List Value}{w0:World}{e:Env}{R:List Piece}{H:List HP}(l:List Int)(hn:n=l.length)(hx:xs=eA l)(hi:H[0]? =some (HP.own 37 1 (.slice A n c) n xs):=by rfl)(hr:fn.results=#[.tmp t]:=by rfl)(ht:e.get t=some (.slice A n c):=by rfl)(hR:all w0∈R:=by simp):
  XK ⟨nn,[]⟩ w0 (bodyPost Tryz.prog fn (fun y w'=>(∃v hs q,y=.returned v∧q.w=w'∧Se l v hs q∧gJ w0 hs q)∧Below w0.heap.size w0 w') .ret) e R H:=by
 subst hn;subst hx;refine xU 0 (Φ:=pO 1 A l.length (eA l)) (hm:=pO.le) hi (fun _ h=>h) ?_;exact aId l rfl (List.getElem?_set_self (xD hi)) hr ht hR
theorem aCr(a:gL)(ha:a.ok)(w:World):
  Cz 47 #[.agg #[iv a.ag,iv a.pr,iv a.ms,iv a.id,iv a.aw,iv a.od]] w (fun y w'=>(∃v hs q,y=.returned v∧q.w=w'∧Se (sI a) v hs q∧gJ w hs q)∧Below w.heap.size w w'):=by
 have b1:=Cw a.pr 8 (by decide)
 have b2:=Cw a.ms 9 (by decide)
 have b3:=Cw a.id 10 (by decide)
 have b4:=Cw a.aw 4 (by decide)
 have b5:=Cw a.aw 1024 (by decide)
 have hP:=aLC b1.1 b1.2
 have hM:=aM0 b2.1 b2.2
 have hpb:=aLB b1.1 b1.2
 have hmb:=aMy (p:=Kv (eZ a.pr 8)) b2.1 b2.2
 have h1:=ha.pr
 have h2:=ha.ms
 have h3:=ha.id
 have h4:=ha.aw
 have h5:=ha.od
 have yV:Ii a=if Kv (eZ a.pr 8)=20∧eZ a.ms 9 < 3 then 7 else Zz (eZ a.ms 9):=rfl
 obtain⟨m,hm⟩:∃m,Ii a=m:=⟨_,rfl⟩
 obtain⟨p,hp⟩:∃p,Kv (eZ a.pr 8)=p:=⟨_,rfl⟩
 obtain⟨t1,sL⟩:∃t,(if m≠0∧m≠1 then[eZ a.id 10] else[])=t:=⟨_,rfl⟩
 obtain⟨t2,qJ⟩:∃t,(if m=4∨m=7 then[eZ a.aw 4] else[])=t:=⟨_,rfl⟩
 obtain⟨x0,hx0⟩:∃x,(gZ m 0 p (eZ a.aw 1024)).1=x:=⟨_,rfl⟩
 have iA:t1.length≤1:=by rw[←sL];split<;>simp
 have Dk:t2.length≤1:=by rw[←qJ];split<;>simp
 have hm0:tT a=x0::(t1++t2):=by
  unfold tT;rw[hm,show aAa a=p from hp,hx0,sL,qJ];rfl
 have hmF:sI a=if eZ a.od 30=0 then(x0::(t1++t2))++[0] else if eZ a.od 30=1 then(x0::(t1++t2)).take ((x0::(t1++t2)).length - 1) else if eZ a.od 30=2 then(x0::(t1++t2)).set 0 (Az x0 268435456) else if eZ a.od 30=3 then(x0::(t1++t2)).set 0 (Az x0 256) else x0::(t1++t2):=by
  unfold sI;rw[hm0];rfl
 obtain⟨od,hod⟩:∃o,eZ a.od 30=o:=⟨_,rfl⟩
 rw[hod] at hmF;rw[hmF];rw[hp] at hP yV hpb;rw[hm] at yV
 have aN4:0≤m∧m < 256:=by rw[←hm];exact hmb
 have hpk:=aLM aN4 hpb b5
 have hlen:(x0::(t1++t2)).length=t1.length+t2.length+1:=by simp
 refine aN func47 ntmps47 ?_;refine aB ?_;refine bN fun g1=>?_;refine aB ?_;refine eK fun g2=>?_;refine aB ?_;refine aV (fun w1 t=>nQ _ 8 w1 h1 (by decide)) ?_;refine aB ?_;refine kd (bJ rfl (Rd.aE 0 rfl hP)) ?_;refine aB ?_;refine eK fun g3=>?_;refine aB ?_;refine aV (fun w1 t=>nQ _ 9 w1 h2 (by decide)) ?_;refine aB ?_;refine kd (bJ rfl (Rd.aE 0 rfl hM)) ?_;refine bF ?_;refine fC ?_;refine Gx (α:=Unit) (fun _=>[(6,iv m),(4,iv p),(1,pt g1)]) (fun _=>[HP.aE g1 72 [iv a.ag,iv a.pr,iv a.ms,iv a.id,iv a.aw,iv a.od]]) (fun _=>True) ?_ fun _ _=>?_
 ·refine aB ?_;refine bZ (t:=25) rfl (fun hg=>?_) (fun hg=>?_)
  ·refine aB ?_;refine aV (fun w1 t=>nQ _ 9 w1 h2 (by decide)) ?_;refine aB ?_;refine aG rfl (fun h=>?_) (fun h=>?_)
   ·rw[if_pos ⟨hg,h⟩] at yV;subst yV;refine aB ?_;exact dM ()
   ·rw[if_neg (fun hh=>h hh.2)] at yV;subst yV;refine aB ?_;exact dM ()
  ·rw[if_neg (fun hh=>hg hh.1)] at yV;subst yV;refine aB ?_;exact dM ()
 refine aB ?_;refine aV (fun w1 t=>nQ _ 1024 w1 h4 (by decide)) ?_;refine aB ?_
 refine eW (aEo [x0]) (fun w1 t=>by
  have:=aH1 m 0 p (eZ a.aw 1024) none 0 0 [] w1 (aI.nil _ _) rfl (by omega) hpk
  rwa [hx0] at this) ?_
 rintro _ _ q1 ⟨A1,c1,rfl,rfl⟩ _;dsimp only[List.cons_append,List.nil_append];refine vR (R':=[all w]) (by simp) ?_;refine bF ?_;refine bF ?_;refine bF ?_;refine bF ?_;refine bF ?_;refine fC ?_;refine Gx (α:=Option Addr×Nat) (fun b=>[(7,.slice b.1 (x0::t1).length b.2),(6,iv m),(1,pt g1)]) (fun b=>[HP.own 37 1 (.slice b.1 (x0::t1).length b.2) (x0::t1).length (eA (x0::t1)),HP.aE g1 72 [iv a.ag,iv a.pr,iv a.ms,iv a.id,iv a.aw,iv a.od]]) (fun _=>True) ?_ fun b _=>?_
 ·refine aB ?_;refine bZ (t:=43) rfl (fun hg=>?_) (fun hg=>?_)
  ·refine aB ?_;refine aG rfl (fun h=>?_) (fun h=>?_)
   ·rw[if_pos ⟨hg,h⟩] at sL;subst sL;refine aB ?_;refine aV (fun w1 t=>nQ _ 10 w1 h3 (by decide)) ?_;refine aB ?_;refine eK fun g5=>?_;refine iF 1 1 4 1 (n':=([x0,eZ a.id 10]).length) (el:=37) (by kernel_rfl) (by kernel_rfl) (by decide) rfl rfl rfl (mO 0 rfl rfl) (by simp[Value.oneCell']) (by simp) (by first | (simp;done) | (simp;omega)) (by first | (simp;done) | (simp;omega)) (by decide) fun A2 c2=>?_;dsimp only[List.set];refine aB ?_;rw[show eA ([x0])++[.int .u32 (eZ a.id 10)]=eA ([x0,eZ a.id 10]) by simp[eA]];exact dM (A2,c2)
   ·rw[if_neg (fun hh=>h hh.2)] at sL;subst sL;refine aB ?_;exact dM (A1,c1)
  ·rw[if_neg (fun hh=>hg hh.1)] at sL;subst sL;refine aB ?_;exact dM (A1,c1)
 refine Gx (α:=Option Addr×Nat) (fun b=>[(7,.slice b.1 (x0::(t1++t2)).length b.2),(6,iv m),(1,pt g1)]) (fun b=>[HP.own 37 1 (.slice b.1 (x0::(t1++t2)).length b.2) (x0::(t1++t2)).length (eA (x0::(t1++t2))),HP.aE g1 72 [iv a.ag,iv a.pr,iv a.ms,iv a.id,iv a.aw,iv a.od]]) (fun _=>True) ?_ fun b _=>?_
 ·refine aB ?_;refine bZ (t:=56) rfl (fun hg=>?_) (fun hg=>?_)
  ·rw[if_pos (.inl hg)] at qJ;subst qJ;refine aB ?_;refine aV (fun w1 t=>nQ _ 4 w1 h4 (by decide)) ?_;refine aB ?_;refine eK fun g5=>?_;refine iF 1 1 4 1 (n':=(x0::(t1++[eZ a.aw 4])).length) (el:=37) (by kernel_rfl) (by kernel_rfl) (by decide) rfl rfl rfl (mO 0 rfl rfl) (by simp[Value.oneCell']) (by simp) (by first | (simp;done) | (simp;omega)) (by first | (simp;done) | (simp;omega)) (by decide) fun A2 c2=>?_;dsimp only[List.set];refine aB ?_;rw[show eA (x0::t1)++[.int .u32 (eZ a.aw 4)]=eA (x0::(t1++[eZ a.aw 4])) by simp[eA]];exact dM (A2,c2)
  ·refine aB ?_;refine aG rfl (fun h=>?_) (fun h=>?_)
   ·rw[if_pos (.inr h)] at qJ;subst qJ;refine aB ?_;refine aV (fun w1 t=>nQ _ 4 w1 h4 (by decide)) ?_;refine aB ?_;refine eK fun g5=>?_;refine iF 1 1 4 1 (n':=(x0::(t1++[eZ a.aw 4])).length) (el:=37) (by kernel_rfl) (by kernel_rfl) (by decide) rfl rfl rfl (mO 0 rfl rfl) (by simp[Value.oneCell']) (by simp) (by first | (simp;done) | (simp;omega)) (by first | (simp;done) | (simp;omega)) (by decide) fun A2 c2=>?_;dsimp only[List.set];refine aB ?_;rw[show eA (x0::t1)++[.int .u32 (eZ a.aw 4)]=eA (x0::(t1++[eZ a.aw 4])) by simp[eA]];exact dM (A2,c2)
   ·rw[if_neg (fun hh=>hh.elim hg h)] at qJ;subst qJ;rw[List.append_nil];refine aB ?_;exact dM b
 refine aB ?_;refine aV (fun w1 t=>nQ _ 30 w1 h5 (by decide)) ?_;rw[hod];refine aB ?_;refine aG rfl (fun h=>?_) (fun h=>?_)
 ·rw[if_pos h];refine aB ?_;refine eK fun g7=>?_;refine iF 1 1 4 1 (n':=((x0::(t1++t2))++[0]).length) (el:=37) (by kernel_rfl) (by kernel_rfl) (by decide) rfl rfl rfl (mO 0 rfl rfl) (by simp[Value.oneCell']) (by simp[Nat.add_assoc]) (by first | (simp;done) | (simp;omega)) (by first | (simp;done) | (simp;omega)) (by decide) fun A2 c2=>?_;dsimp only[List.set];refine aB ?_;refine aT [1] rfl (by decide) (fun _ h=>h) ?_;exact aBb _ rfl (aJM _ _)
 rw[if_neg h];refine aB ?_;refine aG rfl (fun h=>?_) (fun h=>?_)
 ·rw[if_pos h];refine aRH 0 rfl fun hcap=>?_;refine aB ?_;refine aIZ ((x0::(t1++t2)).length - 1) (el:=37) (sz:=1) (by kernel_rfl) (by kernel_rfl) rfl rfl (by omega) (by omega) (by decide) fun A3 hA3=>?_;refine aB ?_
  refine pK (q:=Kf A3 ((x0::(t1++t2)).take ((x0::(t1++t2)).length - 1))) 0 rfl (fun F w h=>by
   obtain⟨A9,c9,hB,hs9⟩:=zO (Y:=F) h (fun _ h=>h)
   injection hB with e1
   subst e1
   have:=hs9.aJW (k:=(x0::(t1++t2)).length - 1) (by omega) hA3
   rw[Nat.mul_one,eA,←List.map_take] at this
   show aI _ 1 A3 (List.length _) (eA _)
   rw[List.length_take,Nat.min_eq_left (by omega)]
   exact this) ?_
  exact aId _ (by rw[List.length_take,Nat.min_eq_left (by omega)])
 rw[if_neg h];refine aB ?_;refine aG rfl (fun h=>?_) (fun h=>?_)
 ·rw[if_pos h];refine aBd 0 rfl (by simp) ?_;rintro⟨gb,hgb⟩;rw[hgb];refine Gv 0 rfl fun cs iL hct hnc Ly=>?_;dsimp only[List.set]
  have hc0:cs[0]? =some (.int .u32 x0):=by
   rw[Nat.mul_one] at hct;rw[←List.getElem?_take_of_lt (show 0 < (x0::(t1++t2)).length by simp),hct];rfl
  refine aB ?_;refine kd (bJ rfl (Rd.aE 0 rfl hc0)) ?_;refine Sr rfl rfl (fun w=>aFg _ x0 268435456 w) (by simp) (by decide) ?_;refine aB ?_;refine Ee 0 (n:=(x0::(t1++t2)).length) (c:=b.2) (sz:=1) (xs:=eA ((x0::(t1++t2)).set 0 (Az x0 268435456))) rfl (by simpa using iL) (by rw[←aEK,←hct,List.take_set]) hnc Ly ?_;dsimp only[List.set];exact aBb (n:=(x0::(t1++t2)).length) _ (by simp) rfl
 rw[if_neg h];refine aB ?_;refine aG rfl (fun h=>?_) (fun h=>?_)
 ·rw[if_pos h];refine aBd 0 rfl (by simp) ?_;rintro⟨gb,hgb⟩;rw[hgb];refine Gv 0 rfl fun cs iL hct hnc Ly=>?_;dsimp only[List.set]
  have hc0:cs[0]? =some (.int .u32 x0):=by
   rw[Nat.mul_one] at hct;rw[←List.getElem?_take_of_lt (show 0 < (x0::(t1++t2)).length by simp),hct];rfl
  refine aB ?_;refine kd (bJ rfl (Rd.aE 0 rfl hc0)) ?_;refine Sr rfl rfl (fun w=>aFg _ x0 256 w) (by simp) (by decide) ?_;refine aB ?_;refine Ee 0 (n:=(x0::(t1++t2)).length) (c:=b.2) (sz:=1) (xs:=eA ((x0::(t1++t2)).set 0 (Az x0 256))) rfl (by simpa using iL) (by rw[←aEK,←hct,List.take_set]) hnc Ly ?_;dsimp only[List.set];exact aBb (n:=(x0::(t1++t2)).length) _ (by simp) rfl
 rw[if_neg h];refine aB ?_;exact aBb _ rfl rfl
end
section
def aI7(p:Eh)(v:Value)(hs:List HP)(_:Piece):Prop:=∃A c p0,v=.agg #[.int .u8 p.kind,iv p.task,.int .u8 p.c.k,iv p.c.d,iv p.c.r,.int .u32 p.c.v,.int .u32 p.aZ,.slice A p.words.length c]∧hs=[p0,Kf A p.words]
theorem aLK(a:gL)(many:Int)(w:World)(ha:a.ok)(hm:0≤many∧many≤1000):
  Cz 21 #[.agg a.cells.toArray,iv many] w (fun y w'=>(∃v hs q,y=.returned v∧q.w=w'∧aI7 (Ib a many) v hs q∧gJ w hs q)∧Below w.heap.size w w'):=by
 have b1:=Cw a.kind 13 (by decide)
 have b2:=Cw a.dev (many+1) (by omega)
 have b3:=Cw a.task 6 (by decide)
 have hk:=aNh b1.1 b1.2
 have h1:=ha.kind
 have h2:=ha.dev
 have h3:=ha.bO
 have h4:=ha.task
 have h5:=ha.op
 unfold Ib;obtain⟨K,hK⟩:∃K,opK (eZ a.op 30)=K:=⟨_,rfl⟩
 rw[hK];unfold opK at hK;refine aN func21 ntmps21 ?_;refine aB ?_;refine bN fun g2=>?_;refine cE fun g4=>?_;refine aB ?_;refine eK fun g5=>?_;refine aB ?_;refine Ru (α:=Nat) (fun g6=>[(6,pt g6),(4,pt g4),(2,pt g2)]) (fun g6=>[HP.aE g6 39 [.int .u8 (Re a),iv (Rf a many),iv (Rc a),.int .u32 a.v],HP.aE g4 65 [.int .u8 0,iv 0,.int .u8 0,iv 0,iv 0,.int .u32 0,.int .u32 0,sn],HP.aE g2 74 a.cells]) (fun _=>True) ?_ fun g6 _=>?_
 ·refine aIi ?_;refine zL 3 17 rfl rfl (by kernel_rfl) ?_ ?_
  ·refine aV (fun w1 t=>nQ _ 13 w1 h1 (by decide)) ?_;refine bE ?_;refine nJ 4 ?_;refine nJ 5 ?_ (cN:=bJ rfl (Rd.aE 0 rfl hk));refine zL 10 17 rfl rfl (by kernel_rfl) ?_ ?_
   ·refine aV (fun w1 t=>nQ _ (many+1) w1 h2 (by omega)) ?_;refine bE ?_;refine zL 13 17 rfl rfl (by kernel_rfl) ?_ ?_
    ·refine aV (fun w1 t=>nQ _ 4 w1 h3 (by decide)) ?_;refine bE ?_;refine nJ 16 ?_;refine aL 17 ?_;refine cE fun g6=>?_;refine bE ?_;refine aL 18 ?_;refine lM 0 rfl ?_;dsimp only[List.set];refine cH ?_;refine eC ?_;refine aB ?_;exact dM g6
    ·refine cE fun g6=>?_;refine bE ?_;refine aL 13 ?_;refine aV (fun w1 t=>nQ _ 4 w1 h3 (by decide)) ?_;refine bE ?_;refine nJ 16 ?_;refine aL 18 ?_;refine lM 0 rfl ?_;dsimp only[List.set];refine cH ?_;refine eC ?_;refine aB ?_;exact dM g6
   ·refine cE fun g6=>?_;refine bE ?_;refine aL 10 ?_;refine aV (fun w1 t=>nQ _ (many+1) w1 h2 (by omega)) ?_;refine bE ?_;refine aL 13 ?_;refine aV (fun w1 t=>nQ _ 4 w1 h3 (by decide)) ?_;refine bE ?_;refine nJ 16 ?_;refine aL 18 ?_;refine lM 0 rfl ?_;dsimp only[List.set];refine cH ?_;refine eC ?_;refine aB ?_;exact dM g6
  ·refine cE fun g6=>?_;refine bE ?_;refine aL 3 ?_;refine aV (fun w1 t=>nQ _ 13 w1 h1 (by decide)) ?_;refine bE ?_;refine nJ 4 ?_;refine nJ 5 ?_ (cN:=bJ rfl (Rd.aE 0 rfl hk));refine aL 10 ?_;refine aV (fun w1 t=>nQ _ (many+1) w1 h2 (by omega)) ?_;refine bE ?_;refine aL 13 ?_;refine aV (fun w1 t=>nQ _ 4 w1 h3 (by decide)) ?_;refine bE ?_;refine nJ 16 ?_;refine aL 18 ?_;refine lM 0 rfl ?_;dsimp only[List.set];refine cH ?_;refine eC ?_;refine aB ?_;exact dM g6
 refine aB ?_;refine Ru (α:=Nat×Option Addr×Nat) (fun z=>[(7,pt z.1),(4,pt g4),(2,pt g2)]) (fun z=>[HP.aE z.1 65 [.int .u8 0,iv (eZ a.task 3),.int .u8 (Re a),iv (Rf a many),iv (Rc a),.int .u32 a.v,.int .u32 a.v,.slice z.2.1 (sI a).length z.2.2],Kf z.2.1 (sI a),HP.aE g4 65 [.int .u8 0,iv 0,.int .u8 0,iv 0,iv 0,.int .u32 0,.int .u32 0,sn],HP.aE g2 74 a.cells]) (fun _=>True) ?_ fun z _=>?_
 ·refine aIi ?_;refine nJ 7 ?_ (cN:=jT rfl (xZ (vs:=[iv a.ag,iv a.pr,iv a.ms,iv a.id,iv a.aw,iv a.od]) 2 rfl rfl));refine zL 2 10 rfl rfl (by kernel_rfl) ?_ ?_
  ·refine aV (fun w1 t=>nQ _ 3 w1 h4 (by decide)) ?_;refine bE ?_;refine zL 8 10 rfl rfl (by kernel_rfl) ?_ ?_
   ·refine eW (Se (sI a)) (fun w1 t=>aCr a ha w1) ?_;rintro _ _ q1 ⟨A1,c1,rfl,rfl⟩ _;dsimp only[List.cons_append,List.nil_append];refine vR (R':=[all w]) (by simp) ?_;refine bE ?_;refine nJ 9 ?_;refine aL 10 ?_;refine cE fun g7=>?_;refine bE ?_;refine aL 11 ?_;refine lM 0 rfl ?_;dsimp only[List.set];refine cH ?_;refine eC ?_;refine aB ?_;exact dM (g7,A1,c1)
   ·refine cE fun g7=>?_;refine bE ?_;refine aL 8 ?_;refine eW (Se (sI a)) (fun w1 t=>aCr a ha w1) ?_;rintro _ _ q1 ⟨A1,c1,rfl,rfl⟩ _;dsimp only[List.cons_append,List.nil_append];refine vR (R':=[all w]) (by simp) ?_;refine bE ?_;refine nJ 9 ?_;refine aL 11 ?_;refine lM 1 rfl ?_;dsimp only[List.set];refine cH ?_;refine eC ?_;refine aB ?_;exact dM (g7,A1,c1)
  ·refine cE fun g7=>?_;refine bE ?_;refine aL 2 ?_;refine aV (fun w1 t=>nQ _ 3 w1 h4 (by decide)) ?_;refine bE ?_;refine aL 8 ?_;refine eW (Se (sI a)) (fun w1 t=>aCr a ha w1) ?_;rintro _ _ q1 ⟨A1,c1,rfl,rfl⟩ _;dsimp only[List.cons_append,List.nil_append];refine vR (R':=[all w]) (by simp) ?_;refine bE ?_;refine nJ 9 ?_;refine aL 11 ?_;refine lM 1 rfl ?_;dsimp only[List.set];refine cH ?_;refine eC ?_;refine aB ?_;exact dM (g7,A1,c1)
 refine aB ?_;refine aV (fun w1 t=>nQ _ 30 w1 h5 (by decide)) ?_;refine aB ?_;refine sZ (α:=Unit) (fun _=>[(7,pt z.1),(4,pt g4),(2,pt g2)]) (fun _=>[HP.aE z.1 65 [.int .u8 K,iv (eZ a.task 3),.int .u8 (Re a),iv (Rf a many),iv (Rc a),.int .u32 a.v,.int .u32 a.v,.slice z.2.1 (sI a).length z.2.2],Kf z.2.1 (sI a),HP.aE g4 65 [.int .u8 0,iv 0,.int .u8 0,iv 0,iv 0,.int .u32 0,.int .u32 0,sn],HP.aE g2 74 a.cells]) (fun _=>True) ?_ fun _ _=>?_
 ·refine aB ?_;refine aG rfl (fun h=>?_) (fun n0=>?_)
  ·obtain rfl:99=K:=by rw[←hK,if_pos h]
   refine aB ?_;exact dM ()
  refine aB ?_;refine aG rfl (fun h=>?_) (fun n1=>?_)
  ·obtain rfl:116=K:=by rw[←hK,if_neg n0,if_pos h]
   refine aB ?_;exact dM ()
  refine aB ?_;refine aG rfl (fun h=>?_) (fun n2=>?_)
  ·obtain rfl:102=K:=by rw[←hK,if_neg n0,if_neg n1,if_pos h]
   refine aB ?_;exact dM ()
  refine aB ?_;refine aG rfl (fun h=>?_) (fun n3=>?_)
  ·obtain rfl:104=K:=by rw[←hK,if_neg n0,if_neg n1,if_neg n2,if_pos h]
   refine aB ?_;exact dM ()
  refine aB ?_;refine aG rfl (fun h=>?_) (fun n4=>?_)
  ·obtain rfl:109=K:=by rw[←hK,if_neg n0,if_neg n1,if_neg n2,if_neg n3,if_pos h]
   refine aB ?_;exact dM ()
  refine aB ?_;refine aG rfl (fun h=>?_) (fun n5=>?_)
  ·obtain rfl:97=K:=by rw[←hK,if_neg n0,if_neg n1,if_neg n2,if_neg n3,if_neg n4,if_pos h]
   refine aB ?_;exact dM ()
  obtain rfl:0=K:=by rw[←hK,if_neg n0,if_neg n1,if_neg n2,if_neg n3,if_neg n4,if_neg n5]
  refine aB ?_;exact dM ()
 refine aB ?_;refine aV (fun w1 t=>nQ _ 40 w1 h3 (by decide)) ?_;refine aB ?_;refine aG rfl (fun h=>?_) (fun h=>?_)
 ·rw[if_pos h];refine aB ?_;refine aV (fun w1 t=>nQ _ 6 w1 h4 (by decide)) ?_;refine aB ?_;refine aT [2,1] rfl (by decide) (fun _ h=>h) ?_;refine dG [] [] [0,1] (by simp) rfl (by decide) (by decide) fun q _ _ hfr=>?_;exact Mw (vs:=[.int .u8 K,iv (eZ a.task 6 - 2),.int .u8 (Re a),iv (Rf a many),iv (Rc a),.int .u32 a.v,.int .u32 a.v,.slice z.2.1 (sI a).length z.2.2]) rfl (by kernel_rfl) rfl rfl (aO.whole 0 rfl) fun w1 st=>⟨⟨_,_,⟨w1,q.Z⟩,rfl,rfl,⟨_,_,_,rfl,rfl⟩,st.newR (by simp) (by simp) (hfr (by simp) (by simp))⟩,st.below (by simp)⟩
 ·rw[if_neg h];refine aB ?_;refine aT [2,1] rfl (by decide) (fun _ h=>h) ?_;refine dG [] [] [0,1] (by simp) rfl (by decide) (by decide) fun q _ _ hfr=>?_;exact Mw (vs:=[.int .u8 K,iv (eZ a.task 3),.int .u8 (Re a),iv (Rf a many),iv (Rc a),.int .u32 a.v,.int .u32 a.v,.slice z.2.1 (sI a).length z.2.2]) rfl (by kernel_rfl) rfl rfl (aO.whole 0 rfl) fun w1 st=>⟨⟨_,_,⟨w1,q.Z⟩,rfl,rfl,⟨_,_,_,rfl,rfl⟩,st.newR (by simp) (by simp) (hfr (by simp) (by simp))⟩,st.below (by simp)⟩
end
section
def iT.row(e:iT)(A:Option Addr)(c:Nat):List Value:=[.int .u8 e.kind,iv e.task,.int .u8 e.c.k,iv e.c.d,iv e.c.r,.int .u32 e.c.v,iv e.err,.int .u32 e.res,iv e.an.id,iv e.an.dev,.bool e.an.dead,.int .u32 e.an.val,.bool e.alive,.slice A e.words.length c]
def Yh(S:tD)(e:iT)(r:List Value):Prop:=∃A c,r=e.row A c∧S 37 1 A e.words.length (eA e.words)
theorem Yh.mono{S S':tD}(h:∀t sz A n xs,S t sz A n xs→S' t sz A n xs){e:iT}{r:List Value}(k:Yh S e r):Yh S' e r:=by
 obtain⟨A,c,h1,h2⟩:=k;exact⟨A,c,h1,h _ _ _ _ _ h2⟩
def lV(es:List iT)(rows:List (List Value))(p:Piece):Prop:=Rows (Yh (fH p)) 14 es rows
theorem lV.le{es:List iT}{rows:List (List Value)}(p q:Piece)(h:p.Le q)(k:lV es rows p):lV es rows q:=Rows.mono (fun _ _=>Yh.mono (kF h)) k
theorem aEc{α:Type}{R:α→List Value→Prop}{sz:Nat}:∀{es es':List α} {rs rs':List (List Value)},Rows R sz es rs→Rows R sz es' rs'→Rows R sz (es++es') (rs++rs')
 | [],_,[],_,_,h=>h
 | [],_,_::_,_,h,_=>h.elim
 | _::_,_,[],_,h,_=>h.elim
 | _::_,_,_::_,_,h,k=>⟨h.1,h.2.1,aEc h.2.2 k⟩
theorem lV.one{e:iT}{A:Option Addr}{c:Nat}{p:Piece}(h:aI p 1 A e.words.length (eA e.words)):lV [e] [e.row A c] p:=⟨rfl,⟨A,c,rfl,h⟩,trivial⟩
theorem aS0{e:iT}{p:Piece}(h:e.words=[]):lV [e] [e.row none 0] p:=⟨rfl,⟨none,0,rfl,by rw[h];exact aI.nil _ _⟩,trivial⟩
def nG(es:List iT)(rows:List (List Value)):HP:=HP.bU (lV es rows) (lV.le (es:=es) (rows:=rows))
structure jX where
 A:Option Addr
 c:Nat
 rows:List (List Value)
def clC(c:nW):List Value:=[.int .u8 c.k,iv c.d,iv c.r,.int .u32 c.v]
def lY(f r:Nat)(hL:HL)(s:aC)(w:aX)(L:jX):List Value:=
  [.pointer (some ⟨hL.h,0,none⟩),pt f,pt r,iv s.aD.length,iv (s.domains.length+s.aF.length+s.bA.length:Nat),
   .int .u8 (w.cl 0).k,iv (w.cl 0).d,iv (w.cl 0).r,.int .u32 (w.cl 0).v,.int .u8 (w.cl 1).k,iv (w.cl 1).d,iv (w.cl 1).r,.int .u32 (w.cl 1).v,.int .u8 (w.cl 2).k,iv (w.cl 2).d,iv (w.cl 2).r,.int .u32 (w.cl 2).v,
   .bool (w.wt 0),.bool (w.wt 1),.bool (w.wt 2),.slice L.A w.es.length L.c]
def lA(g f r:Nat)(hL:HL)(s:aC)(w:aX)(L:jX):HP:=HP.many [HP.aE g 103 (lY f r hL s w L),jL r f hL s w.m,HP.own 46 14 (.slice L.A w.es.length L.c) w.es.length L.rows.flatten,nG w.es L.rows]
def eG(g f r:Nat)(hL:HL)(s:aC)(w:aX):HP:=HP.ex fun L:jX=>lA g f r hL s w L
end
section
theorem aOU(t:TypeId)(sz:Nat)(w:World):(HP.own t sz (.slice none 0 0) 0 []).sat (fun _=>False) w:=⟨fun g h=>by simp[Value.ownBlock] at h,by simp,.inl ⟨rfl,rfl⟩⟩
theorem aOW(w:World):(nG [] []).sat (fun _=>False) w:=(trivial:lV [] [] ⟨w,fun _=>False⟩)
def aDW(s:aC)(v:Value)(hs:List HP)(_:Piece):Prop:=∃(g f r:Nat) (hL:HL),v=.tuple #[pt g,iv 0]∧hs=[eG g f r hL s (Ki s)]∧gA hL s
theorem aEE(s:aC)(A1 A2 A3 A4:Option Addr)(n1 k1 n2 k2 n3 k3 n4 k4:Nat)(w:World)(hW:iD w s A1 n1 A2 n2 A3 n3 A4 n4)(hm:s.made):
  Cz 23 #[.agg #[.slice A1 n1 k1,.slice A2 n2 k2,.slice A3 n3 k3,.slice A4 n4 k4]] w (fun y w'=>(∃v hs q,y=.returned v∧q.w=w'∧aDW s v hs q∧gJ w hs q)∧Below w.heap.size w w'):=by
 have hH:=hm.dH
 have hnc:=hm.nc
 have hnd:=hm.nd
 have iK:=hm.nr
 obtain rfl:=hW.qZ;obtain rfl:=hW.qY;obtain rfl:=hW.tV;obtain rfl:=hW.sJ;refine aN func23 ntmps23 ?_;refine aB ?_;refine bN fun g1=>?_;refine aB ?_;refine eW (aIG s) (fun w1 t=>aOc s hH A1 A2 A3 A4 _ k1 _ k2 _ k3 _ k4 w1 (hW.le (t.started (by simp)))) ?_;rintro _ _ q2 ⟨hL,rfl,rfl,iA,Dk⟩ _;dsimp only[List.cons_append,List.nil_append];refine aB ?_;refine eW (aIP hL.h s) (fun w1 t=>aOF hL.h s hH A1 A2 A3 A4 _ k1 _ k2 _ k3 _ k4 w1 (hW.le (t.started (by simp)))) ?_;rintro _ _ q3 ⟨f,rfl,rfl⟩ _;dsimp only[List.cons_append,List.nil_append];refine aB ?_;refine eW (aI1 hL.h f s) (fun w1 t=>aKO s A1 A2 A3 A4 _ k1 _ k2 _ k3 _ k4 w1 hL.h f hm (hW.le (t.started (by simp)))) ?_;rintro _ _ q4 ⟨r,rfl,rfl⟩ _;dsimp only[List.cons_append,List.nil_append];refine aB ?_;refine bN fun g=>?_;refine aB ?_;refine aT [1,2,3,0] rfl (by decide) (R':=[all w]) (by simp) ?_;refine vS ?_;refine oJ (p:=nG [] []) aOW ?_;refine oJ (p:=HP.own 46 14 (.slice none 0 0) 0 []) (aOU _ _) ?_;refine aT [3,2,0,1] rfl (by decide) (R':=[all w]) (by simp) ?_;refine mV ?_;refine qN ?_;refine qN ?_;refine uM 0 (f:=fun L:jX=>lA g f r hL s (Ki s) L) ⟨none,0,[]⟩ rfl ?_;dsimp only[List.set];refine dG [] [] [0] (by simp) rfl (by decide) (by decide) fun q _ _ hfr=>?_;exact fQ rfl rfl rfl fun w1 t=>⟨⟨_,_,⟨w1,q.Z⟩,rfl,rfl,⟨g,f,r,hL,rfl,rfl,⟨iA,Dk⟩⟩,t.newR (by simp) (by simp) (hfr (by simp) (by simp))⟩,t.below (by simp)⟩
end
section
def aIt(g f r:Nat)(hL:HL)(s:aC)(W:aX)(gs:Nat)(es':List iT)(Ap:List (List Value)):HP:=HP.many [eG g f r hL s W,HP.aE gs 46 Ap.flatten,nG es' Ap]
section
variable(g f r:Nat)(hL:HL)(s:aC)(W:aX)(w:World)(F:Nat→Prop)
theorem aED(es':List iT)(Ap:List (List Value))(gs m c:Nat)(hm:es'.length=m)(hl:Ap.flatten.length=m*14)(h1:∀u∈Ap.flatten,u.oneCell'=true)(hn:W.es.length+es'.length≤1000000000)
  (hp:(aIt g f r hL s W gs es' Ap).sat F w) (hF:∀b,F b→b < w.heap.size):
  Cz 40 #[pt g,.slice (some ⟨gs,0,none⟩) m c] w (Wr (.tuple #[]) (eG g f r hL s {W with es:=W.es++es'}) w F):=by
 have fK:(W.es++es').length=W.es.length+m:=by rw[List.length_append,hm]
 refine cT func40 ntmps40 hp hF ?_;refine aY 0 0 ?_;refine aY 1 1 ?_;refine aY 2 2 ?_;refine iX 2 fun L=>?_;refine aY 2 0 ?_;refine aY 3 2 ?_;refine aY 4 3 ?_;dsimp only[lY];refine aB ?_;refine iF 1 14 120 m (n':=(W.es++es').length) (el:=46) (by kernel_rfl) (by kernel_rfl) (by decide) rfl rfl rfl (mO 4 rfl hl) h1 (by rw[List.length_append,hm]) (by have:=fK;omega) (by have:=fK;omega) (by decide) fun A' c'=>?_;dsimp only[List.set];rw[←List.flatten_append];refine aB ?_;refine aT [0,3,1,2,5] rfl (by decide) (fun _ h=>h) ?_;refine Jq (X:=lV (W.es++es') (L.rows++Ap)) (h3:=lV.le) (fun p h1 h2=>aEc h1 h2) ?_;refine aJ 2 3 ?_;refine aJ 1 2 ?_;refine aJ 0 0 ?_;refine cS 0 (fun L:jX=>lA g f r hL s {W with es:=W.es++es'} L) ⟨A',c',L.rows++Ap⟩ ?_;exact fB 0 hF
theorem Hq(e:iT)(A:Option Addr)(k gs:Nat)(hn:W.es.length≤900000000)(hp:(aIt g f r hL s W gs [e] [e.row A k]).sat F w)(hF:∀b,F b→b < w.heap.size):
  Cz 40 #[pt g,.slice (some ⟨gs,0,none⟩) 1 1] w (Wr (.tuple #[]) (eG g f r hL s {W with es:=W.es++[e]}) w F):=
 aED g f r hL s W w F [e] [e.row A k] gs 1 1 rfl rfl (by simp[iT.row,Value.oneCell']) (by simp;omega) hp hF
theorem Ql(e:iT)(h:e.words=[])(w:World):(nG [e] [e.row none 0]).sat (fun _=>False) w:=aS0 (p:=⟨w,fun _=>False⟩) h
theorem aKi{z:bH}{t k d r v:Int}(h:(qF z t k d r v).1=0):t=0∨t=1∨t=2:=by
 unfold qF at h;split at h
 ·simp at h
 ·rename_i hin
  obtain⟨j,rfl,hj⟩:=yR (t:=t) (by simpa using hin);omega
theorem aJ3(t k d q v:Int)(hp:(eG g f r hL s W).sat F w)(hF:∀b,F b→b < w.heap.size):
  Cz 34 #[pt g,iv t,.agg #[.int .u8 k,iv d,iv q,.int .u32 v]] w (Wr (iv (W.call t ⟨k,d,q,v⟩).1) (eG g f r hL s (W.call t ⟨k,d,q,v⟩).2) w F):=by
 unfold aX.call;refine cT func34 ntmps34 hp hF ?_;refine aB ?_;refine bN fun g5=>?_;refine aB ?_;refine iX 1 fun L=>?_;refine aY 1 0 ?_;refine aY 2 1 ?_;dsimp only[lY];refine Gw [1,2,3,5] ?_;refine bK 0 ?_ (hsub:=fun _ h=>h.bL);refine aK 1 ?_ (hsub:=fun _ h=>h.bL);refine aK 2 ?_ (hsub:=fun _ h=>h.bL);refine aK 3 ?_ (hsub:=fun _ h=>h.bL);refine bK 4 ?_ (hsub:=fun _ h=>h.bL);refine aK 5 ?_ (hsub:=fun _ h=>h.bL);refine aL 6 ?_;refine bX 0 (jL r f hL s (W.m.start t k d q v)) (fun w1 F1 t1 h1 h2 h3=>aMI r f hL s W.m w1 F1 t k d q v h1 h2) ?_;refine bE ?_ (hS:=fun _ h=>h.bL);refine uO [7] ?_;refine aB ?_;refine aG rfl (fun he=>?_) (fun he=>?_)
 ·rw[if_pos he];refine aB ?_;refine aJ 2 1 ?_;refine aJ 1 0 ?_;refine cS 1 (fun L:jX=>lA g f r hL s {W with m:=W.m.start t k d q v} L) L ?_;exact bP 1 hF
 ·have h0:=Decidable.not_not.1 he
  rw[if_neg he,h0];rcases aKi h0 with rfl | rfl | rfl
  ·refine aB ?_;refine aT [1,0,2,3] rfl (by decide) (fun _ h=>h) ?_;refine Gw [4,5,6,7,9,10] ?_;refine bK 0 ?_ (hsub:=fun _ h=>h.bL);refine bK 1 ?_ (hsub:=fun _ h=>h.bL);refine bK 2 ?_ (hsub:=fun _ h=>h.bL);refine bK 3 ?_ (hsub:=fun _ h=>h.bL);refine aK 4 ?_ (hsub:=fun _ h=>h.bL);refine aK 5 ?_ (hsub:=fun _ h=>h.bL);refine aK 6 ?_ (hsub:=fun _ h=>h.bL);refine aK 7 ?_ (hsub:=fun _ h=>h.bL) (cN:=by exact fM 0 5);refine aK 9 ?_ (hsub:=fun _ h=>h.bL);refine aK 10 ?_ (hsub:=fun _ h=>h.bL);refine aL 8 ?_;refine Db 0 rfl ?_;dsimp only[List.set];simp only[fP,List.take,List.drop,List.nil_append,List.append_nil,List.length_cons,List.length_nil,List.cons_append,Nat.reduceAdd];refine bE ?_ (hS:=fun _ h=>h.bL);refine aL 11 ?_;refine kd (fM 0 17) ?_;refine bE ?_ (hS:=fun _ h=>h.bL);refine aL 12 ?_;refine eN rfl rfl ?_;dsimp only[List.set];refine bE ?_ (hS:=fun _ h=>h.bL);refine eC ?_;refine aB ?_;refine pK (q:=HP.aE g 103 (lY f r hL s {W with m:=W.m.start 0 k d q v,cl:=fU W.cl (0:Int).toNat ⟨k,d,q,v⟩,wt:=fU W.wt (0:Int).toNat true} L)) 0 rfl (fun F w h=>by simpa[lY,fU] using h) ?_;dsimp only[List.set];refine aJ 2 0 ?_;refine aJ 1 1 ?_;refine cS 1 (fun L:jX=>lA g f r hL s {W with m:=W.m.start 0 k d q v,cl:=fU W.cl (0:Int).toNat ⟨k,d,q,v⟩,wt:=fU W.wt (0:Int).toNat true} L) L ?_;exact bP 1 hF
  ·refine aB ?_;refine aT [1,0,2,3] rfl (by decide) (fun _ h=>h) ?_;refine Gw [4,5,6,7,9,10] ?_;refine bK 0 ?_ (hsub:=fun _ h=>h.bL);refine bK 1 ?_ (hsub:=fun _ h=>h.bL);refine bK 2 ?_ (hsub:=fun _ h=>h.bL);refine bK 3 ?_ (hsub:=fun _ h=>h.bL);refine aK 4 ?_ (hsub:=fun _ h=>h.bL);refine aK 5 ?_ (hsub:=fun _ h=>h.bL);refine aK 6 ?_ (hsub:=fun _ h=>h.bL);refine aK 7 ?_ (hsub:=fun _ h=>h.bL) (cN:=by exact fM 1 9);refine aK 9 ?_ (hsub:=fun _ h=>h.bL);refine aK 10 ?_ (hsub:=fun _ h=>h.bL);refine aL 8 ?_;refine Db 0 rfl ?_;dsimp only[List.set];simp only[fP,List.take,List.drop,List.nil_append,List.append_nil,List.length_cons,List.length_nil,List.cons_append,Nat.reduceAdd];refine bE ?_ (hS:=fun _ h=>h.bL);refine aL 11 ?_;refine kd (fM 1 18) ?_;refine bE ?_ (hS:=fun _ h=>h.bL);refine aL 12 ?_;refine eN rfl rfl ?_;dsimp only[List.set];refine bE ?_ (hS:=fun _ h=>h.bL);refine eC ?_;refine aB ?_;refine pK (q:=HP.aE g 103 (lY f r hL s {W with m:=W.m.start 1 k d q v,cl:=fU W.cl (1:Int).toNat ⟨k,d,q,v⟩,wt:=fU W.wt (1:Int).toNat true} L)) 0 rfl (fun F w h=>by simpa[lY,fU] using h) ?_;dsimp only[List.set];refine aJ 2 0 ?_;refine aJ 1 1 ?_;refine cS 1 (fun L:jX=>lA g f r hL s {W with m:=W.m.start 1 k d q v,cl:=fU W.cl (1:Int).toNat ⟨k,d,q,v⟩,wt:=fU W.wt (1:Int).toNat true} L) L ?_;exact bP 1 hF
  ·refine aB ?_;refine aT [1,0,2,3] rfl (by decide) (fun _ h=>h) ?_;refine Gw [4,5,6,7,9,10] ?_;refine bK 0 ?_ (hsub:=fun _ h=>h.bL);refine bK 1 ?_ (hsub:=fun _ h=>h.bL);refine bK 2 ?_ (hsub:=fun _ h=>h.bL);refine bK 3 ?_ (hsub:=fun _ h=>h.bL);refine aK 4 ?_ (hsub:=fun _ h=>h.bL);refine aK 5 ?_ (hsub:=fun _ h=>h.bL);refine aK 6 ?_ (hsub:=fun _ h=>h.bL);refine aK 7 ?_ (hsub:=fun _ h=>h.bL) (cN:=by exact fM 2 13);refine aK 9 ?_ (hsub:=fun _ h=>h.bL);refine aK 10 ?_ (hsub:=fun _ h=>h.bL);refine aL 8 ?_;refine Db 0 rfl ?_;dsimp only[List.set];simp only[fP,List.take,List.drop,List.nil_append,List.append_nil,List.length_cons,List.length_nil,List.cons_append,Nat.reduceAdd];refine bE ?_ (hS:=fun _ h=>h.bL);refine aL 11 ?_;refine kd (fM 2 19) ?_;refine bE ?_ (hS:=fun _ h=>h.bL);refine aL 12 ?_;refine eN rfl rfl ?_;dsimp only[List.set];refine bE ?_ (hS:=fun _ h=>h.bL);refine eC ?_;refine aB ?_;refine pK (q:=HP.aE g 103 (lY f r hL s {W with m:=W.m.start 2 k d q v,cl:=fU W.cl (2:Int).toNat ⟨k,d,q,v⟩,wt:=fU W.wt (2:Int).toNat true} L)) 0 rfl (fun F w h=>by simpa[lY,fU] using h) ?_;dsimp only[List.set];refine aJ 2 0 ?_;refine aJ 1 1 ?_;refine cS 1 (fun L:jX=>lA g f r hL s {W with m:=W.m.start 2 k d q v,cl:=fU W.cl (2:Int).toNat ⟨k,d,q,v⟩,wt:=fU W.wt (2:Int).toNat true} L) L ?_;exact bP 1 hF
theorem aPr{z:bH}{t:Int}(h:(iQ z t).1.2.2=true):t=0∨t=1∨t=2:=by
 unfold iQ at h;split at h
 ·simp at h
 ·rename_i hin
  obtain⟨j,rfl,hj⟩:=yR (t:=t) (by simpa using hin);omega
theorem yI(hn:W.es.length≤900000000)(t:Int)(hp:(eG g f r hL s W).sat F w)(hF:∀b,F b→b < w.heap.size):
  Cz 88 #[pt g,iv t] w (Wr (.tuple #[]) (eG g f r hL s (W.end_ t)) w F):=by
 unfold aX.end_;refine cT func88 ntmps88 hp hF ?_;refine iX 0 fun L=>?_;refine aY 0 0 ?_;refine aY 1 1 ?_;dsimp only[lY];refine aB ?_;refine bX 0 (jL r f hL s (W.m.done t)) (fun w1 F1 t1 h1 h2 h3=>aML r f hL s W.m w1 F1 t h1 h2) ?_;refine aB ?_;refine cE fun g4=>?_;refine aB ?_;cases hb:(iQ W.m.z t).1.2.2 with
 | false=>
  rw[if_neg (by decide)];refine aB ?_;refine aT [1,2,3] rfl (by decide) (fun _ h=>h) ?_;refine aJ 1 1 ?_;refine aJ 0 0 ?_;refine cS 0 (fun L:jX=>lA g f r hL s {W with m:=W.m.done t} L) L ?_;exact fB 0 hF
 | true =>
  rw[if_pos rfl];refine aB ?_;rcases aPr hb with rfl | rfl | rfl
  ·refine uN ?_;refine nJ 7 ?_ (cN:=jT rfl (xZ (vs:=[.int .u8 (W.cl 0).k,iv (W.cl 0).d,iv (W.cl 0).r,.int .u32 (W.cl 0).v]) 2 rfl rfl));refine nJ 9 ?_;refine aL 10 ?_;refine eK fun g2=>?_;refine bE ?_;refine uO [11] ?_;refine aT [2,3,4,0] rfl (by decide) (fun _ h=>h) ?_;refine aJ 1 1 ?_;refine aJ 0 0 ?_;refine cS 0 (fun L:jX=>lA g f r hL s {W with m:=W.m.done 0} L) L ?_;refine oJ (p:=nG [vK W 0] [(vK W 0).row none 0]) (Ql _ rfl) ?_;refine aT [1,2,0] rfl (by decide) (fun _ h=>h) ?_;refine vS ?_;refine bX 0 (eG g f r hL s {W with m:=W.m.done 0,es:=W.es++[vK W 0]}) (fun w1 F1 t1 h1 h2 h3=>Hq g f r hL s {W with m:=W.m.done 0} w1 F1 (vK W 0) none 0 g2 hn h1 h2) ?_;exact fB 0 hF
  ·refine uN ?_;refine nJ 7 ?_ (cN:=jT rfl (xZ (vs:=[.int .u8 (W.cl 1).k,iv (W.cl 1).d,iv (W.cl 1).r,.int .u32 (W.cl 1).v]) 2 rfl rfl));refine nJ 9 ?_;refine aL 10 ?_;refine eK fun g2=>?_;refine bE ?_;refine uO [11] ?_;refine aT [2,3,4,0] rfl (by decide) (fun _ h=>h) ?_;refine aJ 1 1 ?_;refine aJ 0 0 ?_;refine cS 0 (fun L:jX=>lA g f r hL s {W with m:=W.m.done 1} L) L ?_;refine oJ (p:=nG [vK W 1] [(vK W 1).row none 0]) (Ql _ rfl) ?_;refine aT [1,2,0] rfl (by decide) (fun _ h=>h) ?_;refine vS ?_;refine bX 0 (eG g f r hL s {W with m:=W.m.done 1,es:=W.es++[vK W 1]}) (fun w1 F1 t1 h1 h2 h3=>Hq g f r hL s {W with m:=W.m.done 1} w1 F1 (vK W 1) none 0 g2 hn h1 h2) ?_;exact fB 0 hF
  ·refine uN ?_;refine nJ 7 ?_ (cN:=jT rfl (xZ (vs:=[.int .u8 (W.cl 2).k,iv (W.cl 2).d,iv (W.cl 2).r,.int .u32 (W.cl 2).v]) 2 rfl rfl));refine nJ 9 ?_;refine aL 10 ?_;refine eK fun g2=>?_;refine bE ?_;refine uO [11] ?_;refine aT [2,3,4,0] rfl (by decide) (fun _ h=>h) ?_;refine aJ 1 1 ?_;refine aJ 0 0 ?_;refine cS 0 (fun L:jX=>lA g f r hL s {W with m:=W.m.done 2} L) L ?_;refine oJ (p:=nG [vK W 2] [(vK W 2).row none 0]) (Ql _ rfl) ?_;refine aT [1,2,0] rfl (by decide) (fun _ h=>h) ?_;refine vS ?_;refine bX 0 (eG g f r hL s {W with m:=W.m.done 2,es:=W.es++[vK W 2]}) (fun w1 F1 t1 h1 h2 h3=>Hq g f r hL s {W with m:=W.m.done 2} w1 F1 (vK W 2) none 0 g2 hn h1 h2) ?_;exact fB 0 hF
end
end
section
section
variable(g f r:Nat)(hL:HL)(s:aC)(n:Nat)(W:aX)(w:World)(F:Nat→Prop)
theorem aJ0(hm:s.made)(aQ:gA hL s)(hok:iB s n W)(hn:n≤50000000)(t:Int)(dD:eS ⟨w,fun b=>b < w.heap.size∧¬F b⟩)(hp:(eG g f r hL s W).sat F w)(hF:∀b,F b→b < w.heap.size):
  Cz 35 #[pt g,iv t] w (Wr (.tuple #[]) (eG g f r hL s (W.task s t)) w F):=by
 have Vo:=hok.es
 have gO:W.es.length≤900000000:=by omega
 refine cT func35 ntmps35 hp hF ?_;refine iX 0 fun L=>?_;refine aY 0 0 ?_;refine aY 1 1 ?_;dsimp only[lY];refine aB ?_;refine bZ (t:=7) rfl (fun h0=>?_) (fun h0=>?_)
 ·refine aB ?_;refine bZ (t:=11) rfl (fun h3=>?_) (fun h3=>?_)
  ·rcases(show t=0∨t=1∨t=2 by omega) with rfl | rfl | rfl
   ·refine aB ?_;refine qD (t:=19) rfl (fun hw=>?_) (fun hw=>?_)
    ·refine aB ?_;refine aV (fun w1 t1=>aCs r f hL s W.m w1 0 t1 rfl) ?_;refine aB ?_;refine bX 0 (jL r f hL s (W.m.step s 0)) (fun w1 F1 t1 h1 h2 h3=>Ij r f hL s n W.m w1 F1 hm aQ hok.m (by omega) 0 h1 h2 (eS.le dD (h3 _ (by simp)))) ?_;refine aB ?_;refine aG rfl (fun hlt=>?_) (fun hge=>?_)
     ·have hb:W.mH 0=true:=by unfold aX.mH;rw[show W.wt (0:Int).toNat=W.wt 0 from rfl,hw,decide_eq_true hlt];rfl
      have uE:(W.es++[nI W 0]).length≤900000000:=by rw[List.length_append];exact Nat.le_trans (Nat.add_le_add_right Vo 1) (by omega)
      refine aB ?_;refine kd (jT rfl (xZ (vs:=[.int .u8 (W.cl 0).k,iv (W.cl 0).d,iv (W.cl 0).r,.int .u32 (W.cl 0).v]) 1 rfl rfl)) ?_;refine aB ?_;refine eK fun g2=>?_;refine aB ?_;refine aT [1,2,3,0] rfl (by decide) (fun _ h=>h) ?_;refine pK (q:=HP.aE g 103 (lY f r hL s {W with m:=W.m.step s 0,wt:=fU W.wt (0:Int).toNat false} L)) 1 rfl (fun F w h=>by simpa[lY,fU] using h) ?_;dsimp only[List.set];refine aJ 1 1 ?_;refine aJ 0 0 ?_;refine cS 0 (fun L:jX=>lA g f r hL s {W with m:=W.m.step s 0,wt:=fU W.wt (0:Int).toNat false} L) L ?_;refine oJ (p:=nG [nI W 0] [(nI W 0).row none 0]) (Ql _ rfl) ?_;refine aT [1,2,0] rfl (by decide) (fun _ h=>h) ?_;refine vS ?_;refine bX 0 (eG g f r hL s {W with m:=W.m.step s 0,wt:=fU W.wt (0:Int).toNat false,es:=W.es++[nI W 0]}) (fun w1 F1 t1 h1 h2 h3=>Hq g f r hL s {W with m:=W.m.step s 0,wt:=fU W.wt (0:Int).toNat false} w1 F1 (nI W 0) none 0 g2 gO h1 h2) ?_;refine aB ?_
      refine bX 0 (eG g f r hL s (W.task s 0)) (fun w1 F1 t1 h1 h2 h3=>by
       have:=yI g f r hL s {W with m:=W.m.step s 0,wt:=fU W.wt (0:Int).toNat false,es:=W.es++[nI W 0]} w1 F1 (by first | exact gO | exact uE) 0 h1 h2
       rwa [show aX.end_ {W with m:=W.m.step s 0,wt:=fU W.wt (0:Int).toNat false,es:=W.es++[nI W 0]} 0=W.task s 0 by unfold aX.task aX.mN;rw[hb];rfl] at this) ?_
      exact fB 0 hF
     ·have hb:W.mH 0=false:=by unfold aX.mH;rw[show W.wt (0:Int).toNat=W.wt 0 from rfl,hw,decide_eq_false hge];rfl
      refine aB ?_;refine aJ 1 1 ?_;refine aJ 0 0 ?_;refine cS 0 (fun L:jX=>lA g f r hL s {W with m:=W.m.step s 0} L) L ?_;refine aB ?_
      refine bX 0 (eG g f r hL s (W.task s 0)) (fun w1 F1 t1 h1 h2 h3=>by
       have:=yI g f r hL s {W with m:=W.m.step s 0} w1 F1 (by first | exact gO | exact uE) 0 h1 h2
       rwa [show aX.end_ {W with m:=W.m.step s 0} 0=W.task s 0 by unfold aX.task aX.mN;rw[hb];rfl] at this) ?_
      exact fB 0 hF
    ·have hb:W.mH 0=false:=by unfold aX.mH;rw[show W.wt (0:Int).toNat=W.wt 0 from rfl,hw];rfl
     refine aB ?_;refine bX 0 (jL r f hL s (W.m.step s 0)) (fun w1 F1 t1 h1 h2 h3=>Ij r f hL s n W.m w1 F1 hm aQ hok.m (by omega) 0 h1 h2 (eS.le dD (h3 _ (by simp)))) ?_;refine aB ?_;refine aJ 1 1 ?_;refine aJ 0 0 ?_;refine cS 0 (fun L:jX=>lA g f r hL s {W with m:=W.m.step s 0} L) L ?_;refine aB ?_
     refine bX 0 (eG g f r hL s (W.task s 0)) (fun w1 F1 t1 h1 h2 h3=>by
      have:=yI g f r hL s {W with m:=W.m.step s 0} w1 F1 (by first | exact gO | exact uE) 0 h1 h2
      rwa [show aX.end_ {W with m:=W.m.step s 0} 0=W.task s 0 by unfold aX.task aX.mN;rw[hb];rfl] at this) ?_
     exact fB 0 hF
   ·refine aB ?_;refine qD (t:=19) rfl (fun hw=>?_) (fun hw=>?_)
    ·refine aB ?_;refine aV (fun w1 t1=>aCs r f hL s W.m w1 0 t1 rfl) ?_;refine aB ?_;refine bX 0 (jL r f hL s (W.m.step s 1)) (fun w1 F1 t1 h1 h2 h3=>Ij r f hL s n W.m w1 F1 hm aQ hok.m (by omega) 1 h1 h2 (eS.le dD (h3 _ (by simp)))) ?_;refine aB ?_;refine aG rfl (fun hlt=>?_) (fun hge=>?_)
     ·have hb:W.mH 1=true:=by unfold aX.mH;rw[show W.wt (1:Int).toNat=W.wt 1 from rfl,hw,decide_eq_true hlt];rfl
      have uE:(W.es++[nI W 1]).length≤900000000:=by rw[List.length_append];exact Nat.le_trans (Nat.add_le_add_right Vo 1) (by omega)
      refine aB ?_;refine kd (jT rfl (xZ (vs:=[.int .u8 (W.cl 1).k,iv (W.cl 1).d,iv (W.cl 1).r,.int .u32 (W.cl 1).v]) 1 rfl rfl)) ?_;refine aB ?_;refine eK fun g2=>?_;refine aB ?_;refine aT [1,2,3,0] rfl (by decide) (fun _ h=>h) ?_;refine pK (q:=HP.aE g 103 (lY f r hL s {W with m:=W.m.step s 1,wt:=fU W.wt (1:Int).toNat false} L)) 1 rfl (fun F w h=>by simpa[lY,fU] using h) ?_;dsimp only[List.set];refine aJ 1 1 ?_;refine aJ 0 0 ?_;refine cS 0 (fun L:jX=>lA g f r hL s {W with m:=W.m.step s 1,wt:=fU W.wt (1:Int).toNat false} L) L ?_;refine oJ (p:=nG [nI W 1] [(nI W 1).row none 0]) (Ql _ rfl) ?_;refine aT [1,2,0] rfl (by decide) (fun _ h=>h) ?_;refine vS ?_;refine bX 0 (eG g f r hL s {W with m:=W.m.step s 1,wt:=fU W.wt (1:Int).toNat false,es:=W.es++[nI W 1]}) (fun w1 F1 t1 h1 h2 h3=>Hq g f r hL s {W with m:=W.m.step s 1,wt:=fU W.wt (1:Int).toNat false} w1 F1 (nI W 1) none 0 g2 gO h1 h2) ?_;refine aB ?_
      refine bX 0 (eG g f r hL s (W.task s 1)) (fun w1 F1 t1 h1 h2 h3=>by
       have:=yI g f r hL s {W with m:=W.m.step s 1,wt:=fU W.wt (1:Int).toNat false,es:=W.es++[nI W 1]} w1 F1 (by first | exact gO | exact uE) 1 h1 h2
       rwa [show aX.end_ {W with m:=W.m.step s 1,wt:=fU W.wt (1:Int).toNat false,es:=W.es++[nI W 1]} 1=W.task s 1 by unfold aX.task aX.mN;rw[hb];rfl] at this) ?_
      exact fB 0 hF
     ·have hb:W.mH 1=false:=by unfold aX.mH;rw[show W.wt (1:Int).toNat=W.wt 1 from rfl,hw,decide_eq_false hge];rfl
      refine aB ?_;refine aJ 1 1 ?_;refine aJ 0 0 ?_;refine cS 0 (fun L:jX=>lA g f r hL s {W with m:=W.m.step s 1} L) L ?_;refine aB ?_
      refine bX 0 (eG g f r hL s (W.task s 1)) (fun w1 F1 t1 h1 h2 h3=>by
       have:=yI g f r hL s {W with m:=W.m.step s 1} w1 F1 (by first | exact gO | exact uE) 1 h1 h2
       rwa [show aX.end_ {W with m:=W.m.step s 1} 1=W.task s 1 by unfold aX.task aX.mN;rw[hb];rfl] at this) ?_
      exact fB 0 hF
    ·have hb:W.mH 1=false:=by unfold aX.mH;rw[show W.wt (1:Int).toNat=W.wt 1 from rfl,hw];rfl
     refine aB ?_;refine bX 0 (jL r f hL s (W.m.step s 1)) (fun w1 F1 t1 h1 h2 h3=>Ij r f hL s n W.m w1 F1 hm aQ hok.m (by omega) 1 h1 h2 (eS.le dD (h3 _ (by simp)))) ?_;refine aB ?_;refine aJ 1 1 ?_;refine aJ 0 0 ?_;refine cS 0 (fun L:jX=>lA g f r hL s {W with m:=W.m.step s 1} L) L ?_;refine aB ?_
     refine bX 0 (eG g f r hL s (W.task s 1)) (fun w1 F1 t1 h1 h2 h3=>by
      have:=yI g f r hL s {W with m:=W.m.step s 1} w1 F1 (by first | exact gO | exact uE) 1 h1 h2
      rwa [show aX.end_ {W with m:=W.m.step s 1} 1=W.task s 1 by unfold aX.task aX.mN;rw[hb];rfl] at this) ?_
     exact fB 0 hF
   ·refine aB ?_;refine qD (t:=19) rfl (fun hw=>?_) (fun hw=>?_)
    ·refine aB ?_;refine aV (fun w1 t1=>aCs r f hL s W.m w1 0 t1 rfl) ?_;refine aB ?_;refine bX 0 (jL r f hL s (W.m.step s 2)) (fun w1 F1 t1 h1 h2 h3=>Ij r f hL s n W.m w1 F1 hm aQ hok.m (by omega) 2 h1 h2 (eS.le dD (h3 _ (by simp)))) ?_;refine aB ?_;refine aG rfl (fun hlt=>?_) (fun hge=>?_)
     ·have hb:W.mH 2=true:=by unfold aX.mH;rw[show W.wt (2:Int).toNat=W.wt 2 from rfl,hw,decide_eq_true hlt];rfl
      have uE:(W.es++[nI W 2]).length≤900000000:=by rw[List.length_append];exact Nat.le_trans (Nat.add_le_add_right Vo 1) (by omega)
      refine aB ?_;refine kd (jT rfl (xZ (vs:=[.int .u8 (W.cl 2).k,iv (W.cl 2).d,iv (W.cl 2).r,.int .u32 (W.cl 2).v]) 1 rfl rfl)) ?_;refine aB ?_;refine eK fun g2=>?_;refine aB ?_;refine aT [1,2,3,0] rfl (by decide) (fun _ h=>h) ?_;refine pK (q:=HP.aE g 103 (lY f r hL s {W with m:=W.m.step s 2,wt:=fU W.wt (2:Int).toNat false} L)) 1 rfl (fun F w h=>by simpa[lY,fU] using h) ?_;dsimp only[List.set];refine aJ 1 1 ?_;refine aJ 0 0 ?_;refine cS 0 (fun L:jX=>lA g f r hL s {W with m:=W.m.step s 2,wt:=fU W.wt (2:Int).toNat false} L) L ?_;refine oJ (p:=nG [nI W 2] [(nI W 2).row none 0]) (Ql _ rfl) ?_;refine aT [1,2,0] rfl (by decide) (fun _ h=>h) ?_;refine vS ?_;refine bX 0 (eG g f r hL s {W with m:=W.m.step s 2,wt:=fU W.wt (2:Int).toNat false,es:=W.es++[nI W 2]}) (fun w1 F1 t1 h1 h2 h3=>Hq g f r hL s {W with m:=W.m.step s 2,wt:=fU W.wt (2:Int).toNat false} w1 F1 (nI W 2) none 0 g2 gO h1 h2) ?_;refine aB ?_
      refine bX 0 (eG g f r hL s (W.task s 2)) (fun w1 F1 t1 h1 h2 h3=>by
       have:=yI g f r hL s {W with m:=W.m.step s 2,wt:=fU W.wt (2:Int).toNat false,es:=W.es++[nI W 2]} w1 F1 (by first | exact gO | exact uE) 2 h1 h2
       rwa [show aX.end_ {W with m:=W.m.step s 2,wt:=fU W.wt (2:Int).toNat false,es:=W.es++[nI W 2]} 2=W.task s 2 by unfold aX.task aX.mN;rw[hb];rfl] at this) ?_
      exact fB 0 hF
     ·have hb:W.mH 2=false:=by unfold aX.mH;rw[show W.wt (2:Int).toNat=W.wt 2 from rfl,hw,decide_eq_false hge];rfl
      refine aB ?_;refine aJ 1 1 ?_;refine aJ 0 0 ?_;refine cS 0 (fun L:jX=>lA g f r hL s {W with m:=W.m.step s 2} L) L ?_;refine aB ?_
      refine bX 0 (eG g f r hL s (W.task s 2)) (fun w1 F1 t1 h1 h2 h3=>by
       have:=yI g f r hL s {W with m:=W.m.step s 2} w1 F1 (by first | exact gO | exact uE) 2 h1 h2
       rwa [show aX.end_ {W with m:=W.m.step s 2} 2=W.task s 2 by unfold aX.task aX.mN;rw[hb];rfl] at this) ?_
      exact fB 0 hF
    ·have hb:W.mH 2=false:=by unfold aX.mH;rw[show W.wt (2:Int).toNat=W.wt 2 from rfl,hw];rfl
     refine aB ?_;refine bX 0 (jL r f hL s (W.m.step s 2)) (fun w1 F1 t1 h1 h2 h3=>Ij r f hL s n W.m w1 F1 hm aQ hok.m (by omega) 2 h1 h2 (eS.le dD (h3 _ (by simp)))) ?_;refine aB ?_;refine aJ 1 1 ?_;refine aJ 0 0 ?_;refine cS 0 (fun L:jX=>lA g f r hL s {W with m:=W.m.step s 2} L) L ?_;refine aB ?_
     refine bX 0 (eG g f r hL s (W.task s 2)) (fun w1 F1 t1 h1 h2 h3=>by
      have:=yI g f r hL s {W with m:=W.m.step s 2} w1 F1 (by first | exact gO | exact uE) 2 h1 h2
      rwa [show aX.end_ {W with m:=W.m.step s 2} 2=W.task s 2 by unfold aX.task aX.mN;rw[hb];rfl] at this) ?_
     exact fB 0 hF
  ·have hb:W.mH t=false:=by unfold aX.mH;rw[show bT 3 t=false from decide_eq_false (by omega)];rfl
   refine aB ?_;refine bX 0 (jL r f hL s (W.m.step s t)) (fun w1 F1 t1 h1 h2 h3=>Ij r f hL s n W.m w1 F1 hm aQ hok.m (by omega) t h1 h2 (eS.le dD (h3 _ (by simp)))) ?_;refine aB ?_;refine aJ 1 1 ?_;refine aJ 0 0 ?_;refine cS 0 (fun L:jX=>lA g f r hL s {W with m:=W.m.step s t} L) L ?_;refine aB ?_
   refine bX 0 (eG g f r hL s (W.task s t)) (fun w1 F1 t1 h1 h2 h3=>by
    have:=yI g f r hL s {W with m:=W.m.step s t} w1 F1 (by first | exact gO | exact uE) t h1 h2
    rwa [show aX.end_ {W with m:=W.m.step s t} t=W.task s t by unfold aX.task aX.mN;rw[hb];rfl] at this) ?_
   exact fB 0 hF
 ·have hb:W.mH t=false:=by unfold aX.mH;rw[show bT 3 t=false from decide_eq_false (by omega)];rfl
  refine aB ?_;refine bX 0 (jL r f hL s (W.m.step s t)) (fun w1 F1 t1 h1 h2 h3=>Ij r f hL s n W.m w1 F1 hm aQ hok.m (by omega) t h1 h2 (eS.le dD (h3 _ (by simp)))) ?_;refine aB ?_;refine aJ 1 1 ?_;refine aJ 0 0 ?_;refine cS 0 (fun L:jX=>lA g f r hL s {W with m:=W.m.step s t} L) L ?_;refine aB ?_
  refine bX 0 (eG g f r hL s (W.task s t)) (fun w1 F1 t1 h1 h2 h3=>by
   have:=yI g f r hL s {W with m:=W.m.step s t} w1 F1 (by first | exact gO | exact uE) t h1 h2
   rwa [show aX.end_ {W with m:=W.m.step s t} t=W.task s t by unfold aX.task aX.mN;rw[hb];rfl] at this) ?_
  exact fB 0 hF
end
end
section
theorem aMT{z:Array Value}{n sz:Nat}(hz:z.size=sz)(hpos:0 < sz):madeCells z (n*sz)=(List.replicate n z.toList).flatten.toArray:=by
 have hl:∀r∈List.replicate n z.toList,r.length=sz:=fun r hr=>by rw[List.eq_of_mem_replicate hr];simpa using hz
 unfold madeCells;refine Array.ext (by simp[Ku _ hl]) fun j h1 h2=>?_
 have hj:j < n*sz:=by simpa using h1
 have hk:j / sz < n:=Nat.div_lt_of_lt_mul (by rw[Nat.mul_comm];exact hj)
 have hf:j % sz < sz:=Nat.mod_lt _ hpos
 have:=Qh (sz:=sz) (List.replicate n z.toList) hl (j / sz) (j % sz) z.toList (by rw[List.getElem?_replicate,if_pos hk]) hf
 rw[show j / sz*sz+j % sz=j by rw[Nat.mul_comm];exact Nat.div_add_mod j sz] at this;rw[←Option.some_inj]
 have e2:some ((List.replicate n z.toList).flatten.toArray[j])=(List.replicate n z.toList).flatten[j]? :=by rw[List.getElem_toArray,List.getElem?_eq_getElem]
 rw[e2,this]
 have hzj:j % z.size < z.size:=by rw[hz];exact hf
 rw[Array.getElem_map,Array.getElem_range,getElem!_pos z _ hzj];subst hz;simp
theorem aL8{sz i:Nat}{rows:List (List Value)}{r':List Value}(hr:∀r∈rows,r.length=sz)(hi:i < rows.length)(hr':r'.length=sz):fP rows.flatten (i*sz) r'=(rows.set i r').flatten:=by
 have h1:rows=rows.take i++rows[i]::rows.drop (i+1):=by rw[←List.drop_eq_getElem_cons hi,List.take_append_drop]
 have h2:(rows.take i).flatten.length=i*sz:=by rw[Ku _ (fun r h=>hr r (List.mem_of_mem_take h)),List.length_take,Nat.min_eq_left (by omega)]
 have h3:rows[i].length=sz:=hr _ (List.getElem_mem hi)
 have h4:rows.flatten=(rows.take i).flatten++(rows[i]++(rows.drop (i+1)).flatten):=by
  have:=congrArg List.flatten h1
  rwa [List.flatten_append,List.flatten_cons] at this
 unfold fP;rw[List.set_eq_take_append_cons_drop,if_pos hi,h4,List.take_left' h2,←List.drop_drop,List.drop_left' h2,List.drop_left' (h3.trans hr'.symm),List.flatten_append,List.flatten_cons,List.append_assoc]
theorem aFS{α:Type}{new old:List α}{i:Nat}{x:α}(hx:new[i]? =some x)(hl:old.length=new.length):(new.take i++old.drop i).set i x=new.take (i+1)++old.drop (i+1):=by
 obtain⟨hi,rfl⟩:=List.getElem?_eq_some_iff.1 hx;rw[List.take_succ_eq_append_getElem hi,List.drop_eq_getElem_cons (i:=i) (l:=old) (by omega),List.set_append_right _ _ (by rw[List.length_take];omega),show i - (new.take i).length=0 by rw[List.length_take];omega,List.set_cons_zero,List.append_assoc];rfl
section
variable{P:Program}{N:bY}{w0:World}{e:Env}{R:List Piece}{H:List HP}{Q:Exit→Act→World→Prop}{ops:Array Oper}{rest:List Oper}{d:Nat}{ty:TypeId}{pos:String}{aH:Array Edge}
theorem aJd(sz bytes:Nat){x y:Operand}{t el:TypeId}{n:Nat}{zs:List Value}{kd pG:IntKind}(ht:P.underlying t=some (.slice el))(hT:(P.info? el).map (fun i=>(i.zero.map (fun z=>z.cells.toList),i.size,i.bytes))=some (some zs,sz,bytes))(Lf:zs.length=sz)(hpos:0 < sz)(hx:e.ev x=some (.int kd (n:Int)))(hy:e.ev y=some (.int pG (n:Int)))
  (hb:bytes*n≤281474976710656) (hn:(n:Int)≤9223372036854775807) (hd:d < N.n) (k:∀g,XK N w0 (wpList P ops Q rest) ((d,.slice (some ⟨g,0,none⟩) n n)::e) R (HP.aE g el (List.replicate n zs).flatten::H)):
  XK N w0 (wpList P ops Q (⟨some d,.makeSlice t x y,ty,pos,aH,none⟩::rest)) e R H:=by
 obtain⟨i,hi,he⟩:=Option.map_eq_some_iff.1 hT;simp only[Prod.mk.injEq] at he;obtain⟨h1,h2,rfl⟩:=he;obtain⟨z,hz,rfl⟩:=Option.map_eq_some_iff.1 h1;refine Sm (val:=fun g=>.slice (some ⟨g,0,none⟩) n n) rfl rfl hd (fun a w hr st=>?_) k
 have:=run_make (P:=P) w t el i z ht hi hz kd pG n n (by omega) (Int.le_refl _) (by rw[←Int.natCast_mul];omega) hn
 simp only[Int.toNat_natCast,h2,aMT (n:=n) (show z.cells.size=sz by simpa using Lf) hpos] at this;simp only[execOp,hr.ev hx,hr.ev hy,Sem.run_bind,this,Result.andThen_ok,Sem.run_pure]
end
end
section
def Cg(j:Nat)(z z':bH):Prop:=∀i,T3 i→(z'.tk i).kind=(z.tk i).kind∧(z'.tk i).dev=(z.tk i).dev∧(z'.tk i).bO=(z.tk i).bO∧(z'.tk i).val=(z.tk i).val∧(i≠j→(z'.tk i).st=(z.tk i).st)
theorem Cg.trans{j:Nat}{a b c:bH}(h:Cg j a b)(k:Cg j b c):Cg j a c:=fun i hi=>by
 obtain⟨a1,a2,a3,a4,a5⟩:=h i hi;obtain⟨b1,b2,b3,b4,b5⟩:=k i hi;exact⟨b1.trans a1,b2.trans a2,b3.trans a3,b4.trans a4,fun hn=>(b5 hn).trans (a5 hn)⟩
section
variable{s:aC}{x:aR}{y:cI}{z:bH}{j:Nat}
theorem Mg(hj:T3 j)(e r:Int):Cg j z (oB z j e r)∧((oB z j e r).tk j).st=3:=by
 constructor
 ·intro i hi;rcases hj with rfl | rfl | rfl<;>rcases hi with rfl | rfl | rfl<;>exact⟨rfl,rfl,rfl,rfl,fun h=>by first | rfl | exact absurd rfl h⟩
 ·rcases hj with rfl | rfl | rfl<;>rfl
theorem aOy(hj:T3 j):Cg j z (pE z j):=fun i hi=>by
 rcases hj with rfl | rfl | rfl<;>rcases hi with rfl | rfl | rfl<;>exact⟨rfl,rfl,rfl,rfl,fun h=>by first | rfl | exact absurd rfl h⟩
def Eg(z z':bH):Prop:=∀i,T3 i→(z'.tk i).kind=(z.tk i).kind∧(z'.tk i).dev=(z.tk i).dev∧(z'.tk i).bO=(z.tk i).bO∧(z'.tk i).val=(z.tk i).val∧(z'.tk i).st=(z.tk i).st
theorem Eg.fr{z z':bH}(h:Eg z z')(j:Nat):Cg j z z':=fun i hi=>⟨(h i hi).1,(h i hi).2.1,(h i hi).2.2.1,(h i hi).2.2.2.1,fun _=>(h i hi).2.2.2.2⟩
theorem Ks(z:bH):Eg z z:=fun _ _=>⟨rfl,rfl,rfl,rfl,rfl⟩
theorem aFd(hj:T3 j)(i:Nat)(k:Int)(c:Cn):Eg z (uT s {z.jC j (qE (z.tk j) i k) with cn:=c}):=fun i hi=>by
 rcases hj with rfl | rfl | rfl<;>rcases hi with rfl | rfl | rfl<;>exact⟨rfl,rfl,rfl,rfl,rfl⟩
theorem aFe(hj:T3 j)(k:Int):Eg z (uH s x z j k).2.1:=by
 have w0:∀c:Cn,Eg z (uT s {z with cn:=c}):=fun c i hi=>by rcases hi with rfl | rfl | rfl<;>exact⟨rfl,rfl,rfl,rfl,rfl⟩
 have a0:∀b,Eg z (vP s x z j b).2.1:=fun b=>by
  unfold vP
  repeat' split
  all_goals exact fun i hi=>by rcases hi with rfl | rfl | rfl<;>exact⟨rfl,rfl,rfl,rfl,rfl⟩
 unfold uH;split
 ·unfold Ga;split
  ·exact Ks z
  ·exact aFd hj _ _ _
 ·split
  ·unfold Fb
   repeat' split
   all_goals first | exact Ks z | exact aFd hj _ _ _
  ·split
   ·exact a0 _
   ·split
    ·exact a0 _
    ·split
     ·unfold Ew;split
      ·exact Ks z
      ·exact w0 _
     ·unfold Ez;split
      ·exact Ks z
      ·exact w0 _
theorem aOz(hj:T3 j):Cg j z (lR s x z j).1∧(((lR s x z j).1.tk j).st=2∨((lR s x z j).1.tk j).st=3):=by
 have h1:=(aOy (z:=z) hj).trans ((aFe (s:=s) (x:=x) (z:=pE z j) hj (z.tk j).kind).fr j)
 unfold lR;dsimp only;split
 ·exact⟨h1.trans (Mg hj _ _).1,.inr (Mg hj _ _).2⟩
 ·split
  ·exact⟨h1.trans (Mg hj _ _).1,.inr (Mg hj _ _).2⟩
  ·refine⟨h1,.inl ?_⟩;rw[(aFe (s:=s) (x:=x) (z:=pE z j) hj (z.tk j).kind j hj).2.2.2.2,aCf hj]
theorem aO0(hj:T3 j)(h2:(z.tk j).st=2):Cg j z (mU z y j).1∧(((mU z y j).1.tk j).st=2∨((mU z y j).1.tk j).st=3):=by
 have ht:∀a,Eg z (oY z a):=fun a i hi=>by
  unfold oY;split<;>(rcases hi with rfl | rfl | rfl<;>exact⟨rfl,rfl,rfl,rfl,rfl⟩)
 have hs:∀L b k,Eg z {z with steps:=L,sent:=b,many:=k}:=fun L b k i hi=>by rcases hi with rfl | rfl | rfl<;>exact⟨rfl,rfl,rfl,rfl,rfl⟩
 have fin:∀{z'},Eg z z'→Cg j z z'∧((z'.tk j).st=2∨(z'.tk j).st=3):=fun h=>⟨h.fr j,.inl ((h j hj).2.2.2.2.trans h2)⟩
 unfold mU;split
 ·split
  ·exact fin (Ks z)
  ·split
   ·exact⟨((ht _).fr j).trans (Mg hj _ _).1,.inr (Mg hj _ _).2⟩
   ·exact fin (ht _)
 ·split
  ·exact fin (Ks z)
  ·split
   ·exact fin (hs _ _ _)
   ·exact fin (Ks z)
theorem aOZ(hz:z.aU=false){k:Int}(h:(uH s x z j k).2.1.aU=true):(k=114∨k=119)∧∃(i:Nat) (wr:Bool) (q v:Int),(z.tk j).dev=(i:Int)∧(uH s x z j k).2.2=Ia x i wr q v:=by
 have a0 : ∀ b, (vP s x z j b).2.1.aU = true → ∃ (i : Nat) (wr : Bool) (q v : Int), (z.tk j).dev = (i : Int) ∧ (vP s x z j b).2.2 = Ia x i wr q v := fun b hb => by
  unfold vP at hb⊢;split at hb
  ·rw[hz] at hb;cases hb
  ·rename_i h1
   rw[if_neg h1];split at hb
   ·rw[hz] at hb;cases hb
   ·rename_i h2
    rw[if_neg h2];split at hb
    ·rename_i h3
     rw[if_pos h3]
     have hin:bT s.aD.length (z.tk j).dev=true:=by
      cases hh:bT s.aD.length (z.tk j).dev with
      | true=>rfl
      | false=>exact absurd (.inl hh) h1
     have:=of_decide_eq_true hin
     exact⟨_,_,_,_,by omega,rfl⟩
    ·rw[hz] at hb;cases hb
 unfold uH at h⊢;split at h
 ·exfalso;unfold Ga at h;split at h
  ·rw[hz] at h;cases h
  ·have:z.aU=true:=h
   rw[hz] at this;cases this
 ·rename_i h1
  rw[if_neg h1];split at h
  ·exfalso;unfold Fb at h
   repeat' split at h
   all_goals(have h':z.aU=true:=h;rw[hz] at h';cases h')
  ·rename_i h2
   rw[if_neg h2];split at h
   ·rename_i h3
    rw[if_pos h3];exact⟨.inl h3,a0 _ h⟩
   ·rename_i h3
    rw[if_neg h3];split at h
    ·rename_i h4
     rw[if_pos h4];exact⟨.inr h4,a0 _ h⟩
    ·exfalso;split at h
     ·unfold Ew at h;split at h<;>(have h':z.aU=true:=h;rw[hz] at h';cases h')
     ·unfold Ez at h;split at h<;>(have h':z.aU=true:=h;rw[hz] at h';cases h')
theorem aQW(hj:T3 j)(hz:z.aU=false)(h:(lR s x z j).1.aU=true):((z.tk j).kind=114∨(z.tk j).kind=119)∧∃(i:Nat) (wr:Bool) (q v:Int),(z.tk j).dev=(i:Int)∧(lR s x z j).2=Ia x i wr q v:=by
 have hd:((pE z j).tk j).dev=(z.tk j).dev:=by rw[aCf hj]
 unfold lR at h⊢;dsimp only at h⊢;split at h
 ·cases h
 ·rename_i h1
  rw[if_neg h1];split at h
  ·cases h
  ·rename_i h2
   rw[if_neg h2]
   have:=aOZ (s:=s) (x:=x) (z:=pE z j) (j:=j) hz h
   rw[hd] at this;exact this
theorem aR5(hz:z.aU=false):(mU z y j).1.aU=false:=by
 have ht:∀a,(oY z a).aU=false:=fun a=>by
  unfold oY;split<;>exact hz
 unfold mU;split
 ·split
  ·exact hz
  ·split
   ·rfl
   ·exact ht _
 ·split
  ·exact hz
  ·split
   ·exact hz
   ·exact hz
theorem aD6:∀(l:List fO) {z:bH},z.aU=false→nU z l=z
 | [],_,_=>rfl
 | a::l,z,h=>by
  show nU (sX z a) l=z
  rw[show sX z a=z by unfold sX;rw[if_pos h]];exact aD6 l h
theorem aD5:∀(l:List fO) (z:bH),nU z l=z∨∃e r,nU z l=oB z z.cM.toNat e r
 | [],_=>.inl rfl
 | a :: l, z => by
  show nU (sX z a) l=z∨∃e r,nU (sX z a) l=_
  unfold sX;split
  ·exact aD5 l z
  ·split
   ·exact aD5 l z
   ·split
    ·exact .inr ⟨_,_,aD6 l rfl⟩
    ·exact .inr ⟨_,_,aD6 l rfl⟩
theorem aRo{x:aR}{i:Nat}{a:fO}(h:(iH s x i).2=some a):a.dev=(i:Int)∧(x.wt[i]?).join≠none:=by
 unfold iH at h;split at h
 ·rename_i t d p h1 _ _
  split at h<;>(obtain rfl:=Option.some.inj h;exact⟨rfl,by rw[h1];simp⟩)
 ·cases h
theorem aRj{x:aR}{i k:Nat}(h:((iH s x i).1.wt[k]?).join≠none):(x.wt[k]?).join≠none:=by
 unfold iH at h
 have key:((x.wt.set i none)[k]?).join≠none→(x.wt[k]?).join≠none:=fun h=>by
  by_cases e:i=k
  ·subst e;rw[List.getElem?_set] at h;split at h
   ·split at h
    ·exact absurd rfl h
    ·exact absurd rfl h
   ·exact h
  ·rwa [List.getElem?_set_ne e] at h
 split at h
 ·split at h
  ·exact key h
  ·exact key h
 ·exact h
theorem aHN{x:aR}{k:Nat}:∀n,((fN s x n).1.wt[k]?).join≠none→(x.wt[k]?).join≠none
 | 0,h=>h
 | n+1,h=>aHN n (aRj h)
theorem aD4{x:aR}{a:fO}:∀n,a∈(fN s x n).2→∃i:Nat,a.dev=(i:Int)∧(x.wt[i]?).join≠none
 | 0,h=>by cases h
 | n + 1, h => by
  rcases List.mem_append.1 h with h | h
  ·exact aD4 n h
  ·have h:(iH s (fN s x n).1 n).2=some a:=by simpa using h
   obtain⟨h1,h2⟩:=aRo h;exact⟨n,h1,aHN n h2⟩
end
def vC(c:Option (Int×nW))(e:iT):Option (Option (Int×nW)):=
 if e.kind=98 then(match c with | none=>if 0≤e.task∧e.task≤2 then some (some (e.task,e.c)) else none | some _=>none)
 else if e.kind=101 then(match c with | some q=>if e.task=q.1∧e.c=q.2 then some none else none | none=>none)
 else if e.kind=100 then(match c with | some q=>if(q.2.k=114∨q.2.k=119)∧e.an.dev=q.2.d then some c else none | none=>none)
 else some c
def qH:Option (Int×nW)→List iT→Option (Option (Int×nW))
 | c,[]=>some c
 | c,e::es=>(vC c e).bind fun c'=>qH c' es
theorem Zw:∀(a b:List iT) (c:Option (Int×nW)),qH c (a++b)=(qH c a).bind fun c'=>qH c' b
 | [],b,c=>rfl
 | e::a,b,c=>by
  show(vC c e).bind (fun c'=>qH c' (a++b))=((vC c e).bind fun c'=>qH c' a).bind _
  cases vC c e with
  | none=>rfl
  | some c'=>exact Zw a b c'
theorem Zv(es:List iT)(e:iT){c:Option (Int×nW)}(h:qH none es=some c):qH none (es++[e])=vC c e:=by
 rw[Zw,h]
 show(vC c e).bind (fun c'=>some c')=_
 cases vC c e<;>rfl
def xP(w:aX):Option (Int×nW):=if w.m.z.cM < 0 then none else some (w.m.z.cM,w.cl w.m.z.cM.toNat)
def Wy(w:aX):Option Nat→Option (Int×nW)
 | none=>xP w
 | some j=>some ((j:Int),w.cl j)
def Sh(t:qA)(c:nW):Prop:=t.kind=c.k∧t.dev=c.d∧t.bO=c.r∧t.val=c.v
structure NE(w:aX)(d:Option Nat):Prop where
 Ky:∀j,T3 j→((w.m.z.tk j).st=3↔d=some j)
 wt:∀j,T3 j→(w.wt j=true↔(w.m.z.tk j).st=1)
 cl:∀j,T3 j→(w.m.z.tk j).st≠0→Sh (w.m.z.tk j) (w.cl j)
 es:qH none w.es=some (Wy w d)
 dn:∀j,d=some j→T3 j∧w.m.z.cM < 0
 po:w.m.z.aU=true→∃j,T3 j∧w.m.z.cM=(j:Int)∧((w.m.z.tk j).kind=114∨(w.m.z.tk j).kind=119)∧∀i:Nat,(w.m.x.wt[i]?).join≠none→(i:Int)=(w.m.z.tk j).dev
theorem Sh.of{t t':qA}{c:nW}(h:Sh t c)(h1:t'.kind=t.kind)(h2:t'.dev=t.dev)(h3:t'.bO=t.bO)(h4:t'.val=t.val):Sh t' c:=⟨h1.trans h.1,h2.trans h.2.1,h3.trans h.2.2.1,h4.trans h.2.2.2⟩
section
variable{s:aC}{n:Nat}{w:aX}
theorem ne0:NE (Ki s) none:=by
 have h0:∀j,T3 j→((Ug s).z.tk j).st=0:=fun j hj=>by rcases hj with rfl | rfl | rfl<;>rfl
 refine⟨fun j hj=>?_,fun j hj=>?_,fun j hj h=>absurd (h0 j hj) h,rfl,(fun _ h=>by cases h),fun h=>by cases h⟩
 ·show((Ug s).z.tk j).st=3↔_
  rw[h0 j hj];simp
 ·show false=true↔((Ug s).z.tk j).st=1
  rw[h0 j hj];simp
theorem aPo{z:bH}{j:Nat}(hj:T3 j){i:Nat}(hi:T3 i)(h3:(z.tk j).st=3):((iQ z j).2.tk i)=if i=j then {z.tk j with st:=0,kind:=0,dev:=0,bO:=0,val:=0,err:=0,res:=0} else z.tk i:=by
 unfold iQ;rw[if_neg (by rcases hj with rfl | rfl | rfl<;>decide),Int.toNat_natCast,if_neg (by rw[h3];simp)];rcases hj with rfl | rfl | rfl<;>rcases hi with rfl | rfl | rfl<;>rfl
theorem aHj{z:bH}{j:Nat}(h3:(z.tk j).st≠3):iQ z j=((0,0,false),z):=by
 unfold iQ;split
 ·rfl
 ·rw[Int.toNat_natCast,if_pos h3]
theorem NE.end_{d:Option Nat}(h:NE w d){j:Nat}(hj:T3 j):NE (w.end_ j) (if d=some j then none else d):=by
 by_cases h3:(w.m.z.tk j).st=3
 ·have hd:=(h.Ky j hj).1 h3
  rw[if_pos hd]
  have hb:(iQ w.m.z j).1.2.2=true:=by
   unfold iQ;rw[if_neg (by rcases hj with rfl | rfl | rfl<;>decide),Int.toNat_natCast,if_neg (by rw[h3];simp)]
  have kX:=fun {i} hi=>aPo (z:=w.m.z) hj (i:=i) hi h3
  have aG2:∀z:bH,(iQ z j).2.cM=z.cM∧(iQ z j).2.aU=z.aU:=fun z=>by
   unfold iQ;split
   ·exact⟨rfl,rfl⟩
   ·split<;>exact⟨rfl,rfl⟩
  obtain⟨_,hlt⟩:=h.dn j hd;unfold aX.end_;rw[if_pos hb];refine⟨fun i hi=>?_,fun i hi=>?_,fun i hi hne=>?_,?_,(fun _ h=>by cases h),fun hp=>?_⟩
  ·show((iQ w.m.z j).2.tk i).st=3↔_
   rw[kX hi]
   by_cases e:i=j
   ·rw[if_pos e];simp
   ·rw[if_neg e]
    have:=h.Ky i hi
    rw[hd] at this;constructor
    ·intro h';exact absurd (Option.some.inj (this.1 h')).symm e
    ·intro h';cases h'
  ·show w.wt i=true↔((iQ w.m.z j).2.tk i).st=1
   rw[kX hi]
   by_cases e:i=j
   ·subst e;rw[if_pos rfl]
    have:=h.wt i hi
    rw[h3] at this;constructor
    ·intro h';exact absurd (this.1 h') (by decide)
    ·intro h';exact absurd (show(0:Int)=1 from h') (by decide)
   ·rw[if_neg e];exact h.wt i hi
  ·have hne:((iQ w.m.z j).2.tk i).st≠0:=hne
   show Sh ((iQ w.m.z j).2.tk i) (w.cl i)
   rw[kX hi] at hne⊢
   by_cases e:i=j
   ·rw[if_pos e] at hne;exact absurd rfl hne
   ·rw[if_neg e] at hne⊢;exact h.cl i hi hne
  ·have he:=h.es
   rw[hd] at he;rw[Zv _ _ he]
   show vC (some ((j:Int),w.cl j)) (vK w j)=some (xP _)
   unfold xP;rw[if_pos (show(w.m.done j).z.cM < 0 by show(iQ w.m.z j).2.cM < 0;rw[(aG2 _).1];exact hlt)]
   show(if(j:Int)=(j:Int)∧w.cl (j:Int).toNat=w.cl j then some none else none)=_
   rw[Int.toNat_natCast,if_pos ⟨rfl,rfl⟩]
  ·have hp:(iQ w.m.z j).2.aU=true:=hp
   rw[(aG2 _).2] at hp;obtain⟨i,hi,h1,_⟩:=h.po hp;omega
 ·have hd:d≠some j:=fun e=>h3 ((h.Ky j hj).2 e)
  rw[if_neg hd]
  have hw:w.end_ j=w:=by
   unfold aX.end_;rw[aHj h3];rw[if_neg (by simp)]
   show({w with m:=⟨(iQ w.m.z j).2,w.m.y,w.m.x⟩}:aX)=w
   rw[aHj h3]
  rw[hw];exact h
theorem aLU{t:Int}(h:bT 3 t=false):w.end_ t=w:=by
 have hd:iQ w.m.z t=((0,0,false),w.m.z):=by unfold iQ;rw[if_pos h]
 unfold aX.end_;rw[hd,if_neg (by simp)]
 show({w with m:=⟨(iQ w.m.z t).2,w.m.y,w.m.x⟩}:aX)=w
 rw[hd]
theorem aKe{z:bH}{y:cI}{x:aR}{t:Int}(h1:∀j:Nat,t=(j:Int)→T3 j→(z.tk j).st=1→0≤z.cM)(h2:∀j:Nat,t=(j:Int)→T3 j→(z.tk j).st=2→z.aU=true):(tO s z y x t).1=z∧(tO s z y x t).2.2=x:=by
 unfold tO
 by_cases hin:bT 3 t=false
 ·rw[if_pos hin];exact⟨rfl,rfl⟩
 rw[if_neg hin];obtain⟨j,rfl,hj⟩:=yR (t:=t) (by cases hb:bT 3 t with | true=>rfl | false=>exact absurd hb hin);rw[Int.toNat_natCast]
 by_cases e1:(z.tk j).st=1
 ·rw[if_pos e1,if_neg (by have:=h1 j rfl hj e1;omega)];exact⟨rfl,rfl⟩
 rw[if_neg e1]
 by_cases e2:(z.tk j).st=2
 ·rw[if_pos e2,if_neg (by rw[h2 j rfl hj e2];simp)];exact⟨rfl,rfl⟩
 rw[if_neg e2];exact⟨rfl,rfl⟩
theorem NE.aB9(h:NE w none)(hok:fI s n w.m){j:Nat}(hj:T3 j){z':bH}{y':cI}{x':aR}(xB:aBw z')(hf:Cg j w.m.z z')(h23:(z'.tk j).st=2∨(z'.tk j).st=3)(aN1:∀i,T3 i→i≠j→(w.m.z.tk i).st≠2)(wt':Nat→Bool)(es':List iT)(lN:∀i,T3 i→wt' i=if i=j then false else w.wt i)(h0:(w.m.z.tk j).st≠0)(Lv:qH none es'=some (some ((j:Int),w.cl j)))
  (lO:z'.aU=true→((w.m.z.tk j).kind=114∨(w.m.z.tk j).kind=119)∧∀i:Nat,(x'.wt[i]?).join≠none→(i:Int)=(w.m.z.tk j).dev):∃d,NE ⟨⟨z',y',x'⟩,w.cl,wt',es'⟩ d∧(d=none∨d=some j):=by
 have hst:∀i,T3 i→i≠j→(z'.tk i).st≠2:=fun i hi hne=>by rw[(hf i hi).2.2.2.2 hne];exact aN1 i hi hne
 have iL:∀i,T3 i→(z'.tk i).st≠0→Sh (z'.tk i) (w.cl i):=fun i hi hne=>by
  obtain⟨f1,f2,f3,f4,f5⟩:=hf i hi
  by_cases e:i=j
  ·subst e;exact(h.cl i hi h0).of f1 f2 f3 f4
  ·rw[f5 e] at hne;exact(h.cl i hi hne).of f1 f2 f3 f4
 have aGk:∀i,T3 i→(wt' i=true↔(z'.tk i).st=1):=fun i hi=>by
  rw[lN i hi]
  by_cases e:i=j
  ·subst e;rw[if_pos rfl];simp;omega
  ·rw[if_neg e,(hf i hi).2.2.2.2 e];exact h.wt i hi
 have h3:∀i,T3 i→i≠j→(z'.tk i).st≠3:=fun i hi hne=>by
  rw[(hf i hi).2.2.2.2 hne];intro h'
  have:=(h.Ky i hi).1 h'
  cases this
 rcases h23 with e2 | e3
 ·have hh:z'.cM=(j:Int):=by
   rcases xB with⟨_,hno,_⟩ | ⟨i,hi,hh,hiff,_⟩
   ·exact absurd e2 (hno j hj)
   ·rw[hh,((hiff j hj).1 e2)]
  refine⟨none,⟨fun i hi=>?_,aGk,iL,?_,(fun _ h=>by cases h),fun hp=>?_⟩,.inl rfl⟩
  ·constructor
   ·intro h'
    have h':(z'.tk i).st=3:=h'
    by_cases e:i=j
    ·subst e;omega
    ·exact absurd h' (h3 i hi e)
   ·intro h';cases h'
  ·rw[show qH none es'=_ from Lv];unfold Wy xP;dsimp only;rw[hh,if_neg (by omega),Int.toNat_natCast]
  ·obtain⟨p1,p2⟩:=lO hp;exact⟨j,hj,hh,by show(z'.tk j).kind=114∨(z'.tk j).kind=119;rw[(hf j hj).1];exact p1,fun i hi=>by show(i:Int)=(z'.tk j).dev;rw[(hf j hj).2.1];exact p2 i hi⟩
 ·have hlt:z'.cM < 0∧z'.aU=false:=by
   rcases xB with⟨hh,_,hp,_⟩ | ⟨i,hi,hh,hiff,_⟩
   ·exact⟨by omega,hp⟩
   ·exfalso
    have:=(hiff i hi).2 rfl
    by_cases e:i=j
    ·subst e;omega
    ·exact hst i hi e this
  refine⟨some j,⟨fun i hi=>?_,aGk,iL,Lv,fun i hi=>?_,fun hp=>?_⟩,.inr rfl⟩
  ·constructor
   ·intro h'
    have h':(z'.tk i).st=3:=h'
    by_cases e:i=j
    ·rw[e]
    ·exact absurd h' (h3 i hi e)
   ·intro h';rw[←Option.some.inj h'];exact e3
  ·rw[←Option.some.inj hi];exact⟨hj,hlt.1⟩
  ·have hp:z'.aU=true:=hp
   rw[hlt.2] at hp;cases hp
theorem Uy{z:bH}(h:aBw z){j:Nat}(hj:T3 j):z.cM=(j:Int)↔(z.tk j).st=2:=by
 rcases h with⟨hh,hno,_⟩ | ⟨i,hi,hh,hiff,_⟩
 ·constructor
  ·intro h';omega
  ·intro h';exact absurd h' (hno j hj)
 ·rw[hiff j hj,hh];constructor
  ·intro h';omega
  ·intro h';rw[h']
theorem aN2{z:bH}(h:aBw z)(hl:z.cM < 0):(∀j,T3 j→(z.tk j).st≠2)∧z.aU=false:=by
 rcases h with⟨hh,hno,hp,_⟩ | ⟨i,hi,hh,_⟩
 ·exact⟨hno,hp⟩
 ·omega
theorem NE.aEA{d:Option Nat}(h:NE w d){j:Nat}(hj:T3 j)(hs:(w.m.z.tk j).st≠1):w.wt j=false:=by
 cases hb:w.wt j with
 | false=>rfl
 | true=>exact absurd ((h.wt j hj).1 hb) hs
theorem NE.same(h:NE w none){y':cI}{x':aR}(hw:x'.wt=w.m.x.wt):NE {w with m:=⟨w.m.z,y',x'⟩} none:=
 ⟨h.Ky,h.wt,h.cl,h.es,h.dn,fun hp=>by
  have:=h.po hp
  rw[←hw] at this
  exact this⟩
theorem NE.more(h:NE w none){e:iT}(hk:e.kind=115∨e.kind=114){m':iN}(hz:m'.z=w.m.z)(hx:m'.x=w.m.x):NE {w with m:=m',es:=w.es++[e]} none:=by
 obtain⟨z',y',x'⟩:=m';dsimp only at hz hx;subst hz;subst hx;refine⟨h.Ky,h.wt,h.cl,?_,h.dn,h.po⟩;rw[Zv _ _ h.es];unfold vC;rcases hk with hk | hk
 ·rw[hk,if_neg (by decide),if_neg (by decide),if_neg (by decide)];rfl
 ·rw[hk,if_neg (by decide),if_neg (by decide),if_neg (by decide)];rfl
theorem NE.mN(hm:s.made)(hok:fI s n w.m)(h:NE w none)(t:Int):∃d,NE (w.mN s t) d∧∀j,d=some j→t=(j:Int):=by
 have cM:=hok.sA.cM
 have xB:=(hok.step hm t).sA.cM
 by_cases hb:w.mH t=true
 ·have hb':=hb
  unfold aX.mH at hb';simp only[Bool.and_eq_true,decide_eq_true_eq] at hb';obtain⟨h1,h2,h3⟩:=hb';obtain⟨j,rfl,hj⟩:=yR h1;rw[Int.toNat_natCast] at h2
  have h1':=(h.wt j hj).1 h2
  obtain⟨hno,hpf⟩:=aN2 cM h3
  have hst:tO s w.m.z w.m.y w.m.x j=((lR s w.m.x w.m.z j).1,w.m.y,(lR s w.m.x w.m.z j).2):=by
   unfold tO;rw[if_neg (by rw[h1];simp),Int.toNat_natCast,if_pos h1',if_pos h3]
  have hw:w.mN s j=⟨⟨(lR s w.m.x w.m.z j).1,w.m.y,(lR s w.m.x w.m.z j).2⟩,w.cl,fU w.wt j false,w.es++[nI w j]⟩:=by
   unfold aX.mN iN.step;rw[if_pos hb,hst,Int.toNat_natCast]
  unfold iN.step at xB;rw[hst] at xB;rw[hw];obtain⟨f1,f2⟩:=aOz (s:=s) (x:=w.m.x) (z:=w.m.z) hj
  obtain⟨d,hd,Ir⟩:=h.aB9 hok hj (y':=w.m.y) (x':=(lR s w.m.x w.m.z j).2) xB f1 f2 (fun i hi _=>hno i hi) (fU w.wt j false) (w.es++[nI w j]) (fun i _=>rfl) (by omega) (by
   rw[Zv _ _ h.es]
   have:Wy w none=none:=by show xP w=none;unfold xP;rw[if_pos h3]
   rw[this]
   show(if 0≤(j:Int)∧(j:Int)≤2 then some (some ((j:Int),w.cl (j:Int).toNat)) else none)=_
   rw[if_pos (by rcases hj with rfl | rfl | rfl<;>decide),Int.toNat_natCast]) (fun hp=>by
   obtain⟨p1,i0,wr,q,v,p2,p3⟩:=aQW hj hpf hp;refine⟨p1,fun i hi=>?_⟩;rw[p3] at hi
   by_cases e:i0=i
   ·rw[←e,p2]
   ·have hi:((w.m.x.wt.set i0 _)[i]?).join≠none:=hi
    rw[List.getElem?_set_ne e] at hi
    exact absurd (hok.w0 hpf i) hi)
  exact⟨d,hd,fun i hi=>by rcases Ir with rfl | rfl;cases hi;rw[Option.some.inj hi]⟩
 ·have hw:w.mN s t={w with m:=w.m.step s t}:=by unfold aX.mN;rw[if_neg hb]
  rw[hw]
  by_cases ha:∃j:Nat,t=(j:Int)∧T3 j∧(w.m.z.tk j).st=2∧w.m.z.aU=false
  ·obtain⟨j,rfl,hj,h2,hpf⟩:=ha
   have hst:tO s w.m.z w.m.y w.m.x j=((mU w.m.z w.m.y j).1,(mU w.m.z w.m.y j).2,w.m.x):=by
    unfold tO;rw[if_neg (by rcases hj with rfl | rfl | rfl<;>decide),Int.toNat_natCast,if_neg (by omega),if_pos h2,if_pos hpf]
   unfold iN.step at xB⊢;rw[hst] at xB⊢
   have hh:=(Uy cM hj).2 h2
   obtain⟨f1,f2⟩:=aO0 (y:=w.m.y) (z:=w.m.z) hj h2
   obtain⟨d,hd,Ir⟩:=h.aB9 hok hj (y':=(mU w.m.z w.m.y j).2) (x':=w.m.x) xB f1 f2 (fun i hi hne h'=>hne (by have:=(Uy cM hi).2 h';omega)) w.wt w.es (fun i hi=>by
    by_cases e:i=j
    ·rw[if_pos e,e];exact h.aEA hj (by omega)
    ·rw[if_neg e]) (by omega) (by
    rw[h.es]
    show some (xP w)=_
    unfold xP
    rw[if_neg (by omega),hh,Int.toNat_natCast]) (fun hp=>by rw[aR5 hpf] at hp;cases hp)
   exact⟨d,hd,fun i hi=>by rcases Ir with rfl | rfl;cases hi;rw[Option.some.inj hi]⟩
  ·obtain⟨hz,hx⟩:=aKe (s:=s) (z:=w.m.z) (y:=w.m.y) (x:=w.m.x) (t:=t) (fun j ht hj h1=>by
    by_cases hl:w.m.z.cM < 0
    ·exfalso;refine hb ?_;unfold aX.mH;rw[ht,Int.toNat_natCast,(h.wt j hj).2 h1,decide_eq_true hl,show bT 3 (j:Int)=true by rcases hj with rfl | rfl | rfl<;>rfl];rfl
    ·omega) (fun j ht hj h2=>by
    cases hp:w.m.z.aU with
    | true=>rfl
    | false=>exact absurd ⟨j,ht,hj,h2,hp⟩ ha)
   refine⟨none,?_,fun _ h=>by cases h⟩;unfold iN.step;rw[hz];exact h.same (by rw[hx])
theorem NE.task(hm:s.made)(hok:fI s n w.m)(h:NE w none)(t:Int):NE (w.task s t) none:=by
 obtain⟨d,hd,ht⟩:=h.mN hm hok t;unfold aX.task
 by_cases hin:bT 3 t=false
 ·rw[aLU hin];cases d with
  | none=>exact hd
  | some j=>
   obtain⟨hj,_⟩:=hd.dn j rfl;rw[ht j rfl] at hin;rcases hj with rfl | rfl | rfl<;>cases hin
 ·obtain⟨j,rfl,hj⟩:=yR (t:=t) (by cases hb:bT 3 t with | true=>rfl | false=>exact absurd hb hin)
  have:=hd.end_ hj
  cases d with
  | none=>exact this
  | some i=>
   have e:i=j:=by have:=ht i rfl;omega
   subst e;rw[if_pos rfl] at this;exact this
theorem aFL{x:aR}{j:Int}{c:nW}(hk:c.k=114∨c.k=119):∀l:List fO,(∀a∈l,a.dev=c.d)→qH (some (j,c)) (l.map (rG s x))=some (some (j,c))
 | [],_=>rfl
 | a :: l, h => by
  show(vC (some (j,c)) (rG s x a)).bind (fun c'=>qH c' (l.map (rG s x)))=_
  rw[show vC (some (j,c)) (rG s x a)=some (some (j,c)) by
   unfold vC;rw[show(rG s x a).kind=100 from rfl,if_neg (by decide),if_neg (by decide),if_pos rfl]
   exact if_pos ⟨hk,h a (by simp)⟩]
  exact aFL hk l fun b hb=>h b (List.mem_cons_of_mem _ hb)
theorem NE.nB(hm:s.made)(hok:fI s n w.m)(h:NE w none)(aZ:Int):∃d,NE (w.nB s aZ) d:=by
 have cM:=hok.sA.cM
 have xB:=(hok.tick hm aZ).sA.cM
 cases hp:w.m.z.aU with
 | false =>
  refine⟨none,?_⟩
  have hl:(nA s w.m.x aZ)=(Ny s w.m.x aZ,[]):=by
   unfold nA;rw[aAR _ fun k _=>hok.w0 hp k]
  unfold aX.nB iN.tick;rw[hl,List.map_nil,List.append_nil];exact h.same rfl
 | true =>
  obtain⟨j,hj,hh,hk,Lx⟩:=h.po hp
  have h2:=(Uy cM hj).1 hh
  have hz:(w.m.tick s aZ).z=nU w.m.z (nA s w.m.x aZ).2:=rfl
  have iL:=h.cl j hj (by omega)
  rcases aD5 (nA s w.m.x aZ).2 w.m.z with e | ⟨er,rs,e⟩
  ·have:=hok.aEL aZ
   rw[hz,e,hp] at this;cases this
  ·rw[hh,Int.toNat_natCast] at e;obtain⟨f1,f2⟩:=Mg (z:=w.m.z) hj er rs;unfold iN.tick at xB;rw[e] at xB
   obtain⟨d,hd,_⟩:=h.aB9 hok hj (y':=w.m.y) (x':=(nA s w.m.x aZ).1) xB f1 (.inr f2) (fun i hi hne h'=>hne (by have:=(Uy cM hi).2 h';omega)) w.wt (w.es++(nA s w.m.x aZ).2.map (rG s w.m.x)) (fun i hi=>by
    by_cases e:i=j
    ·rw[if_pos e,e];exact h.aEA hj (by omega)
    ·rw[if_neg e]) (by omega) (by
    rw[Zw,h.es]
    have:Wy w none=some ((j:Int),w.cl j):=by
     show xP w=_
     unfold xP;rw[if_neg (by omega),hh,Int.toNat_natCast]
    rw[this];refine aFL (by rw[←iL.1];exact hk) _ fun a ha=>?_;obtain⟨i,h3,h4⟩:=aD4 _ ha
    rw[h3,Lx i h4,iL.2.1]) (fun hp=>by cases hp)
   refine⟨d,?_⟩;unfold aX.nB iN.tick;rw[e];exact hd
theorem NE.tick(hm:s.made)(hok:fI s n w.m)(h:NE w none)(aZ:Int):NE (w.tick s aZ) none:=by
 obtain⟨d,hd⟩:=h.nB hm hok aZ
 have h0:=hd.end_ (j:=0) (.inl rfl)
 have h1:=h0.end_ (j:=1) (.inr (.inl rfl))
 have h2:=h1.end_ (j:=2) (.inr (.inr rfl))
 have hdn:=hd.dn
 unfold aX.tick;cases d with
 | none=>exact h2
 | some j=>
  obtain⟨hj,_⟩:=hdn j rfl;rcases hj with rfl | rfl | rfl<;>exact h2
theorem aKg{z:bH}{t k d r v:Int}:((qF z t k d r v).1≠0∧(qF z t k d r v).2=z)∨((qF z t k d r v).1=0∧∃j:Nat,T3 j∧t=(j:Int)∧(z.tk j).st=0∧(qF z t k d r v).2=z.jC j {z.tk j with st:=1,kind:=k,dev:=d,bO:=r,val:=v}):=by
 unfold qF
 by_cases hin:bT 3 t=false
 ·rw[if_pos hin];exact .inl ⟨by simp,rfl⟩
 rw[if_neg hin];obtain⟨j,rfl,hj⟩:=yR (t:=t) (by cases hb:bT 3 t with | true=>rfl | false=>exact absurd hb hin);rw[Int.toNat_natCast]
 by_cases h0:(z.tk j).st≠0
 ·rw[if_pos h0];exact .inl ⟨by simp,rfl⟩
 rw[if_neg h0]
 by_cases hk:¬vE k
 ·rw[if_pos hk];exact .inl ⟨by simp,rfl⟩
 rw[if_neg hk];exact .inr ⟨rfl,j,hj,rfl,by omega,rfl⟩
theorem NE.call(hok:fI s n w.m)(h:NE w none)(t:Int)(c:nW):NE (w.call t c).2 none:=by
 unfold aX.call;dsimp only;rcases aKg (z:=w.m.z) (t:=t) (k:=c.k) (d:=c.d) (r:=c.r) (v:=c.v) with⟨h1,h2⟩ | ⟨h1,j,hj,rfl,h0,h2⟩
 ·rw[if_pos h1];unfold iN.start;rw[h2];exact h
 ·rw[if_neg (by omega)];unfold iN.start;rw[h2,Int.toNat_natCast]
  have kX:∀i,T3 i→(w.m.z.jC j {w.m.z.tk j with st:=1,kind:=c.k,dev:=c.d,bO:=c.r,val:=c.v}).tk i=if i=j then {w.m.z.tk j with st:=1,kind:=c.k,dev:=c.d,bO:=c.r,val:=c.v} else w.m.z.tk i:=fun i hi=>by
   rcases hj with rfl | rfl | rfl<;>rcases hi with rfl | rfl | rfl<;>rfl
  have cM:=hok.sA.cM
  refine⟨fun i hi=>?_,fun i hi=>?_,fun i hi hne=>?_,?_,(fun _ h=>by cases h),fun hp=>?_⟩
  ·dsimp only;rw[kX i hi];split
   ·simp
   ·exact h.Ky i hi
  ·dsimp only;rw[kX i hi];unfold fU;split
   ·simp
   ·exact h.wt i hi
  ·dsimp only at hne⊢;rw[kX i hi] at hne⊢;unfold fU;split
   ·exact⟨rfl,rfl,rfl,rfl⟩
   ·rename_i e
    rw[if_neg e] at hne;exact h.cl i hi hne
  ·dsimp only;rw[h.es]
   congr 1
   show xP w=xP _
   unfold xP
   show(if w.m.z.cM < 0 then none else _)=(if w.m.z.cM < 0 then none else _)
   split
   ·rfl
   ·rename_i hl
    rcases cM with⟨hh,_⟩ | ⟨i,hi,hh,hiff,_⟩
    ·omega
    ·have:i≠j:=fun e=>by
      subst e
      have:=(hiff i hi).2 rfl
      omega
     show some (w.m.z.cM,w.cl w.m.z.cM.toNat)=some (w.m.z.cM,fU w.cl j c w.m.z.cM.toNat)
     unfold fU;rw[if_neg (by omega)]
  ·obtain⟨i,hi,hh,hk,Lx⟩:=h.po hp
   have h2':=(Uy cM hi).1 hh
   have e:i≠j:=fun e=>by subst e;omega
   exact⟨i,hi,hh,by dsimp only;rw[kX i hi,if_neg e];exact hk,by dsimp only;rw[kX i hi,if_neg e];exact Lx⟩
theorem NE.nH(hm:s.made)(hok:fI s n w.m)(h:NE w none)(p:Eh):NE (w.nH s p).2 none:=by
 unfold aX.nH;split
 ·exact h.call hok _ _
 ·split
  ·exact h.task hm hok _
  ·split
   ·exact h.same (hok.fw.next hm.dH hok.hw).2.2.1
   ·split
    ·exact h.tick hm hok _
    ·split
     ·unfold aX.send;dsimp only;split
      ·exact h.same rfl
      ·exact h.more (.inl rfl) rfl rfl
     ·split
      ·unfold aX.take;split
       ·exact h.more (.inr rfl) rfl rfl
       ·exact h.same rfl
      ·exact h
theorem NE.dW(hm:s.made)(hok:fI s n w.m)(h:NE w none):NE (w.dW s) none:=h.same (hok.fw.next hm.dH hok.hw).2.2.1
theorem NE.round(hm:s.made)(hw:iB s n w)(h:NE w none)(aZ:Int):NE (w.round s aZ) none:=by
 have w1:=hw.task hm 0
 have w2:=w1.task hm 1
 have w3:=w2.task hm 2
 have h3:=((h.task hm hw.m 0).task hm w1.m 1).task hm w2.m 2
 exact(h3.dW hm w3.m).tick hm (w3.dW hm).m aZ
theorem aFh(hm:s.made){eL:List gL}(ha:∀a∈eL,a.ok):∀k,k≤eL.length→iB s (k*4) (runN s eL k)∧NE (runN s eL k) none
 | 0,_=>⟨Yu hm,ne0⟩
 | k+1,hk=>by
  obtain⟨h1,h2⟩:=aFh hm ha k (by omega);obtain⟨a,eO⟩:=get_some (l:=eL) (i:=k) (by omega)
  have hao:=ha a (List.mem_of_getElem? eO)
  rw[aBO eO];refine⟨(aHT hm h1 hao).le (by omega),?_⟩;unfold Rm;split
  ·exact h2.round hm h1 _
  ·exact h2.nH hm h1.m _
end
end
section
def Ca(s:aC)(x:aR)(i:Nat):List Value:=((List.range s.aD.length).map fun k=>Value.bool (xT s x k)).take i++(List.replicate s.aD.length (Value.bool false)).drop i
theorem aRw{s:aC}(x:aR):List.replicate s.aD.length (Value.bool false)=Ca s x 0:=by simp[Ca]
theorem aRu{s:aC}{x:aR}{i:Nat}:(Ca s x i).length=s.aD.length:=by simp[Ca];omega
theorem aRt{s:aC}{x:aR}{i:Nat}(hi:i < s.aD.length):(Ca s x i).set i (.bool (xT s x i))=Ca s x (i+1):=aFS (by simp[hi]) (by simp)
theorem aRv{s:aC}{x:aR}{i:Nat}(hi:i < s.aD.length):(Ca s x s.aD.length)[i]? =some (.bool (xT s x i)):=by simp[Ca,hi,List.getElem?_append]
def zEv:List Value:=[.int .u8 0,iv 0,.int .u8 0,iv 0,iv 0,.int .u32 0,iv 0,.int .u32 0,iv 0,iv 0,.bool false,.int .u32 0,.bool false,sn]
def xO(s:aC)(x:aR)(l:List fO):List (List Value):=l.map fun a=>(rG s x a).row none 0
def Bw(s:aC)(x:aR)(l:List fO)(i:Nat):List (List Value):=(xO s x l).take i++(List.replicate l.length zEv).drop i
theorem aPS{s:aC}(x:aR)(l:List fO):List.replicate l.length zEv=Bw s x l 0:=by simp[Bw]
theorem aHw{s:aC}{x:aR}{l:List fO}:Bw s x l l.length=xO s x l:=by unfold Bw xO;rw[List.take_of_length_le (by simp),List.drop_of_length_le (by simp),List.append_nil]
theorem aHx{s:aC}{x:aR}{l:List fO}{i:Nat}:(Bw s x l i).length=l.length:=by simp[Bw,xO];omega
theorem aDq{s:aC}{x:aR}{l:List fO}{i:Nat}:∀r∈Bw s x l i,r.length=14:=fun r hr=>by
 rcases List.mem_append.1 hr with h | h
 ·obtain⟨a,_,rfl⟩:=List.mem_map.1 (List.mem_of_mem_take h);rfl
 ·rw[List.eq_of_mem_replicate (List.mem_of_mem_drop h)];rfl
theorem aPR{s:aC}{x:aR}{l:List fO}{i:Nat}{a:fO}(ha:l[i]? =some a):fP (Bw s x l i).flatten (i*14) ((rG s x a).row none 0)=(Bw s x l (i+1)).flatten:=by
 have hi:=(List.getElem?_eq_some_iff.1 ha).1
 rw[aL8 aDq (by rw[aHx];exact hi) rfl];exact congrArg _ (aFS (by simp[xO,ha]) (by simp[xO]))
theorem aIS{p:Piece}:∀{es:List iT},(∀e∈es,e.words=[])→lV es (es.map fun e=>e.row none 0) p
 | [],_=>trivial
 | e::es,h=>⟨rfl,⟨none,0,rfl,by rw[h e (by simp)];exact aI.nil _ _⟩,aIS fun e' he=>h e' (by simp[he])⟩
theorem aPP(s:aC)(x:aR)(l:List fO):∀w,(nG (l.map (rG s x)) (xO s x l)).sat (fun _=>False) w:=fun w=>by
 have:=aIS (p:=⟨w,fun _=>False⟩) (es:=l.map (rG s x)) fun e he=>by
  obtain⟨a,_,rfl⟩:=List.mem_map.1 he;rfl
 rwa [List.map_map] at this
theorem aPQ(s:aC)(x:aR)(l:List fO):(xO s x l).flatten.length=l.length*14:=by rw[Ku (sz:=14) _ (by rw[←aHw];exact aDq)];simp[xO]
theorem aPO(s:aC)(x:aR)(l:List fO):∀u∈(xO s x l).flatten,u.oneCell'=true:=fun u hu=>by
 obtain⟨r,hr,hu⟩:=List.mem_flatten.1 hu;obtain⟨a,_,rfl⟩:=List.mem_map.1 hr;simp only[iT.row,List.mem_cons,List.not_mem_nil,or_false] at hu;rcases hu with rfl | rfl | rfl | rfl | rfl | rfl | rfl | rfl | rfl | rfl | rfl | rfl | rfl | rfl<;>rfl
def aX.ends(w:aX):Nat→aX
 | 0=>w
 | k+1=>(w.ends k).end_ (k:Int)
theorem aOT(w:aX)(t:Int):(w.end_ t).es.length≤w.es.length+1:=by
 unfold aX.end_;split
 ·show(w.es++[_]).length≤_
  rw[List.length_append];exact Nat.le_refl _
 ·exact Nat.le_add_right _ _
theorem aHe(w:aX):∀k,(w.ends k).es.length≤w.es.length+k
 | 0=>Nat.le_refl _
 | k+1=>Nat.le_trans (aOT (w.ends k) k) (Nat.add_le_add_right (aHe w k) 1)
section
variable(g f r:Nat)(hL:HL)(s:aC)(n:Nat)(W:aX)(w:World)(F:Nat→Prop)
theorem aMM(m:iN)(hok:oP s m.z)(l:List fO)(hl:l.length≤1000)(A:Option Addr)(c:Nat)(hs:aI ⟨w,fun b=>b < w.heap.size∧¬F b⟩ 4 A l.length (l.flatMap fO.cells))(hp:(jL r f hL s m).sat F w)(hF:∀b,F b→b < w.heap.size):
  Cz 95 #[pt r,.slice A l.length c] w (Wr (.tuple #[]) (jL r f hL s ⟨nU m.z l,m.y,m.x⟩) w F):=
 Wb 0 rfl (p':=jK r hL.h f s (nU m.z l)) (v:=.tuple #[]) (fun F0 h1 h2 h3=>aLc r hL.h f s m.z w F0 A c l hl hok.po h1 h2 (hs.le fun b hb=>⟨⟨hb.1,fun h0=>hb.2 (h3 b h0)⟩,rfl⟩)) hp hF
theorem aMN(m:iN)(hm:s.made)(aQ:gA hL s)(hok:cX s m.x)(v:Nat)(hv:v < s.aD.length){w0:World}{R:List Piece}{H:List HP}(i:Nat)(st:St w0 R H w)(hi:H[i]? =some (jL r f hL s m)):Cz 93 #[.pointer (some ⟨hL.h,0,none⟩),iv (v:Int)] w (Rt (.bool (xT s m.x v)) w):=by
 obtain⟨F,h1,h2,_⟩:=st.chunk hi;obtain⟨G,g1,g2,_⟩:=h1;exact aGD hL s m.x w hm.dH aQ hok v hv (aIH (g1 2 _ rfl) (fun b hb=>h2 b (g2 2 b hb)) aQ hok)
theorem aJz(hm:s.made)(aQ:gA hL s)(hok:iB s n W)(hn:n≤50000000)(aZ:Int)(hd:0≤aZ∧aZ < 4294967296)(hp:(eG g f r hL s W).sat F w)(hF:∀b,F b→b < w.heap.size):
  Cz 37 #[pt g,.int .u32 aZ] w (Wr (.tuple #[]) (eG g f r hL s (W.tick s aZ)) w F):=by
 have rE:=hm.nv
 have Vo:=hok.es
 have aGu:=(hok.nB hm aZ).2.1
 have hT:=fun w F=>aMH r f hL s n W.m w F hm aQ hok.m aZ hd
 have Lx:∀a∈(nA s W.m.x aZ).2,∃i:Nat,a.dev=(i:Int)∧i < s.aD.length:=fun a ha=>by
  obtain⟨i,h1,h2⟩:=aD4 (s:=s) (x:=W.m.x) (a:=a) s.aD.length ha;refine⟨i,h1,?_⟩;rcases Nat.lt_or_ge i s.aD.length with h | h
  ·exact h
  ·rw[List.getElem?_eq_none (by rw[hok.m.hw.wt];exact h)] at h2;exact absurd rfl h2
 have uD:(nA s W.m.x aZ).2.length≤1000:=Nat.le_trans (aAQ (s:=s) (x:=W.m.x) s.aD.length) (by omega)
 obtain⟨W3,Qb⟩:∃W3,W.nB s aZ=W3:=⟨_,rfl⟩
 have vI:W.tick s aZ=W3.ends 3:=by rw[←Qb];rfl
 rw[Qb] at aGu;unfold aX.nB iN.tick at Qb;obtain⟨⟨x',l⟩,hxl⟩:∃p,nA s W.m.x aZ=p:=⟨_,rfl⟩
 rw[hxl] at hT Lx uD Qb;dsimp only at hT Lx uD Qb;rw[vI];clear vI;refine cT func37 ntmps37 hp hF ?_;refine iX 0 fun L=>?_;refine aY 0 0 ?_;refine aY 1 1 ?_;dsimp only[lY];refine aB ?_;refine lX (n:=s.aD.length) 1 (el:=4) (z:=.bool false) (by kernel_rfl) (by kernel_rfl) rfl rfl rfl (by omega) (by omega) (by decide) fun gl=>?_;rw[aRw W.m.x];refine aB ?_;refine sZ (α:=Unit) (fun _=>[(0,pt g),(1,.int .u32 aZ),(4,.slice (some ⟨gl,0,none⟩) s.aD.length s.aD.length)]) (fun _=>[jL r f hL s W.m,HP.aE gl 4 (Ca s W.m.x s.aD.length),HP.aE g 103 (lY f r hL s W L),HP.many [cF,cF,HP.own 46 14 (.slice L.A W.es.length L.c) W.es.length L.rows.flatten,nG W.es L.rows]]) (fun _=>True) ?_ fun _ _=>?_
 ·refine rL (α:=Unit) (fun i _=>[(18,iv i),(17,iv s.aD.length),(0,pt g),(1,.int .u32 aZ),(4,.slice (some ⟨gl,0,none⟩) s.aD.length s.aD.length)]) (fun i _=>[jL r f hL s W.m,HP.aE gl 4 (Ca s W.m.x i),HP.aE g 103 (lY f r hL s W L),HP.many [cF,cF,HP.own 46 14 (.slice L.A W.es.length L.c) W.es.length L.rows.flatten,nG W.es L.rows]]) (fun _ _=>True) s.aD.length () trivial fun i _ hi _=>?_;refine aB ?_;refine aG rfl (fun hlt=>?_) (fun hge=>?_)
  ·have hlt:i < s.aD.length:=by omega
   refine aB ?_;refine aV (fun w1 t=>aMN f r hL s w1 W.m hm aQ hok.m.hw i hlt 0 t rfl) ?_;refine aB ?_;refine eN rfl rfl ?_ (hs:=eJ.mk 1 rfl cP.h rfl (by rw[aRu];exact hlt));dsimp only[List.set];rw[aRt hlt];refine aB ?_;exact kC ()
  ·obtain rfl:i=s.aD.length:=by omega
   refine aB ?_;exact dM ()
 refine aB ?_;refine wA (α:=Option Addr×Nat) 0 (f:=94) (fi:=[]) (ca:=[]) (fun a=>.slice a.1 l.length a.2) (fun a=>aIs r f hL s ⟨W.m.z,W.m.y,x'⟩ l a) (fun _=>True) (by kernel_rfl) rfl rfl rfl (by decide) (fun w1 F1 t h1 h2 h3=>by simpa using hT w1 F1 h1 h2) fun aa _=>?_;dsimp only[List.set];obtain⟨Aa,ca⟩:=aa;refine aY 0 1 ?_;refine aY 1 0 ?_;refine dG [] [1] [0,3,4,5] (by simp) rfl (by decide) (by decide) fun q hq _ _=>?_;obtain⟨F2,wR,vW⟩:=hq 1 _ (by simp) rfl
 have Vm:aI q 4 Aa l.length (l.flatMap fO.cells):=aI.own ⟨F2,wR,vW⟩
 refine aB ?_;refine aJd 14 120 (n:=l.length) (el:=46) (zs:=zEv) (by kernel_rfl) (by kernel_rfl) rfl (by decide) rfl rfl (by omega) (by omega) (by decide) fun gd=>?_;rw[aPS (s:=s) W.m.x l];refine aB ?_;refine sZ (α:=Unit) (fun _=>[(0,pt g),(6,.slice Aa l.length ca),(7,.slice (some ⟨gd,0,none⟩) l.length l.length)]) (fun _=>[HP.aE gd 46 (xO s W.m.x l).flatten,jL r f hL s ⟨W.m.z,W.m.y,x'⟩,HP.aE g 103 (lY f r hL s W L),HP.many [cF,cF,HP.own 46 14 (.slice L.A W.es.length L.c) W.es.length L.rows.flatten,nG W.es L.rows]]) (fun _=>True) ?_ fun _ _=>?_
 ·refine rL (α:=Unit) (fun i _=>[(42,iv i),(41,iv l.length),(40,.slice Aa l.length ca),(0,pt g),(4,.slice (some ⟨gl,0,none⟩) s.aD.length s.aD.length),(6,.slice Aa l.length ca),(7,.slice (some ⟨gd,0,none⟩) l.length l.length)]) (fun i _=>[HP.aE gd 46 (Bw s W.m.x l i).flatten,HP.aE gl 4 (Ca s W.m.x s.aD.length),jL r f hL s ⟨W.m.z,W.m.y,x'⟩,HP.aE g 103 (lY f r hL s W L),HP.many [cF,cF,HP.own 46 14 (.slice L.A W.es.length L.c) W.es.length L.rows.flatten,nG W.es L.rows]]) (fun _ _=>True) l.length () trivial fun i _ hi _=>?_;refine aB ?_;refine aG rfl (fun hlt=>?_) (fun hge=>?_)
  ·have hlt:i < l.length:=by omega
   obtain⟨a,ha⟩:=get_some hlt;obtain⟨dv,Dm,kZ⟩:=Lx a (List.mem_of_getElem? ha)
   have hfl:(Bw s W.m.x l i).flatten.length=l.length*14:=by rw[Ku (sz:=14) _ aDq,aHx]
   have hput:=aPR (s:=s) (x:=W.m.x) ha
   obtain⟨b,off,rfl,eX,hc⟩:=Vm.2 (by omega)
   have eO:=fun k v hv=>hc _ _ (aHL (k:=k) (v:=v) ha hv)
   obtain⟨Gt,Rj,Ec,By⟩:=a;dsimp only at Dm;subst Dm;refine aB ?_;refine kd (jT rfl (aO.of (vs:=[iv Gt,iv dv,.bool Ec,.int .u32 By]) fun k v hv=>Rd.ro (p:=q) (by simp) eX (by rw[Nat.add_assoc];exact eO k v hv))) ?_;refine cE fun g1=>?_;refine aB ?_;refine uN ?_;refine nJ 7 ?_ (cN:=bJ rfl (Rd.aE 2 rfl (aRv kZ)));refine nJ 8 ?_;refine nJ 9 ?_;refine aL 10 ?_;refine Db 1 rfl ?_ (vs:=(rG s W.m.x ⟨Gt,dv,Ec,By⟩).row none 0) (hl:=decide_eq_true (by show i*14+14≤_;rw[hfl];omega));dsimp only[List.set];rw[hput];refine cH ?_;refine eC ?_;refine aB ?_;exact kC ()
  ·obtain rfl:i=l.length:=by omega
   rw[aHw];refine aB ?_;exact dM ()
 refine aB ?_;refine aT [1,2,3,0] rfl (by decide) (fun _ h=>h) ?_;refine aJ 1 1 ?_;refine aJ 0 0 ?_;refine cS 0 (fun L:jX=>lA g f r hL s {W with m:=⟨W.m.z,W.m.y,x'⟩} L) L ?_;refine oJ (p:=nG (l.map (rG s W.m.x)) (xO s W.m.x l)) (aPP _ _ _) ?_;refine aT [1,2,0] rfl (by decide) (fun _ h=>h) ?_;refine vS ?_;refine bX 0 (eG g f r hL s {W with m:=⟨W.m.z,W.m.y,x'⟩,es:=W.es++l.map (rG s W.m.x)}) (fun w1 F1 t1 h1 h2 h3=>aED g f r hL s {W with m:=⟨W.m.z,W.m.y,x'⟩} w1 F1 (l.map (rG s W.m.x)) (xO s W.m.x l) gd l.length l.length (by simp) (aPQ _ _ _) (aPO _ _ _) (by show W.es.length+_≤_;rw[List.length_map];omega) h1 h2) ?_;refine iX 0 fun L2=>?_;refine aY 0 0 ?_;refine aY 1 1 ?_;dsimp only[lY];refine aB ?_;refine bX 0 (jL r f hL s ⟨nU W.m.z l,W.m.y,x'⟩) (fun w1 F1 t1 h1 h2 h3=>aMM f r hL s w1 F1 ⟨W.m.z,W.m.y,x'⟩ hok.m.sA l uD Aa ca (Vm.le (h3 _ (by simp))) h1 h2) ?_;refine aB ?_;refine aJ 1 1 ?_;refine aJ 0 0 ?_;subst Qb;refine cS 0 (fun L:jX=>lA g f r hL s {W with m:=⟨nU W.m.z l,W.m.y,x'⟩,es:=W.es++l.map (rG s W.m.x)} L) L2 ?_;generalize ({W with m:=⟨nU W.m.z l,W.m.y,x'⟩,es:=W.es++l.map (rG s W.m.x)}:aX)=W3 at aGu⊢;refine rL (α:=Unit) (fun i _=>[(67,iv i),(0,pt g)]) (fun i _=>[eG g f r hL s (W3.ends i)]) (fun _ _=>True) 3 () trivial fun i _ hi _=>?_
 have hel:=aHe W3 i
 refine aB ?_;refine aG rfl (fun hlt=>?_) (fun hge=>?_)
 ·refine aB ?_;refine bX 0 (eG g f r hL s (W3.ends (i+1))) (fun w1 F1 t1 h1 h2 h3=>yI g f r hL s (W3.ends i) w1 F1 (by omega) i h1 h2) ?_;refine aB ?_;exact kC ()
 ·obtain rfl:i=3:=by omega
  refine aB ?_;exact fB 0 hF
end
end
section
section
variable(g f r:Nat)(hL:HL)(s:aC)(W:aX)(w:World)(F:Nat→Prop)
theorem aMJ(m:iN)(A:Option Addr)(n c:Nat)(l:List Int)(hs:aI ⟨w,fun b=>b < w.heap.size∧¬F b⟩ 1 A n (eA l))(hn:n=l.length)(hn2:n≤1000000)(hp:(jL r f hL s m).sat F w)(hF:∀b,F b→b < w.heap.size):
  Cz 96 #[pt f,iv 1,.slice A n c] w (Wr (iv (jZ m.y 1 l).1) (jL r f hL s ⟨m.z,(jZ m.y 1 l).2,m.x⟩) w F):=
 Wb 1 rfl (fun F0 h1 h2 h3=>aGQ f hL.h s m.y 1 A n c l w F0 h1 h2 (hs.le fun b hb=>⟨⟨hb.1,fun h0=>hb.2 (h3 b h0)⟩,rfl⟩) hn hn2) hp hF
def Co(k:Int)(l:List Int):iT:={Qk with kind:=k,words:=l}
theorem aJ1(hn:W.es.length≤900000000)(A:Option Addr)(n c:Nat)(l:List Int)(hs:aI ⟨w,fun b=>b < w.heap.size∧¬F b⟩ 1 A n (eA l))(fK:n=l.length)(hn2:n≤1000000)(hp:(eG g f r hL s W).sat F w)(hF:∀b,F b→b < w.heap.size):
  Cz 38 #[pt g,.slice A n c] w (Wr (iv (W.send l).1) (eG g f r hL s (W.send l).2) w F):=by
 subst fK;unfold aX.send;refine cT func38 ntmps38 hp hF ?_;refine iX 0 fun L=>?_;refine aY 0 0 ?_;refine aY 1 1 ?_;dsimp only[lY];refine aB ?_;refine bX 0 (jL r f hL s ⟨W.m.z,(jZ W.m.y 1 l).2,W.m.x⟩) (fun w1 F1 t1 h1 h2 h3=>aMJ f r hL s w1 F1 W.m A _ c l (hs.le (h3 _ (by simp))) rfl hn2 h1 h2) ?_;refine aB ?_;refine aG rfl (fun he=>?_) (fun he=>?_)
 ·rw[if_pos he];refine aB ?_;refine aJ 1 1 ?_;refine aJ 0 0 ?_;refine cS 0 (fun L:jX=>lA g f r hL s {W with m:=⟨W.m.z,(jZ W.m.y 1 l).2,W.m.x⟩} L) L ?_;exact bP 0 hF
 ·rw[if_neg he,Decidable.not_not.1 he];refine aB ?_;refine eW (Yj l.length (eA l)) (fun w1 t=>aAF A _ c _ w1 (hs.le (t.le (by simp))) (Hr _) hn2) ?_;rintro _ _ q2 ⟨Aw,cw,rfl,rfl⟩ _;dsimp only[List.cons_append,List.nil_append];refine aB ?_;refine eK fun g2=>?_;refine aB ?_;refine aT [2,3,4,0,1] rfl (by decide) (R':=[⟨w,fun b=>b < w.heap.size∧¬F b⟩]) (by simp) ?_;refine aJ 1 1 ?_;refine aJ 0 0 ?_;refine cS 0 (fun L:jX=>lA g f r hL s {W with m:=⟨W.m.z,(jZ W.m.y 1 l).2,W.m.x⟩} L) L ?_;refine xU 2 (Φ:=lV [Co 115 l] [(Co 115 l).row Aw cw]) (hm:=lV.le) rfl (fun _ h=>lV.one h) ?_;dsimp only[List.set];refine vS ?_;refine bX 0 (eG g f r hL s {W with m:=⟨W.m.z,(jZ W.m.y 1 l).2,W.m.x⟩,es:=W.es++[Co 115 l]}) (fun w1 F1 t1 h1 h2 h3=>Hq g f r hL s {W with m:=⟨W.m.z,(jZ W.m.y 1 l).2,W.m.x⟩} w1 F1 (Co 115 l) Aw cw g2 hn h1 h2) ?_;refine aB ?_;exact bP 0 hF
end
end
section
def aX.Er(s:aC)(w:aX):Nat→aX
 | 0=>w
 | k+1=>(w.Er s k).task s (k:Int)
theorem aBE{s:aC}(hm:s.made){n:Nat}{w:aX}(h:iB s n w):∀k,iB s (n+k) (w.Er s k)
 | 0=>h
 | k+1=>(aBE hm h k).task hm k
section
variable(g f r:Nat)(hL:HL)(s:aC)(n:Nat)(W:aX)(w:World)(F:Nat→Prop)
theorem Kh(hm:s.made)(aQ:gA hL s)(hok:iB s n W)(hn:n≤50000000)(p:Eh)(hpk:p.ok)(A:Option Addr)(k c:Nat)(hs:aI ⟨w,fun b=>b < w.heap.size∧¬F b⟩ 1 A k (eA p.words))(hk:k=p.words.length)(dD:eS ⟨w,fun b=>b < w.heap.size∧¬F b⟩)(hp:(eG g f r hL s W).sat F w)(hF:∀b,F b→b < w.heap.size):
  Cz 17 #[pt g,.agg #[.int .u8 p.kind,iv p.task,.int .u8 p.c.k,iv p.c.d,iv p.c.r,.int .u32 p.c.v,.int .u32 p.aZ,.slice A k c]] w (Wr (iv (W.nH s p).1) (eG g f r hL s (W.nH s p).2) w F):=by
 have Vo:=hok.es
 have gO:W.es.length≤900000000:=by omega
 obtain⟨hv,hd,hu,hl⟩:=hpk;obtain⟨pk,Zs,⟨c1,c2,c3,c4⟩,pd,pw⟩:=p;dsimp only at hs hk hv hd hu hl⊢;unfold aX.nH;dsimp only;refine cT func17 ntmps17 hp hF ?_;refine aB ?_;refine bN fun g3=>?_;refine aB ?_;refine aG rfl (fun h=>?_) (fun h=>?_)
 ·rw[if_pos h];refine aB ?_;refine kd (jT rfl (xZ (vs:=[.int .u8 c1,iv c2,iv c3,.int .u32 c4]) 0 rfl rfl)) ?_;refine bX 1 (eG g f r hL s (W.call Zs ⟨c1,c2,c3,c4⟩).2) (fun w1 F1 t1 h1 h2 h3=>aJ3 g f r hL s W w1 F1 Zs c1 c2 c3 c4 h1 h2) ?_;refine aB ?_;exact bP 1 hF
 rw[if_neg h];refine aB ?_;refine aG rfl (fun h=>?_) (fun h=>?_)
 ·rw[if_pos h];refine aB ?_;refine bX 1 (eG g f r hL s (W.task s Zs)) (fun w1 F1 t1 h1 h2 h3=>aJ0 g f r hL s n W w1 F1 hm aQ hok hn Zs (eS.le dD (h3 _ (by simp))) h1 h2) ?_;refine aB ?_;exact bP 1 hF
 rw[if_neg h];refine aB ?_;refine aG rfl (fun h=>?_) (fun h=>?_)
 ·rw[if_pos h];refine iX 1 fun L=>?_;refine aY 1 0 ?_;refine aY 2 1 ?_;dsimp only[lY];refine aB ?_;refine bX 0 (jL r f hL s (W.m.dW s)) (fun w1 F1 t1 h1 h2 h3=>aMK r f hL s n W.m w1 F1 hm aQ hok.m h1 h2 (eS.le dD (h3 _ (by simp)))) ?_;refine aB ?_;refine aJ 2 1 ?_;refine aJ 1 0 ?_;refine cS 1 (fun L:jX=>lA g f r hL s (W.dW s) L) L ?_;exact bP 1 hF
 rw[if_neg h];refine aB ?_;refine aG rfl (fun h=>?_) (fun h=>?_)
 ·rw[if_pos h];refine aB ?_;refine bX 1 (eG g f r hL s (W.tick s pd)) (fun w1 F1 t1 h1 h2 h3=>aJz g f r hL s n W w1 F1 hm aQ hok hn pd hd h1 h2) ?_;refine aB ?_;exact bP 1 hF
 rw[if_neg h];refine aB ?_;refine aG rfl (fun h=>?_) (fun h=>?_)
 ·rw[if_pos h];refine aB ?_;refine bX 1 (eG g f r hL s (W.send pw).2) (fun w1 F1 t1 h1 h2 h3=>aJ1 g f r hL s W w1 F1 gO A k c pw (hs.le (h3 _ (by simp))) hk (by omega) h1 h2) ?_;refine aB ?_;exact bP 1 hF
 rw[if_neg h];refine aB ?_;refine aG rfl (fun h=>?_) (fun h=>?_)
 ·rw[if_pos h];unfold aX.take;refine iX 1 fun L=>?_;refine aY 1 0 ?_;refine aY 2 1 ?_;dsimp only[lY];refine aY 0 1 ?_;refine aB ?_;refine wA (α:=AC) 0 (f:=39) (fi:=[]) (ca:=[]) (fun c=>Oh (mP W.m.y 1) c) (fun c=>Fa f hL.h s (mA W.m.y 1) ((mP W.m.y 1).getD []) c) (fun _=>True) (by kernel_rfl) rfl rfl rfl (by decide) (fun w1 F1 t h1 h2 h3=>aDd f hL.h s W.m.y 1 w1 F1 h1 h2) fun cc _=>?_;dsimp only[List.set];refine aY 0 0 ?_;refine aJ 1 1 ?_;cases hw:mP W.m.y 1 with
  | none=>
   refine aB ?_;refine aT [1,2,3,4] rfl (by decide) (fun _ h=>h) ?_;refine aJ 2 1 ?_;refine aJ 1 0 ?_;refine cS 1 (fun L:jX=>lA g f r hL s {W with m:=⟨W.m.z,mA W.m.y 1,W.m.x⟩} L) L ?_;exact bP 1 hF
  | some l=>
   refine aB ?_;refine eK fun g2=>?_;refine aB ?_;refine aY 1 1 ?_;refine aT [3,4,6,1,0] rfl (by decide) (fun _ h=>h) ?_;refine aJ 1 1 ?_;refine aJ 0 0 ?_;refine cS 0 (fun L:jX=>lA g f r hL s {W with m:=⟨W.m.z,mA W.m.y 1,W.m.x⟩} L) L ?_;refine pK (q:=nG [Co 114 l] [(Co 114 l).row cc.1 cc.2]) 2 rfl (fun F w h=>lV.one h) ?_;dsimp only[List.set];refine vS ?_;refine bX 0 (eG g f r hL s {W with m:=⟨W.m.z,mA W.m.y 1,W.m.x⟩,es:=W.es++[Co 114 l]}) (fun w1 F1 t1 h1 h2 h3=>Hq g f r hL s {W with m:=⟨W.m.z,mA W.m.y 1,W.m.x⟩} w1 F1 (Co 114 l) cc.1 cc.2 g2 gO h1 h2) ?_;refine aB ?_;exact bP 0 hF
 rw[if_neg h];refine aB ?_;exact bP 1 hF
theorem aPE(t:Int):W.nH s ⟨116,t,rI,0,[]⟩=(0,W.task s t):=rfl
theorem aPF(t:Int):W.nH s ⟨102,t,rI,0,[]⟩=(0,W.dW s):=rfl
theorem aPD(t d:Int):W.nH s ⟨104,t,rI,d,[]⟩=(0,W.tick s d):=rfl
theorem Kx{k t d:Int}(hd:0≤d∧d < 4294967296):(Eh.mk k t rI d []).ok:=⟨⟨Int.le_refl _,(by decide:(0:Int) < 4294967296)⟩,hd,(fun _ h=>by cases h),Nat.zero_le _⟩
theorem aJ2(hm:s.made)(aQ:gA hL s)(hok:iB s n W)(hn:n≤40000000)(aZ:Int)(hd:0≤aZ∧aZ < 4294967296)(dD:eS ⟨w,fun b=>b < w.heap.size∧¬F b⟩)(hp:(eG g f r hL s W).sat F w)(hF:∀b,F b→b < w.heap.size):
  Cz 16 #[pt g,.int .u32 aZ] w (Wr (.tuple #[]) (eG g f r hL s (W.round s aZ)) w F):=by
 have Pp:=aBE hm hok 3
 refine cT func16 ntmps16 hp hF ?_;refine aB ?_;refine sZ (α:=Unit) (fun _=>[(0,pt g),(1,.int .u32 aZ)]) (fun _=>[eG g f r hL s (W.Er s 3)]) (fun _=>True) ?_ fun _ _=>?_
 ·refine rL (α:=Unit) (fun i _=>[(5,iv i),(0,pt g),(1,.int .u32 aZ)]) (fun i _=>[eG g f r hL s (W.Er s i)]) (fun _ _=>True) 3 () trivial fun i _ hi _=>?_
  have Dj:=aBE hm hok i
  refine aB ?_;refine aG rfl (fun hlt=>?_) (fun hge=>?_)
  ·refine aB ?_
   refine bX 0 (eG g f r hL s (W.Er s (i+1))) (fun w1 F1 t1 h1 h2 h3=>by
    have:=Kh g f r hL s (n+i) (W.Er s i) w1 F1 hm aQ Dj (by omega) ⟨116,i,rI,0,[]⟩ (Kx (by decide)) none 0 0 (aI.nil _ _) rfl (eS.le dD (h3 _ (by simp))) h1 h2
    rwa [aPE] at this) ?_
   refine aB ?_;exact kC ()
  ·obtain rfl:i=3:=by omega
   refine aB ?_;exact dM ()
 refine aB ?_
 refine bX 0 (eG g f r hL s ((W.Er s 3).dW s)) (fun w1 F1 t1 h1 h2 h3=>by
  have:=Kh g f r hL s (n+3) (W.Er s 3) w1 F1 hm aQ Pp (by omega) ⟨102,0,rI,0,[]⟩ (Kx (by decide)) none 0 0 (aI.nil _ _) rfl (eS.le dD (h3 _ (by simp))) h1 h2
  rwa [aPF] at this) ?_
 refine aB ?_
 refine bX 0 (eG g f r hL s (W.round s aZ)) (fun w1 F1 t1 h1 h2 h3=>by
  have:=Kh g f r hL s (n+3) ((W.Er s 3).dW s) w1 F1 hm aQ (Pp.dW hm) (by omega) ⟨104,0,rI,aZ,[]⟩ (Kx hd) none 0 0 (aI.nil _ _) rfl (eS.le dD (h3 _ (by simp))) h1 h2
  rwa [aPD] at this) ?_
 refine aB ?_;exact fB 0 hF
end
end
section
structure WdR(w:World)(g:Nat)(L:jX)(es:List iT):Prop where
 c:fS w g 20 (.slice L.A es.length L.c)
 row:aI (all w) 14 L.A es.length L.rows.flatten
 ev:lV es L.rows (all w)
theorem St.wdR{w0 w:World}{R:List Piece}{H:List HP}{g f r:Nat}{hL:HL}{s:aC}{W:aX}(t:St w0 R H w)(i:Nat)(hi:H[i]? =some (eG g f r hL s W)):∃L,WdR w g L W.es:=by
 obtain⟨F,h1,h2,_⟩:=t.chunk hi;obtain⟨L,G,g1,g2,_⟩:=h1
 have h0:=g1 0 _ rfl
 have hb:∀i b,G i b→b < w.heap.size:=fun i b hb=>h2 b (g2 i b hb)
 obtain⟨A',c',he,hs⟩:=zO (Y:=fun b=>b < w.heap.size) (g1 2 _ rfl) (fun b hb'=>hb 2 b hb')
 injection he with he
 subst he;exact⟨L,⟨h0.2.lt,by rw[h0.2.cell];rfl⟩,hs,lV.le ⟨w,G 3⟩ (all w) (fun b hb'=>⟨hb 3 b hb',rfl⟩) (g1 3 _ rfl)⟩
def aIV(n:Nat)(xs:List Value)(v:Value)(hs:List HP)(_:Piece):Prop:=∃A c,v=.slice A n c∧hs=[HP.own 46 14 (.slice A n c) n xs]
theorem aQh(A:Option Addr)(n c:Nat)(xs:List Value)(w:World)(hs:aI (all w) 14 A n xs)(h1:∀u∈xs,u.oneCell'=true)(hn:n≤1000000):
  Cz 25 #[.slice A n c] w (fun y w'=>(∃v hs q,y=.returned v∧q.w=w'∧aIV n xs v hs q∧gJ w hs q)∧Below w.heap.size w w'):=by
 refine aN func25 ntmps25 ?_;refine aA ?_;refine Sn (el:=46) (by kernel_rfl) rfl (by decide) ?_;refine fC ?_;refine pL rfl (fun hA=>?_) (fun hA=>?_)
 ·refine aA ?_
  have hn0:n=0:=by
   rcases Nat.eq_zero_or_pos n with h | h
   ·exact h
   ·obtain⟨b,off,rfl,_⟩:=hs.2 h;cases hA
  subst hn0
  have hx:xs=[]:=List.eq_nil_of_length_eq_zero (by simpa using hs.1)
  subst hx;refine lT 46 14 ?_;refine dG [] [] [0] (by simp) rfl (by decide) (by decide) fun q _ _ hfr=>?_;exact aP (h:=fun w1 st=>⟨_,_,⟨w1,q.Z⟩,rfl,rfl,⟨_,_,rfl,rfl⟩,st.newR (by simp) (by simp) (hfr (by simp) (by simp))⟩)
 ·refine aA ?_;refine Sk (el:=46) (sz:=14) (by kernel_rfl) (by kernel_rfl) (by decide) fun g=>?_;refine Mx 0 14 0 rfl rfl (by omega) ?_;dsimp only[List.set];refine aA ?_;refine iF 0 14 120 n (n':=n) (el:=46) (by kernel_rfl) (by kernel_rfl) (by decide) rfl rfl rfl (rZ (by simp) hs) h1 (by omega) (by omega) (by omega) (by decide) fun A' k'=>?_;dsimp only[List.set,List.nil_append];refine aA ?_;refine dG [] [] [0] (by simp) rfl (by decide) (by decide) fun q _ _ hfr=>?_;exact aP (h:=fun w1 st=>⟨_,_,⟨w1,q.Z⟩,rfl,rfl,⟨_,_,rfl,rfl⟩,st.newR (by simp) (by simp) (hfr (by simp) (by simp))⟩)
theorem aRP{N:bY}{w0:World}{K:Act→World→Prop}{e:Env}{R:List Piece}{H:List HP}{es:List iT}{rows:List (List Value)}{x:iT}{A:Option Addr}{c:Nat}(h:XK N w0 K e R (nG (es++[x]) (rows++[x.row A c])::H)):XK N w0 K e R (HP.own 37 1 (.slice A x.words.length c) x.words.length (eA x.words)::nG es rows::H):=
 xU 0 (Φ:=pO 1 A x.words.length (eA x.words)) (hm:=pO.le) rfl (fun _ h=>h) (Jq (X:=lV (es++[x]) (rows++[x.row A c])) (h3:=lV.le) (fun p h1 h2=>aEc h2 ⟨rfl,⟨A,c,rfl,h1⟩,trivial⟩) h)
theorem aOX(w:World):(nG [] []).sat (fun _=>False) w:=(trivial:lV [] [] ⟨w,fun _=>False⟩)
theorem lV.one'{es:List iT}{rows:List (List Value)}{p:Piece}(h:lV es rows p):∀u∈rows.flatten,u.oneCell'=true:=fun u hu=>by
 obtain⟨r,hr,hu⟩:=List.mem_flatten.1 hu;obtain⟨i,hi⟩:=List.getElem?_of_mem hr;obtain⟨e,_,_,A,c,rfl,_⟩:=Rows.at_ h hi;simp only[iT.row,List.mem_cons,List.not_mem_nil,or_false] at hu;rcases hu with rfl | rfl | rfl | rfl | rfl | rfl | rfl | rfl | rfl | rfl | rfl | rfl | rfl | rfl<;>rfl
theorem aM5{nr old:List (List Value)}{r:List Value}{i:Nat}(h1:nr.length=i)(h2:i < old.length):(nr++old.drop i).set i r=(nr++[r])++old.drop (i+1):=by
 subst h1;rw[List.set_append_right _ _ (Nat.le_refl _),Nat.sub_self,List.drop_eq_getElem_cons h2,List.set_cons_zero,List.append_assoc];rfl
def aEl(es:List iT)(v:Value)(hs:List HP)(q:Piece):Prop:=∃A c rows,v=.slice A es.length c∧hs=[]∧aI q 14 A es.length rows.flatten∧lV es rows q
theorem aEF(g:Nat)(L:jX)(es:List iT)(w:World)(hn:es.length≤1000000)(hw:∀e∈es,e.words.length≤1000000)(hr:WdR w g L es):
  Cz 11 #[pt g] w (fun y w'=>(∃v hs q,y=.returned v∧q.w=w'∧aEl es v hs q∧gJ w hs q)∧Below w.heap.size w w'):=by
 have Dd:=hr.c
 have hlr:=(Rows.len hr.ev).1
 have aN6:=Rows.Ms hr.ev
 refine aN func11 ntmps11 ?_;refine aB ?_;refine eW (aIV es.length L.rows.flatten) (fun w1 t=>aQh L.A _ L.c _ w1 (hr.row.le (t.le (by simp))) hr.ev.one' hn) ?_;rintro _ _ q2 ⟨A,c,rfl,rfl⟩ _;dsimp only[List.cons_append,List.nil_append];refine aB ?_;refine vR (R':=[all w]) (by simp) ?_;refine oJ (p:=nG [] []) aOX ?_;refine sZ (α:=List (List Value)) (fun _=>[(3,.slice A es.length c)]) (fun nr=>[HP.own 46 14 (.slice A es.length c) es.length nr.flatten,nG es nr]) (fun _=>True) ?_ fun nr _=>?_
 ·refine rL (α:=List (List Value)) (fun i _=>[(12,iv i),(11,iv es.length),(3,.slice A es.length c)]) (fun i nr=>[HP.own 46 14 (.slice A es.length c) es.length (nr++L.rows.drop i).flatten,nG (es.take i) nr]) (fun i nr=>nr.length=i∧∀r∈nr,r.length=14) es.length [] ⟨rfl,fun _ h=>by cases h⟩ fun i nr hi hx=>?_;obtain⟨iK,aGv⟩:=hx;refine aB ?_;refine aG rfl (fun hlt=>?_) (fun hge=>?_)
  ·have hlt:i < es.length:=by omega
   obtain⟨ro,hro⟩:=get_some (l:=L.rows) (i:=i) (by omega);obtain⟨e,he,_,Aw,cw,rfl,yS⟩:=Rows.at_ hr.ev hro
   have hwe:=hw e (List.mem_of_getElem? he)
   have hall:∀r∈nr++L.rows.drop i,r.length=14:=fun r h=>by
    rcases List.mem_append.1 h with h | h
    ·exact aGv r h
    ·exact aN6 r (List.mem_of_mem_drop h)
   have uD:(nr++L.rows.drop i).length=es.length:=by rw[List.length_append,List.length_drop];omega
   refine aBd 0 rfl (by omega) ?_;rintro⟨gb,rfl⟩;refine Gv 0 rfl fun cs iL hct hnc Ly=>?_;dsimp only[List.set]
   have hri:(nr++L.rows.drop i)[i]? =some (e.row Aw cw):=by
    rw[List.getElem?_append_right (by omega),iK,Nat.sub_self,List.getElem?_drop,Nat.add_zero];exact hro
   have hsub:=Ds hct uD hall hri
   have hcc:i*14+14≤cs.length:=by
    have:=Nat.mul_le_mul_right 14 (show i+1≤c by omega)
    omega
   refine aB ?_;refine kd (bJ rfl (Rd.sub 0 13 rfl hsub rfl rfl)) ?_;refine aB ?_;refine eW (Yj e.words.length (eA e.words)) (fun w1 t=>aAF Aw _ cw _ w1 (aI.le yS (t.le (by simp))) (Hr _) hwe) ?_;rintro _ _ q3 ⟨A2,c2,rfl,rfl⟩ _;dsimp only[List.cons_append,List.nil_append];refine aB ?_;refine Ee 1 (n:=es.length) (c:=c) (sz:=14) (xs:=((nr++L.rows.drop i).set i (e.row A2 c2)).flatten) rfl (by rw[List.length_set];exact iL) (Bq hct uD hall hlt (by omega) rfl (Sub.set hsub 13 _ (show 13 < 14 by decide) (by omega)) ((tB.refl cs (i*14) 14).set 13 _ (by decide))) hnc Ly ?_;dsimp only[List.set];rw[aM5 iK (by omega)];refine aT [0,2,1] rfl (by decide) (R':=[all w]) (by simp) ?_;refine aRP (x:=e) ?_;rw[show es.take i++[e]=es.take (i+1) by rw[List.take_add_one,he];rfl]
   exact kC (nr++[e.row A2 c2]) (hg:=⟨by rw[List.length_append,iK];rfl,fun r h=>by
    rcases List.mem_append.1 h with h | h
    ·exact aGv r h
    ·rw[List.mem_singleton] at h;subst h
     rfl⟩)
  ·obtain rfl:i=es.length:=by omega
   rw[List.drop_of_length_le (by omega),List.append_nil,List.take_length];refine aB ?_;exact dM nr
 refine aB ?_;refine dG [] [0,1] [] (by simp) rfl (by decide) (by decide) fun q hq _ hfr=>?_;obtain⟨F0,sf0,zf0⟩:=hq 0 _ (by simp) rfl;obtain⟨F1,sf1,zf1⟩:=hq 1 _ (by simp) rfl
 have hs9:aI q 14 A es.length nr.flatten:=aI.own ⟨F0,sf0,zf0⟩
 have hz9:lV es nr q:=lV.le ⟨q.w,F1⟩ q (fun b hb=>⟨zf1 b hb,rfl⟩) sf1
 exact aP (h:=fun w1 st=>⟨_,[],⟨w1,q.Z⟩,rfl,rfl,⟨A,c,nr,rfl,rfl,hs9.le fun b hb=>⟨hb,st.ro (by simp) hb⟩,lV.le q _ (fun b hb=>⟨hb,st.ro (by simp) hb⟩) hz9⟩,st.newR (by simp) (by simp) (hfr (by simp) (by simp))⟩)
end
section
theorem aFf{s:aC}(hm:s.made){eL:List gL}(ha:∀a∈eL,a.ok):∀k,k≤eL.length→iB s (k*4) (runN s eL k)
 | 0,_=>Yu hm
 | k+1,hk=>by
  obtain⟨a,eO⟩:=get_some (l:=eL) (i:=k) (by omega);rw[aBO eO];exact(aHT hm (aFf hm ha k (by omega)) (ha a (List.mem_of_getElem? eO))).le (by omega)
theorem aRA{eL:List gL}{i k:Nat}{a:gL}{v:Value}(h:eL[i]? =some a)(hv:a.cells[k]? =some v):(eL.flatMap gL.cells)[i*12+k]? =some v:=by
 have hk:k < 12:=by
  have:=(List.getElem?_eq_some_iff.1 hv).1
  rwa [gL.len] at this
 exact(Qg gL.cells 12 eL (fun _ _=>rfl) i k a h hk).trans hv
theorem aR8{w:World}{A:Option Addr}{eL:List gL}(hs:aI (all w) 12 A eL.length (eL.flatMap gL.cells)){i:Nat}{a:gL}(ha:eL[i]? =some a):∃b off,A=some ⟨b,off,none⟩∧dU w b (off+i*12) a.cells:=by
 have hi:=(List.getElem?_eq_some_iff.1 ha).1
 obtain⟨b,off,rfl,hz,hc⟩:=hs.2 (by omega);exact⟨b,off,rfl,hz,fun j v hv=>by rw[Nat.add_assoc];exact hc _ _ (aRA ha hv)⟩
def aI0(s:aC)(W:aX)(v:Value)(hs:List HP)(_:Piece):Prop:=∃(g f r:Nat) (hL:HL),v=pt g∧hs=[eG g f r hL s W]∧gA hL s
theorem aKI(s:aC)(A1 A2 A3 A4:Option Addr)(n1 k1 n2 k2 n3 k3 n4 k4:Nat)(B:Option Addr)(cb:Nat)(eL:List gL)(w:World)(hW:iD w s A1 n1 A2 n2 A3 n3 A4 n4)(hm:s.made)(hs:aI (all w) 12 B eL.length (eL.flatMap gL.cells))(hac:∀a∈eL,a.ok)(hnb:eL.length≤2000000)(dD:eS (all w)):
  Cz 10 #[.agg #[.slice A1 n1 k1,.slice A2 n2 k2,.slice A3 n3 k3,.slice A4 n4 k4],.slice B eL.length cb] w (fun y w'=>(∃v hs q,y=.returned v∧q.w=w'∧aI0 s (runN s eL eL.length) v hs q∧gJ w hs q)∧Below w.heap.size w w'):=by
 have rE:=hm.nv
 obtain rfl:=hW.sJ;refine aN func10 ntmps10 ?_;refine aB ?_;refine bN fun g2=>?_;refine aB ?_;refine eW (aDW s) (fun w1 t=>aEE s A1 A2 A3 A4 _ k1 _ k2 _ k3 _ k4 w1 (hW.le (t.started (by simp))) hm) ?_;rintro _ _ q1 ⟨g,f,r,hL,rfl,rfl,aQ⟩ _;dsimp only[List.cons_append,List.nil_append];refine vR (R':=[all w]) (by simp) ?_;refine aB ?_;refine sZ (α:=Unit) (fun _=>[(5,pt g)]) (fun _=>[eG g f r hL s (runN s eL eL.length)]) (fun _=>True) ?_ fun _ _=>?_
 ·refine rL (α:=Unit) (fun i _=>[(7,iv i),(5,pt g),(1,.slice B eL.length cb),(2,pt g2)]) (fun i _=>[eG g f r hL s (runN s eL i),HP.aE g2 30 [.slice A1 n1 k1,.slice A2 n2 k2,.slice A3 n3 k3,.slice A4 s.aD.length k4]]) (fun _ _=>True) eL.length () trivial fun i _ hi _=>?_
  have hok:=aFf hm hac i hi
  refine aB ?_;refine bZ (t:=17) rfl (fun hlt=>?_) (fun hge=>?_)
  ·have hlt:i < eL.length:=by omega
   obtain⟨a,ha⟩:=get_some hlt
   have hao:=hac a (List.mem_of_getElem? ha)
   have dB:=aBO (s:=s) ha
   unfold Rm at dB;obtain⟨b,off,rfl,ka⟩:=aR8 hs ha
   have k0:=ka.at_ (j:=0) rfl
   have k5:=ka.at_ (j:=5) rfl
   refine aB ?_;refine aV (fun w1 t=>nQ _ 30 w1 hao.op (by decide)) ?_;refine aB ?_;refine aG rfl (fun h=>?_) (fun h=>?_)
   ·rw[if_pos h] at dB;refine aB ?_
    refine bX 0 (eG g f r hL s (runN s eL (i+1))) (fun w1 F1 t h1 h2 h3=>by
     rw[dB]
     exact aJ2 g f r hL s (i*4) _ w1 F1 hm aQ hok (by omega) a.v hao.v (eS.le dD (h3 _ (by simp))) h1 h2) ?_
    refine aB ?_;exact kC ()
   ·rw[if_neg h] at dB;refine aB ?_;refine uN ?_;refine aL 8 ?_;refine eW (aI7 (Ib a s.aD.length)) (fun w1 t=>aLK a s.aD.length w1 hao ⟨by omega,by omega⟩) ?_;rintro _ _ q2 ⟨Aw,cw,p0,rfl,rfl⟩ _;dsimp only[List.cons_append,List.nil_append];refine vR (R':=[all w]) (by simp) ?_;refine bE ?_;refine aL 9 ?_;refine dG [] [1] [2,3] (by simp) rfl (by decide) (by decide) fun q hq _ _=>?_;obtain⟨F1,sf1,zf1⟩:=hq 1 _ (by simp) rfl
    have Lh:aI q 1 Aw (Ib a s.aD.length).words.length (eA (Ib a s.aD.length).words):=pO.le ⟨q.w,F1⟩ q (fun b hb=>⟨zf1 b hb,rfl⟩) sf1
    refine bX 0 (eG g f r hL s (runN s eL (i+1))) (fun w1 F1 t h1 h2 h3=>by
     rw[dB]
     exact Kh g f r hL s (i*4) _ w1 F1 hm aQ hok (by omega) (Ib a s.aD.length) (aF6 hao _) Aw _ cw (Lh.le (h3 _ (by simp))) rfl (eS.le dD (h3 _ (by simp))) h1 h2) ?_
    refine vR (R':=[all w]) (by simp) ?_;refine cH ?_;refine eC ?_;refine aB ?_;exact kC ()
  ·obtain rfl:i=eL.length:=by omega
   refine aB ?_;exact dM ()
 refine aB ?_;refine dG [] [] [0] (by simp) rfl (by decide) (by decide) fun q _ _ hfr=>?_;exact aP (h:=fun w1 st=>⟨_,_,⟨w1,q.Z⟩,rfl,rfl,⟨g,f,r,hL,rfl,rfl,aQ⟩,st.newR (by simp) (by simp) (hfr (by simp) (by simp))⟩)
end
section
theorem Ex:nY.made:=⟨Fits.nil _,Fits.nil _,(fun _ h=>by cases h),Fits.nil _,by decide,by decide,by decide,by decide⟩
def Hu:Int:=(gZ 0 0 16 0).1
def Ti:Eh:=⟨109,0,rI,0,[Hu]⟩
def Ze:aX:=((Ki nY).nH nY Ti).2
def Zd:aX:=(Ze.nH nY ⟨102,0,rI,0,[]⟩).2
def Th:aX:=(Zd.nH nY ⟨97,0,rI,0,[]⟩).2
theorem aKv:((Ki nY).nH nY Ti).1=0:=by decide+kernel
theorem aKu:(Ze.nH nY ⟨102,0,rI,0,[]⟩).1=0:=rfl
theorem aKt:(Zd.nH nY ⟨97,0,rI,0,[]⟩).1=0:=rfl
theorem aBJ:Th.es=[Co 115 [Hu],Co 114 [Hu,0,131072]]:=by kernel_rfl
theorem aBK:0≤Hu∧Hu < 4294967296∧(gZ 0 0 16 0).2=0:=by decide+kernel
theorem aEV:Ti.ok:=⟨⟨Int.le_refl _,(by decide:(0:Int) < 4294967296)⟩,⟨Int.le_refl _,(by decide:(0:Int) < 4294967296)⟩,(fun x hx=>by
 have:x=Hu:=by simpa[Ti] using hx
 rw[this]
 exact⟨aBK.1,aBK.2.1⟩),(by decide:1≤1000000)⟩
theorem aEU:iB nY 1 Ze:=(Yu Ex).nH Ex aEV
theorem aET:iB nY 2 Zd:=aEU.nH Ex (Kx (by decide))
theorem aKq:iB nY 3 Th:=aET.nH Ex (Kx (by decide))
theorem aKo(w:World)(dD:eS (all w)):Cz 8 #[] w (Rt (.bool true) w):=by
 refine aN func8 ntmps8 ?_;refine aB ?_;refine eW (aDW nY) (fun w1 t=>aEE nY none none none none 0 0 0 0 0 0 0 0 w1 (aKl w1) Ex) ?_;rintro _ _ q1 ⟨g,f,r,hL,rfl,rfl,aQ⟩ _;dsimp only[List.cons_append,List.nil_append];refine aB ?_;refine eW (aEo [Hu]) (fun w1 t=>aH1 0 0 16 0 none 0 0 [] w1 (aI.nil _ _) rfl (by omega) aBK.2.2) ?_;rintro _ _ q2 ⟨Aw,cw,rfl,rfl⟩ _;dsimp only[List.cons_append,List.nil_append];refine dG [] [0] [1] (by simp) rfl (by decide) (by decide) fun q hq _ _=>?_;obtain⟨F0,sf0,zf0⟩:=hq 0 _ (by simp) rfl
 have Lh:aI q 1 Aw 1 (eA [Hu]):=aI.own ⟨F0,sf0,zf0⟩
 refine vR (R':=[q,all w]) (by simp) ?_;refine aB ?_
 refine bX 0 (eG g f r hL nY Ze) (fun w1 F1 t h1 h2 h3=>by
  have:=Kh g f r hL nY 0 _ w1 F1 Ex aQ (Yu Ex) (by omega) Ti aEV Aw 1 cw (Lh.le (h3 _ (by simp))) rfl (eS.le dD (h3 _ (by simp))) h1 h2
  rw[aKv] at this
  exact this) ?_
 refine aB ?_
 refine bX 0 (eG g f r hL nY Zd) (fun w1 F1 t h1 h2 h3=>by
  have:=Kh g f r hL nY 1 _ w1 F1 Ex aQ aEU (by omega) ⟨102,0,rI,0,[]⟩ (Kx (by decide)) none 0 0 (aI.nil _ _) rfl (eS.le dD (h3 _ (by simp))) h1 h2
  rw[aKu] at this
  exact this) ?_
 refine aB ?_
 refine bX 0 (eG g f r hL nY Th) (fun w1 F1 t h1 h2 h3=>by
  have:=Kh g f r hL nY 2 _ w1 F1 Ex aQ aET (by omega) ⟨97,0,rI,0,[]⟩ (Kx (by decide)) none 0 0 (aI.nil _ _) rfl (eS.le dD (h3 _ (by simp))) h1 h2
  rw[aKt] at this
  exact this) ?_
 refine aB ?_
 refine eW (aEl Th.es) (fun w1 t=>by
  obtain⟨L,hr⟩:=t.wdR 0 rfl
  exact aEF g L _ w1 (by rw[aBJ];decide) (fun e he=>(aKq.wd e he).2) hr) ?_
 rintro _ _ q3 ⟨Av,cv,rows,rfl,rfl,hs,hz⟩ _;dsimp only[List.nil_append];rw[show Th.es.length=2 by rw[aBJ];rfl] at hs⊢;rw[aBJ] at hz;refine aT [] rfl (by decide) (R':=[q3,all w]) (by simp) ?_;obtain⟨r1,dQ⟩:=get_some (l:=rows) (i:=0) (by rw[(Rows.len hz).1];decide);obtain⟨r2,fW⟩:=get_some (l:=rows) (i:=1) (by rw[(Rows.len hz).1];decide);obtain⟨e1,gO,_,B1,b1,rfl,_⟩:=Rows.at_ hz dQ;obtain⟨e2,uE,_,B2,b2,rfl,_⟩:=Rows.at_ hz fW;cases gO;cases uE;obtain⟨b,off,rfl,eX,Py⟩:=aI.tQ hs (Rows.Ms hz) dQ (by decide);obtain⟨b',off',hA,_,nE⟩:=aI.tQ hs (Rows.Ms hz) fW (by decide);cases hA;refine Rn (Rd.ro (p:=q3) (b:=b) (o:=off+0*14+0) (by simp) eX (Py 0 _ rfl)) fun d1=>?_;refine Rn (Rd.ro (p:=q3) (b:=b) (o:=off+1*14+0) (by simp) eX (nE 0 _ rfl)) fun d2=>?_;refine Rn (Rd.ro (p:=q3) (b:=b) (o:=off+1*14+13) (by simp) eX (nE 13 _ rfl)) fun d3=>?_;refine aB ?_;exact dI
end
end Go.Proofs.YtkgekojkboingaaGreatDoor
