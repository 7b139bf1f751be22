/- WorldReplies: each message is answered once, with its own first word. No walk in sight. -/
import Derived.Test.YtkgekojkboingaaGreatDoorRows
import Derived.Test.YtkgekojkboingaaGreatDoorWorldRepliesK7
namespace Go.Proofs.YtkgekojkboingaaGreatDoor
set_option linter.all false
set_option maxHeartbeats 4000000
set_option maxRecDepth 20000
open Go.RowKit Go.Proofs.Tryz
section
def NR(st:Int):Prop:=st= -10∨st= -1∨st= -4∨st= -2
instance(st:Int):Decidable (NR st):=by unfold NR;infer_instance
theorem aGW(s:aC)(x y:dR)(wt:List Int)(ag:Nat)(l:List Int):(jO s x y wt ag l).1=(dH s l).1∨((dH s l).1=0∧((jO s x y wt ag l).1= -3∨(jO s x y wt ag l).1= -6)):=by
 unfold jO
 by_cases h:(dH s l).1≠0∨(dH s l).2.1=0∨qV (if ag=0 then x else y) (dH s l).2.1 (dH s l).2.2=decide (pQ (dH s l).2.1)
 ·rw[if_pos h];exact .inl rfl
 ·rw[if_neg h]
  have h0:(dH s l).1=0:=Classical.byContradiction fun hc=>h (.inl hc)
  clear h;split
  ·split
   ·exact .inr ⟨h0,.inl rfl⟩
   ·exact .inl h0.symm
  ·split
   ·exact .inr ⟨h0,.inl rfl⟩
   ·split
    ·exact .inr ⟨h0,.inr rfl⟩
    ·exact .inl h0.symm
theorem aBP(s:aC)(x y:dR)(wt:List Int)(ag:Nat)(l:List Int):NR (jO s x y wt ag l).1↔NR (dH s l).1:=by
 rcases aGW s x y wt ag l with h | ⟨h,h' | h'⟩
 ·rw[h]
 ·rw[h,h'];decide
 ·rw[h,h'];decide
theorem aLa(s:aC)(l:List Int): -100≤(dH s l).1∧(dH s l).1≤0:=by
 unfold dH Dv
 repeat' split
 all_goals first | decide | (dsimp only;omega)
theorem aP1{s:aC}{x y:dR}{wt:List Int}{ag:Nat}{l:List Int}(h:(jO s x y wt ag l).2.1≠0):(jO s x y wt ag l).1=0:=by
 unfold jO at h⊢
 by_cases hq:(dH s l).1≠0∨(dH s l).2.1=0∨qV (if ag=0 then x else y) (dH s l).2.1 (dH s l).2.2=decide (pQ (dH s l).2.1)
 ·rw[if_pos hq] at h;exact absurd rfl h
 ·rw[if_neg hq] at h⊢;clear hq
  revert h
  split
  ·split
   ·exact fun h=>absurd rfl h
   ·exact fun _=>rfl
  ·split
   ·exact fun h=>absurd rfl h
   ·split
    ·exact fun h=>absurd rfl h
    ·exact fun _=>rfl
theorem aP0(s:aC)(x y:dR)(wt:List Int)(ag:Nat)(l:List Int): -100≤(jO s x y wt ag l).1∧(jO s x y wt ag l).1≤0:=by
 have:=aLa s l
 rcases aGW s x y wt ag l with h | ⟨h,h' | h'⟩<;>omega
structure RI(s:aC)(y:cI)(o:Option (List Int)):Prop where
 no:o=none→y.h1=0
 yes:∀l,o=some l→(y.h1=1∧y.w1=l)∨(y.h1=2∧∃st r,y.w1=l.headD 0::IntKind.u32.wrap st::r∧(NR st↔NR (dH s l).1)∧ -100≤st∧st≤0)
 at1:y.at_=1→∃l,o=some l∧y.h1=1∧y.w1=l∧¬NR (dH s l).1
section
variable{s:aC}{x:aS}{y:cI}{o:Option (List Int)}
theorem RI.same{y':cI}(h:RI s y o)(h1:y'.h1=y.h1)(h2:y'.w1=y.w1)(h3:y'.at_=y.at_):RI s y' o:=⟨fun e=>by rw[h1];exact h.no e,fun l e=>by rw[h1,h2];exact h.yes l e,fun e=>by rw[h1,h2];exact h.at1 (h3▸e)⟩
theorem RI.msg(h:RI s y o)(h1:y.h1=1):∃l,o=some l∧y.w1=l:=by
 cases o with
 | none=>have:=h.no rfl;omega
 | some l=>
  rcases h.yes l rfl with⟨_,h2⟩ | ⟨h2,_⟩
  ·exact⟨l,rfl,h2⟩
  ·omega
theorem aIj{l:List Int}{st:Int}(h1:y.h1=1)(h2:y.w1=l)(dV:y.at_≠1)(hn:NR st↔NR (dH s l).1)(hs: -100≤st∧st≤0):RI s (tQ s x y 1 st) (some l):=by
 refine⟨(fun e=>by cases e),fun l' e=>?_,fun e=>absurd e dV⟩;obtain rfl:=Option.some.inj e;refine .inr ⟨rfl,st,if st=0 then nM s x l else[],?_,hn,hs⟩
 show Dx s x (iQ y 1) st=_
 unfold Dx
 show y.w1.headD 0::_::(if st=0 then nM s x y.w1 else[])=_
 rw[h2]
theorem RI.aEW(h:RI s y o)(st:Int):RI s (tQ s x y 0 st) o:=h.same rfl rfl rfl
theorem RI.step(hm:s.made)(hf:nI s y)(h:RI s y o):RI s (tN s x y).1 o:=by
 unfold tN;dsimp only
 have aGC:∀(y':cI) (a:Nat) (r:aS×Bool),RI s y' o→y'.at_=(a:Int)→a < 2→RI s (Bj s y' r) o:=fun y' a r h' dV ha=>by
  unfold Bj;split
  ·rw[dV,Int.toNat_natCast];obtain rfl | rfl:a=0∨a=1:=by omega
   ·have:RI s {y' with at_:= -1} o:=⟨h'.no,h'.yes,fun e=>absurd (show(-1:Int)=1 from e) (by decide)⟩
    exact this.aEW 0
   ·obtain⟨l,ho,k1,k2,k3⟩:=h'.at1 (by rw[dV];rfl);subst ho;exact aIj (y:={y' with at_:= -1}) k1 k2 (show(-1:Int)≠1 by decide) ⟨fun h=>absurd h (by decide),fun h=>absurd h k3⟩ (by decide)
  ·exact h'
 rcases hf.at_ with dV | ⟨a,dV,ha,_⟩
 ·have hlt:y.at_ < 0:=by omega
  cases hn:qJ y with
  | none=>
   have ht:lN s x y=(y,false):=by unfold lN;rw[hn]
   rw[ht,if_pos ⟨hlt,rfl⟩];exact h
  | some a =>
   have ha:=aBS hf.fm.la hn
   have sN:wY y a=1:=by
    unfold qJ at hn;split at hn
    ·cases hn;assumption
    ·split at hn
     ·cases hn;assumption
     ·cases hn
   have ht:lN s x y=qF s x y a:=by unfold lN;rw[hn]
   rw[ht]
   by_cases hd:(eT s x y a).2.1=0
   ·have e:qF s x y a=(tQ s x {y with last:=a} a (eT s x y a).1,false):=by
     unfold qF;dsimp only;rw[if_pos hd]
    rw[e,if_pos ⟨hlt,rfl⟩]
    have h':RI s {y with last:=(a:Int)} o:=h.same rfl rfl rfl
    obtain rfl | rfl:a=0∨a=1:=by omega
    ·exact h'.aEW _
    ·obtain⟨l,rfl,hl⟩:=h.msg sN;refine aIj (y:={y with last:=((1:Nat):Int)}) sN hl (by show y.at_≠1;omega) ?_ (aP0 _ _ _ _ _ _)
     have:=aBP s y.x y.y (kW s x) 1 (iQ y 1)
     rw[show iQ y 1=l from hl] at this;unfold eT;rw[show iQ y 1=l from hl];exact this
   ·have e:qF s x y a=({y with last:=a,x:=lD y.x a (eT s x y a).2.1 (eT s x y a).2.2,y:=lC y.y a (eT s x y a).2.1 (eT s x y a).2.2,at_:=a,kind:=(eT s x y a).2.1,id:=(eT s x y a).2.2},true):=by
     unfold qF;dsimp only;rw[if_neg hd]
    rw[e,if_neg (by simp),if_pos hlt];dsimp only;refine aGC _ a _ ⟨h.no,h.yes,fun e1=>?_⟩ rfl ha
    have e1:(a:Int)=1:=e1
    obtain rfl:a=1:=by omega
    obtain⟨l,rfl,hl⟩:=h.msg sN;refine⟨l,rfl,sN,hl,?_⟩
    have h3:=aBP s y.x y.y (kW s x) 1 l
    have h0:(jO s y.x y.y (kW s x) 1 l).1=0:=by
     have hd:(jO s y.x y.y (kW s x) 1 (iQ y 1)).2.1≠0:=hd
     rw[show iQ y 1=l from hl] at hd;exact aP1 hd
    rw[h0] at h3;intro hc;exact absurd (h3.2 hc) (by decide)
 ·have hlt:¬y.at_ < 0:=by omega
  rw[if_neg (fun hh=>hlt hh.1),if_neg hlt];exact aGC y a _ h dV ha
def uW(s:aC)(o:Option (List Int))(e:jD):Option (Option (List Int)):=
 if e.kind=115 then(match o with | none=>some (some e.words) | some _=>none)
 else if e.kind=114 then(match o with | some l=>if 2≤e.words.length∧e.words.headD 0=l.headD 0∧(NR (IntKind.i32.wrap (e.words.getD 1 0))↔NR (dH s l).1) then some none else none | none=>none)
 else some o
def qG(s:aC):Option (List Int)→List jD→Option (Option (List Int))
 | o,[]=>some o
 | o,e::es=>(uW s o e).bind fun o'=>qG s o' es
theorem Nt:∀(a b:List jD) (o:Option (List Int)),qG s o (a++b)=(qG s o a).bind fun o'=>qG s o' b
 | [],b,o=>rfl
 | e::a,b,o=>by
  show(uW s o e).bind (fun o'=>qG s o' (a++b))=((uW s o e).bind fun o'=>qG s o' a).bind _
  cases uW s o e with
  | none=>rfl
  | some o'=>exact Nt a b o'
theorem aEM:∀(b:List jD) (o:Option (List Int)),(∀e∈b,e.kind≠115∧e.kind≠114)→qG s o b=some o
 | [],o,_=>rfl
 | e::b,o,h=>by
  have h1:=h e (by simp)
  show(uW s o e).bind (fun o'=>qG s o' b)=some o
  rw[show uW s o e=some o by unfold uW;rw[if_neg h1.1,if_neg h1.2]];exact aEM b o fun e' he=>h e' (List.mem_cons_of_mem _ he)
def RW(s:aC)(w:aX):Prop:=∃o,qG s none w.es=some o∧RI s w.m.y o
theorem RW.more{w:aX}{m':kL}{cl':Nat→Nb}{wt':Nat→Bool}{b:List jD}(h:RW s w)(hy:∀o,RI s w.m.y o→RI s m'.y o)(hb:∀e∈b,e.kind≠115∧e.kind≠114):RW s ⟨m',cl',wt',w.es++b⟩:=by
 obtain⟨o,h1,h2⟩:=h;refine⟨o,?_,hy o h2⟩
 show qG s none (w.es++b)=_
 rw[Nt,h1];exact aEM b o hb
theorem RW.keep{w:aX}{m':kL}{cl':Nat→Nb}{wt':Nat→Bool}(h:RW s w)(hy:∀o,RI s w.m.y o→RI s m'.y o):RW s ⟨m',cl',wt',w.es⟩:=by
 obtain⟨o,h1,h2⟩:=h;exact⟨o,h1,hy o h2⟩
theorem RW.end_{w:aX}(h:RW s w)(t:Int):RW s (w.end_ t):=by
 unfold aX.end_;split
 ·exact h.more (fun _ h=>h) (fun e he=>by rw[List.mem_singleton] at he;subst he;exact⟨show(101:Int)≠115 by decide,show(101:Int)≠114 by decide⟩)
 ·exact h.keep fun _ h=>h
theorem aJI(s:aC)(z:bM)(y:cI)(x:aS)(t:Int):∀o,RI s y o→RI s (Ci s z y x t).2.1 o:=fun o h=>by
 have hr:RI s (kM y 0) o:=by
  unfold kM;rw[if_pos rfl];split<;>exact h.same rfl rfl rfl
 have hs:∀l,RI s (iG y 0 l).2 o:=fun l=>by
  unfold iG;rw[if_neg (by decide),if_pos rfl];split<;>exact h.same rfl rfl rfl
 unfold Ci;split
 ·exact h
 ·split
  ·split<;>exact h
  ·split
   ·split
    ·unfold rJ;split
     ·split<;>exact hr
     ·split
      ·exact h
      ·split<;>exact hs _
    ·exact h
   ·exact h
theorem RW.task{w:aX}(h:RW s w)(t:Int):RW s (w.task s t):=by
 refine RW.end_ ?_ t
 have hy:=aJI s w.m.z w.m.y w.m.x t
 unfold aX.pO;split
 ·exact h.more hy (fun e he=>by rw[List.mem_singleton] at he;subst he;exact⟨show(98:Int)≠115 by decide,show(98:Int)≠114 by decide⟩)
 ·exact h.keep hy
theorem RW.dZ{w:aX}(hm:s.made)(hf:nI s w.m.y)(h:RW s w):RW s (w.dZ s):=h.keep fun _ h=>h.step hm hf
theorem RW.tick{w:aX}(h:RW s w)(bF:Int):RW s (w.tick s bF):=by
 refine RW.end_ (RW.end_ (RW.end_ ?_ 0) 1) 2
 exact h.more (fun _ h=>h) (fun e he=>by
  obtain⟨a,_,rfl⟩:=List.mem_map.1 he
  exact⟨show(100:Int)≠115 by decide,show(100:Int)≠114 by decide⟩)
theorem RW.send{w:aX}(h:RW s w)(l:List Int):RW s (w.send l).2:=by
 obtain⟨o,h1,h2⟩:=h;unfold aX.send;dsimp only;split
 ·rename_i he
  have:(iG w.m.y 1 l).2=w.m.y:=by
   unfold iG at he⊢;rw[if_neg (by decide),if_neg (by decide)] at he⊢;split at he
   ·rename_i hh;rw[if_pos hh]
   ·exact absurd rfl he
  refine⟨o,h1,?_⟩
  show RI s (iG w.m.y 1 l).2 o
  rw[this];exact h2
 ·rename_i he
  have hs:w.m.y.h1=0∧(iG w.m.y 1 l).2={w.m.y with h1:=1,w1:=l}:=by
   unfold iG at he⊢;rw[if_neg (by decide),if_neg (by decide)] at he⊢;split at he
   ·exact absurd (by simp) he
   ·rename_i hh
    rw[if_neg hh];exact⟨Classical.byContradiction hh,rfl⟩
  cases o with
  | some l'=>
   rcases h2.yes l' rfl with⟨h3,_⟩ | ⟨h3,_⟩<;>omega
  | none =>
   refine⟨some l,?_,?_⟩
   ·show qG s none (w.es++[_])=_
    rw[Nt,h1];rfl
   ·show RI s (iG w.m.y 1 l).2 (some l)
    rw[hs.2];refine⟨(fun e=>by cases e),fun l' e=>.inl ⟨rfl,Option.some.inj e⟩,fun e=>?_⟩;obtain⟨l',h3,_⟩:=h2.at1 e;cases h3
theorem RW.take{w:aX}(h:RW s w):RW s w.take:=by
 obtain⟨o,h1,h2⟩:=h
 have hread:lP w.m.y 1=if w.m.y.h1=2 then some w.m.y.w1 else none:=by
  unfold lP;rw[if_neg (by decide),if_pos rfl]
 have hz:kM w.m.y 1=if w.m.y.h1=2 then {w.m.y with h1:=0,w1:=[]} else w.m.y:=by
  unfold kM;rw[if_neg (by decide),if_pos rfl]
 unfold aX.take;rw[hread,hz]
 by_cases h2':w.m.y.h1=2
 ·rw [if_pos h2', if_pos h2'];dsimp only;cases o with
  | none=>have:=h2.no rfl;omega
  | some l =>
   rcases h2.yes l rfl with⟨h3,_⟩ | ⟨_,st,r,h3,h4,h5,h6⟩
   ·omega
   refine⟨none,?_,fun _=>rfl,(fun _ e=>by cases e),fun e=>?_⟩
   ·show qG s none (w.es++[_])=_
    rw[Nt,h1]
    have hw:IntKind.i32.wrap (IntKind.u32.wrap st)=st:=by
     simp[IntKind.wrap,IntKind.signed,IntKind.bits];split<;>omega
    show(uW s (some l) {Lx with kind:=114,words:=w.m.y.w1}).bind (fun o'=>some o')=_
    unfold uW;rw[if_neg (show ¬(114:Int)=115 by decide),if_pos rfl];dsimp only;rw[h3,if_pos ⟨by simp,rfl,by simp only[List.getD_cons_succ,List.getD_cons_zero,hw];exact h4⟩];rfl
   ·obtain⟨l',_,h7,_⟩:=h2.at1 e;omega
 ·rw[if_neg h2',if_neg h2'];exact⟨o,h1,h2⟩
theorem RW.nF{w:aX}(hm:s.made)(hf:nI s w.m.y)(h:RW s w)(p:Ec):RW s (w.nF s p).2:=by
 unfold aX.nF;split
 ·unfold aX.call;dsimp only;split<;>exact h.keep fun _ h=>h
 ·split
  ·exact h.task _
  ·split
   ·exact h.dZ hm hf
   ·split
    ·exact h.tick _
    ·split
     ·exact h.send _
     ·split
      ·exact h.take
      ·exact h
theorem rw0:RW s (Jw s):=⟨none,rfl,fun _=>rfl,(fun _ e=>by cases e),fun e=>absurd (show(-1:Int)=1 from e) (by decide)⟩
theorem RW.round{w:aX}{n:Nat}(hm:s.made)(hw:iB s n w)(h:RW s w)(bF:Int):RW s (w.round s bF):=by
 have w3:=((hw.task hm 0).task hm 1).task hm 2
 exact((((h.task 0).task 1).task 2).dZ hm w3.m.fw).tick bF
theorem aEF(hm:s.made){eL:List gL}(ha:∀a∈eL,a.ok):∀k,k≤eL.length→iB s (k*4) (runN s eL k)∧RW s (runN s eL k)
 | 0,_=>⟨Yg hm,rw0⟩
 | k+1,hk=>by
  obtain⟨h1,h2⟩:=aEF hm ha k (by omega);obtain⟨a,dV⟩:=get_some (l:=eL) (i:=k) (by omega)
  have hao:=ha a (List.mem_of_getElem? dV)
  rw[aB6 dV];refine⟨(aH3 hm h1 hao).le (by omega),?_⟩;unfold Rb;split
  ·exact h2.round hm h1 _
  ·exact h2.nF hm h1.m.fw _
end
end
section
theorem aK1{s:aC}{es:List jD}{z st:Option (List Int)}{i:Nat}{e:jD}(h:qG s none es=some z)(he:es[i]? =some e)(hi:qG s none (es.take i)=some st):∃st',uW s st e=some st'∧qG s none (es.take (i+1))=some st':=by
 have h1:es.take (i+1)=es.take i++[e]:=by rw[List.take_add_one,he];rfl
 have h2:qG s none (es.take (i+1))=uW s st e:=by
  rw[h1,Nt,hi]
  show(uW s st e).bind (fun c'=>some c')=_
  cases uW s st e<;>rfl
 rw[←List.take_append_drop (i+1) es,Nt] at h;cases hq:qG s none (es.take (i+1)) with
 | none=>rw[hq] at h;cases h
 | some st'=>exact⟨st',h2.symm.trans hq,rfl⟩
structure RpX where
 o:Option (List Int)
 A:Option Addr
 c:Nat
 l:List Int
theorem aIZ(A:Option Addr)(n c:Nat)(zs:List Int)(B:Option Addr)(nb cb:Nat)(eL:List gL)(w:World)(h0:aI (all w) 1 A n (aM zs))(hz:aBe zs)(hn:n=zs.length)(hn2:n≤9223372036854775807)(h1:aI (all w) 12 B nb (eL.flatMap gL.cells))(hac:∀a∈eL,a.ok)(hnb:nb=eL.length)(aNe:nb≤2000000)(dD:eS (all w)):
  Cz 3 #[.slice A n c,.slice B nb cb] w (Rt (.bool true) w):=by
 subst hnb
 have hLw:∀{w1:World} {R:List Piece} {H:List HP},St w R H w1→all w∈R→eS (all w1):=fun t h=>eS.le dD (t.le h)
 refine aN func3 ntmps3 ?_;refine aB ?_;refine aU (fun w1 t=>aJP w1 (hLw t (by simp))) ?_;refine aB ?_;refine jN [] (fun v w w'=>∃cs s,v=.agg cs∧uN (fJ (fresh w w')) s cs∧s.made) (fun w1 t=>aPU A n c zs w1 (h0.le (t.le (by simp))) hz hn hn2) ?_;rintro _ wc q0 ⟨cs,s,rfl,hS,hm⟩ hf _ _;obtain⟨A1,n1,k1,A2,n2,k2,A3,n3,k3,A4,n4,k4,rfl,hQ⟩:=uN.Q (hS.mono (kE hf));clear hf hS;refine bX fun gS=>?_;refine aB ?_;obtain⟨rfl,rfl,rfl,rfl⟩:=hQ.len
 have hP:qA q0 s A1 _ A2 _ A3 _ A4 _:=⟨hQ.sU,hQ.dom,hQ.yI,hQ.dev⟩
 refine eX (aId s (runN s eL eL.length)) (fun w1 t=>aKu s A1 A2 A3 A4 _ k1 _ k2 _ k3 _ k4 B cb eL w1 (hQ.W (t.le (by simp)) (Zq hm)) hm (h1.le (t.le (by simp))) hac aNe (hLw t (by simp))) ?_;rintro _ _ q1 ⟨g1,f1,r1,hL1,rfl,rfl,aSv⟩ _;dsimp only[List.cons_append,List.nil_append];refine vK (R':=[q0,all w]) (by simp) ?_;refine aB ?_;refine aG rfl (fun hg=>?_) (fun hg=>?_)
 ·refine aB ?_;exact dI
 refine aB ?_;obtain⟨hok,o9,hne,_⟩:=aEF hm hac eL.length (Nat.le_refl _)
 have hel:=hok.es
 have Ia:=hok.wd
 obtain⟨W,hW⟩:∃W,runN s eL eL.length=W:=⟨_,rfl⟩
 rw[hW] at hne hel Ia⊢
 refine eX (aDN W.es) (fun w1 t=>by
  obtain⟨L,hr⟩:=t.wdR 0 rfl
  exact aEq g1 L _ w1 (by omega) (fun e he=>(Ia e he).2) hr) ?_
 rintro _ _ q3 ⟨Av,cv,rows,rfl,rfl,hs,hz⟩ _;dsimp only[List.nil_append];obtain⟨es,hes⟩:∃es,W.es=es:=⟨_,rfl⟩
 rw[hes] at hs hz hne hel Ia⊢;clear hW hes;refine aT [1] rfl (by decide) (R':=[q3,q0,all w]) (by simp) ?_
 have hlr:=(Rows.len hz).1
 refine aB ?_;refine tA (α:=Unit) (fun _=>[]) (fun _=>[]) (fun _=>True) ?_ fun _ _=>?_
 ·refine rK (α:=RpX) (fun i x=>[(11,iv i),(9,.bool x.o.isSome),(10,.slice x.A x.l.length x.c),(8,.slice Av es.length cv),(6,pt gS)]) (fun _ x=>[HP.aE gS 30 [.slice A1 s.aF.length k1,.slice A2 s.domains.length k2,.slice A3 s.bA.length k3,.slice A4 s.aD.length k4]]) (fun i x=>qG s none (es.take i)=some x.o∧(∀l,x.o=some l→l=x.l)∧aI q3 1 x.A x.l.length (dY x.l)∧mW x.l∧x.l.length≤1000000) es.length ⟨none,none,0,[]⟩ ⟨rfl,(fun _ h=>by cases h),aI.nil _ _,(fun _ h=>by cases h),Nat.zero_le _⟩ fun i x hi hx=>?_;obtain⟨o,B1,d1,l1⟩:=x;obtain⟨hst,fA,lJ,mO,lM⟩:=hx;dsimp only at hst fA lJ mO lM⊢;refine aB ?_;refine aG rfl (fun hlt=>?_) (fun hge=>?_)
  ·have hlt:i < es.length:=by omega
   obtain⟨ro,hro⟩:=get_some (l:=rows) (i:=i) (by omega);obtain⟨e,he,_,Aw,cw,rfl,rB⟩:=Rows.at_ hz hro;obtain⟨st',pT,Pb⟩:=aK1 hne he hst;obtain⟨hue,hwe⟩:=Ia e (List.mem_of_getElem? he);obtain⟨b,off,rfl,fG,hc⟩:=aI.tP hs (Rows.Mg hz) hro hlt;obtain⟨e1,e2,e3,e7,e8,e9,e13,e14⟩:=e;refine Mk (Rd.ro (p:=q3) (by simp) fG (hc 0 _ rfl)) fun d0=>?_;refine Mk (Rd.ro (p:=q3) (by simp) fG (hc 13 _ rfl)) fun d13=>?_;unfold uW at pT;dsimp only at pT hue hwe rB;refine aB ?_;refine aG rfl (fun hk=>?_) (fun hk=>?_)
   ·rw[if_pos hk] at pT;cases o with
    | some q=>cases pT
    | none=>
     cases pT;dsimp only[Option.isSome];refine aB ?_;refine aG rfl (fun h=>absurd (show e1=114 from h) (by omega)) (fun _=>?_);refine aB ?_;exact jW ⟨some e14,Aw,cw,e14⟩ (hg:=⟨Pb,(fun l h=>by cases h;rfl),rB,hue,hwe⟩)
   rw[if_neg hk] at pT;refine aB ?_;refine aG rfl (fun hk=>?_) (fun hk=>?_)
   ·rw [if_pos hk] at pT;cases o with
    | none=>cases pT
    | some l =>
     obtain rfl:=fA l rfl;dsimp only at pT;split at pT
     ·rename_i ht
      cases pT;obtain⟨oU,nV,ht3⟩:=ht
      obtain⟨x0,xs,rfl⟩:∃x r,e14=x::r:=by
       cases e14 with
       | nil=>exact absurd oU (by decide)
       | cons x r=>exact⟨x,r,rfl⟩
      obtain⟨x1,xs,rfl⟩:∃x r,xs=x::r:=by
       cases xs with
       | nil=>exact absurd oU (by simp)
       | cons x r=>exact⟨x,r,rfl⟩
      have nV:x0=l.headD 0:=nV
      have ht3:NR (IntKind.i32.wrap x1)↔NR (dH s l).1:=ht3
      obtain⟨bw,ow,rfl,hzw,hcw⟩:=rB.2 (by simp);refine Mk (Rd.ro (p:=q3) (b:=bw) (o:=ow+0) (by simp) hzw (hcw 0 _ rfl)) fun dw=>?_;dsimp only[Option.isSome];refine aB ?_;refine cZ (fun w1 t=>aEz _ _ _ (x0::x1::xs) x1 w1 (aI.le rB (t.le (by simp))) rfl oU rfl) ?_;obtain⟨⟨u,k,id⟩,hd⟩:∃d,jO s (fI s) (fI s) [] 1 l=d:=⟨_,rfl⟩
      have gF:=aBP s (fI s) (fI s) [] 1 l
      rw[hd] at gF;dsimp only at gF
      have hns:=ht3.trans gF.symm
      obtain⟨ts,hts⟩:∃ts,IntKind.i32.wrap x1=ts:=⟨_,rfl⟩
      rw[hts] at hns⊢;clear gF ht3 hts;refine aB ?_;refine Jf (α:=Unit) (fun _=>[(14,.int .u32 (l.headD 0)),(13,iv 0),(12,.int .i32 ts),(11,iv i),(9,.bool true),(10,.slice B1 l.length d1),(8,.slice (some ⟨b,off,none⟩) es.length cv),(6,pt gS)]) (fun _=>[HP.aE gS 30 [.slice A1 s.aF.length k1,.slice A2 s.domains.length k2,.slice A3 s.bA.length k3,.slice A4 s.aD.length k4]]) (fun _=>True) ?_ fun _ _=>?_
      ·cases l with
       | nil=>
        refine aG rfl (fun h=>absurd h (by decide)) (fun _=>?_);refine aB ?_;exact dG ()
       | cons y0 ys=>
        refine aG rfl (fun _=>?_) (fun h=>absurd (show(0:Int) < ((y0::ys).length:Int) by simp only[List.length_cons];omega) h);obtain⟨bs,os,rfl,hzs,hcs⟩:=lJ.2 (by simp);refine Mk (Rd.ro (p:=q3) (b:=bs) (o:=os+0) (by simp) hzs (hcs 0 _ rfl)) fun ds=>?_;refine aB ?_;exact dG ()
      refine aB ?_;refine kd (dat 0 (ow+0) (hlt:=Nat.succ_pos _)) ?_;refine aB ?_;refine aG rfl (fun h=>absurd nV h) (fun _=>?_);refine aB ?_;refine Jf (α:=Unit) (fun _=>[(15,.int .i32 u),(12,.int .i32 ts),(11,iv i),(9,.bool false),(10,.slice B1 l.length d1),(8,.slice (some ⟨b,off,none⟩) es.length cv),(6,pt gS)]) (fun _=>[HP.aE gS 30 [.slice A1 s.aF.length k1,.slice A2 s.domains.length k2,.slice A3 s.bA.length k3,.slice A4 s.aD.length k4]]) (fun _=>True) ?_ fun _ _=>?_
      ·refine aDx ?_;refine vM 2 8 rfl rfl (by kernel_rfl) ?_ ?_
       ·refine jN [] (fun v w w'=>nS (fresh w w') (fI s) (fI s) v) (fun w1 t=>aB0 s A1 A2 A3 A4 k1 k2 k3 k4 w1 hm.qH) ?_;rintro _ w4 q4 hS4 hf4 _ _;obtain⟨X1,j1,X2,j2,X3,j3,Y1,l1,Y2,l2,Y3,l3,rfl,c1,c2,c3,c4,c5,c6⟩:=nS.le hS4 hf4;refine aZ ?_ (hS:=fun _ h=>h.aY);refine vM 4 8 rfl rfl (by kernel_rfl) ?_ ?_
        ·refine aU (v:=Rc (u,k,id)) (fun w2 t=>by
          have:=aAz q0 q4 s A1 A2 A3 A4 _ k1 _ k2 _ k3 _ k4 X1 X2 X3 Y1 Y2 Y3 _ j1 _ j2 _ j3 _ l1 _ l2 _ l3 (fI s) (fI s) none 0 0 [] 1 B1 l.length d1 l w2 hP hm.qH (t.le (by simp)) ⟨_,_,_,_,_,_,_,_,_,_,_,_,rfl,c1,c2,c3,c4,c5,c6⟩ (t.le (by simp)) (aI.nil _ _) rfl (by decide) (lJ.le (t.le (by simp))) rfl lM mO
          rw[hd] at this
          exact this) ?_
         refine aZ ?_ (hS:=fun _ h=>h.aY);refine bJ 5 ?_;refine kU 6 ?_;refine kU 7 ?_;refine aL 8 ?_;refine bX fun g7=>?_;refine aZ ?_ (hS:=fun _ h=>h.aY.tail);refine aL 9 ?_;refine bE ?_;refine aZ ?_ (hS:=fun _ h=>h.aY.tail);refine aL 10 ?_;refine kO 0 rfl ?_;dsimp only[List.set];refine cE ?_;refine dW ?_;refine eB ?_;exact dG ()
        ·refine bX fun g7=>?_;refine aZ ?_ (hS:=fun _ h=>h.aY.tail);refine aL 4 ?_
         refine aU (v:=Rc (u,k,id)) (fun w2 t=>by
          have:=aAz q0 q4 s A1 A2 A3 A4 _ k1 _ k2 _ k3 _ k4 X1 X2 X3 Y1 Y2 Y3 _ j1 _ j2 _ j3 _ l1 _ l2 _ l3 (fI s) (fI s) none 0 0 [] 1 B1 l.length d1 l w2 hP hm.qH (t.le (by simp)) ⟨_,_,_,_,_,_,_,_,_,_,_,_,rfl,c1,c2,c3,c4,c5,c6⟩ (t.le (by simp)) (aI.nil _ _) rfl (by decide) (lJ.le (t.le (by simp))) rfl lM mO
          rw[hd] at this
          exact this) ?_
         refine aZ ?_ (hS:=fun _ h=>h.aY.tail);refine bJ 5 ?_;refine kU 6 ?_;refine kU 7 ?_;refine aL 9 ?_;refine bE ?_;refine aZ ?_ (hS:=fun _ h=>h.aY.tail);refine aL 10 ?_;refine kO 0 rfl ?_;dsimp only[List.set];refine cE ?_;refine dW ?_;refine eB ?_;exact dG ()
       ·refine bX fun g7=>?_;refine aZ ?_ (hS:=fun _ h=>h.tail);refine aL 2 ?_;refine jN [] (fun v w w'=>nS (fresh w w') (fI s) (fI s) v) (fun w1 t=>aB0 s A1 A2 A3 A4 k1 k2 k3 k4 w1 hm.qH) ?_;rintro _ w4 q4 hS4 hf4 _ _;obtain⟨X1,j1,X2,j2,X3,j3,Y1,l1,Y2,l2,Y3,l3,rfl,c1,c2,c3,c4,c5,c6⟩:=nS.le hS4 hf4;refine aZ ?_ (hS:=fun _ h=>h.aY.tail);refine aL 4 ?_
        refine aU (v:=Rc (u,k,id)) (fun w2 t=>by
         have:=aAz q0 q4 s A1 A2 A3 A4 _ k1 _ k2 _ k3 _ k4 X1 X2 X3 Y1 Y2 Y3 _ j1 _ j2 _ j3 _ l1 _ l2 _ l3 (fI s) (fI s) none 0 0 [] 1 B1 l.length d1 l w2 hP hm.qH (t.le (by simp)) ⟨_,_,_,_,_,_,_,_,_,_,_,_,rfl,c1,c2,c3,c4,c5,c6⟩ (t.le (by simp)) (aI.nil _ _) rfl (by decide) (lJ.le (t.le (by simp))) rfl lM mO
         rw[hd] at this
         exact this) ?_
        refine aZ ?_ (hS:=fun _ h=>h.aY.tail);refine bJ 5 ?_;refine kU 6 ?_;refine kU 7 ?_;refine aL 9 ?_;refine bE ?_;refine aZ ?_ (hS:=fun _ h=>h.aY.tail);refine aL 10 ?_;refine kO 0 rfl ?_;dsimp only[List.set];refine cE ?_;refine dW ?_;refine eB ?_;exact dG ()
      refine aB ?_
      by_cases hu:NR u
      ·have Cu:=hns.2 hu
       rcases hu with rfl | rfl | rfl | rfl<;>rcases Cu with rfl | rfl | rfl | rfl
       all_goals refine aB ?_
       all_goals first | exact jW ⟨none,B1,d1,l⟩ (hg:=⟨Pb,(fun _ h=>by cases h),lJ,mO,lM⟩) | (refine aG (p:=¬true=decide ((-2:Int)= -2)) rfl (fun h=>absurd rfl h) (fun _=>?_);refine aB ?_;exact jW ⟨none,B1,d1,l⟩ (hg:=⟨Pb,(fun _ h=>by cases h),lJ,mO,lM⟩)) | (refine aG rfl (fun h=>absurd h (by decide)) (fun _=>?_);refine aB ?_;exact jW ⟨none,B1,d1,l⟩ (hg:=⟨Pb,(fun _ h=>by cases h),lJ,mO,lM⟩))
      ·have Cu:¬NR ts:=fun h=>hu (hns.1 h)
       refine bT (t:=107) rfl (fun h=>absurd (.inl h) hu) (fun _=>?_);refine aB ?_;refine bT (t:=111) rfl (fun h=>absurd (.inr (.inl h)) hu) (fun _=>?_);refine aB ?_;refine bT (t:=115) rfl (fun h=>absurd (.inr (.inr (.inl h))) hu) (fun _=>?_);refine aB ?_;refine bT (t:=118) rfl (fun h=>absurd (.inr (.inr (.inr h))) hu) (fun _=>?_);refine bT (t:=121) rfl (fun h=>absurd (.inl h) Cu) (fun _=>?_);refine aB ?_;refine bT (t:=125) rfl (fun h=>absurd (.inr (.inl h)) Cu) (fun _=>?_);refine aB ?_;refine bT (t:=129) rfl (fun h=>absurd (.inr (.inr (.inl h))) Cu) (fun _=>?_);refine aB ?_;refine aG rfl (fun h=>absurd (decide_eq_false (fun h'=>Cu (.inr (.inr (.inr h'))))).symm h) (fun _=>?_);refine aB ?_;exact jW ⟨none,B1,d1,l⟩ (hg:=⟨Pb,(fun _ h=>by cases h),lJ,mO,lM⟩)
     ·cases pT
   rw[if_neg hk] at pT;cases pT;refine aB ?_;exact jW ⟨o,B1,d1,l1⟩ (hg:=⟨Pb,fA,lJ,mO,lM⟩)
  ·obtain rfl:i=es.length:=by omega
   refine aB ?_;exact dG ()
 refine aB ?_;exact dI
end
section
section
variable{H:Type}{enc:TypeId×Value→H}{w:World}{fuel:Nat}{cs:List Value}{x:DataW H×List MemPlace}
theorem wO{α:Type}{l:List α}{n i:Nat}(h:l.length=n)(hi:i < n):∃y,l[i]? =some y:=⟨l[i]'(by omega),List.getElem?_eq_getElem _⟩
theorem aQ4{a:Int}(h:(Lit.int .u32 a).wf=true):0≤a∧a < 4294967296:=by
 simp[Lit.wf,IntKind.min,IntKind.max,IntKind.signed,IntKind.bits] at h;omega
theorem aH6:Tryz.prog.cellsOf 74=12:=by kernel_rfl
theorem aH9:Tryz.prog.cellsOf 72=6:=by kernel_rfl
theorem aH8:Tryz.prog.cellsOf 3=1:=by kernel_rfl
theorem aH7:Tryz.prog.cellsOf 37=1:=by kernel_rfl
theorem aJ0{l:List Value}(h:l.length=12):∃a b c d e f g i j k m n,l=[a,b,c,d,e,f,g,i,j,k,m,n]:=by
 match l,h with
 | [a,b,c,d,e,f,g,i,j,k,m,n],_=>exact⟨a,b,c,d,e,f,g,i,j,k,m,n,rfl⟩
theorem aJO{l:List Value}(h:l.length=6):∃a b c d e f,l=[a,b,c,d,e,f]:=by
 match l,h with
 | [a,b,c,d,e,f],_=>exact⟨a,b,c,d,e,f,rfl⟩
theorem aQ7(h:DataW.trod enc Tryz.prog w 0 (fun _=>true) true fuel 72 cs=some x):
  ∃a b c d e f:Int,cs=[iv a,iv b,iv c,iv d,iv e,iv f]∧(-9223372036854775808≤b∧b≤9223372036854775807)∧(-9223372036854775808≤c∧c≤9223372036854775807)∧(-9223372036854775808≤d∧d≤9223372036854775807)∧(-9223372036854775808≤e∧e≤9223372036854775807)∧(-9223372036854775808≤f∧f≤9223372036854775807):=by
 obtain⟨xs,n,rfl,_,hl,hxl,hf⟩:=DataW.trod_struct Tryz.underlying72 h;rw[aH9] at hl;obtain⟨a,b,c,d,e,f,rfl⟩:=aJO hl
 have h0:=hf 0 _ rfl
 have h1:=hf 1 _ rfl
 have h2:=hf 2 _ rfl
 have h3:=hf 3 _ rfl
 have h4:=hf 4 _ rfl
 have h5:=hf 5 _ rfl
 simp only[List.getElem_toArray,List.getElem_cons_zero,List.getElem_cons_succ,List.drop_succ_cons,List.drop_zero,aH8,aH7,List.take_succ_cons,List.take_zero] at h0 h1 h2 h3 h4 h5;obtain⟨y0,e0⟩:=wO hxl (i:=0) (by simp);obtain⟨y1,e1⟩:=wO hxl (i:=1) (by simp);obtain⟨y2,e2⟩:=wO hxl (i:=2) (by simp);obtain⟨y3,e3⟩:=wO hxl (i:=3) (by simp);obtain⟨y4,e4⟩:=wO hxl (i:=4) (by simp);obtain⟨y5,e5⟩:=wO hxl (i:=5) (by simp);rw[e0] at h0;rw[e1] at h1;rw[e2] at h2;rw[e3] at h3;rw[e4] at h4;rw[e5] at h5;obtain⟨z0,g0,_,_⟩:=DataW.trod_int Tryz.underlying3 h0;obtain⟨z1,g1,_,w1⟩:=DataW.trod_int Tryz.underlying3 h1;obtain⟨z2,g2,_,w2⟩:=DataW.trod_int Tryz.underlying3 h2;obtain⟨z3,g3,_,w3⟩:=DataW.trod_int Tryz.underlying3 h3;obtain⟨z4,g4,_,w4⟩:=DataW.trod_int Tryz.underlying3 h4;obtain⟨z5,g5,_,w5⟩:=DataW.trod_int Tryz.underlying3 h5;simp at g0 g1 g2 g3 g4 g5;subst g0;subst g1;subst g2;subst g3;subst g4;subst g5;exact⟨_,_,_,_,_,_,rfl,Bp w1,Bp w2,Bp w3,Bp w4,Bp w5⟩
theorem aRe(h:DataW.trod enc Tryz.prog w 0 (fun _=>true) true fuel 74 cs=some x):∃v:gL,cs=v.cells∧v.ok:=by
 obtain⟨xs,n,rfl,_,hl,hxl,hf⟩:=DataW.trod_struct Tryz.underlying74 h;rw[aH6] at hl;obtain⟨a,b,c,d,e,f,g,i,j,k,m,n',rfl⟩:=aJ0 hl
 have h0:=hf 0 _ rfl
 have h1:=hf 1 _ rfl
 have h2:=hf 2 _ rfl
 have h3:=hf 3 _ rfl
 have h4:=hf 4 _ rfl
 have h5:=hf 5 _ rfl
 have h6:=hf 6 _ rfl
 simp only[List.getElem_toArray,List.getElem_cons_zero,List.getElem_cons_succ,List.drop_succ_cons,List.drop_zero,aH8,aH7,aH9,List.take_succ_cons,List.take_zero] at h0 h1 h2 h3 h4 h5 h6;obtain⟨y0,e0⟩:=wO hxl (i:=0) (by simp);obtain⟨y1,e1⟩:=wO hxl (i:=1) (by simp);obtain⟨y2,e2⟩:=wO hxl (i:=2) (by simp);obtain⟨y3,e3⟩:=wO hxl (i:=3) (by simp);obtain⟨y4,e4⟩:=wO hxl (i:=4) (by simp);obtain⟨y5,e5⟩:=wO hxl (i:=5) (by simp);obtain⟨y6,e6⟩:=wO hxl (i:=6) (by simp);rw[e0] at h0;rw[e1] at h1;rw[e2] at h2;rw[e3] at h3;rw[e4] at h4;rw[e5] at h5;rw[e6] at h6;obtain⟨z0,g0,_,w0⟩:=DataW.trod_int Tryz.underlying3 h0;obtain⟨z1,g1,_,w1⟩:=DataW.trod_int Tryz.underlying3 h1;obtain⟨z2,g2,_,w2⟩:=DataW.trod_int Tryz.underlying3 h2;obtain⟨z3,g3,_,w3⟩:=DataW.trod_int Tryz.underlying3 h3;obtain⟨z4,g4,_,w4⟩:=DataW.trod_int Tryz.underlying3 h4;obtain⟨z5,g5,_,w5⟩:=DataW.trod_int Tryz.underlying37 h5;obtain⟨q0,q1,q2,q3,q4,q5,g6,u1,u2,u3,u4,u5⟩:=aQ7 h6;simp at g0 g1 g2 g3 g4 g5 g6;obtain⟨rfl,rfl,rfl,rfl,rfl,rfl⟩:=g6;subst g0;subst g1;subst g2;subst g3;subst g4;subst g5;exact⟨⟨z0,z1,z2,z3,z4,z5,q0,q1,q2,q3,q4,q5⟩,rfl,Bp w0,Bp w1,Bp w2,Bp w3,Bp w4,aQ4 w5,u1,u2,u3,u4,u5⟩
open Go.ChangeShapes Go.WideShapes Go.ChangeAt in
set_option maxRecDepth 100000 in
theorem aLI{v:Value}{d:DataW H}{ps:List MemPlace}{base:Nat}(hval:Value.okWide Tryz.prog w .any base 23 v)(h:DataW.Trod enc Tryz.prog w 0 (fun _=>true) true 23 v d ps):
    ∃(A:Option Addr) (n c:Nat) (eL:List gL),v=.slice A n c∧Sl w w.heap.size 12 A n (eL.flatMap gL.cells)∧(∀a∈eL,a.ok)∧n=eL.length∧n≤9223372036854775807:=by
  obtain⟨a0,len,cap,rfl⟩:=okWide_slice Tryz.underlying23 hval;obtain⟨fuel,hf⟩:=h;obtain⟨A,n,c,ys,hcs,lJ,hn,hm,hR⟩:=aJN gL.cells gL.ok Tryz.underlying23 aH6 (by omega) gL.len (fun _ _ _ h=>aRe h) hf;simp[Value.cells] at hcs;obtain⟨rfl,rfl,rfl⟩:=hcs;subst hn;exact⟨_,_,_,ys,rfl,lJ,hR,rfl,hm⟩
end
end
section
theorem aQy{H:Type}(d:DataW H):1≤Rows.uptoBulk d:=by
 cases d with
 | lit l=>cases l<;>simp[Rows.uptoBulk]
 | _=>simp[Rows.uptoBulk]
theorem aQx{H:Type}{d:DataW H}{l:List (DataW H)}(h:d∈l):Rows.uptoBulk d≤Rows.uptoBulkAll l:=by
 induction l with
 | nil=>cases h
 | cons x r ih =>
  simp only[Rows.uptoBulkAll];rcases List.mem_cons.1 h with rfl | h
  ·omega
  ·have:=ih h
   omega
theorem aQz{H:Type}(l:List (DataW H)):l.length≤Rows.uptoBulkAll l:=by
 induction l with
 | nil=>exact Nat.zero_le _
 | cons x r ih=>
  have:=aQy x
  simp only[Rows.uptoBulkAll,List.length_cons];omega
open Go.ChangeShapes Go.WideShapes Go.ChangeAt in
theorem aQw{H:Type}{enc:TypeId×Value→H}{w:World}{t e:TypeId}{A:Option Addr}{n c:Nat}{d:DataW H}{ps:List MemPlace}(ht:Tryz.prog.underlying t=some (.slice e))(h:DataW.Trod enc Tryz.prog w 0 (fun _=>true) true t (.slice A n c) d ps):n≤Rows.uptoBulk d:=by
  obtain⟨fuel,hf⟩:=h;rcases DataW.trod_slice ht hf with⟨h0,_⟩ | ⟨a,len,cap,elems,rest,k,_,hcs,hx,_,_,_,hlen,_⟩
  · simp[Value.cells] at h0
    omega
  · simp[Value.cells] at hcs
    cases hx
    have:=aQz (elems.map (·.1))
    rw[List.length_map] at this;simp only[Rows.uptoBulk];omega
theorem aQ0{H:Type}{l:List (DataW H)}{d:DataW H}{n:Nat}(hk:Rows.uptoSmall H l=true)(hd:d∈l)(hn:n≤Rows.uptoBulk d):n≤1048576:=by
 have h1:Rows.uptoBulkAll l≤1048576:=of_decide_eq_true hk
 have:=aQx hd
 omega
end
end Go.Proofs.YtkgekojkboingaaGreatDoor
