/- package power: Down, Tick. -/
import Derived.Test.YtdcdccmpcmjmhaaGreatDoorRpmOneK3
namespace Go.Proofs.YtdcdccmpcmjmhaaGreatDoor
set_option linter.all false
open Go.RowKit
section
set_option maxHeartbeats 4000000
set_option maxRecDepth 20000
theorem aL2{s:aA}{st:List eZ}{d:Int}(h:∀(j:Nat) (c:Dom) (x:eZ),s.domains[j]? =some c→st[j]? =some x→Fo d c x=false):Fm s st d=false:=by
 unfold Fm
 rw[List.any_eq_false]
 intro b hb
 obtain⟨j,hj⟩:=List.getElem?_of_mem hb
 rw[List.getElem?_zipWith] at hj
 cases hc:s.domains[j]? with
 | none=>rw[hc] at hj;cases hj
 | some c =>
  cases hx:st[j]? with
  | none=>rw[hc,hx] at hj;cases hj
  | some x=>
   rw[hc,hx] at hj
   cases hj
   rw[h j c x hc hx]
   decide
theorem aL1{s:aA}{st:List eZ}{d:Int}{j:Nat}{c:Dom}{x:eZ}(hc:s.domains[j]? =some c)(hx:st[j]? =some x)(h:Fo d c x=true):Fm s st d=true:=by
 unfold Fm
 rw[List.any_eq_true]
 exact⟨Fo d c x,List.mem_of_getElem? (i:=j) (by rw[List.getElem?_zipWith,hc,hx]),h⟩
theorem aJi(L:GL)(s:aA)(st:List eZ)(hok:rA s st)(hnd:s.domains.length≤1000)(d:Int)(keep:Bool)(w:World)(F:Nat→Prop)(hp:(sL L s st).sat F w)(hF:∀b,F b→b < w.heap.size):
  Calls Tryz.prog 227 #[.pointer (some ⟨L.t,0,none⟩),iv d,.bool keep] w (fun y w'=>y=.returned (iv (uZ s st d keep).1)∧∃F',(sL L s (uZ s st d keep).2).sat F' w'∧aV w w' F F'):=by
 have hl:=hok.len
 cases hi:bE s.domains.length d
 ·have hr:uZ s st d keep=(4,st):=by simp[uZ,hl,hi]
  rw[hr]
  refine XK.bY Tryz.func227 Tryz.ntmps227 hp hF ?_
  refine XK.gw ?_
  refine aJ (fun w1 t=>aAz L.t s.domains.length L.c L.A d w1 ((t.aAp 0 rfl).r0) hi) ?_
  refine XK.gw ?_
  exact XK.rT 0 hF
 ·obtain⟨n,rfl⟩:∃n:Nat,d=n:=⟨d.toNat,by have:=of_decide_eq_true hi;omega⟩
  have hlt:n < s.domains.length:=by have:=of_decide_eq_true hi;omega
  obtain⟨c,hc⟩:=get_some hlt
  obtain⟨x,hx⟩:=get_some (l:=st) (i:=n) (by omega)
  obtain⟨fV,fU⟩:=Yj hok
  have hdn:uZ s st (n:Int) keep=if x.phase≠49 then(6,st) else if keep=true∧c.ret=false then(1,st) else if Fm s st n then(7,st) else(0,st.set n ⟨99,x.left,x.kept,keep⟩):=by
   simp[uZ,hl,hi,hc,hx]
  refine XK.bY Tryz.func227 Tryz.ntmps227 hp hF ?_
  refine XK.aA5 0 rfl (by omega) fun g cs hA h1 h2 h3 h4=>?_
  dsimp only[List.set]
  have hs:=Cw h2 fV fU (Fy hc hx)
  have hlen:n*7+7≤cs.length:=by omega
  have hs1:=hs.set 3 (.int .u8 99) (by simp[mP]) (by omega)
  have eL:=hs1.set 6 (.bool keep) (by simp[mP]) (by simp;omega)
  have hu2:=((sH.refl cs (n*7) 7).set 3 (.int .u8 99) (by decide)).set 6 (.bool keep) (by decide)
  have hf:=Ba (r':=mP c ⟨99,x.left,x.kept,keep⟩) h2 fV fU hlt (by omega) rfl eL hu2
  rw[aBC hc (by omega)] at hf
  refine XK.gw ?_
  refine aJ (fun w1 t=>aA0 L.t s.domains.length L.c g 0 n w1 ((t.box (i:=1) rfl).at_ (j:=0) rfl) hlt) ?_
  rw[Nat.zero_add]
  refine XK.gw ?_
  refine XK.if_ rfl (fun qL=>?_) (fun qL=>?_)
  ·rw[hdn,if_pos qL]
   refine XK.gw ?_
   refine XK.Dj 0 hA h1 h2 h3 h4 rfl ?_
   exact XK.rT 0 hF
  rw[if_neg qL] at hdn
  refine XK.skip ?_
  refine XK.norm ?_
  refine XK.seq ?_
  refine XK.Tq 27 (keep=true∧c.ret=false) ?_ ?_
  ·cases keep
   ·refine XK.go ?_
    exact XK.Lg
   ·refine XK.go ?_
    cases hrt:c.ret<;>exact XK.Lg
  refine XK.if_ rfl (fun hk=>?_) (fun hk=>?_)
  ·rw[hdn,if_pos hk]
   refine XK.gw ?_
   refine XK.Dj 0 hA h1 h2 h3 h4 rfl ?_
   exact XK.rT 0 hF
  rw[if_neg hk] at hdn
  refine XK.gw ?_
  refine XK.aT [(33,iv 0),(32,iv s.domains.length),(7,.pointer (some ⟨g,n*7,none⟩)),(2,.bool keep),(1,iv n),(0,.pointer (some ⟨L.t,0,none⟩))] ?_
  refine XK.loop (fun m e R H=>∃i:Nat,i≤s.domains.length∧(∀(j:Nat) (c:Dom) (x:eZ),j < i→s.domains[j]? =some c→st[j]? =some x→Fo n c x=false)∧m=s.domains.length - i∧e=[(33,iv i),(32,iv s.domains.length),(7,.pointer (some ⟨g,n*7,none⟩)),(2,.bool keep),(1,iv n),(0,.pointer (some ⟨L.t,0,none⟩))]∧R=[⟨w,fun b=>b < w.heap.size∧¬F b⟩]∧H=[HP.aB g 231 cs,HP.aB L.t 273 [.slice (some ⟨g,0,none⟩) s.domains.length L.c],HP.many [HP.emp,HP.emp]]) s.domains.length ⟨0,by omega,fun j _ _ hj=>by omega,rfl,rfl,rfl,rfl⟩ fun m e R H hI=>?_
  obtain⟨i,hi2,hno,rfl,rfl,rfl,rfl⟩:=hI
  refine XK.gw ?_
  refine XK.if_ rfl (fun rY=>?_) (fun hge=>?_)
  ·have rY:i < s.domains.length:=by omega
   obtain⟨ci,Ay⟩:=get_some rY
   obtain⟨xi,Wr⟩:=get_some (l:=st) (i:=i) (by omega)
   have hsi:=Cw h2 fV fU (Fy Ay Wr)
   clear hs1 eL
   refine XK.go ?_
   refine kd (dat i (i*7)) ?_
   refine XK.gw ?_
   refine aW (t:=47) rfl (fun ha=>?_) (fun ha=>?_)
   ·refine XK.go ?_
    refine kd (dat i (i*7)) ?_
    refine XK.gw ?_
    refine aJ (fun w1 t=>aDx g (i*7) xi.phase w1 ⟨(t.aB (i:=0) rfl).lt,Rd.sub 0 3 rfl hsi rfl rfl w1 t⟩) ?_
    refine XK.gw ?_
    refine XK.if_ rfl (fun hd=>?_) (fun hd=>?_)
    ·have hh:Fm s st n=true:=aL1 Ay Wr (by simp[Fo,ha,Nc];simpa using hd)
     rw[hdn,if_pos hh]
     refine XK.gw ?_
     refine XK.Dj 0 hA h1 h2 h3 h4 rfl ?_
     exact XK.rT 0 hF
    ·refine XK.gw ?_
     refine XK.aT [(33,iv (i+1:Nat)),(32,iv s.domains.length),(7,.pointer (some ⟨g,n*7,none⟩)),(2,.bool keep),(1,iv n),(0,.pointer (some ⟨L.t,0,none⟩))] ?_
     refine XK.round (s.domains.length - (i+1)) (by omega) ⟨i+1,rY,fun j c x hj Au Cd=>?_,rfl,rfl,rfl,rfl⟩
     rcases Nat.lt_or_ge j i with h | h
     ·exact hno j c x h Au Cd
     ·obtain rfl:j=i:=by omega
      rw[Ay] at Au;rw[Wr] at Cd
      cases Au;cases Cd
      have hd:=Classical.not_not.1 hd
      simp[Fo,Nc,hd]
   ·refine XK.gw ?_
    refine XK.aT [(33,iv (i+1:Nat)),(32,iv s.domains.length),(7,.pointer (some ⟨g,n*7,none⟩)),(2,.bool keep),(1,iv n),(0,.pointer (some ⟨L.t,0,none⟩))] ?_
    refine XK.round (s.domains.length - (i+1)) (by omega) ⟨i+1,rY,fun j c x hj Au Cd=>?_,rfl,rfl,rfl,rfl⟩
    rcases Nat.lt_or_ge j i with h | h
    ·exact hno j c x h Au Cd
    ·obtain rfl:j=i:=by omega
     rw[Ay] at Au;rw[Wr] at Cd
     cases Au;cases Cd
     simp[Fo,ha]
  ·obtain rfl:i=s.domains.length:=by omega
   have hh:Fm s st n=false:=aL2 fun j c x Au Cd=>hno j c x (List.getElem?_eq_some_iff.1 Au).1 Au Cd
   rw[hdn,if_neg (by rw[hh];decide)]
   refine XK.gw ?_
   refine XK.Dj 0 hA (by simpa using h1) hf h3 h4 rfl ?_
   exact XK.rT 0 hF
def lG(cs:List Value)(o:Nat)(x:eZ):List Value:=
 if x.phase=114 then(if 0 < x.left then cs.set (o+4) (iv (x.left - 1)) else cs.set (o+3) (.int .u8 104))
 else if x.phase=104 then cs.set (o+3) (.int .u8 49)
 else if x.phase=99 then cs.set (o+3) (.int .u8 (if x.keep then 116 else 48)) else cs
theorem aHe{cs:List Value}{o:Nat}{c:Dom}{x:eZ}(h:Sub cs o (mP c x))(hl:o+7≤cs.length):Sub (lG cs o x) o (mP c (gX x).2)∧sH cs (lG cs o x) o 7:=by
 have hu:=sH.refl cs o 7
 obtain⟨ph,left,kept,keep⟩:=x
 by_cases h1:ph=114
 ·subst h1
  by_cases h2:0 < left
  ·simp only[lG,gX,if_pos h2,if_true]
   exact⟨h.set 4 (iv (left - 1)) (by simp[mP]) (by omega),hu.set 4 _ (by decide)⟩
  ·simp only[lG,gX,if_neg h2,if_true]
   exact⟨h.set 3 (.int .u8 104) (by simp[mP]) (by omega),hu.set 3 _ (by decide)⟩
 ·by_cases h2:ph=104
  ·simp only[lG,gX,if_neg h1,if_pos h2]
   exact⟨h.set 3 (.int .u8 49) (by simp[mP]) (by omega),hu.set 3 _ (by decide)⟩
  ·by_cases h3:ph=99
   ·simp only[lG,gX,if_neg h1,if_neg h2,if_pos h3]
    cases keep
    ·exact⟨h.set 3 (.int .u8 48) (by simp[mP]) (by omega),hu.set 3 _ (by decide)⟩
    ·exact⟨h.set 3 (.int .u8 116) (by simp[mP]) (by omega),hu.set 3 _ (by decide)⟩
   ·simp only[lG,gX,if_neg h1,if_neg h2,if_neg h3]
    exact⟨h,hu⟩
theorem aJf(g o:Nat)(cs:List Value)(c:Dom)(x:eZ)(hs:Sub cs o (mP c x))(hlen:o+7≤cs.length)(hx:0≤x.left∧x.left≤3)(w:World)(F:Nat→Prop)(hp:(HP.aB g 231 cs).sat F w)(hF:∀b,F b→b < w.heap.size):
  Calls Tryz.prog 112 #[.pointer (some ⟨g,o,none⟩)] w (fun y w'=>y=.returned (.int .u8 (gX x).1)∧∃F',(HP.aB g 231 (lG cs o x)).sat F' w'∧aV w w' F F'):=by
 refine XK.bY Tryz.func112 Tryz.ntmps112 hp hF ?_
 obtain⟨ph,left,kept,keep⟩:=x
 dsimp only at hx
 dsimp only[mP] at hs
 refine XK.go ?_
 refine XK.if_ rfl (fun h=>?_) (fun h=>?_)
 ·subst h
  refine XK.go ?_
  refine XK.if_ rfl (fun hp=>?_) (fun hp=>?_)
  ·refine XK.go ?_
   refine XK.jQ rfl rfl fun w1 t=>⟨by simp[gX,lG,hp,if_true],?_⟩
   simp only[gX,lG,if_pos hp,if_true]
   exact t.turns hF (by simp) (i:=0) rfl
  ·have hs1:=hs.set 3 (.int .u8 104) (by simp) (by omega)
   refine XK.go ?_
   refine XK.cond rfl (fun hk=>?_) (fun hk=>?_)
   ·refine XK.go ?_
    refine XK.jQ rfl rfl fun w1 t=>⟨by simp[gX,lG,hp,if_true,hk],?_⟩
    simp only[gX,lG,if_neg hp,if_true,hk]
    exact t.turns hF (by simp) (i:=0) rfl
   ·refine XK.go ?_
    refine XK.jQ rfl rfl fun w1 t=>⟨by simp[gX,lG,hp,if_true,hk],?_⟩
    simp only[gX,lG,if_neg hp,if_true,hk]
    exact t.turns hF (by simp) (i:=0) rfl
 ·refine XK.go ?_
  refine XK.if_ rfl (fun h2=>?_) (fun h2=>?_)
  ·refine XK.go ?_
   refine XK.jQ rfl rfl fun w1 t=>⟨by simp[gX,lG,h,h2],?_⟩
   simp only[gX,lG,if_neg h,if_pos h2]
   exact t.turns hF (by simp) (i:=0) rfl
  ·refine XK.go ?_
   refine XK.if_ rfl (fun h3=>?_) (fun h3=>?_)
   ·refine XK.go ?_
    refine XK.cond rfl (fun hk=>?_) (fun hk=>?_)
    ·refine XK.go ?_
     refine XK.jQ rfl rfl fun w1 t=>⟨by simp[gX,lG,h,h2,h3,hk,if_true],?_⟩
     simp only[gX,lG,if_neg h,if_neg h2,if_pos h3,hk,if_true]
     exact t.turns hF (by simp) (i:=0) rfl
    ·refine XK.go ?_
     refine XK.jQ rfl rfl fun w1 t=>⟨by simp[gX,lG,h,h2,h3,hk],?_⟩
     simp only[gX,lG,if_neg h,if_neg h2,if_pos h3,hk]
     exact t.turns hF (by simp) (i:=0) rfl
   ·refine XK.go ?_
    refine XK.jQ rfl rfl fun w1 t=>⟨by simp[gX,lG,h,h2,h3],?_⟩
    simp only[gX,lG,if_neg h,if_neg h2,if_neg h3]
    exact t.turns hF (by simp) (i:=0) rfl
theorem aCO{α:Type}{l:List α}{i:Nat}{x:α}(h:l[i]? =some x):l.set i x=l:=by
 refine List.ext_getElem? fun j=>?_
 rw[List.getElem?_set]
 by_cases he:i=j
 ·subst he;rw[if_pos rfl,if_pos (List.getElem?_eq_some_iff.1 h).1,h]
 ·rw[if_neg he]
def Cb(st:List eZ)(i:Nat):List eZ:=(nW st).take i++st.drop i
theorem aAG{α:Type}(f:α→α)(st:List α){i:Nat}(hi:i < st.length):((st.map f).take i++st.drop i)[i]? =st[i]? :=by
 have:((st.map f).take i).length=i:=by simp;omega
 rw[List.getElem?_append_right (by omega),this,Nat.sub_self,List.getElem?_drop,Nat.add_zero]
theorem aAF{α:Type}(f:α→α)(st:List α){i:Nat}{x:α}(hx:st[i]? =some x):((st.map f).take i++st.drop i).set i (f x)=(st.map f).take (i+1)++st.drop (i+1):=by
 have hi:=(List.getElem?_eq_some_iff.1 hx).1
 refine List.ext_getElem? fun j=>?_
 rw[List.getElem?_set]
 by_cases he:i=j
 ·subst he
  rw[if_pos rfl,if_pos (by simp;omega),List.getElem?_append_left (by simp;omega),List.getElem?_take_of_lt (by omega),List.getElem?_map,hx]
  rfl
 ·rw[if_neg he]
  rcases Nat.lt_or_ge j i with hj | hj
  ·rw[List.getElem?_append_left (by simp;omega),List.getElem?_append_left (by simp;omega),List.getElem?_take_of_lt hj,List.getElem?_take_of_lt (by omega)]
  ·rw[List.getElem?_append_right (by simp;omega),List.getElem?_append_right (by simp;omega),List.getElem?_drop,List.getElem?_drop]
   congr 1
   simp
   omega
theorem aCG{x:eZ}(hl:0≤x.left∧x.left≤3)(hp:0≤x.phase∧x.phase < 256):(0≤(gX x).2.left∧(gX x).2.left≤3)∧(0≤(gX x).2.phase∧(gX x).2.phase < 256):=by
 unfold gX
 repeat' split
 all_goals(dsimp only;constructor<;>omega)
theorem aAe{s:aA}{st:List eZ}(hok:rA s st):rA s (nW st):=by
 have hl:=hok.len
 refine⟨by simp[nW];omega,fun x hx=>?_,fun x hx=>?_⟩
 ·obtain⟨y,hy,rfl⟩:=List.mem_map.1 hx
  exact(aCG (hok.left y hy) (hok.phase y hy)).1
 ·obtain⟨y,hy,rfl⟩:=List.mem_map.1 hx
  exact(aCG (hok.left y hy) (hok.phase y hy)).2
theorem aJX{s:aA}{st:List eZ}(hok:rA s st){i:Nat}(hi:i≤s.domains.length):rA s (Cb st i):=by
 have hl:=hok.len
 have ht:=aAe hok
 refine⟨by simp[Cb,nW];omega,fun x hx=>?_,fun x hx=>?_⟩
 ·rcases List.mem_append.1 hx with h | h
  ·exact ht.left x (List.mem_of_mem_take h)
  ·exact hok.left x (List.mem_of_mem_drop h)
 ·rcases List.mem_append.1 hx with h | h
  ·exact ht.phase x (List.mem_of_mem_take h)
  ·exact hok.phase x (List.mem_of_mem_drop h)
def Bc(p:Int×Nat):List Value:=[.int .u8 p.1,iv (p.2:Int)]
theorem aET(st:List eZ)(n:Nat):(jE st n).length≤n:=by
 unfold jE
 exact Nat.le_trans (List.length_filterMap_le _ _) (by simp)
theorem aMt{st:List eZ}{i:Nat}{x:eZ}(hx:st[i]? =some x):jE st (i+1)=jE st i++(if(gX x).1=0 then[] else[((gX x).1,i)]):=by
 unfold jE
 rw[List.range_succ,List.filterMap_append]
 simp only[List.filterMap_cons,List.filterMap_nil,hx,Option.bind_some]
 by_cases h:(gX x).1=0<;>simp[h]
theorem aJe(L:GL)(s:aA)(st:List eZ)(hok:rA s st)(hnd:s.domains.length≤1000)(w:World)(F:Nat→Prop)(hp:(sL L s st).sat F w)(hF:∀b,F b→b < w.heap.size):
  Calls Tryz.prog 59 #[.pointer (some ⟨L.t,0,none⟩)] w (fun y w'=>∃a:Option Addr×Nat,y=.returned (.slice a.1 (jE st s.domains.length).length a.2)∧True∧∃F',(HP.many [sL L s (nW st),HP.own 151 2 (.slice a.1 (jE st s.domains.length).length a.2) (jE st s.domains.length).length ((jE st s.domains.length).flatMap Bc)]).sat F' w'∧aV w w' F F'):=by
 have hl:=hok.len
 refine XK.bY Tryz.func59 Tryz.ntmps59 hp hF ?_
 have aBg:Rd w [⟨w,fun b=>b < w.heap.size∧¬F b⟩] [sL L s st] L.t 0 (.slice L.A s.domains.length L.c):=Rd.row 0 rfl
 refine XK.go ?_
 refine XK.fY 151 2 ?_
 refine XK.aT [(13,iv 0),(12,iv s.domains.length),(3,sn),(0,.pointer (some ⟨L.t,0,none⟩))] ?_
 refine XK.loop (fun m e R H=>∃(i:Nat) (A:Option Addr) (k:Nat),i≤s.domains.length∧m=s.domains.length - i∧e=[(13,iv i),(12,iv s.domains.length),(3,.slice A (jE st i).length k),(0,.pointer (some ⟨L.t,0,none⟩))]∧R=[⟨w,fun b=>b < w.heap.size∧¬F b⟩]∧H=[HP.own 151 2 (.slice A (jE st i).length k) (jE st i).length ((jE st i).flatMap Bc),sL L s (Cb st i)]) s.domains.length ⟨0,none,0,by omega,rfl,rfl,rfl,by simp[Cb,jE]⟩ fun m e R H hI=>?_
 obtain⟨i,A,k,hi,rfl,rfl,rfl,rfl⟩:=hI
 refine XK.go ?_
 refine XK.if_ rfl (fun hlt=>?_) (fun hge=>?_)
 ·have hlt:i < s.domains.length:=by omega
  obtain⟨c,hc⟩:=get_some hlt
  obtain⟨x,hx⟩:=get_some (l:=st) (i:=i) (by omega)
  have Im:(Cb st i)[i]? =some x:=by rw[Cb,nW,aAG _ st (by omega)];exact hx
  have Ik:=aJX hok hi
  obtain⟨fV,fU⟩:=Yj Ik
  have hel:=aET st i
  refine XK.aA5 1 rfl (by omega) fun g cs hA h1 h2 h3 h4=>?_
  dsimp only[List.set]
  have hs:=Cw h2 fV fU (Fy hc Im)
  obtain⟨hs1,rR⟩:=aHe hs (by omega)
  have hf:=Ba (r':=mP c (gX x).2) h2 fV fU hlt (by omega) rfl hs1 rR
  rw[aBC hc (by have:=Ik.len;omega),Cb,nW,aAF (fun x=>(gX x).2) st hx] at hf
  refine XK.go ?_
  refine kd (dat i (i*7)) ?_
  refine On 0 (fi:=[]) (ca:=[]) (p:=HP.aB g 231 cs) (HP.aB g 231 (lG cs (i*7) x)) (by kernel_rfl) rfl rfl rfl ⟨(by decide),rfl⟩ (fun w1 G t hG uP=>aJf g (i*7) cs c x hs (by omega) (hok.left x (List.mem_of_getElem? hx)) w1 G hG uP) ?_
  dsimp only[List.set]
  have qK:(lG cs (i*7) x).length=L.c*7:=by rw[rR.1,h1]
  refine XK.Dj 1 hA qK hf h3 h4 rfl ?_
  dsimp only[List.set]
  have cQ:=aMt hx
  refine XK.go ?_
  refine XK.if_ rfl (fun hz=>?_) (fun hz=>?_)
  ·rw[if_neg hz] at cQ
   refine XK.gw ?_
   refine dF fun g2=>?_
   refine fG 1 2 16 1 (el:=151) (by kernel_rfl) (by kernel_rfl) (by decide) rfl rfl rfl (kX 0 rfl rfl) (by simp[Value.oneCell']) rfl (by omega) (by omega) (by decide) fun A' k'=>?_
   dsimp only[List.set]
   refine XK.go ?_
   have e1:(jE st (i+1)).length=(jE st i).length+1:=by rw[cQ];simp
   have e2:(jE st (i+1)).flatMap Bc=(jE st i).flatMap Bc++[.int .u8 (gX x).1,iv (i:Int)]:=by rw[cQ,List.flatMap_append];rfl
   refine XK.weak [1,2] rfl (by decide) (fun _ h=>h) ?_
   refine XK.aT [(13,iv (i+1:Nat)),(12,iv s.domains.length),(3,.slice A' ((jE st i).length+1) k'),(0,.pointer (some ⟨L.t,0,none⟩))] ?_
   exact XK.round (s.domains.length - (i+1)) (by omega) ⟨i+1,A',k',hlt,rfl,by rw[e1],rfl,by rw[e1,e2];rfl⟩
  ·have hz:=Classical.not_not.1 hz
   rw[if_pos hz,List.append_nil] at cQ
   refine XK.go ?_
   refine XK.aT [(13,iv (i+1:Nat)),(12,iv s.domains.length),(3,.slice A (jE st i).length k),(0,.pointer (some ⟨L.t,0,none⟩))] ?_
   refine XK.round (s.domains.length - (i+1)) (by omega) ⟨i+1,A,k,hlt,rfl,by rw[cQ],rfl,by rw[cQ];rfl⟩
 ·obtain rfl:i=s.domains.length:=by omega
  have yG:Cb st s.domains.length=nW st:=by
   rw[Cb,List.drop_eq_nil_of_le (by omega),List.append_nil,List.take_of_length_le (by simp[nW];omega)]
  rw[yG]
  refine XK.go ?_
  refine XK.weak [1,0] rfl (by decide) (fun _ h=>h) ?_
  refine XK.pair ?_
  exact XK.jQ rfl rfl fun w1 t=>⟨(A,k),rfl,trivial,t.turns hF (by simp) (i:=0) rfl⟩
end
section
set_option maxHeartbeats 4000000
set_option maxRecDepth 20000
theorem aMy(w:World)(q:Piece):(⟨w,fun _=>False⟩:Piece).Le q:=fun _ h=>h.elim
theorem aNG(i:Nat)(r:Rg)(w:World):
  Calls Tryz.prog 192 #[iv (i:Int),.agg r.cells.toArray] w (Rt (.int .u32 r.reset) w):=by
 refine XK.en Tryz.func192 Tryz.ntmps192 ?_
 refine XK.go ?_
 refine aS fun g1=>?_
 dsimp only[Value.cells,Rg.cells]
 refine XK.go ?_
 exact XK.rE
theorem Vo(L:FL)(d:bK)(x:dB)(hrl:d.aI.length≤100)(hok:vJ d x)(w:World)(F:Nat→Prop)(hp:(eP L d x).sat F w)(hF:∀b,F b→b < w.heap.size):
  Calls Tryz.prog 115 #[.pointer (some ⟨L.f,0,none⟩)] w (fun y w'=>y=.returned (.tuple #[])∧∃F',(eP L d (Bf d x)).sat F' w'∧aV w w' F F'):=by
 refine XK.bY Tryz.func115 Tryz.ntmps115 hp hF ?_
 refine XK.go ?_
 refine cX 0 (eP L d ⟨d.aI.map (·.reset),x.saved,x.kept⟩) (fun w1 G t hG uP hle=>by
  have:=aDo L d x hrl 192 (by kernel_rfl) [] ⟨w1,fun _=>False⟩ (d.aI.map (·.reset)) (by simp) hok.now (fun i r v hr hv now w2 F2 _ _ _=>by
   rw[List.getElem?_map,hr] at hv
   cases hv
   exact aNG i r w2) w1 G hG uP (aMy _ _)
  exact this) ?_
 dsimp only[List.set]
 refine XK.Qf 0 rfl ?_
 dsimp only[List.set,Fu]
 refine XK.go ?_
 refine XK.Tr (x:=Bf d x) 0 rfl ?_
 exact XK.r0 0 hF
theorem aIt(L:FL)(d:bK)(x:dB)(g1 i:Nat)(r:Rg)(v:Int)(hr:d.aI[i]? =some r)(hv:x.saved[i]? =some v)(w:World)(hR:zF w L d x)(h1:eS w g1 0 (.pointer (some ⟨L.f,0,none⟩))):
  Calls Tryz.prog 191 #[iv (i:Int),.agg r.cells.toArray,pt g1] w (Rt (.int .u32 (Vm x.kept r v)) w):=by
 have hlt:=(List.getElem?_eq_some_iff.1 hr).1
 have k3:=hR.r0.at_ (j:=3) rfl
 have k2:=hR.r0.at_ (j:=2) rfl
 have kv:=hR.saved.at_ (aAb hv)
 rw[Nat.zero_add] at kv
 obtain⟨rs,kp⟩:=r
 cases hk:x.kept
 ·rw[hk] at k3
  refine XK.en Tryz.func191 Tryz.ntmps191 ?_
  refine XK.go ?_
  refine aS fun g2=>?_
  dsimp only[Value.cells,Rg.cells]
  refine XK.go ?_
  exact XK.rE
 ·rw[hk] at k3
  cases kp
  ·refine XK.en Tryz.func191 Tryz.ntmps191 ?_
   refine XK.go ?_
   refine aS fun g2=>?_
   dsimp only[Value.cells,Rg.cells]
   refine XK.go ?_
   exact XK.rE
  ·refine XK.en Tryz.func191 Tryz.ntmps191 ?_
   refine XK.go ?_
   refine aS fun g2=>?_
   dsimp only[Value.cells,Rg.cells]
   refine XK.gw ?_
   exact XK.rE
theorem aIy(L:FL)(d:bK)(x:dB)(hrl:d.aI.length≤100)(hok:vJ d x)(w:World)(F:Nat→Prop)(hp:(eP L d x).sat F w)(hF:∀b,F b→b < w.heap.size):
  Calls Tryz.prog 114 #[.pointer (some ⟨L.f,0,none⟩)] w (fun y w'=>y=.returned (.tuple #[])∧∃F',(eP L d (Ei d x)).sat F' w'∧aV w w' F F'):=by
 have mV:=hok.saved
 refine XK.bY Tryz.func114 Tryz.ntmps114 hp hF ?_
 refine XK.go ?_
 refine aS fun g1=>?_
 refine XK.go ?_
 refine iD (vf:=[]) (vc:=[pt g1]) rfl rfl (by decide) ?_
 refine XK.still [⟨w,fun b=>b < w.heap.size∧¬F b⟩] [0] [1] (by simp) rfl (by decide) (by decide) fun q hq hLe _=>?_
 obtain⟨F1,s1,z1⟩:=hq 0 _ (by simp) rfl
 refine cX 0 (eP L d (Ei d x)) (fun w1 G t hG uP hle=>by
  have:=aDo L d x hrl 191 (by kernel_rfl) [pt g1] q (Ei d x).now (by simp[Ei];omega) hok.now (fun i r v hr hv now w2 F2 a1 a2 a3=>by
   have hlt:=(List.getElem?_eq_some_iff.1 hr).1
   obtain⟨u,hu⟩:=get_some (l:=x.saved) (i:=i) (by omega)
   have he:v=Vm x.kept r u:=by
    rw[Ei,List.getElem?_zipWith,hr,hu] at hv
    cases hv;rfl
   subst he
   obtain⟨b1,b2⟩:=a3 g1 (z1 _ s1.1)
   exact aIt L d ⟨now,x.saved,x.kept⟩ g1 i r u hr hu w2 (eP.reads a1 a2) ⟨b1,(World.cell?_of_block (w:=q.w) b2).trans (by rw[s1.2.cell];rfl)⟩) w1 G hG uP (hle q (by simp))
  exact this) ?_
 dsimp only[List.set]
 refine XK.go ?_
 exact XK.r0 0 hF
theorem aH4(p:Piece)(L:FL)(d:bK)(x:dB)(g1 i:Nat)(r:Rg)(v u:Int)(hr:d.aI[i]? =some r)(hv:x.now[i]? =some v)(hu:x.saved[i]? =some u)(Ak:x.saved.length=d.aI.length)
  (h1:p.Z g1∧p.w.cell? ⟨g1,0,none⟩=some (.pointer (some ⟨L.f,0,none⟩))) (w:World) (F:Nat→Prop) (hp:(eP L d x).sat F w) (hF:∀b,F b→b < w.heap.size) (Cl:p.Le ⟨w,fun b=>b < w.heap.size∧¬F b⟩):
  Calls Tryz.prog 189 #[iv (i:Int),.agg r.cells.toArray,pt g1] w (fun y w'=>y=.returned (.tuple #[])∧∃F',(eP L d ⟨x.now,x.saved.set i (Hg r (v,u)),x.kept⟩).sat F' w'∧aV w w' F F'):=by
 have hlt:=(List.getElem?_eq_some_iff.1 hr).1
 obtain⟨c1,e1⟩:=Cl g1 h1.1
 have k1:w.cell? ⟨g1,0,none⟩=some (.pointer (some ⟨L.f,0,none⟩)):=(World.cell?_of_block (w:=p.w) e1).trans h1.2
 obtain⟨rs,kp⟩:=r
 cases kp
 ·have hsame:x.saved.set i (Hg ⟨rs,false⟩ (v,u))=x.saved:=aCO hu
  rw[hsame]
  refine XK.bY Tryz.func189 Tryz.ntmps189 hp hF ?_
  refine XK.go ?_
  refine aS fun g2=>?_
  dsimp only[Value.cells,Rg.cells]
  refine XK.go ?_
  exact XK.r0 1 hF
 ·refine XK.bY Tryz.func189 Tryz.ntmps189 hp hF ?_
  refine XK.go ?_
  refine aS fun g2=>?_
  dsimp only[Value.cells,Rg.cells]
  refine XK.go ?_
  refine XK.Qf 1 rfl ?_
  dsimp only[List.set,Fu]
  have Mb:=Va x.now
  have mV:=Va x.saved
  have r1:Rd w [⟨w,fun b=>b < w.heap.size∧¬F b⟩] [HP.aB L.gs 23 (kU x.saved),HP.aB L.gn 23 (kU x.now),HP.aB L.f 298 [.slice L.A d.aI.length L.c,.slice (some ⟨L.gn,0,none⟩) d.aI.length d.aI.length,.slice (some ⟨L.gs,0,none⟩) d.aI.length d.aI.length,.bool x.kept],HP.aB g2 48 [.int .u32 rs,.bool true],HP.many [HP.emp,HP.emp,HP.emp,HP.bH (pS d L.A) (pS.le (d:=d) (A:=L.A))]] g1 0 (.pointer (some ⟨L.f,0,none⟩)):=Rd.ro (List.mem_singleton.2 rfl) c1 k1
  have r2:Rd w [⟨w,fun b=>b < w.heap.size∧¬F b⟩] [HP.aB L.gs 23 (kU x.saved),HP.aB L.gn 23 (kU x.now),HP.aB L.f 298 [.slice L.A d.aI.length L.c,.slice (some ⟨L.gn,0,none⟩) d.aI.length d.aI.length,.slice (some ⟨L.gs,0,none⟩) d.aI.length d.aI.length,.bool x.kept],HP.aB g2 48 [.int .u32 rs,.bool true],HP.many [HP.emp,HP.emp,HP.emp,HP.bH (pS d L.A) (pS.le (d:=d) (A:=L.A))]] L.gn i (.int .u32 v):=Rd.aB 1 rfl (aAb hv)
  refine XK.draw 12 (by kernel_rfl) (by kernel_rfl) ?_
  refine XA.q 0 ?_
  refine XA.q 1 ?_
  refine XA.q 2 ?_
  refine XA.q 3 ?_
  refine XA.q 4 ?_
  refine XA.q 5 ?_
  refine XA.q 6 ?_
  refine XA.q 7 ?_
  refine XA.q 8 ?_
  refine XA.q 9 ?_
  refine XA.q 10 ?_ (cY:=dat (sz:=1) i i)
  refine XA.q 11 ?_
  refine XA.next 12 rfl (by kernel_rfl) ?_
  refine kd (dat i i) ?_
  refine XA.bt ?_
  refine XA.next 13 rfl (by kernel_rfl) ?_
  refine dL rfl rfl ?_
  dsimp only[List.set]
  rw[aAa]
  refine XA.bt ?_
  refine XA.done (by kernel_rfl) ?_
  refine XK.go ?_
  refine XK.weak [0,1,2,4] rfl (by decide) (fun _ h=>h) ?_
  refine XK.Tr (x:=⟨x.now,x.saved.set i v,x.kept⟩) 0 rfl ?_
  exact XK.r0 0 hF
theorem aIx(L:FL)(d:bK)(x:dB)(hrl:d.aI.length≤100)(hok:vJ d x)(w:World)(F:Nat→Prop)(hp:(eP L d x).sat F w)(hF:∀b,F b→b < w.heap.size):
  Calls Tryz.prog 113 #[.pointer (some ⟨L.f,0,none⟩)] w (fun y w'=>y=.returned (.tuple #[])∧∃F',(eP L d (sY d x)).sat F' w'∧aV w w' F F'):=by
 have mV:=hok.saved
 have fV:=hok.now
 have hvl:(sY d x).saved.length=d.aI.length:=by simp[sY];omega
 refine XK.bY Tryz.func113 Tryz.ntmps113 hp hF ?_
 refine XK.go ?_
 refine aS fun g1=>?_
 refine XK.go ?_
 refine iD (vf:=[]) (vc:=[pt g1]) rfl rfl (by decide) ?_
 refine XK.still [⟨w,fun b=>b < w.heap.size∧¬F b⟩] [0] [1] (by simp) rfl (by decide) (by decide) fun q hq hLe _=>?_
 obtain⟨F1,s1,z1⟩:=hq 0 _ (by simp) rfl
 refine cX 0 (eP L d ⟨x.now,(sY d x).saved,x.kept⟩) (fun w1 G t hG uP hle=>by
  have key:=aDn q (fun i=>eP L d ⟨x.now,iS (sY d x).saved x.saved i,x.kept⟩) L d hrl 189 (by kernel_rfl) [pt g1]
   (fun i _ w F h1 h2=>⟨_,eP.reads h1 h2⟩) (fun i r hr w2 F2' h1 h2 h3=>by
    have hlt:=(List.getElem?_eq_some_iff.1 hr).1
    obtain⟨v,hv⟩:=get_some (l:=x.now) (i:=i) (by omega)
    obtain⟨u,hu⟩:=get_some (l:=x.saved) (i:=i) (by omega)
    have hs:(sY d x).saved[i]? =some (Hg r (v,u)):=by
     rw[sY,List.getElem?_zipWith,hr,(List.getElem?_zip_eq_some (z:=(v,u))).2 ⟨hv,hu⟩]
    have:=aH4 q L d ⟨x.now,iS (sY d x).saved x.saved i,x.kept⟩ g1 i r v u hr hv (aJV (by omega) (by omega) hu) (Qk hvl mV (by omega))
     ⟨z1 _ s1.1,by rw[s1.2.cell];rfl⟩ w2 F2' h1 h2 h3
    try dsimp only at this
    rw[Qj (by omega) hs] at this
    exact this) w1 G (by show(eP L d ⟨x.now,iS (sY d x).saved x.saved 0,x.kept⟩).sat G w1;rw[Qi];exact hG) uP (hle q (by simp))
  try dsimp only at key
  rw[Ql hvl mV] at key
  exact key) ?_
 dsimp only[List.set]
 refine XK.Qf 0 rfl ?_
 dsimp only[List.set,Fu]
 have r1:∀H,Rd w [q,⟨w,fun b=>b < w.heap.size∧¬F b⟩] H g1 0 (.pointer (some ⟨L.f,0,none⟩)):=fun H=>Rd.ro (by simp:q∈_) (z1 _ s1.1) (by rw[s1.2.cell];rfl)
 have r1:=r1 [HP.aB L.gs 23 (kU (sY d x).saved),HP.aB L.gn 23 (kU x.now),HP.aB L.f 298 [.slice L.A d.aI.length L.c,.slice (some ⟨L.gn,0,none⟩) d.aI.length d.aI.length,.slice (some ⟨L.gs,0,none⟩) d.aI.length d.aI.length,.bool x.kept],HP.many [HP.emp,HP.emp,HP.emp,HP.bH (pS d L.A) (pS.le (d:=d) (A:=L.A))]]
 refine XK.go ?_
 refine XK.Tr (x:=sY d x) 0 rfl ?_
 exact XK.r0 0 hF
theorem aIz(L:FL)(d:bK)(x:dB)(i:Nat)(v:Int)(Ak:x.now.length=d.aI.length)(hv:x.now[i]? =some v)(w:World)(hR:zF w L d x):
  Calls Tryz.prog 109 #[.pointer (some ⟨L.f,0,none⟩),iv (i:Int)] w (Rt (.tuple #[.int .u32 v,iv 0]) w):=by
 have hlt:i < d.aI.length:=by have:=(List.getElem?_eq_some_iff.1 hv).1;omega
 have k1:=hR.r0.at_ (j:=1) rfl
 have kv:=hR.now.at_ (aAb hv)
 rw[Nat.zero_add] at kv
 refine XK.en Tryz.func109 Tryz.ntmps109 ?_
 refine XK.go ?_
 refine aW (t:=8) rfl (fun h=>absurd h (by omega)) (fun _=>?_)
 refine XK.go ?_
 refine aJ (fun w1 t=>Pp L d x w1 (hR.below (t.below (by simp)))) ?_
 refine XK.go ?_
 refine XK.if_ rfl (fun h=>absurd h (by omega)) (fun _=>?_)
 refine XK.gw ?_
 exact XK.dG rfl rfl rfl fun w1 t=>⟨rfl,t.below (by simp)⟩
theorem aIw(L:FL)(d:bK)(x:dB)(i:Nat)(v:Int)(Ak:x.now.length=d.aI.length)(hlt:i < d.aI.length)(w:World)(F:Nat→Prop)(hp:(eP L d x).sat F w)(hF:∀b,F b→b < w.heap.size):
  Calls Tryz.prog 110 #[.pointer (some ⟨L.f,0,none⟩),iv (i:Int),.int .u32 v] w (fun y w'=>y=.returned (iv 0)∧∃F',(eP L d ⟨x.now.set i v,x.saved,x.kept⟩).sat F' w'∧aV w w' F F'):=by
 refine XK.bY Tryz.func110 Tryz.ntmps110 hp hF ?_
 refine XK.go ?_
 refine aW (t:=9) rfl (fun h=>absurd h (by omega)) (fun _=>?_)
 refine XK.go ?_
 refine aJ (fun w1 t=>Pp L d x w1 (t.aB6 0 rfl)) ?_
 refine XK.go ?_
 refine XK.if_ rfl (fun h=>absurd h (by omega)) (fun _=>?_)
 refine XK.Qf 0 rfl ?_
 dsimp only[List.set,Fu]
 have Mb:=Va x.now
 refine XK.gw ?_
 rw[aAa]
 refine XK.go ?_
 refine XK.Tr (x:=⟨x.now.set i v,x.saved,x.kept⟩) 0 rfl ?_
 exact XK.rT 0 hF
end
section
set_option maxHeartbeats 4000000
set_option maxRecDepth 20000
def aGe(n:Nat)(xs:List Value)(v:Value)(hs:List HP)(_:Piece):Prop:=∃A c,v=.slice A n c∧hs=[HP.own 86 6 (.slice A n c) n xs]
theorem aJt(A:Option Addr)(n c:Nat)(xs:List Value)(w:World)(hs:aE (all w) 6 A n xs)(h1:∀u∈xs,u.oneCell'=true)(hn:n≤1000000):
  Calls Tryz.prog 147 #[.slice A n c] w (fun y w'=>(∃v hs q,y=.returned v∧q.w=w'∧aGe n xs v hs q∧iY w hs q)∧Below w.heap.size w w'):=by
 refine XK.en Tryz.func147 Tryz.ntmps147 ?_
 refine XK.go ?_
 refine XK.fY 86 6 ?_
 refine fG 0 6 64 n (n':=n) (v:=sn) (el:=86) (by kernel_rfl) (by kernel_rfl) (by decide) rfl rfl rfl (nG (by simp) hs) h1 (by omega) (by omega) (by omega) (by decide) fun A' k'=>?_
 dsimp only[List.set,List.nil_append]
 refine XK.go ?_
 refine XK.still [] [] [0] (by simp) rfl (by decide) (by decide) fun q _ _ hfr=>?_
 exact XK.rX (h:=fun w1 st=>⟨_,_,⟨w1,q.Z⟩,rfl,rfl,⟨_,_,rfl,rfl⟩,st.newR (by simp) (by simp) (hfr (by simp) (by simp))⟩)
def aGc(n:Nat)(xs:List Value)(v:Value)(hs:List HP)(_:Piece):Prop:=∃A c,v=.slice A n c∧hs=[HP.own 50 3 (.slice A n c) n xs]
theorem aJr(A:Option Addr)(n c:Nat)(xs:List Value)(w:World)(hs:aE (all w) 3 A n xs)(h1:∀u∈xs,u.oneCell'=true)(hn:n≤1000000):
  Calls Tryz.prog 148 #[.slice A n c] w (fun y w'=>(∃v hs q,y=.returned v∧q.w=w'∧aGc n xs v hs q∧iY w hs q)∧Below w.heap.size w w'):=by
 refine XK.en Tryz.func148 Tryz.ntmps148 ?_
 refine XK.go ?_
 refine XK.fY 50 3 ?_
 refine fG 0 3 24 n (n':=n) (v:=sn) (el:=50) (by kernel_rfl) (by kernel_rfl) (by decide) rfl rfl rfl (nG (by simp) hs) h1 (by omega) (by omega) (by omega) (by decide) fun A' k'=>?_
 dsimp only[List.set,List.nil_append]
 refine XK.go ?_
 refine XK.still [] [] [0] (by simp) rfl (by decide) (by decide) fun q _ _ hfr=>?_
 exact XK.rX (h:=fun w1 st=>⟨_,_,⟨w1,q.Z⟩,rfl,rfl,⟨_,_,rfl,rfl⟩,st.newR (by simp) (by simp) (hfr (by simp) (by simp))⟩)
def aGa(n:Nat)(xs:List Value)(v:Value)(hs:List HP)(_:Piece):Prop:=∃A c,v=.slice A n c∧hs=[HP.own 88 1 (.slice A n c) n xs]
theorem aJp(A:Option Addr)(n c:Nat)(xs:List Value)(w:World)(hs:aE (all w) 1 A n xs)(h1:∀u∈xs,u.oneCell'=true)(hn:n≤1000000):
  Calls Tryz.prog 149 #[.slice A n c] w (fun y w'=>(∃v hs q,y=.returned v∧q.w=w'∧aGa n xs v hs q∧iY w hs q)∧Below w.heap.size w w'):=by
 refine XK.en Tryz.func149 Tryz.ntmps149 ?_
 refine XK.go ?_
 refine XK.fY 88 1 ?_
 refine fG 0 1 8 n (n':=n) (v:=sn) (el:=88) (by kernel_rfl) (by kernel_rfl) (by decide) rfl rfl rfl (nG (by simp) hs) h1 (by omega) (by omega) (by omega) (by decide) fun A' k'=>?_
 dsimp only[List.set,List.nil_append]
 refine XK.go ?_
 refine XK.still [] [] [0] (by simp) rfl (by decide) (by decide) fun q _ _ hfr=>?_
 exact XK.rX (h:=fun w1 st=>⟨_,_,⟨w1,q.Z⟩,rfl,rfl,⟨_,_,rfl,rfl⟩,st.newR (by simp) (by simp) (hfr (by simp) (by simp))⟩)
def aGd(n:Nat)(xs:List Value)(v:Value)(hs:List HP)(_:Piece):Prop:=∃A c,v=.slice A n c∧hs=[HP.own 38 6 (.slice A n c) n xs]
theorem aJs(A:Option Addr)(n c:Nat)(xs:List Value)(w:World)(hs:aE (all w) 6 A n xs)(h1:∀u∈xs,u.oneCell'=true)(hn:n≤1000000):
  Calls Tryz.prog 150 #[.slice A n c] w (fun y w'=>(∃v hs q,y=.returned v∧q.w=w'∧aGd n xs v hs q∧iY w hs q)∧Below w.heap.size w w'):=by
 refine XK.en Tryz.func150 Tryz.ntmps150 ?_
 refine XK.go ?_
 refine XK.fY 38 6 ?_
 refine fG 0 6 80 n (n':=n) (v:=sn) (el:=38) (by kernel_rfl) (by kernel_rfl) (by decide) rfl rfl rfl (nG (by simp) hs) h1 (by omega) (by omega) (by omega) (by decide) fun A' k'=>?_
 dsimp only[List.set,List.nil_append]
 refine XK.go ?_
 refine XK.still [] [] [0] (by simp) rfl (by decide) (by decide) fun q _ _ hfr=>?_
 exact XK.rX (h:=fun w1 st=>⟨_,_,⟨w1,q.Z⟩,rfl,rfl,⟨_,_,rfl,rfl⟩,st.newR (by simp) (by simp) (hfr (by simp) (by simp))⟩)
def aCh(n:Nat)(xs:List Value)(v:Value)(hs:List HP)(_:Piece):Prop:=∃A c,v=.slice A n c∧hs=[HP.own 3 1 (.slice A n c) n xs]
theorem aD2(A:Option Addr)(n c:Nat)(xs:List Value)(w:World)(hs:aE (all w) 1 A n xs)(h1:∀u∈xs,u.oneCell'=true)(hn:n≤1000000):
  Calls Tryz.prog 140 #[.slice A n c] w (fun y w'=>(∃v hs q,y=.returned v∧q.w=w'∧aCh n xs v hs q∧iY w hs q)∧Below w.heap.size w w'):=by
 refine XK.en Tryz.func140 Tryz.ntmps140 ?_
 refine XK.go ?_
 refine XK.fY 3 1 ?_
 refine fG 0 1 8 n (n':=n) (v:=sn) (el:=3) (by kernel_rfl) (by kernel_rfl) (by decide) rfl rfl rfl (nG (by simp) hs) h1 (by omega) (by omega) (by omega) (by decide) fun A' k'=>?_
 dsimp only[List.set,List.nil_append]
 refine XK.go ?_
 refine XK.still [] [] [0] (by simp) rfl (by decide) (by decide) fun q _ _ hfr=>?_
 exact XK.rX (h:=fun w1 st=>⟨_,_,⟨w1,q.Z⟩,rfl,rfl,⟨_,_,rfl,rfl⟩,st.newR (by simp) (by simp) (hfr (by simp) (by simp))⟩)
def aGb(n:Nat)(xs:List Value)(v:Value)(hs:List HP)(_:Piece):Prop:=∃A c,v=.slice A n c∧hs=[HP.own 48 2 (.slice A n c) n xs]
theorem aJq(A:Option Addr)(n c:Nat)(xs:List Value)(w:World)(hs:aE (all w) 2 A n xs)(h1:∀u∈xs,u.oneCell'=true)(hn:n≤1000000):
  Calls Tryz.prog 151 #[.slice A n c] w (fun y w'=>(∃v hs q,y=.returned v∧q.w=w'∧aGb n xs v hs q∧iY w hs q)∧Below w.heap.size w w'):=by
 refine XK.en Tryz.func151 Tryz.ntmps151 ?_
 refine XK.go ?_
 refine XK.fY 48 2 ?_
 refine fG 0 2 8 n (n':=n) (v:=sn) (el:=48) (by kernel_rfl) (by kernel_rfl) (by decide) rfl rfl rfl (nG (by simp) hs) h1 (by omega) (by omega) (by omega) (by decide) fun A' k'=>?_
 dsimp only[List.set,List.nil_append]
 refine XK.go ?_
 refine XK.still [] [] [0] (by simp) rfl (by decide) (by decide) fun q _ _ hfr=>?_
 exact XK.rX (h:=fun w1 st=>⟨_,_,⟨w1,q.Z⟩,rfl,rfl,⟨_,_,rfl,rfl⟩,st.newR (by simp) (by simp) (hfr (by simp) (by simp))⟩)
end
section
set_option maxHeartbeats 4000000
set_option maxRecDepth 20000
structure aOJ(p:Piece)(s:aA)(A1:Option Addr)(n1:Nat)(A2:Option Addr)(n2:Nat)(A3:Option Addr)(n3:Nat)(A4:Option Addr)(n4:Nat):Prop where
 qP:gM (eN p) (pV (eN p)) 86 6 A1 n1 s.aD
 dom:gM (eN p) pU 50 3 A2 n2 s.domains
 xS:gM (eN p) tM 88 1 A3 n3 s.aL
 dev:gM (eN p) (oY (eN p)) 38 6 A4 n4 s.aC
section
variable{p q:Piece}{w:World}{s:aA}{A1 A2 A3 A4:Option Addr}{n1 n2 n3 n4:Nat}
theorem zB.Q{cs:Array Value}(h:zB (eN p) s cs):∃A1 n1 k1 A2 n2 k2 A3 n3 k3 A4 n4 k4,cs=#[.slice A1 n1 k1,.slice A2 n2 k2,.slice A3 n3 k3,.slice A4 n4 k4]∧aOJ p s A1 n1 A2 n2 A3 n3 A4 n4:=by
 obtain⟨A1,n1,k1,A2,n2,k2,A3,n3,k3,A4,n4,k4,h0,h1,h2,h3,h4⟩:=h
 exact⟨A1,n1,k1,A2,n2,k2,A3,n3,k3,A4,n4,k4,h0,h1,h2,h3,h4⟩
end
theorem gM.aDh{α:Type}{p:Piece}{R:α→List Value→Prop}{t:TypeId}{sz n:Nat}{A:Option Addr}{es:List α}(h:gM (eN p) R t sz A n es){k:Nat}{e:α}(hk:es[k]? =some e):
  ∃b off r,A=some ⟨b,off,none⟩∧p.Z b∧r.length=sz∧R e r∧∀f u,r[f]? =some u→p.w.cell? ⟨b,off+k*sz+f,none⟩=some u:=by
 obtain⟨rows,h1,h2,h3⟩:=h
 have hlt:k < n:=by
  rw[h2]
  rcases Nat.lt_or_ge k es.length with h | h
  ·exact h
  ·rw[List.getElem?_eq_none h] at hk;cases hk
 obtain⟨b,off,hA,hb,hc⟩:=aE.at_ h3 hlt
 obtain⟨r,h4,h5,h6⟩:=h1.get hk
 refine⟨b,off,r,hA,hb,h4,h5,fun f u hu=>hc f u ?_⟩
 have hf:f < sz:=by
  rw[←h4]
  rcases Nat.lt_or_ge f r.length with h | h
  ·exact h
  ·rw[List.getElem?_eq_none h] at hu;cases hu
 rw[h6 f hf,hu]
end
section
set_option maxHeartbeats 4000000
set_option maxRecDepth 20000
theorem XK.yY{N:bO}{w0:World}{e:Env}{R:List Piece}{H:List HP}{K:Act→World→Prop}{p:HP}(hp:∀w,p.sat (fun _=>False) w)(h:XK N w0 K e R (p::H)):XK N w0 K e R H:=fun a w hr st=>
 h a w hr (st.new (w':=w) (Below.refl _ _) (by
  rw[show(fresh w w).Z=fun _=>False from by funext b;simp only[fresh,eq_iff_iff,iff_false];omega]
  exact hp w))
abbrev AC:=Option Addr×Nat
def wU(c:dV)(a:AC):List Value:=[.int .u8 c.kind,.slice a.1 c.src.length a.2,.int .u64 c.rate,iv c.mul,iv c.div,iv c.lock]
def wR(d:bK)(p:AC×AC):List Value:=[iv d.clock,iv d.domain,iv d.reset,.int .u32 d.gB,.slice p.1.1 d.aI.length p.1.2,.slice p.2.1 d.gH.length p.2.2]
def Nq(s:aA)(fa:List AC):List (List Value):=List.zipWith wU s.aD fa
def Nh(s:aA)(da:List (AC×AC)):List (List Value):=List.zipWith wR s.aC da
section
variable{α β:Type}{f:α→β→List Value}{sz:Nat}
theorem Um{es:List α}{bs:List β}(hl:bs.length=es.length)(hf:∀e a,(f e a).length=sz):(List.zipWith f es bs).length=es.length∧∀r∈List.zipWith f es bs,r.length=sz:=by
 refine⟨by simp;omega,fun r hr=>?_⟩
 obtain⟨j,hj⟩:=List.getElem?_of_mem hr
 rw[List.getElem?_zipWith] at hj
 split at hj<;>cases hj
 exact hf _ _
theorem Oi{es:List α}{bs:List β}{i:Nat}{e:α}{a:β}(he:es[i]? =some e)(ha:bs[i]? =some a):(List.zipWith f es bs)[i]? =some (f e a):=by rw[List.getElem?_zipWith,he,ha]
theorem aCs{es:List α}{bs:List β}{i:Nat}{e:α}{a:β}(he:es[i]? =some e)(hi:i < bs.length):(List.zipWith f es bs).set i (f e a)=List.zipWith f es (bs.set i a):=by
 refine List.ext_getElem? fun j=>?_
 rw[List.getElem?_set]
 by_cases hj:i=j
 ·subst hj
  have h1:=(List.getElem?_eq_some_iff.1 he).1
  rw[if_pos rfl,Oi he (List.getElem?_set_self hi),if_pos (by simp;omega)]
 ·rw[if_neg hj,List.getElem?_zipWith,List.getElem?_zipWith,List.getElem?_set_ne hj]
theorem aCt{es:List α}{bs:List β}(hf:∀e a,∀u∈f e a,u.oneCell'=true):∀u∈(List.zipWith f es bs).flatten,u.oneCell'=true:=fun u hu=>by
 obtain⟨r,hr,hu⟩:=List.mem_flatten.1 hu
 obtain⟨j,hj⟩:=List.getElem?_of_mem hr
 rw[List.getElem?_zipWith] at hj
 split at hj<;>cases hj
 exact hf _ _ u hu
end
theorem aNE(c:dV)(a:AC):∀u∈wU c a,u.oneCell'=true:=by simp[wU,Value.oneCell']
theorem aNm(d:bK)(p:AC×AC):∀u∈wR d p,u.oneCell'=true:=by simp[wR,Value.oneCell']
theorem aBM{S:tK}:∀{cl:List dV} {rs:List (List Value)},Rows (pV S) 6 cl rs→∃fa:List AC,fa.length=cl.length∧rs=List.zipWith wU cl fa∧∀(i:Nat) (c:dV) (a:AC),cl[i]? =some c→fa[i]? =some a→S 3 1 a.1 c.src.length (aG c.src)
 | [],[],_=>⟨[],rfl,rfl,fun i c a h=>by simp at h⟩
 | e::es,r::rs,h=>by
  obtain⟨_,⟨A,n,k,hr,hn,hS⟩,h3⟩:=h
  obtain⟨fa,h4,h5,h6⟩:=aBM h3
  subst hn
  refine⟨(A,k)::fa,by simp[h4],by rw[hr,h5];rfl,fun i c a hc ha=>?_⟩
  cases i with
  | zero=>simp at hc ha;subst hc;subst ha;exact hS
  | succ i=>exact h6 i c a (by simpa using hc) (by simpa using ha)
theorem aDe{S:tK}:∀{cl:List dV} {fa:List AC},fa.length=cl.length→(∀(i:Nat) (c:dV) (a:AC),cl[i]? =some c→fa[i]? =some a→S 3 1 a.1 c.src.length (aG c.src))→Rows (pV S) 6 cl (List.zipWith wU cl fa)
 | [],[],_,_=>trivial
 | c::cl,a::fa,hl,h=>⟨rfl,⟨a.1,_,a.2,rfl,rfl,h 0 c a rfl rfl⟩,aDe (by simpa using hl) fun i c' a' hc ha=>h (i+1) c' a' (by simpa using hc) (by simpa using ha)⟩
theorem aBG{S:tK}:∀{cl:List bK} {rs:List (List Value)},Rows (oY S) 6 cl rs→∃da:List (AC×AC),da.length=cl.length∧rs=List.zipWith wR cl da∧∀(i:Nat) (d:bK) (p:AC×AC),cl[i]? =some d→da[i]? =some p→S 48 2 p.1.1 d.aI.length (d.aI.flatMap Rg.cells)∧S 3 1 p.2.1 d.gH.length (aG d.gH)
 | [],[],_=>⟨[],rfl,rfl,fun i c a h=>by simp at h⟩
 | e::es,r::rs,h=>by
  obtain⟨_,⟨A,n,k,A',n',k',hr,hn,hn',hS,hS'⟩,h3⟩:=h
  obtain⟨da,h4,h5,h6⟩:=aBG h3
  subst hn;subst hn'
  refine⟨((A,k),(A',k'))::da,by simp[h4],by rw[hr,h5];rfl,fun i d p hc ha=>?_⟩
  cases i with
  | zero=>simp at hc ha;subst hc;subst ha;exact⟨hS,hS'⟩
  | succ i=>exact h6 i d p (by simpa using hc) (by simpa using ha)
theorem aDd{S:tK}:∀{cl:List bK} {da:List (AC×AC)},da.length=cl.length→(∀(i:Nat) (d:bK) (p:AC×AC),cl[i]? =some d→da[i]? =some p→S 48 2 p.1.1 d.aI.length (d.aI.flatMap Rg.cells)∧S 3 1 p.2.1 d.gH.length (aG d.gH))→Rows (oY S) 6 cl (List.zipWith wR cl da)
 | [],[],_,_=>trivial
 | c::cl,a::da,hl,h=>⟨rfl,⟨a.1.1,_,a.1.2,a.2.1,_,a.2.2,rfl,rfl,rfl,(h 0 c a rfl rfl).1,(h 0 c a rfl rfl).2⟩,aDd (by simpa using hl) fun i c' a' hc ha=>h (i+1) c' a' (by simpa using hc) (by simpa using ha)⟩
theorem aMR{es:List Dom}{rs:List (List Value)}(h:Rows pU 3 es rs):∀u∈rs.flatten,u.oneCell'=true:=fun u hu=>by
 obtain⟨r,hr,hu⟩:=List.mem_flatten.1 hu
 obtain⟨j,hj⟩:=List.getElem?_of_mem hr
 obtain⟨e,_,_,hR⟩:=h.at_ hj
 unfold pU at hR
 subst hR
 simp only[List.mem_cons,List.not_mem_nil,or_false] at hu
 rcases hu with rfl | rfl | rfl<;>rfl
theorem aHL{es:List Int}{rs:List (List Value)}(h:Rows tM 1 es rs):∀u∈rs.flatten,u.oneCell'=true:=fun u hu=>by
 obtain⟨r,hr,hu⟩:=List.mem_flatten.1 hu
 obtain⟨j,hj⟩:=List.getElem?_of_mem hr
 obtain⟨e,_,_,hR⟩:=h.at_ hj
 unfold tM at hR
 subst hR
 simp only[List.mem_cons,List.not_mem_nil,or_false] at hu
 subst hu
 rfl
def vL(s:aA)(fa:List AC)(i:Nat)(p:Piece):Prop:=∀(j:Nat) (c:dV) (a:AC),j < i→s.aD[j]? =some c→fa[j]? =some a→aE p 1 a.1 c.src.length (aG c.src)
theorem vL.le{s:aA}{fa:List AC}{i:Nat}(p q:Piece)(hl:p.Le q)(h:vL s fa i p):vL s fa i q:=fun j c a hj hc ha=>(h j c a hj hc ha).le hl
def zG(s:aA)(da:List (AC×AC))(i:Nat)(p:Piece):Prop:=∀(j:Nat) (d:bK) (a:AC×AC),j < i→s.aC[j]? =some d→da[j]? =some a→aE p 2 a.1.1 d.aI.length (d.aI.flatMap Rg.cells)∧aE p 1 a.2.1 d.gH.length (aG d.gH)
theorem zG.le{s:aA}{da:List (AC×AC)}{i:Nat}(p q:Piece)(hl:p.Le q)(h:zG s da i p):zG s da i q:=fun j c a hj hc ha=>⟨(h j c a hj hc ha).1.le hl,(h j c a hj hc ha).2.le hl⟩
end
section
set_option maxHeartbeats 4000000
set_option maxRecDepth 20000
theorem Kv{l:List Rg}:∀u∈l.flatMap Rg.cells,u.oneCell'=true:=fun u hu=>by
 obtain⟨r,_,hu⟩:=List.mem_flatMap.1 hu
 simp only[Rg.cells,List.mem_cons,List.not_mem_nil,or_false] at hu
 rcases hu with rfl | rfl<;>rfl
def Zg(s:aA)(v:Value)(w w':World):Prop:=∃cs,v=.agg cs∧zB (eN (fresh w w')) s cs
theorem aBK(s:aA)(A1 A2 A3 A4:Option Addr)(n1 k1 n2 k2 n3 k3 n4 k4:Nat)(w:World)(hW:eI w s A1 n1 A2 n2 A3 n3 A4 n4)(Ey:∀d∈s.aC,d.aI.length≤1000000):
  Calls Tryz.prog 75 #[.agg #[.slice A1 n1 k1,.slice A2 n2 k2,.slice A3 n3 k3,.slice A4 n4 k4]] w (fun y w'=>(∃v,y=.returned v∧Zg s v w w')∧Below w.heap.size w w'):=by
 obtain⟨rc,hrc,lX,hsc⟩:=hW.qP
 obtain⟨rd,hrd,hn2,hsd⟩:=hW.dom
 obtain⟨rr,bM,lW,hst⟩:=hW.xS
 obtain⟨rv,Mg,nJ,rU⟩:=hW.dev
 obtain⟨Fv,aLb,rfl,aLc⟩:=aBM hrc
 obtain⟨Dh,aLg,rfl,aLh⟩:=aBG Mg
 obtain⟨sm1,sm2,sm3,sm4,sm5,sm6⟩:=hW.small
 subst lX;subst hn2;subst lW;subst nJ
 have ho1:=aCt (es:=s.aD) (bs:=Fv) aNE
 have ho4:=aCt (es:=s.aC) (bs:=Dh) aNm
 refine XK.en Tryz.func75 Tryz.ntmps75 ?_
 refine XK.seq ?_
 refine XK.region ?_
 refine aS fun g1=>?_
 refine bB fun g2=>?_
 refine XK.aY ?_
 refine XK.cut (fun e R H=>∃C j1 D j2 E j3 V j4 g3,e=[(3,pt g3),(2,pt g2)]∧R=[all w]∧H=[HP.own 86 6 (.slice C s.aD.length j1) s.aD.length (Nq s Fv).flatten,HP.own 38 6 (.slice V s.aC.length j4) s.aC.length (Nh s Dh).flatten,HP.own 50 3 (.slice D s.domains.length j2) s.domains.length rd.flatten,HP.own 88 1 (.slice E s.aL.length j3) s.aL.length rr.flatten,HP.aB g3 30 [.slice C s.aD.length j1,.slice D s.domains.length j2,.slice E s.aL.length j3,.slice V s.aC.length j4],HP.aB g2 30 [sn,sn,sn,sn]]) ?_ ?_
 ·refine XK.draw 14 (by kernel_rfl) (by kernel_rfl) ?_
  refine XA.q 0 ?_
  refine XA.q 1 ?_
  refine XA.q 3 ?_
  refine XA.q 4 ?_
  refine XA.q 6 ?_
  refine XA.q 7 ?_
  refine XA.q 9 ?_
  refine XA.q 10 ?_
  refine XA.aDM (j:=13) 3 30 [sn,sn,sn,sn] fun M=>?_
  refine XA.maybe 2 13 rfl rfl (dN (by kernel_rfl)) (by decide) (by kernel_rfl) (by kernel_rfl) (fun _ h=>h) (fun M=>?_)
  refine Om (f:=147) (fi:=[]) (ca:=[]) (by kernel_rfl) (Mx M rfl rfl) (Mw M rfl rfl) (by decide) (aGe s.aD.length (Nq s Fv).flatten) (fun w1 st=>aJt A1 _ k1 _ w1 (hsc.le (st.le (by simp))) ho1 sm1) ?_
  rintro _ _ q1 ⟨C,j1,rfl,rfl⟩ _
  dsimp only[List.cons_append,List.nil_append]
  refine XK.Vd ?_
  refine XK.nil ?_;refine XK.dD ?_;refine XA.mZ (by decide) rfl (fun _ h=>h.aK.tail) ?_
  refine XA.maybe 5 13 rfl rfl (dN (by kernel_rfl)) (by decide) (by kernel_rfl) (by kernel_rfl) (fun _ h=>h.aK.tail) (fun M=>?_)
  refine Om (f:=148) (fi:=[]) (ca:=[]) (by kernel_rfl) (Mx M rfl rfl) (Mw M rfl rfl) (by decide) (aGc s.domains.length rd.flatten) (fun w1 st=>aJr A2 _ k2 _ w1 (hsd.le (st.le (by simp))) (aMR hrd) sm2) ?_
  rintro _ _ q2 ⟨D,j2,rfl,rfl⟩ _
  dsimp only[List.cons_append,List.nil_append]
  refine XK.Vd ?_
  refine XK.nil ?_;refine XK.dD ?_;refine XA.mZ (by decide) rfl (fun _ h=>h.aK.tail.aK.tail) ?_
  refine XA.maybe 8 13 rfl rfl (dN (by kernel_rfl)) (by decide) (by kernel_rfl) (by kernel_rfl) (fun _ h=>h.aK.tail.aK.tail) (fun M=>?_)
  refine Om (f:=149) (fi:=[]) (ca:=[]) (by kernel_rfl) (Mx M rfl rfl) (Mw M rfl rfl) (by decide) (aGa s.aL.length rr.flatten) (fun w1 st=>aJp A3 _ k3 _ w1 (hst.le (st.le (by simp))) (aHL bM) sm3) ?_
  rintro _ _ q3 ⟨E,j3,rfl,rfl⟩ _
  dsimp only[List.cons_append,List.nil_append]
  refine XK.Vd ?_
  refine XK.nil ?_;refine XK.dD ?_;refine XA.mZ (by decide) rfl (fun _ h=>h.aK.tail.aK.tail.aK.tail) ?_
  refine XA.maybe 11 13 rfl rfl (dN (by kernel_rfl)) (by decide) (by kernel_rfl) (by kernel_rfl) (fun _ h=>h.aK.tail.aK.tail.aK.tail) (fun M=>?_)
  refine Om (f:=150) (fi:=[]) (ca:=[]) (by kernel_rfl) (Mx M rfl rfl) (Mw M rfl rfl) (by decide) (aGd s.aC.length (Nh s Dh).flatten) (fun w1 st=>aJs A4 _ k4 _ w1 (rU.le (st.le (by simp))) ho4 sm4) ?_
  rintro _ _ q4 ⟨V,j4,rfl,rfl⟩ _
  dsimp only[List.cons_append,List.nil_append]
  refine XK.Vd ?_
  refine XK.nil ?_;refine XK.dD ?_;refine XA.mZ (by decide) rfl (fun _ h=>h.aK.tail.aK.tail.aK.tail.aK.tail) ?_
  cases M with
  | none=>
   dsimp only[tF,wH,yA,Cu]
   refine XA.dR 12 rfl rfl rfl (by decide) (jF (zs:=[sn,sn,sn,sn]) (L:=[(0,1),(1,1),(2,1),(3,1)]) (dN (by kernel_rfl)) (by kernel_rfl) rfl (by simp[eF,fH,Value.cells];rfl)) (by kernel_rfl) (fun _ _ _ h=>h) (fun _ h=>h.aK.tail.aK.tail.aK.tail.aK.tail) ?_
   refine XA.next 13 rfl (by kernel_rfl) ?_
   refine bB fun g3=>?_
   refine XK.nil ?_;refine XK.dD ?_;refine XA.back (fun _ h=>h.tail.aK.tail.aK.tail.aK.tail.aK.tail) ?_
   refine XA.next 14 rfl (by kernel_rfl) ?_
   refine lM 0 rfl ?_
   dsimp only[List.set]
   refine XA.bt ?_
   refine XA.done (by kernel_rfl) ?_
   refine XK.norm ?_
   exact XK.weak [4,1,3,2,0,5] rfl (by decide) (by simp) (XK.aT [(3,pt g3),(2,pt g2)] (XK.meet ⟨C,j1,D,j2,E,j3,V,j4,g3,rfl,rfl,rfl⟩))
  | some g3=>
   dsimp only[tF,wH,yA,Cu]
   refine XA.dR 12 rfl rfl rfl (by decide) (jF (zs:=[sn,sn,sn,sn]) (L:=[(0,1),(1,1),(2,1),(3,1)]) (dN (by kernel_rfl)) (by kernel_rfl) rfl (by simp[eF,fH,Value.cells];rfl)) (by kernel_rfl) (fun _ _ _ h=>h) (fun _ h=>h.tail.aK.tail.aK.tail.aK.tail.aK.tail) ?_
   refine XA.next 14 rfl (by kernel_rfl) ?_
   refine lM 0 rfl ?_
   dsimp only[List.set]
   refine XA.bt ?_
   refine XA.done (by kernel_rfl) ?_
   refine XK.norm ?_
   exact XK.weak [4,1,3,2,0,5] rfl (by decide) (by simp) (XK.aT [(3,pt g3),(2,pt g2)] (XK.meet ⟨C,j1,D,j2,E,j3,V,j4,g3,rfl,rfl,rfl⟩))
 rintro _ _ _ ⟨C,j1,D,j2,E,j3,V,j4,g3,rfl,rfl,rfl⟩
 refine XK.yY (p:=HP.bH (vL s Fv 0) (vL.le (s:=s) (fa:=Fv) (i:=0))) (fun w1 j c a hj=>absurd hj (by omega)) ?_
 refine XK.go ?_
 refine XK.aT [(23,iv 0),(22,iv s.aD.length),(3,pt g3),(2,pt g2)] ?_
 refine XK.loop (fun m e R H=>∃(i:Nat) (fa:List AC),i≤s.aD.length∧fa.length=s.aD.length∧(∀j,i≤j→fa[j]? =Fv[j]?)∧m=s.aD.length - i∧e=[(23,iv i),(22,iv s.aD.length),(3,pt g3),(2,pt g2)]∧R=[all w]∧H=[HP.bH (vL s fa i) (vL.le (s:=s) (fa:=fa) (i:=i)),HP.own 86 6 (.slice C s.aD.length j1) s.aD.length (Nq s fa).flatten,HP.own 38 6 (.slice V s.aC.length j4) s.aC.length (Nh s Dh).flatten,HP.own 50 3 (.slice D s.domains.length j2) s.domains.length rd.flatten,HP.own 88 1 (.slice E s.aL.length j3) s.aL.length rr.flatten,HP.aB g3 30 [.slice C s.aD.length j1,.slice D s.domains.length j2,.slice E s.aL.length j3,.slice V s.aC.length j4],HP.aB g2 30 [sn,sn,sn,sn]]) s.aD.length ⟨0,Fv,by omega,aLb,fun _ _=>rfl,rfl,rfl,rfl,rfl⟩ fun m e R H hI=>?_
 obtain⟨i,fa,hi,hfl,hsame,rfl,rfl,rfl,rfl⟩:=hI
 refine XK.go ?_
 refine XK.if_ rfl (fun hlt=>?_) (fun hge=>?_)
 ·have hlt:i < s.aD.length:=by omega
  obtain⟨c,hc⟩:=get_some hlt
  obtain⟨a,ha⟩:=get_some (l:=fa) (i:=i) (by omega)
  have ha0:Fv[i]? =some a:=by rw[←hsame i (Nat.le_refl _)];exact ha
  have aLa:=aLc i c a hc ha0
  have hcs:=sm5 c (List.mem_of_getElem? hc)
  refine XK.weak [1,0,2,3,4,5,6] rfl (by decide) (fun _ h=>h) ?_
  refine XK.Vu 0 rfl (by omega) fun gC hC=>?_
  subst hC
  refine XK.xX 0 rfl fun cs h1 h2 h3 h4=>?_
  dsimp only[List.set]
  obtain⟨fV,fU⟩:=Um (f:=wU) (es:=s.aD) (bs:=fa) (sz:=6) hfl (fun _ _=>rfl)
  have hs:=Cw h2 fV fU (Oi hc ha)
  refine XK.go ?_
  refine XK.draw 10 (by kernel_rfl) (by kernel_rfl) ?_
  refine XA.q 0 ?_
  refine XA.q 1 ?_
  refine XA.q 2 ?_
  refine XA.q 3 ?_
  refine XA.q 4 ?_
  refine XA.q 5 ?_
  refine XA.q 6 ?_ (cY:=dat (sz:=6) i (i*6))
  refine XA.q 7 ?_
  refine XA.q 8 ?_
  refine XA.next 9 rfl (by kernel_rfl) ?_
  refine fB (aCh c.src.length (aG c.src)) (fun w1 st=>aD2 a.1 _ a.2 _ w1 (aE.le aLa (st.le (by simp))) (Lw _) hcs) ?_
  rintro _ _ q ⟨Af,kf,rfl,rfl⟩ _
  dsimp only[List.cons_append,List.nil_append]
  refine XA.bk ?_
  refine XA.next 10 rfl (by kernel_rfl) ?_
  refine kd (dat i (i*6)) ?_
  refine XA.bt ?_
  refine XA.next 11 rfl (by kernel_rfl) ?_
  refine bA ?_
  refine XA.bt ?_
  refine XA.next 12 rfl (by kernel_rfl) ?_
  refine dL rfl rfl ?_
  dsimp only[List.set]
  refine XA.bt ?_
  refine XA.done (by kernel_rfl) ?_
  have hs1:=hs.set 1 (.slice Af c.src.length kf) (by simp[wU]) (by omega)
  have rR:=(sH.refl cs (i*6) 6).set 1 (.slice Af c.src.length kf) (by decide)
  have hf:=Ba (r':=wU c (Af,kf)) h2 fV fU hlt (by omega) rfl hs1 rR
  rw[show(Nq s fa).set i (wU c (Af,kf))=Nq s (fa.set i (Af,kf)) from aCs hc (by omega)] at hf
  refine XK.wT 1 (n:=s.aD.length) (c:=j1) (sz:=6) rfl (by simpa using h1) hf h3 h4 ?_
  dsimp only[List.set]
  refine XK.rN 0 (Φ:=fun p=>aE p 1 Af c.src.length (aG c.src)) (hm:=fun p q hl h=>aE.le h hl) rfl (fun p h=>h) ?_
  dsimp only[List.set]
  refine XK.weak [0,2,1,3,4,5,6,7] rfl (by decide) (fun _ h=>h) ?_
  refine XK.Lv (X:=vL s (fa.set i (Af,kf)) (i+1)) (h3:=vL.le) (fun p h1 h2 j c' a' hj Iu yP=>by
   rcases Nat.lt_or_ge j i with h | h
   ·rw[List.getElem?_set_ne (by omega)] at yP
    exact h2 j c' a' h Iu yP
   ·obtain rfl:j=i:=by omega
    rw[hc] at Iu
    cases Iu
    rw[List.getElem?_set_self (by omega)] at yP
    cases yP
    exact h1) ?_
  refine XK.go ?_
  refine XK.aT [(23,iv (i+1:Nat)),(22,iv s.aD.length),(3,pt g3),(2,pt g2)] ?_
  refine XK.nU (R':=[all w]) (by simp) ?_
  exact XK.round (s.aD.length - (i+1)) (by omega) ⟨i+1,fa.set i (Af,kf),hlt,by simpa using hfl,fun j hj=>by rw[List.getElem?_set_ne (by omega)];exact hsame j (by omega),rfl,rfl,rfl,rfl⟩
 ·obtain rfl:i=s.aD.length:=by omega
  refine XK.yY (p:=HP.bH (zG s Dh 0) (zG.le (s:=s) (da:=Dh) (i:=0))) (fun w1 j d a hj=>absurd hj (by omega)) ?_
  refine XK.go ?_
  refine XK.aT [(42,iv 0),(41,iv s.aC.length),(3,pt g3),(2,pt g2)] ?_
  refine XK.loop (fun m e R H=>∃(i:Nat) (da:List (AC×AC)),i≤s.aC.length∧da.length=s.aC.length∧(∀j,i≤j→da[j]? =Dh[j]?)∧m=s.aC.length - i∧e=[(42,iv i),(41,iv s.aC.length),(3,pt g3),(2,pt g2)]∧R=[all w]∧H=[HP.bH (zG s da i) (zG.le (s:=s) (da:=da) (i:=i)),HP.bH (vL s fa s.aD.length) (vL.le (s:=s) (fa:=fa) (i:=s.aD.length)),HP.own 86 6 (.slice C s.aD.length j1) s.aD.length (Nq s fa).flatten,HP.own 38 6 (.slice V s.aC.length j4) s.aC.length (Nh s da).flatten,HP.own 50 3 (.slice D s.domains.length j2) s.domains.length rd.flatten,HP.own 88 1 (.slice E s.aL.length j3) s.aL.length rr.flatten,HP.aB g3 30 [.slice C s.aD.length j1,.slice D s.domains.length j2,.slice E s.aL.length j3,.slice V s.aC.length j4],HP.aB g2 30 [sn,sn,sn,sn]]) s.aC.length ⟨0,Dh,by omega,aLg,fun _ _=>rfl,rfl,rfl,rfl,rfl⟩ fun m e R H hI=>?_
  obtain⟨i,da,hi,kA,aEi,rfl,rfl,rfl,rfl⟩:=hI
  refine XK.go ?_
  refine XK.if_ rfl (fun hlt=>?_) (fun hge=>?_)
  ·have hlt:i < s.aC.length:=by omega
   obtain⟨d,hd⟩:=get_some hlt
   obtain⟨⟨a1,a2⟩,ha⟩:=get_some (l:=da) (i:=i) (by omega)
   have ha0:Dh[i]? =some (a1,a2):=by rw[←aEi i (Nat.le_refl _)];exact ha
   obtain⟨aBe,aEr⟩:=aLh i d _ hd ha0
   have dH:=Ey d (List.mem_of_getElem? hd)
   have eW:=sm6 d (List.mem_of_getElem? hd)
   refine XK.weak [3,0,1,2,4,5,6,7] rfl (by decide) (fun _ h=>h) ?_
   refine XK.Vu 0 rfl (by omega) fun gV hV=>?_
   subst hV
   refine XK.xX 0 rfl fun cs h1 h2 h3 h4=>?_
   dsimp only[List.set]
   obtain⟨fV,fU⟩:=Um (f:=wR) (es:=s.aC) (bs:=da) (sz:=6) kA (fun _ _=>rfl)
   have hs:=Cw h2 fV fU (Oi hd ha)
   refine XK.go ?_
   refine kd (dat i (i*6)) ?_
   refine XK.go ?_
   refine XK.eU [3,4,5,8,9,10] ?_
   refine XB.mv 0 ?_
   refine XB.mv 1 ?_
   refine XB.mv 2 ?_
   refine XB.mv 7 ?_
   refine XB.q 3 ?_
   refine XB.q 4 ?_
   refine XB.q 5 ?_
   refine XB.q 8 ?_
   refine XB.q 9 ?_
   refine XB.q 10 ?_
   refine XB.next 6 rfl (by kernel_rfl) ?_
   refine fB (aGb d.aI.length (d.aI.flatMap Rg.cells)) (fun w1 st=>aJq a1.1 _ a1.2 _ w1 (aE.le aBe (st.le (by simp))) Kv dH) ?_
   rintro _ _ q1 ⟨Ag,kg,rfl,rfl⟩ _
   dsimp only[List.cons_append,List.nil_append]
   refine XB.bk ?_
   refine XB.next 11 rfl (by kernel_rfl) ?_
   refine fB (aCh d.gH.length (aG d.gH)) (fun w1 st=>aD2 a2.1 _ a2.2 _ w1 (aE.le aEr (st.le (by simp))) (Lw _) eW) ?_
   rintro _ _ q2 ⟨An,kn,rfl,rfl⟩ _
   dsimp only[List.cons_append,List.nil_append]
   refine XB.bk ?_ (hS:=fun _ h=>h.aK.tail.aK.tail)
   refine XB.next 12 rfl (by kernel_rfl) ?_
   refine bA ?_
   refine XB.bk ?_ (hS:=fun _ h=>h.aK.tail.aK.tail)
   refine XB.next 13 rfl (by kernel_rfl) ?_
   refine bA ?_
   refine XB.bk ?_ (hS:=fun _ h=>h.aK.tail.aK.tail)
   refine XB.next 14 rfl (by kernel_rfl) ?_
   refine dL rfl rfl ?_
   dsimp only[List.set]
   refine XB.bt ?_
   refine XB.next 15 rfl (by kernel_rfl) ?_
   refine bA ?_
   refine XB.bt ?_
   refine XB.next 16 rfl (by kernel_rfl) ?_
   refine bA ?_
   refine XB.bt ?_
   refine XB.next 17 rfl (by kernel_rfl) ?_
   refine dL rfl rfl ?_
   dsimp only[List.set]
   refine XB.bt ?_
   refine XB.done (by kernel_rfl) ?_
   have hs1:=(hs.set 4 (.slice Ag d.aI.length kg) (by simp[wR]) (by omega)).set 5 (.slice An d.gH.length kn) (by simp[wR]) (by simp;omega)
   have rR:=((sH.refl cs (i*6) 6).set 4 (.slice Ag d.aI.length kg) (by decide)).set 5 (.slice An d.gH.length kn) (by decide)
   have hf:=Ba (r':=wR d ((Ag,kg),(An,kn))) h2 fV fU hlt (by omega) rfl hs1 rR
   rw[show(Nh s da).set i (wR d ((Ag,kg),(An,kn)))=Nh s (da.set i ((Ag,kg),(An,kn))) from aCs hd (by omega)] at hf
   refine XK.wT 2 (n:=s.aC.length) (c:=j4) (sz:=6) rfl (by simpa using h1) hf h3 h4 ?_
   dsimp only[List.set]
   refine XK.rN 0 (Φ:=fun p=>aE p 1 An d.gH.length (aG d.gH)) (hm:=fun p q hl h=>aE.le h hl) rfl (fun p h=>h) ?_
   refine XK.rN 1 (Φ:=fun p=>aE p 2 Ag d.aI.length (d.aI.flatMap Rg.cells)) (hm:=fun p q hl h=>aE.le h hl) rfl (fun p h=>h) ?_
   dsimp only[List.set]
   refine XK.Lv (X:=fun p=>aE p 1 An d.gH.length (aG d.gH)∧aE p 2 Ag d.aI.length (d.aI.flatMap Rg.cells)) (h3:=fun p q hl h=>⟨aE.le h.1 hl,aE.le h.2 hl⟩) (fun p h1 h2=>⟨h1,h2⟩) ?_
   refine XK.weak [0,2,3,4,1,5,6,7,8] rfl (by decide) (fun _ h=>h) ?_
   refine XK.Lv (X:=zG s (da.set i ((Ag,kg),(An,kn))) (i+1)) (h3:=zG.le) (fun p h1 h2 j d' a' hj hd' yP=>by
    rcases Nat.lt_or_ge j i with h | h
    ·rw[List.getElem?_set_ne (by omega)] at yP
     exact h2 j d' a' h hd' yP
    ·obtain rfl:j=i:=by omega
     rw[hd] at hd'
     cases hd'
     rw[List.getElem?_set_self (by omega)] at yP
     cases yP
     exact⟨h1.2,h1.1⟩) ?_
   refine XK.go ?_
   refine XK.aT [(42,iv (i+1:Nat)),(41,iv s.aC.length),(3,pt g3),(2,pt g2)] ?_
   refine XK.nU (R':=[all w]) (by simp) ?_
   exact XK.round (s.aC.length - (i+1)) (by omega) ⟨i+1,da.set i ((Ag,kg),(An,kn)),hlt,by simpa using kA,fun j hj=>by rw[List.getElem?_set_ne (by omega)];exact aEi j (by omega),rfl,rfl,rfl,rfl⟩
  ·obtain rfl:i=s.aC.length:=by omega
   refine XK.weak [6,7,0,1,2,3,4,5] rfl (by decide) (fun _ h=>h) ?_
   refine XK.go ?_
   refine XK.still [] [2,3,4,5,6,7] [1] (by simp) rfl (by decide) (by decide) fun q hq _ hfr=>?_
   obtain⟨F0,s0,z0⟩:=hq 2 _ (by simp) rfl
   obtain⟨F1,s1,z1⟩:=hq 3 _ (by simp) rfl
   have e0:zG s da s.aC.length q:=zG.le ⟨q.w,F0⟩ q (fun b hb=>⟨z0 b hb,rfl⟩) s0
   have e1:vL s fa s.aD.length q:=vL.le ⟨q.w,F1⟩ q (fun b hb=>⟨z1 b hb,rfl⟩) s1
   have e2:=aE.own (hq 4 _ (by simp) rfl)
   have e3:=aE.own (hq 5 _ (by simp) rfl)
   have e4:=aE.own (hq 6 _ (by simp) rfl)
   have e5:=aE.own (hq 7 _ (by simp) rfl)
   have hS:zB (eN q) s #[.slice C s.aD.length j1,.slice D s.domains.length j2,.slice E s.aL.length j3,.slice V s.aC.length j4]:=
    ⟨C,_,j1,D,_,j2,E,_,j3,V,_,j4,rfl,⟨_,aDe hfl (fun i c a hc ha=>e1 i c a (List.getElem?_eq_some_iff.1 hc).1 hc ha),rfl,e2⟩,⟨rd,hrd,rfl,e4⟩,⟨rr,bM,rfl,e5⟩,⟨_,aDd kA (fun i d p hd hp=>e0 i d p (List.getElem?_eq_some_iff.1 hd).1 hd hp),rfl,e3⟩⟩
   exact XK.By (vs:=[.slice C s.aD.length j1,.slice D s.domains.length j2,.slice E s.aL.length j3,.slice V s.aC.length j4]) rfl (by kernel_rfl) rfl rfl (by first | assumption | exact aH.whole 0 rfl | exact aH.whole 1 rfl | exact aH.whole 2 rfl | exact aH.whole 3 rfl | exact aH.whole 4 rfl | exact aH.whole 5 rfl | exact aH.whole 6 rfl | exact aH.whole 7 rfl | exact aH.whole 8 rfl | exact aH.jP (by simp) (by assumption)) fun w1 t=>⟨⟨_,rfl,_,rfl,hS.mono (lH (t.jD (by simp) (hfr (by simp) (by simp))))⟩,t.below (by simp)⟩
end
section
set_option maxHeartbeats 4000000
set_option maxRecDepth 20000
section
variable{P:Program}{N:bO}{w0 w:World}{K:Act→World→Prop}{e:Env}{R:List Piece}{H H':List HP}
theorem XK.push{p : HP}{ps : List HP}(h : XK N w0 K e R (HP.many (ps ++ [p]) :: H)) : XK N w0 K e R (p :: HP.many ps :: H) := fun a w hr st => by
  obtain⟨Z,F,hz,bM,hs,cE,eA⟩:=st.ex
  obtain⟨G,hG1,hG2,hG3⟩:=hs 1 _ rfl
  refine h a w hr ⟨st.os,st.tape,st.output,st.size,Z,fun j=>match j with | 0=>fun b=>F 0 b∨F 1 b | j+1=>F (j+2),hz,bM,fun j r hj=>?_,fun j b hb=>?_,fun j k b iT hj hk=>?_⟩
  · cases j with
    | zero =>
      simp at hj
      subst hj
      refine⟨fun i b=>if i < ps.length then G i b else i=ps.length∧F 0 b,fun i r hi=>?_,fun i b hb=>?_,fun i k b hik h1 h2=>?_⟩
      · rcases Nat.lt_or_ge i ps.length with hl | hl
        · rw[List.getElem?_append_left hl] at hi
          show r.sat (fun b=>if i < ps.length then G i b else i=ps.length∧F 0 b) w
          rw[show(fun b=>if i < ps.length then G i b else i=ps.length∧F 0 b)=G i by funext b;rw[if_pos hl]]
          exact hG1 i r hi
        · rw[List.getElem?_append_right hl] at hi
          have h0:=wI hi
          have hil:i=ps.length:=by simp at h0;omega
          subst hil
          simp at hi
          subst hi
          show p.sat (fun b=>if ps.length < ps.length then G ps.length b else ps.length=ps.length∧F 0 b) w
          rw[show(fun b=>if ps.length < ps.length then G ps.length b else ps.length=ps.length∧F 0 b)=F 0 by funext b;simp]
          exact hs 0 _ rfl
      · dsimp only at hb
        split at hb
        · exact .inr (hG2 i b hb)
        · exact .inl hb.2
      · dsimp only at h1 h2
        split at h1<;>split at h2
        · exact hG3 i k b hik h1 h2
        · exact eA 1 0 b (by omega) (hG2 i b h1) h2.2
        · exact eA 0 1 b (by omega) h1.2 (hG2 k b h2)
        · omega
    | succ j=>exact hs (j+2) r (by simpa using hj)
  · cases j with
    | zero=>rcases hb with hb | hb<;>exact cE _ b hb
    | succ j=>exact cE _ b hb
  · cases j with
    | zero => cases k with
      | zero=>exact iT rfl
      | succ k => rcases hj with hj | hj
                  · exact eA 0 (k+2) b (by omega) hj hk
                  · exact eA 1 (k+2) b (by omega) hj hk
    | succ j => cases k with
      | zero => rcases hk with hk | hk
                · exact eA 0 (j+2) b (by omega) hk hj
                · exact eA 1 (j+2) b (by omega) hk hj
      | succ k=>exact eA (j+2) (k+2) b (by omega) hj hk
end
theorem XK.three{N:bO}{w0:World}{e:Env}{R:List Piece}{H:List HP}{K:Act→World→Prop}{p q r:HP}(h:XK N w0 K e R (HP.many [p,q,r]::H)):XK N w0 K e R (p::q::r::H):=by
 refine XK.pair ?_
 refine fun a w hr st=>?_
 refine(XK.push (ps:=[p,q]) (p:=r) h) a w hr (st.weak (fun _ h=>h) (fun i=>match i with
  | 0=>1
  | 1=>0
  | i+2=>i+2) (fun i j _ _ he=>by
   match i,j with
   | 0,0=>rfl
   | 0,1=>simp at he
   | 0,j+2=>simp at he
   | 1,0=>simp at he
   | 1,1=>rfl
   | 1,j+2=>simp at he
   | i+2,0=>simp at he
   | i+2,1=>simp at he
   | i+2,j+2=>simpa using he) (fun i p hi=>by
   match i,hi with
   | 0,hi=>simpa using hi
   | 1,hi=>simpa using hi
   | i+2,hi=>simpa using hi))
end
section
set_option maxHeartbeats 4000000
set_option maxRecDepth 20000
theorem XK.four{N:bO}{w0:World}{e:Env}{R:List Piece}{H:List HP}{K:Act→World→Prop}{p q r s:HP}(h:XK N w0 K e R (HP.many [p,q,r,s]::H)):XK N w0 K e R (p::q::r::s::H):=by
 refine XK.pair ?_
 refine fun a w hr st=>?_
 have swap:∀{x y:HP} {H:List HP} {w:World},St w0 R (x::y::H) w→St w0 R (y::x::H) w:=fun st=>st.weak (fun _ h=>h) (fun i=>match i with
  | 0=>1
  | 1=>0
  | i+2=>i+2) (fun i j _ _ he=>by
   match i,j with
   | 0,0=>rfl
   | 0,1=>simp at he
   | 0,j+2=>simp at he
   | 1,0=>simp at he
   | 1,1=>rfl
   | 1,j+2=>simp at he
   | i+2,0=>simp at he
   | i+2,1=>simp at he
   | i+2,j+2=>simpa using he) (fun i p hi=>by
   match i,hi with
   | 0,hi=>simpa using hi
   | 1,hi=>simpa using hi
   | i+2,hi=>simpa using hi)
 refine(XK.push (ps:=[p,q]) (p:=r) (H:=s::H) (fun a w hr st=>?_)) a w hr (swap st)
 exact(XK.push (ps:=[p,q,r]) (p:=s) h) a w hr (swap st)
def aGo(d:bK)(v:Value)(hs:List HP)(_:Piece):Prop:=∃L:FL,v=.tuple #[.pointer (some ⟨L.f,0,none⟩),iv 0]∧hs=[eP L d (Bb d)]
theorem zR(l:List Rg):List.replicate l.length (Value.int .u32 0)=kU (l.map fun _=>0):=by
 refine List.ext_getElem? fun j=>?_
 simp only[kU,List.map_map,List.getElem?_replicate,List.getElem?_map]
 by_cases h:j < l.length
 ·rw[if_pos h,List.getElem?_eq_getElem h];rfl
 ·rw[if_neg h,List.getElem?_eq_none (by omega)];rfl
theorem aI0(d:bK)(hrl:d.aI.length≤8)(bM:∀r∈d.aI,0≤r.reset∧r.reset < 4294967296)(A:Option Addr)(c:Nat)(w:World)(hs:aE (all w) 2 A d.aI.length (d.aI.flatMap Rg.cells)):
  Calls Tryz.prog 71 #[.slice A d.aI.length c] w (fun y w'=>(∃v hs q,y=.returned v∧q.w=w'∧aGo d v hs q∧iY w hs q)∧Below w.heap.size w w'):=by
 refine XK.en Tryz.func71 Tryz.ntmps71 ?_
 refine XK.seq ?_
 refine XK.region ?_
 refine bA ?_
 refine bA ?_
 refine XK.aY ?_
 refine XK.seq ?_
 refine XK.seq ?_
 refine XK.region ?_
 refine bA ?_
 refine bA ?_
 refine bA ?_
 refine XK.gw ?_
 refine XK.if_ rfl (fun h=>absurd h (by omega)) (fun _=>?_)
 refine XK.skip ?_
 refine XK.norm ?_
 refine XK.cut (fun e R H=>∃B j gn gs g3,e=[(4,pt g3)]∧R=[all w]∧H=[HP.aB g3 298 [.slice B d.aI.length j,.slice (some ⟨gn,0,none⟩) d.aI.length d.aI.length,.slice (some ⟨gs,0,none⟩) d.aI.length d.aI.length,.bool false],HP.aB gn 23 (kU (d.aI.map fun _=>0)),HP.aB gs 23 (kU (d.aI.map fun _=>0)),HP.own 48 2 (.slice B d.aI.length j) d.aI.length (d.aI.flatMap Rg.cells)]) ?_ ?_
 ·refine XK.draw 8 (by kernel_rfl) (by kernel_rfl) ?_
  refine XA.q 0 ?_
  refine XA.q 2 ?_
  refine XA.q 3 ?_
  refine XA.q 5 ?_
  refine XA.q 6 ?_
  refine XA.three 1 4 7 rfl rfl rfl (by kernel_rfl) ?_ ?_ ?_
  ·skip
   refine fB (Og d.aI.length (d.aI.flatMap Rg.cells)) (fun w1 st=>Ts A _ c _ w1 (hs.le (st.le (by simp))) Kv (by omega)) ?_
   rintro _ _ q ⟨B,j,rfl,rfl⟩ _
   dsimp only[List.cons_append,List.nil_append]
   refine XA.bk ?_ (hS:=(fun _ h=>h.aK.tail))
   refine XA.either 4 7 rfl rfl (by kernel_rfl) ?_ ?_
   ·skip
    refine jG (n:=d.aI.length) 4 (el:=23) (z:=.int .u32 0) (by kernel_rfl) (by kernel_rfl) rfl rfl rfl (by omega) (by omega) (by decide) fun gn=>?_
    rw[zR d.aI]
    refine XA.bk ?_ (hS:=(fun _ h=>h.tail.aK.tail))
    refine XA.next 7 rfl (by kernel_rfl) ?_
    refine jG (n:=d.aI.length) 4 (el:=23) (z:=.int .u32 0) (by kernel_rfl) (by kernel_rfl) rfl rfl rfl (by omega) (by omega) (by decide) fun gs=>?_
    rw[zR d.aI]
    refine XA.bk ?_ (hS:=(fun _ h=>h.tail.tail.aK.tail))
    refine XA.next 8 rfl (by kernel_rfl) ?_
    refine kd (eM rfl) ?_
    refine XA.bt ?_
    refine XA.next 9 rfl (by kernel_rfl) ?_
    refine aS fun g3=>?_
    refine XA.bt ?_
    refine XA.next 10 rfl (by kernel_rfl) ?_
    refine bA ?_
    refine XA.bt ?_
    refine XA.done (by kernel_rfl) ?_
    refine XK.norm ?_
    exact XK.me ⟨B,j,gn,gs,g3,rfl,rfl,rfl⟩
   ·skip
    refine jG (n:=d.aI.length) 4 (el:=23) (z:=.int .u32 0) (by kernel_rfl) (by kernel_rfl) rfl rfl rfl (by omega) (by omega) (by decide) fun gs=>?_
    rw[zR d.aI]
    refine XA.bk ?_ (hS:=(fun _ h=>h.tail.aK.tail))
    refine XA.next 4 rfl (by kernel_rfl) ?_
    refine jG (n:=d.aI.length) 4 (el:=23) (z:=.int .u32 0) (by kernel_rfl) (by kernel_rfl) rfl rfl rfl (by omega) (by omega) (by decide) fun gn=>?_
    rw[zR d.aI]
    refine XA.bk ?_ (hS:=(fun _ h=>h.tail.tail.aK.tail))
    refine XA.next 8 rfl (by kernel_rfl) ?_
    refine kd (eM rfl) ?_
    refine XA.bt ?_
    refine XA.next 9 rfl (by kernel_rfl) ?_
    refine aS fun g3=>?_
    refine XA.bt ?_
    refine XA.next 10 rfl (by kernel_rfl) ?_
    refine bA ?_
    refine XA.bt ?_
    refine XA.done (by kernel_rfl) ?_
    refine XK.norm ?_
    exact XK.me ⟨B,j,gn,gs,g3,rfl,rfl,rfl⟩
  ·skip
   refine jG (n:=d.aI.length) 4 (el:=23) (z:=.int .u32 0) (by kernel_rfl) (by kernel_rfl) rfl rfl rfl (by omega) (by omega) (by decide) fun gn=>?_
   rw[zR d.aI]
   refine XA.bk ?_ (hS:=(fun _ h=>h.tail))
   refine XA.either 1 7 rfl rfl (by kernel_rfl) ?_ ?_
   ·skip
    refine fB (Og d.aI.length (d.aI.flatMap Rg.cells)) (fun w1 st=>Ts A _ c _ w1 (hs.le (st.le (by simp))) Kv (by omega)) ?_
    rintro _ _ q ⟨B,j,rfl,rfl⟩ _
    dsimp only[List.cons_append,List.nil_append]
    refine XA.bk ?_ (hS:=(fun _ h=>h.aK.tail.tail))
    refine XA.next 7 rfl (by kernel_rfl) ?_
    refine jG (n:=d.aI.length) 4 (el:=23) (z:=.int .u32 0) (by kernel_rfl) (by kernel_rfl) rfl rfl rfl (by omega) (by omega) (by decide) fun gs=>?_
    rw[zR d.aI]
    refine XA.bk ?_ (hS:=(fun _ h=>h.tail.aK.tail.tail))
    refine XA.next 8 rfl (by kernel_rfl) ?_
    refine kd (eM rfl) ?_
    refine XA.bt ?_
    refine XA.next 9 rfl (by kernel_rfl) ?_
    refine aS fun g3=>?_
    refine XA.bt ?_
    refine XA.next 10 rfl (by kernel_rfl) ?_
    refine bA ?_
    refine XA.bt ?_
    refine XA.done (by kernel_rfl) ?_
    refine XK.norm ?_
    exact XK.me ⟨B,j,gn,gs,g3,rfl,rfl,rfl⟩
   ·skip
    refine jG (n:=d.aI.length) 4 (el:=23) (z:=.int .u32 0) (by kernel_rfl) (by kernel_rfl) rfl rfl rfl (by omega) (by omega) (by decide) fun gs=>?_
    rw[zR d.aI]
    refine XA.bk ?_ (hS:=(fun _ h=>h.tail.tail))
    refine XA.next 1 rfl (by kernel_rfl) ?_
    refine fB (Og d.aI.length (d.aI.flatMap Rg.cells)) (fun w1 st=>Ts A _ c _ w1 (hs.le (st.le (by simp))) Kv (by omega)) ?_
    rintro _ _ q ⟨B,j,rfl,rfl⟩ _
    dsimp only[List.cons_append,List.nil_append]
    refine XA.bk ?_ (hS:=(fun _ h=>h.aK.tail.tail.tail))
    refine XA.next 8 rfl (by kernel_rfl) ?_
    refine kd (eM rfl) ?_
    refine XA.bt ?_
    refine XA.next 9 rfl (by kernel_rfl) ?_
    refine aS fun g3=>?_
    refine XA.bt ?_
    refine XA.next 10 rfl (by kernel_rfl) ?_
    refine bA ?_
    refine XA.bt ?_
    refine XA.done (by kernel_rfl) ?_
    refine XK.norm ?_
    exact XK.me ⟨B,j,gn,gs,g3,rfl,rfl,rfl⟩
  ·skip
   refine jG (n:=d.aI.length) 4 (el:=23) (z:=.int .u32 0) (by kernel_rfl) (by kernel_rfl) rfl rfl rfl (by omega) (by omega) (by decide) fun gs=>?_
   rw[zR d.aI]
   refine XA.bk ?_ (hS:=(fun _ h=>h.tail))
   refine XA.either 1 4 rfl rfl (by kernel_rfl) ?_ ?_
   ·skip
    refine fB (Og d.aI.length (d.aI.flatMap Rg.cells)) (fun w1 st=>Ts A _ c _ w1 (hs.le (st.le (by simp))) Kv (by omega)) ?_
    rintro _ _ q ⟨B,j,rfl,rfl⟩ _
    dsimp only[List.cons_append,List.nil_append]
    refine XA.bk ?_ (hS:=(fun _ h=>h.aK.tail.tail))
    refine XA.next 4 rfl (by kernel_rfl) ?_
    refine jG (n:=d.aI.length) 4 (el:=23) (z:=.int .u32 0) (by kernel_rfl) (by kernel_rfl) rfl rfl rfl (by omega) (by omega) (by decide) fun gn=>?_
    rw[zR d.aI]
    refine XA.bk ?_ (hS:=(fun _ h=>h.tail.aK.tail.tail))
    refine XA.next 8 rfl (by kernel_rfl) ?_
    refine kd (eM rfl) ?_
    refine XA.bt ?_
    refine XA.next 9 rfl (by kernel_rfl) ?_
    refine aS fun g3=>?_
    refine XA.bt ?_
    refine XA.next 10 rfl (by kernel_rfl) ?_
    refine bA ?_
    refine XA.bt ?_
    refine XA.done (by kernel_rfl) ?_
    refine XK.norm ?_
    exact XK.me ⟨B,j,gn,gs,g3,rfl,rfl,rfl⟩
   ·skip
    refine jG (n:=d.aI.length) 4 (el:=23) (z:=.int .u32 0) (by kernel_rfl) (by kernel_rfl) rfl rfl rfl (by omega) (by omega) (by decide) fun gn=>?_
    rw[zR d.aI]
    refine XA.bk ?_ (hS:=(fun _ h=>h.tail.tail))
    refine XA.next 1 rfl (by kernel_rfl) ?_
    refine fB (Og d.aI.length (d.aI.flatMap Rg.cells)) (fun w1 st=>Ts A _ c _ w1 (hs.le (st.le (by simp))) Kv (by omega)) ?_
    rintro _ _ q ⟨B,j,rfl,rfl⟩ _
    dsimp only[List.cons_append,List.nil_append]
    refine XA.bk ?_ (hS:=(fun _ h=>h.aK.tail.tail.tail))
    refine XA.next 8 rfl (by kernel_rfl) ?_
    refine kd (eM rfl) ?_
    refine XA.bt ?_
    refine XA.next 9 rfl (by kernel_rfl) ?_
    refine aS fun g3=>?_
    refine XA.bt ?_
    refine XA.next 10 rfl (by kernel_rfl) ?_
    refine bA ?_
    refine XA.bt ?_
    refine XA.done (by kernel_rfl) ?_
    refine XK.norm ?_
    exact XK.me ⟨B,j,gn,gs,g3,rfl,rfl,rfl⟩
 rintro _ _ _ ⟨B,j,gn,gs,g3,rfl,rfl,rfl⟩
 refine XK.rN 3 (Φ:=pS d B) (hm:=pS.le (d:=d) (A:=B)) rfl (fun p h=>h) ?_
 dsimp only[List.set]
 refine XK.four ?_
 refine XK.gw ?_
 refine cX 0 (eP ⟨g3,gn,gs,B,j⟩ d (Bf d ⟨d.aI.map fun _=>0,d.aI.map fun _=>0,false⟩)) (fun w1 G t hG uP hle=>Vo ⟨g3,gn,gs,B,j⟩ d ⟨d.aI.map fun _=>0,d.aI.map fun _=>0,false⟩ (by omega) ⟨by simp,by simp,fun v hv=>by
  obtain⟨r,hr,rfl⟩:=List.mem_map.1 hv
  decide,fun v hv=>by
  obtain⟨r,hr,rfl⟩:=List.mem_map.1 hv
  decide⟩ w1 G hG uP) ?_
 dsimp only[List.set]
 refine XK.gw ?_
 refine XK.still [] [] [0] (by simp) rfl (by decide) (by decide) fun q _ _ hfr=>?_
 exact XK.dG rfl rfl rfl fun w1 t=>⟨⟨_,_,⟨w1,q.Z⟩,rfl,rfl,⟨⟨g3,gn,gs,B,j⟩,rfl,rfl⟩,t.newR (by simp) (by simp) (hfr (by simp) (by simp))⟩,t.below (by simp)⟩
theorem aIW(w:World):
  Calls Tryz.prog 73 #[] w (fun y w'=>(∃v hs q,y=.returned v∧q.w=w'∧(∃g,v=pt g∧hs=[HP.aB g 266 [iv 0,iv 0]])∧iY w hs q)∧Below w.heap.size w w'):=by
 refine XK.en Tryz.func73 Tryz.ntmps73 ?_
 refine XK.go ?_
 refine kd (eM rfl) ?_
 refine aS fun g=>?_
 refine XK.go ?_
 refine XK.still [] [] [0] (by simp) rfl (by decide) (by decide) fun q _ _ hfr=>?_
 exact XK.rX (h:=fun w1 t=>⟨_,_,⟨w1,q.Z⟩,rfl,rfl,⟨g,rfl,rfl⟩,t.newR (by simp) (by simp) (hfr (by simp) (by simp))⟩)
end
section
set_option maxHeartbeats 4000000
set_option maxRecDepth 20000
def Od(x:eJ):List Value:=[iv x.at_,iv x.denied]
def qY(g:Nat)(x:eJ):HP:=HP.aB g 266 (Od x)
def Of(w:World):Prop:=∀i v,[(114:Int),97,115,100][i]? =some v→eS w 0 i (.int .u8 v)
theorem Of.below{w w':World}(h:Of w)(hb:Below w.heap.size w w'):Of w':=fun i v hv=>
 ⟨Nat.lt_of_lt_of_le (h i v hv).1 hb.size,(hb.cell (p:=⟨0,i,none⟩) (h i v hv).1).trans (h i v hv).2⟩
theorem aDu(g:Nat)(x:eJ)(hx:xC x)(w:World)(hL:Of w)(hR:cZ w g 0 (Od x)):
  Calls Tryz.prog 224 #[pt g] w (Rt (.int .u8 (nH x.at_)) w):=by
 have k0:=hR.at_ (j:=0) rfl
 obtain⟨h1,h2⟩:=hx
 obtain⟨i,hi⟩:∃i:Nat,x.at_=i:=⟨x.at_.toNat,by omega⟩
 have hv:[(114:Int),97,115,100][i]? =some (nH x.at_):=by
  have:i=0∨i=1∨i=2∨i=3:=by omega
  rcases this with rfl | rfl | rfl | rfl<;>rw[hi]<;>rfl
 have k1:=hL i _ hv
 have hlt:i < 4:=by omega
 rw[hi] at k0 k1⊢
 refine XK.en Tryz.func224 Tryz.ntmps224 ?_
 refine XK.go ?_
 refine kd (dX i i) ?_
 refine XK.go ?_
 exact XK.rE
section
variable{g:Nat}{x:eJ}{w:World}{F:Nat→Prop}
theorem aIZ(hp:(qY g x).sat F w)(hF:∀b,F b→b < w.heap.size):
  Calls Tryz.prog 240 #[pt g] w (fun y w'=>y=.returned (iv (qR x).1)∧∃F',(qY g (qR x).2).sat F' w'∧aV w w' F F'):=by
 refine XK.bY Tryz.func240 Tryz.ntmps240 hp hF ?_
 dsimp only[qY,Od]
 refine XK.go ?_
 refine XK.if_ rfl (fun h=>?_) (fun h=>?_)
 ·have hr:qR x=(6,x):=if_pos (by simpa using h)
  rw[hr]
  refine XK.go ?_
  exact XK.rT 0 hF
 ·have hr:qR x=(0,⟨1,x.denied⟩):=if_neg (by simpa using h)
  rw[hr]
  refine XK.go ?_
  exact XK.rT 0 hF
theorem aIY(hp:(qY g x).sat F w)(hF:∀b,F b→b < w.heap.size):
  Calls Tryz.prog 225 #[pt g] w (fun y w'=>y=.returned (iv (mU x).1)∧∃F',(qY g (mU x).2).sat F' w'∧aV w w' F F'):=by
 refine XK.bY Tryz.func225 Tryz.ntmps225 hp hF ?_
 dsimp only[qY,Od]
 refine XK.go ?_
 refine aW (t:=11) rfl (fun h2=>?_) (fun h2=>?_)
 ·refine XK.go ?_
  refine XK.if_ rfl (fun h=>?_) (fun h=>?_)
  ·have hr:mU x=(6,x):=if_pos ⟨by simpa using h2,by simpa using h⟩
   rw[hr]
   refine XK.go ?_
   exact XK.rT 0 hF
  ·have hr:mU x=(0,⟨0,x.denied⟩):=if_neg fun h3=>h3.2 (by simpa using h)
   rw[hr]
   refine XK.go ?_
   exact XK.rT 0 hF
 ·have hr:mU x=(0,⟨0,x.denied⟩):=if_neg fun h3=>h3.1 (by simpa using h2)
  rw[hr]
  refine XK.go ?_
  exact XK.rT 0 hF
theorem aIX(Jq bZ:Bool)(hp:(qY g x).sat F w)(hF:∀b,F b→b < w.heap.size):
  Calls Tryz.prog 56 #[pt g,.bool Jq,.bool bZ] w (fun y w'=>y=.returned (.tuple #[])∧∃F',(qY g (vU x Jq bZ)).sat F' w'∧aV w w' F F'):=by
 refine XK.bY Tryz.func56 Tryz.ntmps56 hp hF ?_
 dsimp only[qY,Od]
 refine XK.go ?_
 refine XK.if_ rfl (fun h=>?_) (fun h=>?_)
 ·have hr:vU x Jq bZ=x:=if_pos (by simpa using h)
  rw[hr]
  refine XK.go ?_
  exact XK.r0 0 hF
 ·have h1:¬x.at_≠1:=by simpa using h
  cases bZ
  ·cases Jq
   ·have hr:vU x false false=⟨2,0⟩:=(if_neg h1).trans ((if_neg (by decide)).trans (if_neg (by decide)))
    rw[hr]
    refine XK.go ?_
    exact XK.r0 0 hF
   ·have hr:vU x true false=x:=(if_neg h1).trans ((if_neg (by decide)).trans (if_pos rfl))
    rw[hr]
    refine XK.go ?_
    exact XK.r0 0 hF
  ·have hr:vU x Jq true=⟨3,IntKind.i64.wrap (x.denied+1)⟩:=(if_neg h1).trans (if_pos rfl)
   rw[hr]
   refine XK.go ?_
   refine nD rfl rfl rfl (by decide) ?_
   refine XK.go ?_
   exact XK.r0 0 hF
end
end
section
set_option maxHeartbeats 4000000
set_option maxRecDepth 20000
structure TL where
 t:Nat
 A:Option Addr
 c:Nat
 fa:List (Option Addr×Nat)
def oM(c:dV)(a:Option Addr×Nat)(x:dY):List Value:=[.int .u8 c.kind,.slice a.1 c.src.length a.2,.int .u64 c.rate,iv c.mul,iv c.div,iv c.lock,.bool x.on,iv x.left,iv 0,iv 0,iv (byF c)]
def iE(s:aA)(fa:List (Option Addr×Nat))(st:List dY):List (List Value):=List.zipWith (fun c p=>oM c p.1 p.2) s.aD (fa.zip st)
structure tJ(w:World)(L:TL)(s:aA)(st:List dY):Prop where
 r0:eS w L.t 0 (.slice L.A s.aD.length L.c)
 row:aE (all w) 11 L.A s.aD.length (iE s L.fa st).flatten
 oQ:∀(i:Nat) (c:dV) (a:Option Addr×Nat),s.aD[i]? =some c→L.fa[i]? =some a→aE (all w) 1 a.1 c.src.length (aG c.src)
 fl:L.fa.length=s.aD.length
 ok:nT s st
theorem tJ.below{w w':World}{L:TL}{s:aA}{st:List dY}(h:tJ w L s st)(hb:Below w.heap.size w w'):tJ w' L s st:=
 ⟨⟨Nat.lt_of_lt_of_le h.r0.1 hb.size,(hb.cell (p:=⟨_,0,none⟩) h.r0.1).trans h.r0.2⟩,h.row.le (gQ hb),fun i c a hc ha=>(h.oQ i c a hc ha).le (gQ hb),h.fl,h.ok⟩
theorem tJ.node{w:World}{L:TL}{s:aA}{st:List dY}(h:tJ w L s st){i:Nat}(hi:i < s.aD.length):
  ∃b off c a x,s.aD[i]? =some c∧st[i]? =some x∧L.A=some ⟨b,off,none⟩∧cZ w b (off+i*11) (oM c a x)∧aE (all w) 1 a.1 c.src.length (aG c.src):=by
 obtain⟨c,hc⟩:=get_some hi
 obtain⟨a,ha⟩:=get_some (l:=L.fa) (i:=i) (by rw[h.fl];exact hi)
 obtain⟨x,hx⟩:=get_some (l:=st) (i:=i) (by rw[h.ok.len];exact hi)
 have hr:(iE s L.fa st)[i]? =some (oM c a x):=by
  rw[iE,List.getElem?_zipWith,hc,(List.getElem?_zip_eq_some (z:=(a,x))).2 ⟨ha,hx⟩]
 obtain⟨b,off,hA,hro⟩:=aE.row h.row (fun r hr=>by
  obtain⟨j,hj⟩:=List.getElem?_of_mem hr
  rw[iE,List.getElem?_zipWith] at hj
  split at hj<;>cases hj
  rfl) hr hi
 exact⟨b,off,c,a,x,hc,hx,hA,hro,h.oQ i c a hc ha⟩
def pT(s:aA)(fa:List (Option Addr×Nat))(p:Piece):Prop:=∀(i:Nat) (c:dV) (a:Option Addr×Nat),s.aD[i]? =some c→fa[i]? =some a→aE p 1 a.1 c.src.length (aG c.src)
theorem pT.le{s:aA}{fa:List (Option Addr×Nat)}(p q:Piece)(hl:p.Le q)(h:pT s fa p):pT s fa q:=fun i c a hc ha=>(h i c a hc ha).le hl
def mF(L:TL)(s:aA)(st:List dY):HP:=HP.many [HP.aB L.t 227 [.slice L.A s.aD.length L.c],HP.own 224 11 (.slice L.A s.aD.length L.c) s.aD.length (iE s L.fa st).flatten,HP.bH (pT s L.fa) (pT.le (s:=s) (fa:=L.fa))]
theorem mF.reads{L:TL}{s:aA}{st:List dY}{F:Nat→Prop}{w:World}(h:(mF L s st).sat F w)(hF:∀b,F b→b < w.heap.size)(hfl:L.fa.length=s.aD.length)(hok:nT s st):tJ w L s st:=by
 obtain⟨G,g1,g2,_⟩:=h
 have h0:=g1 0 _ rfl
 have h1:=g1 1 _ rfl
 have h2:=g1 2 _ rfl
 have hl:∀i b,G i b→b < w.heap.size:=fun i b hb=>hF b (g2 i b hb)
 obtain⟨A',c',he,hs⟩:=aE.oA (Y:=fun b=>b < w.heap.size) h1 (hl 1)
 injection he with he
 subst he
 exact⟨⟨h0.2.lt,by rw[h0.2.cell];rfl⟩,hs,fun i c a hc ha=>(h2 i c a hc ha).le (fun b hb=>⟨hl 2 b hb,rfl⟩),hfl,hok⟩
theorem aFx(t n c b off i:Nat)(w:World)(h0:eS w t 0 (.slice (some ⟨b,off,none⟩) n c))(hi:i < n):
  Calls Tryz.prog 88 #[pt t,iv (i:Int)] w (Rt (.pointer (some ⟨b,off+i*11,none⟩)) w):=by
 refine XK.en Tryz.func88 Tryz.ntmps88 ?_
 refine XK.go ?_
 refine aW (t:=11) rfl (fun h=>absurd h (by omega)) (fun _=>?_)
 refine XK.go ?_
 refine XK.if_ rfl (fun h=>absurd h (by omega)) (fun _=>?_)
 refine XK.go ?_
 refine kd (dat i (off+i*11)) ?_
 refine XK.go ?_
 exact XK.rE
theorem aFw(t n c:Nat)(A:Option Addr)(i:Int)(w:World)(h0:eS w t 0 (.slice A n c))(hi:bE n i=false):
  Calls Tryz.prog 88 #[pt t,iv i] w (Rt (.pointer none) w):=by
 have hi:=of_decide_eq_false hi
 refine XK.en Tryz.func88 Tryz.ntmps88 ?_
 refine XK.go ?_
 refine aW (t:=11) rfl (fun h=>?_) (fun h=>?_)
 ·refine XK.go ?_
  exact XK.rE
 ·refine XK.go ?_
  refine XK.if_ rfl (fun h=>?_) (fun h=>absurd hi (by omega))
  refine XK.go ?_
  exact XK.rE
theorem Nr(L:TL)(s:aA)(st:List dY)(i f:Nat)(c:dV)(fs:List Int)(w:World)(hR:tJ w L s st)(hi:s.aD[i]? =some c)(hf:c.src=(f:Int)::fs):
  Calls Tryz.prog 90 #[.pointer (some ⟨L.t,0,none⟩),iv (i:Int)] w (Rt (iv (f:Int)) w):=by
 have hlt:i < s.aD.length:=(List.getElem?_eq_some_iff.1 hi).1
 obtain⟨b,off,c',a,x,hc,hx,hA,hro,hs⟩:=hR.node hlt
 obtain rfl:c=c':=by rw[hi] at hc;exact Option.some.inj hc
 have h0:=hR.r0
 rw[hA] at h0
 have h1:=hro.at_ (j:=1) rfl
 have h8:=hro.at_ (j:=8) rfl
 rw[hf] at h1 hs
 obtain⟨b2,o2,hA2,nI,mX⟩:=hs.2 (by simp)
 rw[hA2] at h1
 have h2:eS w b2 o2 (iv (f:Int)):=⟨nI,mX 0 _ rfl⟩
 refine XK.en Tryz.func90 Tryz.ntmps90 ?_
 refine XK.go ?_
 refine kd (dat i (off+i*11)) ?_
 refine XK.go ?_
 refine XK.jO ?_
 refine XQ.go ?_
 refine XQ.kd (dat 0 o2 (hlt:=by simp)) ?_
 refine XQ.end_ ?_
 refine XK.go ?_
 exact XK.rE
theorem aN9(L:TL)(s:aA)(st:List dY)(hH:s.cI)(b1 b2:Nat):∀(i:Nat),i < s.aD.length→∀w,tJ w L s st→eS w b1 0 (.pointer (some ⟨L.t,0,none⟩))→eS w b2 0 (.func (.func 89) #[] #[pt b1,pt b2])→
  Calls Tryz.prog 89 #[iv (i:Int),pt b1,pt b2] w (Rt (.bool (runs s st i)) w):=by
 intro i
 induction i using Nat.strongRecOn with
 | _ i ih =>
  intro hlt w hR Cq dO
  obtain⟨b,off,c,a,x,hc,hx,hA,hro,hs⟩:=hR.node hlt
  have hrun:=aH6 hH.t.aD hc hx
  have h0:=hR.r0
  rw[hA] at h0
  have k0:=hro.at_ (j:=0) rfl
  have k6:=hro.at_ (j:=6) rfl
  have k7:=hro.at_ (j:=7) rfl
  have Ms:∀{w1},Below w.heap.size w w1→eS w1 b1 0 (.pointer (some ⟨L.t,0,none⟩)):=fun hb=>⟨Nat.lt_of_lt_of_le Cq.1 hb.size,(hb.cell (p:=⟨_,0,none⟩) Cq.1).trans Cq.2⟩
  have go2:∀{w1},Below w.heap.size w w1→eS w1 b2 0 (.func (.func 89) #[] #[pt b1,pt b2]):=fun hb=>⟨Nat.lt_of_lt_of_le dO.1 hb.size,(hb.cell (p:=⟨_,0,none⟩) dO.1).trans dO.2⟩
  obtain⟨hsrc,hfit⟩:=hH.t.aD i c hc
  refine XK.en Tryz.func89 Tryz.ntmps89 ?_
  refine XK.go ?_
  refine kd (dat i (off+i*11)) ?_
  rcases hfit with⟨hk,hs0,_⟩ | hfit
  ·rw[hk] at k0
   refine XK.go ?_
   refine XK.gN (by simp) ?_
   rw[hrun,hs0]
   simp[vS,hk]
  obtain⟨f,fs,hf⟩:∃(f:Nat) (fs:List Int),c.src=(f:Int)::fs:=by
   cases hs0:c.src with
   | nil=>rw[hs0] at hfit;simp at hfit
   | cons f fs=>exact⟨f.toNat,fs,by have:=(hsrc f (by rw[hs0];simp)).1;rw[Int.toNat_of_nonneg this]⟩
  have Ip:f < i:=by have:=(hsrc f (by rw[hf];simp)).2;omega
  have Ih:runs s st i=(vS c x&&runs s st f):=by rw[hrun,hf];rfl
  clear hrun
  rcases hfit with⟨hk,_⟩ | ⟨hk,_⟩ | ⟨hk,_⟩ | ⟨hk,_⟩
  ·rw[hk] at k0
   cases Aj:x.on
   ·rw[Aj] at k6
    refine XK.go ?_
    refine XK.jO ?_
    refine XQ.end_ ?_
    refine XK.go ?_
    refine XK.gN (by simp) ?_
    rw[Ih]
    simp[vS,hk,Aj]
   ·rw[Aj] at k6
    refine XK.go ?_
    refine XK.jO ?_
    refine XQ.go ?_
    refine XQ.split 32 rfl (fun h=>?_) (fun h=>?_)
    ·refine XQ.go ?_
     refine XQ.call (fun w1 jI=>Nr L s st i f c fs w1 (hR.below (jI.below (by simp))) hc hf) ?_
     refine XQ.go ?_
     refine XQ.Dk (fi:=[]) (vs:=[iv (f:Int)]) (ca:=[pt b1,pt b2]) (fun w1 jI=>ih f Ip (by omega) w1 (hR.below (jI.below (by simp))) (Ms (jI.below (by simp))) (go2 (jI.below (by simp)))) ?_
     refine XQ.end_ ?_
     refine XK.go ?_
     refine XK.gN (by simp) ?_
     rw[Ih]
     simp[vS,hk,Aj,h]
    ·refine XQ.end_ ?_
     refine XK.go ?_
     refine XK.gN (by simp) ?_
     rw[Ih]
     simp[vS,hk,Aj,h]
  ·rw[hk] at k0
   refine XK.go ?_
   refine XK.jO ?_
   refine XQ.go ?_
   refine XQ.call (fun w1 jI=>Nr L s st i f c fs w1 (hR.below (jI.below (by simp))) hc hf) ?_
   refine XQ.Dk (fi:=[]) (vs:=[iv (f:Int)]) (ca:=[pt b1,pt b2]) (fun w1 jI=>ih f Ip (by omega) w1 (hR.below (jI.below (by simp))) (Ms (jI.below (by simp))) (go2 (jI.below (by simp)))) ?_
   refine XQ.end_ ?_
   refine XK.go ?_
   refine XK.gN (by simp) ?_
   rw[Ih]
   simp[vS,hk]
  ·rw[hk] at k0
   cases Aj:x.on
   ·rw[Aj] at k6
    refine XK.go ?_
    refine XK.jO ?_
    refine XQ.end_ ?_
    refine XK.go ?_
    refine XK.gN (by simp) ?_
    rw[Ih]
    simp[vS,hk,Aj]
   ·rw[Aj] at k6
    refine XK.go ?_
    refine XK.jO ?_
    refine XQ.go ?_
    refine XQ.call (fun w1 jI=>Nr L s st i f c fs w1 (hR.below (jI.below (by simp))) hc hf) ?_
    refine XQ.go ?_
    refine XQ.Dk (fi:=[]) (vs:=[iv (f:Int)]) (ca:=[pt b1,pt b2]) (fun w1 jI=>ih f Ip (by omega) w1 (hR.below (jI.below (by simp))) (Ms (jI.below (by simp))) (go2 (jI.below (by simp)))) ?_
    refine XQ.end_ ?_
    refine XK.go ?_
    refine XK.gN (by simp) ?_
    rw[Ih]
    simp[vS,hk,Aj]
  ·rw[hk] at k0
   refine XK.go ?_
   refine XK.jO ?_
   refine XQ.go ?_
   refine XQ.call (fun w1 jI=>Nr L s st i f c fs w1 (hR.below (jI.below (by simp))) hc hf) ?_
   refine XQ.Dk (fi:=[]) (vs:=[iv (f:Int)]) (ca:=[pt b1,pt b2]) (fun w1 jI=>ih f Ip (by omega) w1 (hR.below (jI.below (by simp))) (Ms (jI.below (by simp))) (go2 (jI.below (by simp)))) ?_
   refine XQ.end_ ?_
   refine XK.go ?_
   refine XK.gN (by simp) ?_
   rw[Ih]
   simp[vS,hk]
end
section
set_option maxHeartbeats 4000000
set_option maxRecDepth 20000
section
variable{N:bO}{w0 w:World}{e:Env}{R:List Piece}{H:List HP}{K:Act→World→Prop}{L:TL}{s:aA}{st:List dY}
theorem St.aAc(t:St w0 R H w)(i:Nat)(hi:H[i]? =some (mF L s st))(hfl:L.fa.length=s.aD.length)(hok:nT s st):tJ w L s st:=by
 obtain⟨F,h1,h2,_⟩:=t.chunk hi
 exact mF.reads h1 h2 hfl hok
theorem Rd.tree(i:Nat)(hi:H[i]? =some (mF L s st))(hfl:L.fa.length=s.aD.length)(hok:nT s st):Rd w0 R H L.t 0 (.slice L.A s.aD.length L.c):=fun w t=>(t.aAc i hi hfl hok).r0.2
theorem aAC(hfl:L.fa.length=s.aD.length)(hok:nT s st):(iE s L.fa st).length=s.aD.length∧∀r∈iE s L.fa st,r.length=11:=by
 have:=hok.len
 refine⟨by simp[iE];omega,fun r hr=>?_⟩
 obtain⟨j,hj⟩:=List.getElem?_of_mem hr
 rw[iE,List.getElem?_zipWith] at hj
 split at hj<;>cases hj
 rfl
theorem Lb{i:Nat}{c:dV}{a:Option Addr×Nat}{x:dY}(hc:s.aD[i]? =some c)(ha:L.fa[i]? =some a)(hx:st[i]? =some x):(iE s L.fa st)[i]? =some (oM c a x):=by
 rw[iE,List.getElem?_zipWith,hc,(List.getElem?_zip_eq_some (z:=(a,x))).2 ⟨ha,hx⟩]
theorem aD8{i:Nat}{c:dV}{a:Option Addr×Nat}{x:dY}(hc:s.aD[i]? =some c)(ha:L.fa[i]? =some a)(hi:i < st.length):(iE s L.fa st).set i (oM c a x)=iE s L.fa (st.set i x):=by
 refine List.ext_getElem? fun j=>?_
 rw[List.getElem?_set]
 by_cases he:i=j
 ·subst he
  rw[if_pos rfl,Lb hc ha (x:=x) (by rw[List.getElem?_set_self hi])]
  rw[if_pos]
  have h1:=(List.getElem?_eq_some_iff.1 hc).1
  have h2:=(List.getElem?_eq_some_iff.1 ha).1
  simp[iE];omega
 ·rw[if_neg he,iE,iE,List.getElem?_zipWith,List.getElem?_zipWith]
  have hz:(L.fa.zip st)[j]? =(L.fa.zip (st.set i x))[j]? :=by
   rw[List.zip_eq_zipWith,List.zip_eq_zipWith,List.getElem?_zipWith,List.getElem?_zipWith,List.getElem?_set_ne he]
  rw[hz]
theorem St.aGX{g:Nat}{cs:List Value}(t:St w0 R H w)(i j:Nat)(hi:H[i]? =some (HP.aB g 224 cs))(hj:H[j]? =some (HP.many [HP.aB L.t 227 [.slice (some ⟨g,0,none⟩) s.aD.length L.c],HP.emp,HP.bH (pT s L.fa) (pT.le (s:=s) (fa:=L.fa))]))(hA:L.A=some ⟨g,0,none⟩)(h2:cs.take (s.aD.length*11)=(iE s L.fa st).flatten)(hfl:L.fa.length=s.aD.length)(hok:nT s st):tJ w L s st:=by
 obtain⟨fV,fU⟩:=aAC hfl hok
 have hb:=t.aB hi
 obtain⟨F,⟨G,g1,g2,_⟩,hlt,_⟩:=t.chunk hj
 have h0:=g1 0 _ rfl
 have aKP:=g1 2 _ rfl
 refine⟨⟨h0.2.lt,by rw[h0.2.cell,hA];rfl⟩,⟨by rw[aAo _ fU,fV],fun _=>⟨g,0,hA,hb.lt,fun k u hu=>?_⟩⟩,fun k c a hc ha=>(aKP k c a hc ha).le (fun b hbG=>⟨hlt b (g2 2 b hbG),rfl⟩),hfl,hok⟩
 rw[←h2] at hu
 rw[Nat.zero_add]
 show w.cell? _=_
 rw[hb.cell]
 have hk:k < s.aD.length*11:=by
  rcases Nat.lt_or_ge k (s.aD.length*11) with h | h
  ·exact h
  ·rw[List.getElem?_eq_none (by rw[List.length_take];omega)] at hu;cases hu
 rw[List.getElem?_take_of_lt hk] at hu
 simpa using hu
theorem XK.aD5(i:Nat)(hi:H[i]? =some (mF L s st))(hn:0 < s.aD.length)(h:∀g cs,L.A=some ⟨g,0,none⟩→cs.length=L.c*11→cs.take (s.aD.length*11)=(iE s L.fa st).flatten→s.aD.length≤L.c→L.c≤maxLen→
  XK N w0 K e R (HP.aB g 224 cs::H.set i (HP.many [HP.aB L.t 227 [.slice L.A s.aD.length L.c],HP.emp,HP.bH (pT s L.fa) (pT.le (s:=s) (fa:=L.fa))]))):XK N w0 K e R H:=by
 refine XK.take i 1 hi rfl ?_
 refine XK.Vu 0 rfl hn fun g hA=>?_
 dsimp only[List.set]
 rw[hA]
 refine XK.xX 0 rfl fun cs h1 h2 h3 h4=>?_
 have:=h g cs hA h1 h2 h3 h4
 rw[hA] at this
 exact this
theorem XK.wS(i:Nat){g:Nat}{cs:List Value}{st':List dY}(hA:L.A=some ⟨g,0,none⟩)(h1:cs.length=L.c*11)(h2:cs.take (s.aD.length*11)=(iE s L.fa st').flatten)(h3:s.aD.length≤L.c)(h4:L.c≤maxLen)
  (hi:H[i]? =some (HP.many [HP.aB L.t 227 [.slice (some ⟨g,0,none⟩) s.aD.length L.c],HP.emp,HP.bH (pT s L.fa) (pT.le (s:=s) (fa:=L.fa))]))
  (h:XK N w0 K e R (H.set i (mF L s st'))):XK N w0 K e R (HP.aB g 224 cs::H):=by
 refine XK.wT 0 (n:=s.aD.length) (c:=L.c) (sz:=11) rfl h1 h2 h3 h4 ?_
 dsimp only[List.set]
 rw[←hA] at hi⊢
 exact XK.nM i 1 hi rfl h
end
theorem Tt(L:TL)(s:aA)(st:List dY)(hH:s.cI)(i:Int)(w:World)(hR:tJ w L s st):
  Calls Tryz.prog 41 #[.pointer (some ⟨L.t,0,none⟩),iv i] w (Rt (.bool (rM s st i)) w):=by
 cases hi:bE s.aD.length i
 ·refine XK.en Tryz.func41 Tryz.ntmps41 ?_
  refine XK.go ?_
  refine aS fun g1=>?_
  refine XK.go ?_
  refine aJ (fun w1 t=>aFw L.t s.aD.length L.c L.A i w1 ((hR.below (t.below (by simp))).r0) hi) ?_
  refine XK.go ?_
  refine XK.gN (by simp) ?_
  simp[rM,hi]
 ·obtain⟨n,rfl⟩:∃n:Nat,i=n:=⟨i.toNat,by have:=of_decide_eq_true hi;omega⟩
  have hlt:n < s.aD.length:=by have:=of_decide_eq_true hi;omega
  obtain⟨b,off,c,a,x,hc,hx,hA,_⟩:=hR.node hlt
  refine XK.en Tryz.func41 Tryz.ntmps41 ?_
  refine XK.go ?_
  refine aS fun g1=>?_
  refine XK.go ?_
  refine aJ (fun w1 t=>aFx L.t s.aD.length L.c b off n w1 (by rw[←hA];exact(hR.below (t.below (by simp))).r0) hlt) ?_
  refine XK.go ?_
  refine bB fun g2=>?_
  refine XK.go ?_
  refine iD (vf:=[]) (vc:=[pt g1,pt g2]) rfl rfl (by decide) ?_
  refine XK.go ?_
  refine Wl (fi:=[]) (vs:=[iv (n:Int)]) (ca:=[pt g1,pt g2]) (fun w1 t=>aN9 L s st hH g1 g2 n hlt w1 (hR.below (t.below (by simp))) ((t.box (i:=1) rfl).at_ (j:=0) rfl) ((t.box (i:=0) rfl).at_ (j:=0) rfl)) ?_
  refine XK.go ?_
  refine XK.gN (by simp) ?_
  simp[rM,hi]
theorem aNB(L:TL)(s:aA)(st:List dY)(hfl:L.fa.length=s.aD.length)(hok:nT s st)(i:Int)(on:Bool)(w:World)(F:Nat→Prop)(hp:(mF L s st).sat F w)(hF:∀b,F b→b < w.heap.size):
  Calls Tryz.prog 228 #[.pointer (some ⟨L.t,0,none⟩),iv i,.bool on] w (fun y w'=>y=.returned (iv (jY s st i on).1)∧∃F',(mF L s (jY s st i on).2).sat F' w'∧aV w w' F F'):=by
 cases hi:bE s.aD.length i
 ·have hr:jY s st i on=(4,st):=by simp[jY,hi]
  rw[hr]
  refine XK.bY Tryz.func228 Tryz.ntmps228 hp hF ?_
  refine XK.go ?_
  refine aJ (fun w1 t=>aFw L.t s.aD.length L.c L.A i w1 ((t.aAc 0 rfl hfl hok).r0) hi) ?_
  refine XK.go ?_
  exact XK.rT 0 hF
 ·obtain⟨n,rfl⟩:∃n:Nat,i=n:=⟨i.toNat,by have:=of_decide_eq_true hi;omega⟩
  have hlt:n < s.aD.length:=by have:=of_decide_eq_true hi;omega
  have hl:=hok.len
  obtain⟨c,hc⟩:=get_some hlt
  obtain⟨a,ha⟩:=get_some (l:=L.fa) (i:=n) (by omega)
  obtain⟨x,hx⟩:=get_some (l:=st) (i:=n) (by omega)
  obtain⟨fV,fU⟩:=aAC hfl hok
  refine XK.bY Tryz.func228 Tryz.ntmps228 hp hF ?_
  refine XK.aD5 0 rfl (by omega) fun g cs hA h1 h2 h3 h4=>?_
  dsimp only[List.set]
  rw[hA]
  have hs:=Cw h2 fV fU (Lb hc ha hx)
  have hlen:n*11+11≤cs.length:=by omega
  refine XK.tk 1 0 ?_
  refine XK.go ?_
  refine aJ (fun w1 t=>aFx L.t s.aD.length L.c g 0 n w1 ((t.box (i:=0) rfl).at_ (j:=0) rfl) hlt) ?_
  refine XK.gv 1 0 ?_
  rw[Nat.zero_add]
  refine XK.go ?_
  have hpq:∀x':dY,(iE s L.fa st).set n (oM c a x')=iE s L.fa (st.set n x'):=fun x'=>aD8 hc ha (by omega)
  refine aW (t:=19) rfl (fun hk=>?_) (fun hk=>?_)
  ·refine XK.go ?_
   refine XK.if_ rfl (fun hg=>?_) (fun hg=>?_)
   ·have hr:jY s st (n:Int) on=(1,st):=by simp[jY,hi,hc,hx,hk,hg]
    rw[hr]
    refine XK.go ?_
    refine XK.wS 0 hA h1 h2 h3 h4 rfl ?_
    exact XK.rT 0 hF
   ·have hg:c.kind=103:=Classical.not_not.1 hg
    have hr:jY s st (n:Int) on=(0,st.set n ⟨on,x.left⟩):=by simp[jY,hi,hc,hx,hg,Qg]
    rw[hr]
    have hs1:=hs.set 6 (.bool on) (by simp[oM]) (by omega)
    have rR:=(sH.refl cs (n*11) 11).set 6 (.bool on) (by decide)
    have fJ:=Ba (r':=oM c a ⟨on,x.left⟩) h2 fV fU hlt (by omega) rfl hs1 rR
    rw[hpq] at fJ
    refine XK.go ?_
    refine aW (t:=37) rfl (fun h=>absurd h hk) (fun _=>?_)
    refine XK.go ?_
    refine XK.wS 0 hA (by simpa using h1) fJ h3 h4 rfl ?_
    exact XK.rT 0 hF
  ·have hk:c.kind=112:=Classical.not_not.1 hk
   have hs1:=hs.set 6 (.bool on) (by simp[oM]) (by omega)
   have rR:=(sH.refl cs (n*11) 11).set 6 (.bool on) (by decide)
   cases on
   ·have hr:jY s st (n:Int) false=(0,st.set n ⟨false,c.lock⟩):=by simp[jY,hi,hc,hx,hk,Qg]
    rw[hr]
    refine XK.go ?_
    refine aW (t:=37) rfl (fun _=>?_) (fun h=>absurd hk h)
    have eL:=hs1.set 7 (iv c.lock) (by simp[oM]) (by simp;omega)
    have hu2:=rR.set 7 (iv c.lock) (by decide)
    have fJ:=Ba (r':=oM c a ⟨false,c.lock⟩) h2 fV fU hlt (by omega) rfl eL hu2
    rw[hpq] at fJ
    refine XK.go ?_
    refine XK.wS 0 hA (by simpa using h1) fJ h3 h4 rfl ?_
    exact XK.rT 0 hF
   ·have hr:jY s st (n:Int) true=(0,st.set n ⟨true,x.left⟩):=by simp[jY,hi,hc,hx,hk,Qg]
    rw[hr]
    have fJ:=Ba (r':=oM c a ⟨true,x.left⟩) h2 fV fU hlt (by omega) rfl hs1 rR
    rw[hpq] at fJ
    refine XK.go ?_
    refine aW (t:=37) rfl (fun _=>?_) (fun h=>absurd hk h)
    refine XK.go ?_
    refine XK.wS 0 hA (by simpa using h1) fJ h3 h4 rfl ?_
    exact XK.rT 0 hF
end
section
set_option maxHeartbeats 4000000
set_option maxRecDepth 20000
theorem aE.vY{p:Piece}{sz n:Nat}{A:Option Addr}{rows:List (List Value)}(h:aE p sz A n rows.flatten)(hl:∀r∈rows,r.length=sz){k:Nat}{r:List Value}(hk:rows[k]? =some r)(hn:k < n):
  ∃b off,A=some ⟨b,off,none⟩∧p.Z b∧∀j u,r[j]? =some u→p.w.cell? ⟨b,off+k*sz+j,none⟩=some u:=by
 obtain⟨b,off,hA,hz,hc⟩:=aE.at_ h hn
 refine⟨b,off,hA,hz,fun j u hu=>hc j u ?_⟩
 have hj:j < sz:=by
  rw[←hl r (List.mem_of_getElem? hk)]
  exact(List.getElem?_eq_some_iff.1 hu).1
 rw[Sq rows hl k j r hk hj,hu]
theorem aH.roP{w0:World}{R:List Piece}{H:List HP}{p:Piece}{b o:Nat}{vs:List Value}(hp:p∈R)(hz:p.Z b)(h:∀j u,vs[j]? =some u→p.w.cell? ⟨b,o+j,none⟩=some u):aH w0 R H b o vs:=.of fun j v hj=>Rd.ro hp hz (h j v hj)
theorem Nu(s:aA)(A1 A2 A3 A4:Option Addr)(n1 k1 n2 k2 n3 k3 n4 k4:Nat)(w:World)(hW:eI w s A1 n1 A2 n2 A3 n3 A4 n4)(aBr:Tv s=0):
  Calls Tryz.prog 62 #[.agg #[.slice A1 n1 k1,.slice A2 n2 k2,.slice A3 n3 k3,.slice A4 n4 k4]] w (Rt (iv 0) w):=by
 have:=Yl s A1 A2 A3 A4 n1 k1 n2 k2 n3 k3 n4 k4 w hW
 rw[aBr] at this
 exact this
def aFU(s:aA)(v:Value)(hs:List HP)(_:Piece):Prop:=∃L:TL,v=.tuple #[.pointer (some ⟨L.t,0,none⟩),iv 0]∧hs=[mF L s (s.aD.map vD)]∧L.fa.length=s.aD.length
theorem aNC(s:aA)(hH:s.cI)(A1 A2 A3 A4:Option Addr)(n1 k1 n2 k2 n3 k3 n4 k4:Nat)(w:World)(hW:eI w s A1 n1 A2 n2 A3 n3 A4 n4):
  Calls Tryz.prog 68 #[.agg #[.slice A1 n1 k1,.slice A2 n2 k2,.slice A3 n3 k3,.slice A4 n4 k4]] w (fun y w'=>(∃v hs q,y=.returned v∧q.w=w'∧aFU s v hs q∧iY w hs q)∧Below w.heap.size w w'):=by
 have hnc:=hH.t.nc
 have Ey:∀d∈s.aC,d.aI.length≤1000000:=fun d hd=>by
  obtain⟨i,hi⟩:=List.getElem?_of_mem hd
  have:=hH.t.aC i d hi
  unfold bK.fit at this
  omega
 refine XK.en Tryz.func68 Tryz.ntmps68 ?_
 refine XK.gw ?_
 refine aS fun g1=>?_
 refine XK.gw ?_
 refine aJ (fun w1 t=>Nu s A1 A2 A3 A4 n1 k1 n2 k2 n3 k3 n4 k4 w1 (hW.le (t.started (by simp))) hH.t.Nt) ?_
 refine XK.gw ?_
 refine aS fun g2=>?_
 refine XK.gw ?_
 refine gO [] (Zg s) (fun w1 t=>aBK s A1 A2 A3 A4 n1 k1 n2 k2 n3 k3 n4 k4 w1 (hW.le (t.started (by simp))) Ey) ?_
 rintro _ w1 q1 ⟨cs1,rfl,hS⟩ fJ _ aBm
 have aBm:=aBm (by simp)
 obtain⟨B1,m1,j1,B2,m2,j2,B3,m3,j3,B4,m4,j4,rfl,hSQ⟩:=(hS.mono (lH fJ)).Q
 clear fJ hS
 obtain⟨rc,hrc,Ri,hsc⟩:=hSQ.qP
 obtain⟨fa,hfl,rfl,Xq⟩:=aBM hrc
 subst Ri
 obtain⟨fK,hcr⟩:=Um (f:=wU) (es:=s.aD) (bs:=fa) (sz:=6) hfl (fun _ _=>rfl)
 have hl0:(s.aD.map vD).length=s.aD.length:=by simp
 refine kd (aNa (off:=0) (cs:=[.slice B1 s.aD.length j1,.slice B2 m2 j2,.slice B3 m3 j3,.slice B4 m4 j4]) (by kernel_rfl) rfl rfl) ?_
 refine XK.gw ?_
 refine XK.fY 224 11 ?_
 refine XK.aT [(20,iv 0),(19,iv s.aD.length),(18,.slice B1 s.aD.length j1),(5,pt g2)] ?_
 refine XK.loop (fun m e R H=>∃(i:Nat) (A:Option Addr) (k:Nat),i≤s.aD.length∧m=s.aD.length - i∧e=[(20,iv i),(19,iv s.aD.length),(18,.slice B1 s.aD.length j1),(5,pt g2)]∧R=[q1,all w]∧H=[HP.own 224 11 (.slice A i k) i ((iE s fa (s.aD.map vD)).take i).flatten,HP.aB g2 227 [.slice A i k],HP.aB g1 30 [.slice A1 n1 k1,.slice A2 n2 k2,.slice A3 n3 k3,.slice A4 n4 k4]]) s.aD.length ⟨0,none,0,by omega,rfl,rfl,rfl,by simp⟩ fun m e R H hI=>?_
 obtain⟨i,A,k,hi,rfl,rfl,rfl,rfl⟩:=hI
 refine XK.gw ?_
 refine XK.if_ rfl (fun hlt=>?_) (fun hge=>?_)
 ·have hlt:i < s.aD.length:=by omega
  obtain⟨c,hc⟩:=get_some hlt
  obtain⟨a,ha⟩:=get_some (l:=fa) (i:=i) (by omega)
  obtain⟨b,off,hB,hz,hcell⟩:=aE.vY hsc hcr (Oi hc ha) hlt
  subst hB
  have hrow:(iE s fa (s.aD.map vD))[i]? =some (oM c a (vD c)):=Lb (L:=⟨0,none,0,fa⟩) hc ha (by rw[List.getElem?_map,hc];rfl)
  have cQ:((iE s fa (s.aD.map vD)).take (i+1)).flatten=((iE s fa (s.aD.map vD)).take i).flatten++oM c a (vD c):=by
   rw[List.take_succ,hrow,List.flatten_append];simp
  have Ra:∀H,aH w [q1,all w] H b (off+i*6) (wU c a):=fun H=>aH.roP (by simp) hz hcell
  have aOT:=Ra [HP.own 224 11 (.slice A i k) i ((iE s fa (s.aD.map vD)).take i).flatten,HP.aB g2 227 [.slice A i k],HP.aB g1 30 [.slice A1 n1 k1,.slice A2 n2 k2,.slice A3 n3 k3,.slice A4 n4 k4]]
  refine XK.go ?_
  refine kd (dat i (off+i*6)) ?_
  refine XK.gw ?_
  refine bB fun g3=>?_
  obtain⟨kdx,src,rate,mul,dv,lock⟩:=c
  dsimp only[wU]
  refine XK.gw ?_
  refine bB fun g4=>?_
  have hfit:=(hH.t.aD i _ hc).2
  dsimp only at hfit
  rcases hfit with⟨rfl,_⟩ | ⟨rfl,_⟩ | ⟨rfl,_⟩ | ⟨rfl,_⟩ | ⟨rfl,_⟩
  ·skip
   refine XK.go ?_
   refine XK.eU [2,3,4,5] ?_
   refine XB.mv 0 ?_
   refine XB.mv 1 ?_
   refine XB.q 2 ?_
   refine XB.q 3 ?_
   refine XB.q 4 ?_
   refine XB.q 5 ?_
   refine XB.next 6 rfl (by kernel_rfl) ?_
   refine dF fun g5=>?_
   refine XB.bk ?_
   refine XB.next 7 rfl (by kernel_rfl) ?_
   refine fG 3 11 104 1 (el:=224) (by kernel_rfl) (by kernel_rfl) (by decide) rfl rfl rfl (kX 0 rfl rfl) (by simp[Value.oneCell']) rfl (by omega) (by omega) (by decide) fun A' k'=>?_
   dsimp only[List.set]
   refine XB.bt ?_
   refine XB.next 8 rfl (by kernel_rfl) ?_
   refine bA ?_
   refine XB.bt ?_
   refine XB.next 9 rfl (by kernel_rfl) ?_
   refine bA ?_
   refine XB.bt ?_
   refine XB.next 10 rfl (by kernel_rfl) ?_
   refine dL rfl rfl ?_
   dsimp only[List.set]
   refine XB.bt ?_
   refine XB.done (by kernel_rfl) ?_
   refine XK.go ?_
   refine XK.weak [3,4,5] rfl (by decide) (fun _ h=>h) ?_
   exact XK.rd (s.aD.length - (i+1)) ⟨i+1,A',k',hlt,rfl,rfl,rfl,by rw[cQ]⟩
  ·skip
   refine XK.go ?_
   refine XK.eU [2,3,4,5] ?_
   refine XB.mv 0 ?_
   refine XB.mv 1 ?_
   refine XB.q 2 ?_
   refine XB.q 3 ?_
   refine XB.q 4 ?_
   refine XB.q 5 ?_
   refine XB.next 6 rfl (by kernel_rfl) ?_
   refine dF fun g5=>?_
   refine XB.bk ?_
   refine XB.next 7 rfl (by kernel_rfl) ?_
   refine fG 3 11 104 1 (el:=224) (by kernel_rfl) (by kernel_rfl) (by decide) rfl rfl rfl (kX 0 rfl rfl) (by simp[Value.oneCell']) rfl (by omega) (by omega) (by decide) fun A' k'=>?_
   dsimp only[List.set]
   refine XB.bt ?_
   refine XB.next 8 rfl (by kernel_rfl) ?_
   refine bA ?_
   refine XB.bt ?_
   refine XB.next 9 rfl (by kernel_rfl) ?_
   refine bA ?_
   refine XB.bt ?_
   refine XB.next 10 rfl (by kernel_rfl) ?_
   refine dL rfl rfl ?_
   dsimp only[List.set]
   refine XB.bt ?_
   refine XB.done (by kernel_rfl) ?_
   refine XK.go ?_
   refine XK.weak [3,4,5] rfl (by decide) (fun _ h=>h) ?_
   exact XK.rd (s.aD.length - (i+1)) ⟨i+1,A',k',hlt,rfl,rfl,rfl,by rw[cQ]⟩
  ·skip
   refine XK.go ?_
   refine XK.eU [2,3,4,5] ?_
   refine XB.mv 0 ?_
   refine XB.mv 1 ?_
   refine XB.q 2 ?_
   refine XB.q 3 ?_
   refine XB.q 4 ?_
   refine XB.q 5 ?_
   refine XB.next 6 rfl (by kernel_rfl) ?_
   refine dF fun g5=>?_
   refine XB.bk ?_
   refine XB.next 7 rfl (by kernel_rfl) ?_
   refine fG 3 11 104 1 (el:=224) (by kernel_rfl) (by kernel_rfl) (by decide) rfl rfl rfl (kX 0 rfl rfl) (by simp[Value.oneCell']) rfl (by omega) (by omega) (by decide) fun A' k'=>?_
   dsimp only[List.set]
   refine XB.bt ?_
   refine XB.next 8 rfl (by kernel_rfl) ?_
   refine bA ?_
   refine XB.bt ?_
   refine XB.next 9 rfl (by kernel_rfl) ?_
   refine bA ?_
   refine XB.bt ?_
   refine XB.next 10 rfl (by kernel_rfl) ?_
   refine dL rfl rfl ?_
   dsimp only[List.set]
   refine XB.bt ?_
   refine XB.done (by kernel_rfl) ?_
   refine XK.go ?_
   refine XK.weak [3,4,5] rfl (by decide) (fun _ h=>h) ?_
   exact XK.rd (s.aD.length - (i+1)) ⟨i+1,A',k',hlt,rfl,rfl,rfl,by rw[cQ]⟩
  ·skip
   refine XK.go ?_
   refine XK.eU [2,3,4,5] ?_
   refine XB.mv 0 ?_
   refine XB.mv 1 ?_
   refine XB.q 2 ?_
   refine XB.q 3 ?_
   refine XB.q 4 ?_
   refine XB.q 5 ?_
   refine XB.next 6 rfl (by kernel_rfl) ?_
   refine dF fun g5=>?_
   refine XB.bk ?_
   refine XB.next 7 rfl (by kernel_rfl) ?_
   refine fG 3 11 104 1 (el:=224) (by kernel_rfl) (by kernel_rfl) (by decide) rfl rfl rfl (kX 0 rfl rfl) (by simp[Value.oneCell']) rfl (by omega) (by omega) (by decide) fun A' k'=>?_
   dsimp only[List.set]
   refine XB.bt ?_
   refine XB.next 8 rfl (by kernel_rfl) ?_
   refine bA ?_
   refine XB.bt ?_
   refine XB.next 9 rfl (by kernel_rfl) ?_
   refine bA ?_
   refine XB.bt ?_
   refine XB.next 10 rfl (by kernel_rfl) ?_
   refine dL rfl rfl ?_
   dsimp only[List.set]
   refine XB.bt ?_
   refine XB.done (by kernel_rfl) ?_
   refine XK.go ?_
   refine XK.weak [3,4,5] rfl (by decide) (fun _ h=>h) ?_
   exact XK.rd (s.aD.length - (i+1)) ⟨i+1,A',k',hlt,rfl,rfl,rfl,by rw[cQ]⟩
  ·skip
   refine XK.go ?_
   refine XK.eU [2,3,4,5] ?_
   refine XB.mv 0 ?_
   refine XB.mv 1 ?_
   refine XB.q 2 ?_
   refine XB.q 3 ?_
   refine XB.q 4 ?_
   refine XB.q 5 ?_
   refine XB.next 6 rfl (by kernel_rfl) ?_
   refine dF fun g5=>?_
   refine XB.bk ?_
   refine XB.next 7 rfl (by kernel_rfl) ?_
   refine fG 3 11 104 1 (el:=224) (by kernel_rfl) (by kernel_rfl) (by decide) rfl rfl rfl (kX 0 rfl rfl) (by simp[Value.oneCell']) rfl (by omega) (by omega) (by decide) fun A' k'=>?_
   dsimp only[List.set]
   refine XB.bt ?_
   refine XB.next 8 rfl (by kernel_rfl) ?_
   refine bA ?_
   refine XB.bt ?_
   refine XB.next 9 rfl (by kernel_rfl) ?_
   refine bA ?_
   refine XB.bt ?_
   refine XB.next 10 rfl (by kernel_rfl) ?_
   refine dL rfl rfl ?_
   dsimp only[List.set]
   refine XB.bt ?_
   refine XB.done (by kernel_rfl) ?_
   refine XK.go ?_
   refine XK.weak [3,4,5] rfl (by decide) (fun _ h=>h) ?_
   exact XK.rd (s.aD.length - (i+1)) ⟨i+1,A',k',hlt,rfl,rfl,rfl,by rw[cQ]⟩
 ·obtain rfl:i=s.aD.length:=by omega
  refine XK.gw ?_
  have hfull:(iE s fa (s.aD.map vD)).take s.aD.length=iE s fa (s.aD.map vD):=List.take_of_length_le (by simp[iE];omega)
  rw[hfull]
  refine XK.weak [1,0] rfl (by decide) (fun _ h=>h) ?_
  refine XK.Ho aBm (by simp[all]) (Φ:=pT s fa) (hm:=pT.le (s:=s) (fa:=fa)) (fun i c a hc ha=>Xq i c a hc ha) ?_
  refine XK.weak [1,2,0] rfl (by decide) (fun _ h=>h) ?_
  refine XK.three ?_
  refine XK.still [] [] [0] (by simp) rfl (by decide) (by decide) fun q _ _ hfr=>?_
  exact XK.dG rfl rfl rfl fun w1 t=>⟨⟨_,_,⟨w1,q.Z⟩,rfl,rfl,⟨⟨g2,A,k,fa⟩,rfl,rfl,hfl⟩,t.newR (by simp) (by simp) (hfr (by simp) (by simp))⟩,t.below (by simp)⟩
end
section
set_option maxHeartbeats 4000000
set_option maxRecDepth 20000
def gJ(r:Int)(x:iK):Value:=.agg #[iv r,iv x.left,.bool x.held,.bool x.wanted]
def Hu(s:aA)(st:List iK)(i:Nat):Int×Value:=((i:Int),gJ (s.aL.getD i 0) (st.getD i oN))
def lJ(s:aA)(st:List iK):List (Int×Value):=(List.range st.length).map (Hu s st)
theorem aDI(f:Nat→Value)(n:Nat)(i:Int):kK ((List.range n).map fun j:Nat=>((j:Int),f j)) i=if bE n i then some (f i.toNat) else none:=by
 induction n with
 | zero=>
  have:bE 0 i=false:=decide_eq_false (by omega)
  rw[this];rfl
 | succ n ih =>
  have h0:kK ((List.range (n+1)).map fun j:Nat=>((j:Int),f j)) i=(kK ((List.range n).map fun j:Nat=>((j:Int),f j)) i).or (kK [((n:Int),f n)] i):=by
   rw[List.range_succ,List.map_append]
   unfold kK
   rw[List.find?_append]
   cases List.find? (fun p=>decide (p.1=i)) ((List.range n).map fun j:Nat=>((j:Int),f j))<;>rfl
  rw[h0,ih]
  by_cases h1:bE n i=true
  ·have:bE (n+1) i=true:=by have:=of_decide_eq_true h1;exact decide_eq_true (by omega)
   rw[if_pos h1,if_pos this];rfl
  ·have hf:bE n i=false:=by simpa using h1
   have:=of_decide_eq_false hf
   rw[if_neg h1,Lf]
   by_cases h2:(n:Int)=i
   ·subst h2
    have:bE (n+1) (n:Int)=true:=decide_eq_true (by omega)
    rw[if_pos rfl,if_pos this];rfl
   ·have h3:bE (n+1) i=false:=decide_eq_false (by omega)
    rw[if_neg h2,h3];rfl
theorem aJT(f : Nat → Value)(n i : Nat)(v : Value)(hi : i < n) : lT ((List.range n).map fun j : Nat => ((j : Int), f j)) (i : Int) v = (List.range n).map fun j : Nat => ((j : Int), if j = i then v else f j) := by
  have key:∀(l:List Nat),i∈l→l.Nodup→lT (l.map fun j:Nat=>((j:Int),f j)) (i:Int) v=l.map fun j:Nat=>((j:Int),if j=i then v else f j):=by
    intro l
    induction l with
    | nil=>intro h;simp at h
    | cons a l ih =>
      intro h hn
      rw[List.map_cons,lT,List.map_cons]
      by_cases ha:(a:Int)=(i:Int)
      · have yP:a=i:=by omega
        subst yP
        rw[if_pos rfl,if_pos rfl]
        congr 1
        refine List.map_congr_left fun j hj=>?_
        rw[if_neg (fun he:j=a=>(List.nodup_cons.1 hn).1 (he▸hj))]
      · rw[if_neg ha,if_neg (by omega)]
        congr 1
        exact ih (by rcases List.mem_cons.1 h with h | h
                     · omega
                     · exact h) (List.nodup_cons.1 hn).2
  exact key _ (List.mem_range.2 hi) List.nodup_range
theorem aDJ{s:aA}{st:List iK}(i:Int):kK (lJ s st) i=if bE st.length i then some (gJ (s.aL.getD i.toNat 0) (st.getD i.toNat oN)) else none:=aDI (fun j=>gJ (s.aL.getD j 0) (st.getD j oN)) st.length i
theorem aAE{s:aA}{st:List iK}{i:Nat}{x:iK}{r:Int}(hr:s.aL.getD i 0=r)(hi:i < st.length):lT (lJ s st) (i:Int) (gJ r x)=lJ s (st.set i x):=by
 have:=aJT (fun j=>gJ (s.aL.getD j 0) (st.getD j oN)) st.length i (gJ r x) hi
 refine this.trans ?_
 unfold lJ
 rw[List.length_set]
 refine List.map_congr_left fun j hj=>?_
 unfold Hu
 congr 1
 by_cases he:j=i
 ·subst he
  rw[if_pos rfl,←hr,List.getD_eq_getElem?_getD (l:=st.set j x),List.getElem?_set_self hi]
  rfl
 ·rw[if_neg he,List.getD_eq_getElem?_getD (l:=st.set i x),List.getElem?_set_ne (Ne.symm he),List.getD_eq_getElem?_getD (l:=st)]
structure RL where
 t:Nat
 g:Nat
def lP(L:RL)(s:aA)(st:List iK):HP:=HP.many [HP.aB L.t 277 [.map (some L.g)],HP.map L.g (lJ s st)]
structure Gp(w:World)(L:RL)(s:aA)(st:List iK):Prop where
 r0:eS w L.t 0 (.map (some L.g))
 m:tN w L.g (lJ s st)
theorem Gp.below{w w':World}{L:RL}{s:aA}{st:List iK}(h:Gp w L s st)(hb:Below w.heap.size w w'):Gp w' L s st:=
 ⟨⟨Nat.lt_of_lt_of_le h.r0.1 hb.size,(hb.cell (p:=⟨_,0,none⟩) h.r0.1).trans h.r0.2⟩,h.m.below hb⟩
section
variable{N:bO}{w0 w:World}{e:Env}{R:List Piece}{H:List HP}{K:Act→World→Prop}{L:RL}{s:aA}{st:List iK}
theorem lP.reads{F:Nat→Prop}(h:(lP L s st).sat F w):Gp w L s st:=by
 obtain⟨G,g1,g2,_⟩:=h
 have h0:=g1 0 _ rfl
 exact⟨⟨h0.2.lt,by rw[h0.2.cell];rfl⟩,(g1 1 _ rfl).2⟩
theorem St.Lo(t:St w0 R H w)(i:Nat)(hi:H[i]? =some (lP L s st)):Gp w L s st:=by
 obtain⟨F,h1,h2,_⟩:=t.chunk hi
 exact lP.reads h1
end
theorem aDX:(Tryz.prog.info? 233).bind (·.zero)=some (gJ 0 ⟨0,false,false⟩):=by kernel_rfl
def qN(s:aA)(st:List iK)(i:Int):Value:=if bE st.length i then gJ (s.aL.getD i.toNat 0) (st.getD i.toNat oN) else gJ 0 ⟨0,false,false⟩
theorem aMj(s:aA)(st:List iK)(i:Int):∃r x,qN s st i=gJ r x:=by
 unfold qN
 split
 ·exact⟨_,_,rfl⟩
 ·exact⟨_,_,rfl⟩
theorem Pk(L:RL)(s:aA)(st:List iK)(i:Int)(w:World)(hR:Gp w L s st):
  Calls Tryz.prog 92 #[.pointer (some ⟨L.t,0,none⟩),iv i] w (Rt (.tuple #[qN s st i,.bool (bE st.length i)]) w):=by
 have h0:=hR.r0
 obtain⟨r,x,hv⟩:=aMj s st i
 have hm:=aDJ (s:=s) (st:=st) i
 have hz:(kK (lJ s st) i).getD (gJ 0 ⟨0,false,false⟩)=gJ r x:=by
  rw[hm,←hv,qN]
  split<;>rfl
 have hb:(kK (lJ s st) i).isSome=bE st.length i:=by
  rw[hm]
  split
  ·rename_i h;rw[h];rfl
  ·rename_i h;simp at h;rw[h];rfl
 rw[hv]
 refine XK.en Tryz.func92 Tryz.ntmps92 ?_
 refine XK.go ?_
 refine bB fun g1=>?_
 refine XK.go ?_
 refine Ut (kt:=3) (et:=233) (kd:=.i64) (z:=gJ 0 ⟨0,false,false⟩) (l:=lJ s st) true (by kernel_rfl) (by kernel_rfl) aDX rfl rfl (fun w1 t=>(hR.below (t.below (by simp))).m) (by decide) ?_
 simp only[if_true]
 rw[hz,hb]
 refine XK.go ?_
 refine bB fun g2=>?_
 unfold gJ
 refine XK.go ?_
 exact XK.wA rfl (by kernel_rfl) rfl rfl (by first | assumption | exact aH.whole 0 rfl | exact aH.whole 1 rfl | exact aH.whole 2 rfl | exact aH.whole 3 rfl | exact aH.whole 4 rfl | exact aH.whole 5 rfl | exact aH.whole 6 rfl | exact aH.whole 7 rfl | exact aH.whole 8 rfl | exact aH.jP (by simp) (by assumption)) rfl fun w1 t=>⟨rfl,t.below (by simp)⟩
theorem aCW(L:RL)(s:aA)(st:List iK)(i:Int)(w:World)(hR:Gp w L s st):
  Calls Tryz.prog 43 #[.pointer (some ⟨L.t,0,none⟩),iv i] w (Rt (.bool (Fh st i)) w):=by
 refine XK.en Tryz.func43 Tryz.ntmps43 ?_
 refine XK.go ?_
 refine aJ (fun w1 t=>Pk L s st i w1 (hR.below (t.below (by simp)))) ?_
 refine XK.go ?_
 refine bB fun g2=>?_
 cases hi:bE st.length i
 ·have hv:qN s st i=gJ 0 ⟨0,false,false⟩:=by simp[qN,hi]
  rw[hv]
  unfold gJ
  refine XK.go ?_
  refine XK.gN (by simp) ?_
  simp[Fh,hi]
 ·have hv:qN s st i=gJ (s.aL.getD i.toNat 0) (st.getD i.toNat oN):=by simp[qN,hi]
  rw[hv]
  unfold gJ
  refine XK.go ?_
  refine XK.gN (by simp) ?_
  have:i.toNat < st.length:=by have:=of_decide_eq_true hi;omega
  simp[Fh,hi,List.getElem?_eq_getElem this]
end
section
set_option maxHeartbeats 4000000
set_option maxRecDepth 20000
theorem aBD:∀{cl:List Dom} {rs:List (List Value)},Rows pU 3 cl rs→rs=cl.map fun d=>[iv d.above,iv d.delay,.bool d.ret]
 | [],[],_=>rfl
 | e::es,r::rs,h=>by
  have h1:r=[iv e.above,iv e.delay,.bool e.ret]:=h.2.1
  rw[h1,aBD h.2.2]
  rfl
theorem aAm:∀{cl:List Int} {rs:List (List Value)},Rows tM 1 cl rs→rs=cl.map fun d=>[iv d]
 | [],[],_=>rfl
 | e::es,r::rs,h=>by
  have h1:r=[iv e]:=h.2.1
  rw[h1,aAm h.2.2]
  rfl
def aGm(s:aA)(v:Value)(hs:List HP)(_:Piece):Prop:=∃L:GL,v=.tuple #[.pointer (some ⟨L.t,0,none⟩),iv 0]∧hs=[sL L s (s.domains.map fun _=>vA)]
theorem aJh(s:aA)(hH:s.cI)(A1 A2 A3 A4:Option Addr)(n1 k1 n2 k2 n3 k3 n4 k4:Nat)(w:World)(hW:eI w s A1 n1 A2 n2 A3 n3 A4 n4):
  Calls Tryz.prog 69 #[.agg #[.slice A1 n1 k1,.slice A2 n2 k2,.slice A3 n3 k3,.slice A4 n4 k4]] w (fun y w'=>(∃v hs q,y=.returned v∧q.w=w'∧aGm s v hs q∧iY w hs q)∧Below w.heap.size w w'):=by
 have hnd:=hH.t.nd
 obtain⟨rd,hrd,hn2,hsd⟩:=hW.dom
 have hrd:=aBD hrd
 subst hrd;subst hn2
 have kA:(s.domains.map fun _=>vA).length=s.domains.length:=by simp
 refine XK.en Tryz.func69 Tryz.ntmps69 ?_
 refine XK.go ?_
 refine aS fun g1=>?_
 refine XK.go ?_
 refine aJ (fun w1 t=>Nu s A1 A2 A3 A4 n1 k1 _ k2 n3 k3 n4 k4 w1 (hW.le (t.started (by simp))) hH.t.Nt) ?_
 refine XK.go ?_
 refine kd (eM rfl) ?_
 refine aS fun g2=>?_
 refine XK.go ?_
 refine XK.fY 231 7 ?_
 refine XK.aT [(18,iv 0),(17,iv s.domains.length),(16,.slice A2 s.domains.length k2),(5,pt g2)] ?_
 refine XK.loop (fun m e R H=>∃(i:Nat) (A:Option Addr) (k:Nat),i≤s.domains.length∧m=s.domains.length - i∧e=[(18,iv i),(17,iv s.domains.length),(16,.slice A2 s.domains.length k2),(5,pt g2)]∧R=[all w]∧H=[HP.own 231 7 (.slice A i k) i ((nP s (s.domains.map fun _=>vA)).take i).flatten,HP.aB g2 273 [.slice A i k],HP.aB g1 30 [.slice A1 n1 k1,.slice A2 s.domains.length k2,.slice A3 n3 k3,.slice A4 n4 k4]]) s.domains.length ⟨0,none,0,by omega,rfl,rfl,rfl,by simp⟩ fun m e R H hI=>?_
 obtain⟨i,A,k,hi,rfl,rfl,rfl,rfl⟩:=hI
 refine XK.go ?_
 refine XK.if_ rfl (fun hlt=>?_) (fun hge=>?_)
 ·have hlt:i < s.domains.length:=by omega
  obtain⟨c,hc⟩:=get_some hlt
  obtain⟨b,off,hB,hro⟩:=aE.row hsd (fun r hr=>by obtain⟨q,_,rfl⟩:=List.mem_map.1 hr;rfl) (r:=[iv c.above,iv c.delay,.bool c.ret]) (by rw[List.getElem?_map,hc];rfl) hlt
  subst hB
  have hrow:(nP s (s.domains.map fun _=>vA))[i]? =some (mP c vA):=Fy hc (by rw[List.getElem?_map,hc];rfl)
  have cQ:((nP s (s.domains.map fun _=>vA)).take (i+1)).flatten=((nP s (s.domains.map fun _=>vA)).take i).flatten++mP c vA:=by
   rw[List.take_succ,hrow,List.flatten_append];simp
  refine XK.go ?_
  refine kd (dat i (off+i*3)) ?_
  refine XK.go ?_
  refine bB fun g3=>?_
  refine XK.go ?_
  refine XK.eU [2,3,4,5,6] ?_
  refine XB.mv 0 ?_
  refine XB.mv 1 ?_
  refine XB.q 2 ?_
  refine XB.q 3 ?_
  refine XB.q 4 ?_
  refine XB.q 5 ?_
  refine XB.q 6 ?_ (cY:=jF (zs:=[iv 0,iv 0,.bool false,.int .u8 0,iv 0,.bool false,.bool false]) (L:=[(0,3),(3,1),(4,1),(5,1),(6,1)]) (dN (by kernel_rfl)) (by kernel_rfl) rfl (by simp[eF,fH,Value.cells];rfl))
  refine XB.next 7 rfl (by kernel_rfl) ?_
  refine dF fun g5=>?_
  refine XB.bk ?_
  refine XB.next 8 rfl (by kernel_rfl) ?_
  refine fG 2 7 48 1 (el:=231) (by kernel_rfl) (by kernel_rfl) (by decide) rfl rfl rfl (kX 0 rfl rfl) (by simp[Value.oneCell']) rfl (by omega) (by omega) (by decide) fun A' k'=>?_
  dsimp only[List.set]
  refine XB.bt ?_
  refine XB.next 9 rfl (by kernel_rfl) ?_
  refine bA ?_
  refine XB.bt ?_
  refine XB.next 10 rfl (by kernel_rfl) ?_
  refine bA ?_
  refine XB.bt ?_
  refine XB.next 11 rfl (by kernel_rfl) ?_
  refine dL rfl rfl ?_
  dsimp only[List.set]
  refine XB.bt ?_
  refine XB.done (by kernel_rfl) ?_
  refine XK.go ?_
  refine XK.weak [2,3,4] rfl (by decide) (fun _ h=>h) ?_
  exact XK.rd (s.domains.length - (i+1)) ⟨i+1,A',k',hlt,rfl,rfl,rfl,by rw[cQ]⟩
 ·obtain rfl:i=s.domains.length:=by omega
  refine XK.go ?_
  have hfull:(nP s (s.domains.map fun _=>vA)).take s.domains.length=nP s (s.domains.map fun _=>vA):=List.take_of_length_le (by simp[nP])
  rw[hfull]
  refine XK.weak [1,0] rfl (by decide) (fun _ h=>h) ?_
  refine XK.pair ?_
  refine XK.still [] [] [0] (by simp) rfl (by decide) (by decide) fun q _ _ hfr=>?_
  exact XK.dG rfl rfl rfl fun w1 t=>⟨⟨_,_,⟨w1,q.Z⟩,rfl,rfl,⟨⟨g2,A,k⟩,rfl,rfl⟩,t.newR (by simp) (by simp) (hfr (by simp) (by simp))⟩,t.below (by simp)⟩
theorem aGx{N:bO}{w0:World}{e:Env}{R:List Piece}{H:List HP}{Q:Exit→Act→World→Prop}{ops:Array Oper}{rest:List Oper}{d:Nat}{ty:TypeId}{pos:String}{aF:Array Edge}{x:Operand}{n:Int}{t kt et:TypeId}(ht:Tryz.prog.underlying t=some (.map kt et))(hx:e.ev x=some (iv n))(hd:d < N.n)(k:∀g,XK N w0 (wpList Tryz.prog ops Q rest) ((d,.map (some g))::e) R (HP.map g []::H)):XK N w0 (wpList Tryz.prog ops Q (⟨some d,.makeMap t (some x),ty,pos,aF,none⟩::rest)) e R H:=
 rH rfl fun a w hr st=>⟨.map (some w.heap.size),w.alloc (.map #[] 0),by simp[execOp,Instr.makeMap,hr.ev hx,run_underlying ht,asInt,asIntOf],k w.heap.size _ _ (hr.put hd _) (st.new (Ny w _) ⟨⟨Nat.le_refl _,by simp⟩,#[],0,heap_alloc_new w _,rfl⟩)⟩
def aGg(s:aA)(v:Value)(hs:List HP)(_:Piece):Prop:=∃L:RL,v=.tuple #[.pointer (some ⟨L.t,0,none⟩),iv 0]∧hs=[lP L s (s.aL.map fun _=>oN)]
theorem aJS(l:List (Int×Value))(k:Int)(v:Value)(h:kK l k=none):lT l k v=l++[(k,v)]:=by
 induction l with
 | nil=>rfl
 | cons p l ih =>
  obtain⟨a,b⟩:=p
  rw[Lf] at h
  rw[lT]
  split at h
  ·cases h
  ·rename_i hne
   rw[if_neg hne,ih h]
   rfl
theorem aHO(s:aA)(hH:s.cI)(A1 A2 A3 A4:Option Addr)(n1 k1 n2 k2 n3 k3 n4 k4:Nat)(w:World)(hW:eI w s A1 n1 A2 n2 A3 n3 A4 n4):
  Calls Tryz.prog 70 #[.agg #[.slice A1 n1 k1,.slice A2 n2 k2,.slice A3 n3 k3,.slice A4 n4 k4]] w (fun y w'=>(∃v hs q,y=.returned v∧q.w=w'∧aGg s v hs q∧iY w hs q)∧Below w.heap.size w w'):=by
 have fU:=hH.t.nr
 obtain⟨rr,bM,lW,hst⟩:=hW.xS
 have bM:=aAm bM
 subst bM;subst lW
 have mM:(s.aL.map fun _=>oN).length=s.aL.length:=by simp
 refine XK.en Tryz.func70 Tryz.ntmps70 ?_
 refine XK.go ?_
 refine aS fun g1=>?_
 refine XK.go ?_
 refine aJ (fun w1 t=>Nu s A1 A2 A3 A4 n1 k1 n2 k2 _ k3 n4 k4 w1 (hW.le (t.started (by simp))) hH.t.Nt) ?_
 refine XK.go ?_
 refine aGx (kt:=3) (et:=233) (by kernel_rfl) rfl (by decide) fun gm=>?_
 refine kd (eM rfl) ?_
 refine aS fun g2=>?_
 refine XK.go ?_
 refine XK.aT [(22,iv 0),(21,iv s.aL.length),(20,.slice A3 s.aL.length k3),(5,pt g2)] ?_
 refine XK.loop (fun m e R H=>∃i:Nat,i≤s.aL.length∧m=s.aL.length - i∧e=[(22,iv i),(21,iv s.aL.length),(20,.slice A3 s.aL.length k3),(5,pt g2)]∧R=[all w]∧H=[HP.aB g2 277 [.map (some gm)],HP.map gm ((List.range i).map (Hu s (s.aL.map fun _=>oN))),HP.aB g1 30 [.slice A1 n1 k1,.slice A2 n2 k2,.slice A3 s.aL.length k3,.slice A4 n4 k4]]) s.aL.length ⟨0,by omega,rfl,rfl,rfl,rfl⟩ fun m e R H hI=>?_
 obtain⟨i,hi,rfl,rfl,rfl,rfl⟩:=hI
 refine XK.go ?_
 refine XK.if_ rfl (fun hlt=>?_) (fun hge=>?_)
 ·have hlt:i < s.aL.length:=by omega
  obtain⟨c,hc⟩:=get_some hlt
  obtain⟨b,off,hB,hro⟩:=aE.row hst (fun r hr=>by obtain⟨q,_,rfl⟩:=List.mem_map.1 hr;rfl) (r:=[iv c]) (by rw[List.getElem?_map,hc];rfl) hlt
  subst hB
  have lA:lT ((List.range i).map (Hu s (s.aL.map fun _=>oN))) (i:Int) (gJ c oN)=(List.range (i+1)).map (Hu s (s.aL.map fun _=>oN)):=by
   rw[aJS _ _ _ (by
    have:=aDI (fun j=>gJ (s.aL.getD j 0) ((s.aL.map fun _=>oN).getD j oN)) i (i:Int)
    rw[if_neg (by simp[bE])] at this
    exact this),List.range_succ,List.map_append]
   congr 1
   simp[Hu,List.getD_eq_getElem?_getD,hc]
  refine XK.go ?_
  refine kd (dat i (off+i*1)) ?_
  refine XK.go ?_
  refine bB fun g3=>?_
  refine XK.go ?_
  refine XK.eU [1,2,3,5,6,7] ?_
  refine XB.mv 0 ?_
  refine XB.q 1 ?_
  refine XB.q 2 ?_
  refine XB.q 3 ?_
  refine XB.mv 4 ?_
  refine XB.q 5 ?_
  refine XB.q 6 ?_
  refine XB.q 7 ?_ (cY:=jF (zs:=[iv 0,iv 0,.bool false,.bool false]) (L:=[(0,1),(1,1),(2,1),(3,1)]) (dN (by kernel_rfl)) (by kernel_rfl) rfl (by simp[eF,fH,Value.cells];rfl))
  refine XB.next 8 rfl (by kernel_rfl) ?_
  refine Dw (kt:=3) (et:=233) (kd:=.i64) (l:=(List.range i).map (Hu s (s.aL.map fun _=>oN))) (v:=gJ c oN) 2 (by kernel_rfl) (by kernel_rfl) rfl rfl rfl rfl ?_
  rw[lA]
  dsimp only[List.set]
  refine XB.bt ?_
  refine XB.done (by kernel_rfl) ?_
  refine XK.go ?_
  refine XK.weak [1,2,3] rfl (by decide) (fun _ h=>h) ?_
  exact XK.rd (s.aL.length - (i+1)) ⟨i+1,hlt,rfl,rfl,rfl,rfl⟩
 ·obtain rfl:i=s.aL.length:=by omega
  refine XK.go ?_
  refine XK.pair ?_
  refine XK.still [] [] [0] (by simp) rfl (by decide) (by decide) fun q _ _ hfr=>?_
  exact XK.dG rfl rfl rfl fun w1 t=>⟨⟨_,_,⟨w1,q.Z⟩,rfl,rfl,⟨⟨g2,gm⟩,rfl,by simp[lP,lJ]⟩,t.newR (by simp) (by simp) (hfr (by simp) (by simp))⟩,t.below (by simp)⟩
end
section
set_option maxHeartbeats 4000000
set_option maxRecDepth 20000
structure gK where
 id:Int
 wr:Bool
 bF:Int
 val:Int
def gK.cells(t:gK):List Value:=[iv t.id,.bool t.wr,iv t.bF,.int .u32 t.val]
def QH(v:Value):Option gK→HP
 | none=>HP.pure (∃A,v=.slice A 0 0)
 | some t=>HP.own 259 4 v 1 t.cells
structure BL where
 b:Nat
 gr:Nat
 gw:Nat
def nE(ws:List (Option gK))(i:Nat):Nat:=if((ws[i]?).join).isSome then 1 else 0
def aCc(g n:Nat)(ws:List (Option gK)):HP:=HP.ex fun vs:List Value=>HP.many (HP.aB g 267 vs::HP.pure (vs.length=n)::(List.range n).map fun i=>QH (vs.getD i undef) (ws[i]?).join)
def rB(L:BL)(ms:List Int)(ws:List (Option gK))(aQ:Int):HP:=HP.many [HP.aB L.b 270 [.slice (some ⟨L.gr,0,none⟩) ms.length ms.length,.slice (some ⟨L.gw,0,none⟩) ms.length ms.length,iv aQ],HP.aB L.gr 3 (aG ms),aCc L.gw ms.length ws]
structure Du(w:World)(L:BL)(ms:List Int)(ws:List (Option gK))(aQ:Int):Prop where
 r0:cZ w L.b 0 [.slice (some ⟨L.gr,0,none⟩) ms.length ms.length,.slice (some ⟨L.gw,0,none⟩) ms.length ms.length,iv aQ]
 rg:cZ w L.gr 0 (aG ms)
 wt:∀i,i < ms.length→∃A c,eS w L.gw i (.slice A (nE ws i) c)
theorem Du.below{w w':World}{L:BL}{ms:List Int}{ws:List (Option gK)}{aQ:Int}(h:Du w L ms ws aQ)(hb:Below w.heap.size w w'):Du w' L ms ws aQ:=
 ⟨h.r0.below hb,h.rg.below hb,fun i hi=>by
  obtain⟨A,c,h1,h2⟩:=h.wt i hi
  exact⟨A,c,Nat.lt_of_lt_of_le h1 hb.size,(hb.cell (p:=⟨_,i,none⟩) h1).trans h2⟩⟩
theorem rB.reads{L:BL}{ms:List Int}{ws:List (Option gK)}{aQ:Int}{F:Nat→Prop}{w:World}(h:(rB L ms ws aQ).sat F w):Du w L ms ws aQ:=by
 obtain⟨G,g1,g2,_⟩:=h
 refine⟨sD (g1 0 _ rfl).2,sD (g1 1 _ rfl).2,fun i hi=>?_⟩
 obtain⟨vs,G',k1,_,_⟩:=g1 2 _ rfl
 have hb:=sD (k1 0 _ rfl).2
 have hl:vs.length=ms.length:=k1 1 _ rfl
 obtain⟨v,hv⟩:=get_some (l:=vs) (i:=i) (by omega)
 have hq:=k1 (i+2) (QH (vs.getD i undef) (ws[i]?).join) (by
  rw[List.getElem?_cons_succ,List.getElem?_cons_succ,List.getElem?_map,List.getElem?_range hi];rfl)
 rw[List.getD_eq_getElem?_getD,hv] at hq
 have hc:=hb.at_ hv
 rw[Nat.zero_add] at hc
 unfold nE
 cases hj:(ws[i]?).join with
 | none=>
  rw[hj] at hq
  obtain⟨A,hA⟩:∃A,v=.slice A 0 0:=hq
  subst hA
  exact⟨A,0,hc⟩
 | some t=>
  rw[hj] at hq
  obtain⟨A,c,hA,_⟩:=aE.oA (Y:=fun _=>True) hq (fun _ _=>trivial)
  have hA:v=.slice A 1 c:=hA
  subst hA
  exact⟨A,c,hc⟩
section
variable{N:bO}{w0 w:World}{e:Env}{R:List Piece}{H:List HP}{K:Act→World→Prop}{L:BL}{ms:List Int}{ws:List (Option gK)}{aQ:Int}
theorem St.aF7(t:St w0 R H w)(i:Nat)(hi:H[i]? =some (rB L ms ws aQ)):Du w L ms ws aQ:=by
 obtain⟨F,h1,h2,_⟩:=t.chunk hi
 exact rB.reads h1
end
theorem Ys(L:BL)(ms:List Int)(ws:List (Option gK))(aQ:Int)(i:Int)(w:World)(hR:Du w L ms ws aQ):
  Calls Tryz.prog 111 #[.pointer (some ⟨L.b,0,none⟩),iv i] w (Rt (.bool (bE ms.length i)) w):=by
 have k0:=hR.r0.at_ (j:=0) rfl
 refine XK.en Tryz.func111 Tryz.ntmps111 ?_
 refine XK.go ?_
 refine aW (t:=11) rfl (fun h=>?_) (fun h=>?_)
 ·refine XK.go ?_
  refine XK.gN (by simp) ?_
  unfold bE
  congr 1
  simp;omega
 ·refine XK.go ?_
  refine XK.gN (by simp) ?_
  have:bE ms.length i=false:=decide_eq_false (by omega)
  rw[this]
theorem aF5(L:BL)(ms:List Int)(ws:List (Option gK))(aQ:Int)(i:Nat)(hi:i < ms.length)(w:World)(hR:Du w L ms ws aQ):
  Calls Tryz.prog 57 #[.pointer (some ⟨L.b,0,none⟩),iv (i:Int)] w (Rt (iv (nE ws i:Nat)) w):=by
 have k1:=hR.r0.at_ (j:=1) rfl
 obtain⟨A,c,hw⟩:=hR.wt i hi
 have hin:bE ms.length (i:Int)=true:=decide_eq_true (by omega)
 refine XK.en Tryz.func57 Tryz.ntmps57 ?_
 refine XK.go ?_
 refine aJ (fun w1 t=>Ys L ms ws aQ i w1 (hR.below (t.below (by simp)))) ?_
 rw[hin]
 refine XK.gw ?_
 exact XK.rE
def aGs(ms:List Int)(v:Value)(hs:List HP)(_:Piece):Prop:=∃L:BL,v=.tuple #[.pointer (some ⟨L.b,0,none⟩),iv 0]∧hs=[rB L ms (ms.map fun _=>none) 0]
theorem aGL{N:bO}{w0:World}{e:Env}{R:List Piece}{H:List HP}{K:Act→World→Prop}{g n:Nat}{β:Type}(l:List β)(hl:l.length=n)(i:Nat)(hi:H[i]? =some (HP.aB g 267 (List.replicate n (sn))))(h:XK N w0 K e R (H.set i (aCc g n (l.map fun _=>none)))):XK N w0 K e R H:=by
 refine XK.reuse (q:=aCc g n (l.map fun _=>none)) i hi (fun F w hs=>⟨List.replicate n (sn),fun k b=>k=0∧F b,fun k p hk=>?_,fun k b h=>h.2,fun k j b hkj h1 h2=>by have:=h1.1;have:=h2.1;omega⟩) h
 match k,hk with
 | 0,hk=>
  simp at hk;subst hk
  show(HP.aB g 267 (List.replicate n (sn))).sat (fun b=>0=0∧F b) w
  rw[show(fun b=>0=0∧F b)=F by funext b;simp]
  exact hs
 | 1,hk=>cases hk;show(List.replicate n (Value.slice none 0 0)).length=n;simp
 | k + 2, hk =>
  rw[List.getElem?_cons_succ,List.getElem?_cons_succ,List.getElem?_map] at hk
  cases hr:(List.range n)[k]? with
  | none=>rw[hr] at hk;cases hk
  | some j =>
   rw[hr] at hk
   have hj:j < n:=List.mem_range.1 (List.mem_of_getElem? hr)
   have:((l.map fun _=>(none:Option gK))[j]?).join=none:=by
    rw[List.getElem?_map]
    cases l[j]? <;>rfl
   simp only[Option.map_some,Option.some.injEq,this] at hk
   subst hk
   refine⟨none,?_⟩
   rw[List.getD_eq_getElem?_getD,List.getElem?_replicate,if_pos hj]
   rfl
theorem aOk(ms:List Int)(hml:ms.length≤6)(hm:∀m∈ms,0≤m∧m≤8)(A:Option Addr)(c:Nat)(w:World)(hs:aE (all w) 1 A ms.length (aG ms)):
  Calls Tryz.prog 74 #[.slice A ms.length c] w (fun y w'=>(∃v hs q,y=.returned v∧q.w=w'∧aGs ms v hs q∧iY w hs q)∧Below w.heap.size w w'):=by
 refine XK.en Tryz.func74 Tryz.ntmps74 ?_
 refine XK.seq ?_
 refine XK.region ?_
 refine bA ?_
 refine bA ?_
 refine XK.aY ?_
 refine XK.seq ?_
 refine XK.seq ?_
 refine XK.region ?_
 refine bA ?_
 refine bA ?_
 refine bA ?_
 refine XK.gw ?_
 refine XK.if_ rfl (fun h=>absurd h (by omega)) (fun _=>?_)
 refine XK.skip ?_
 refine XK.norm ?_
 refine XK.cut (fun e R H=>∃gr gw g3,e=[(4,pt g3),(0,.slice A ms.length c)]∧R=[all w]∧H=[HP.aB g3 270 [.slice (some ⟨gr,0,none⟩) ms.length ms.length,.slice (some ⟨gw,0,none⟩) ms.length ms.length,iv 0],HP.aB gr 3 (List.replicate ms.length (iv 0)),HP.aB gw 267 (List.replicate ms.length (sn))]) ?_ ?_
 ·refine XK.draw 6 (by kernel_rfl) (by kernel_rfl) ?_
  refine XA.q 0 ?_
  refine XA.q 1 ?_
  refine XA.q 3 ?_
  refine XA.q 4 ?_
  refine XA.either 2 5 rfl rfl (by kernel_rfl) ?_ ?_
  ·refine jG (n:=ms.length) 8 (el:=3) (z:=iv 0) (by kernel_rfl) (by kernel_rfl) rfl rfl rfl (by omega) (by omega) (by decide) fun gr=>?_
   refine XA.bk ?_
   refine XA.next 5 rfl (by kernel_rfl) ?_
   refine jG (n:=ms.length) 24 (el:=267) (z:=sn) (by kernel_rfl) (by kernel_rfl) rfl rfl rfl (by omega) (by omega) (by decide) fun gw=>?_
   refine XA.bk ?_
   refine XA.next 6 rfl (by kernel_rfl) ?_
   refine kd (eM rfl) ?_
   refine XA.bt ?_
   refine XA.next 7 rfl (by kernel_rfl) ?_
   refine aS fun g3=>?_
   refine XA.bt ?_
   refine XA.next 8 rfl (by kernel_rfl) ?_
   refine bA ?_
   refine XA.bt ?_
   refine XA.done (by kernel_rfl) ?_
   refine XK.norm ?_
   exact XK.me ⟨gr,gw,g3,rfl,rfl,rfl⟩
  ·refine jG (n:=ms.length) 24 (el:=267) (z:=sn) (by kernel_rfl) (by kernel_rfl) rfl rfl rfl (by omega) (by omega) (by decide) fun gw=>?_
   refine XA.bk ?_
   refine XA.next 2 rfl (by kernel_rfl) ?_
   refine jG (n:=ms.length) 8 (el:=3) (z:=iv 0) (by kernel_rfl) (by kernel_rfl) rfl rfl rfl (by omega) (by omega) (by decide) fun gr=>?_
   refine XA.bk ?_
   refine XA.next 6 rfl (by kernel_rfl) ?_
   refine kd (eM rfl) ?_
   refine XA.bt ?_
   refine XA.next 7 rfl (by kernel_rfl) ?_
   refine aS fun g3=>?_
   refine XA.bt ?_
   refine XA.next 8 rfl (by kernel_rfl) ?_
   refine bA ?_
   refine XA.bt ?_
   refine XA.done (by kernel_rfl) ?_
   refine XK.norm ?_
   exact XK.me ⟨gr,gw,g3,rfl,rfl,rfl⟩
 rintro _ _ _ ⟨gr,gw,g3,rfl,rfl,rfl⟩
 refine XK.gw ?_
 refine XK.aT [(20,iv 0),(19,iv ms.length),(18,.slice A ms.length c),(4,pt g3)] ?_
 refine XK.loop (fun m e R H=>∃i:Nat,i≤ms.length∧m=ms.length - i∧e=[(20,iv i),(19,iv ms.length),(18,.slice A ms.length c),(4,pt g3)]∧R=[all w]∧H=[HP.aB g3 270 [.slice (some ⟨gr,0,none⟩) ms.length ms.length,.slice (some ⟨gw,0,none⟩) ms.length ms.length,iv 0],HP.aB gr 3 (aG (iS ms (ms.map fun _=>0) i)),HP.aB gw 267 (List.replicate ms.length (sn))]) ms.length ⟨0,by omega,rfl,rfl,rfl,by
  rw[Qi]
  have:List.replicate ms.length (Value.int .i64 0)=aG (ms.map fun _=>0):=by
   refine List.ext_getElem? fun j=>?_
   simp only[aG,List.map_map,List.getElem?_replicate,List.getElem?_map]
   by_cases h:j < ms.length
   ·rw[if_pos h,List.getElem?_eq_getElem h];rfl
   ·rw[if_neg h,List.getElem?_eq_none (by omega)];rfl
  rw[this]⟩ fun m e R H hI=>?_
 obtain⟨i,hi,rfl,rfl,rfl,rfl⟩:=hI
 have Rh:=Qk (vs:=ms) (old:=ms.map fun _=>0) (n:=ms.length) rfl (by simp) hi
 refine XK.gw ?_
 refine XK.if_ rfl (fun hlt=>?_) (fun hge=>?_)
 ·have hlt:i < ms.length:=by omega
  obtain⟨v,hv⟩:=get_some hlt
  have hvb:=hm v (List.mem_of_getElem? hv)
  obtain⟨b,off,hB,hz,hc⟩:=hs.2 (by omega)
  subst hB
  have hro:eS w b (off+i) (iv v):=⟨hz,hc i _ (by simp[aG,hv])⟩
  have fK:(aG (iS ms (ms.map fun _=>0) i)).length=ms.length:=by simp[aG,Rh]
  have lA:(aG (iS ms (ms.map fun _=>0) i)).set i (iv v)=aG (iS ms (ms.map fun _=>0) (i+1)):=by
   rw[←Qj (by simp) hv,aG,aG,List.map_set]
  refine XK.go ?_
  refine kd (dat i (off+i)) ?_
  refine XK.gw ?_
  refine aW (t:=27) rfl (fun h=>absurd h (by omega)) (fun _=>?_)
  refine XK.gw ?_
  refine XK.if_ rfl (fun h=>absurd h (by omega)) (fun _=>?_)
  refine XK.gw ?_
  rw[lA]
  refine XK.gw ?_
  exact XK.rd (ms.length - (i+1)) ⟨i+1,hlt,rfl,rfl,rfl,rfl⟩
 ·obtain rfl:i=ms.length:=by omega
  rw[Ql rfl (by simp)]
  refine XK.gw ?_
  refine aGL ms rfl 2 rfl ?_
  dsimp only[List.set]
  refine XK.three ?_
  refine XK.still [] [] [0] (by simp) rfl (by decide) (by decide) fun q _ _ hfr=>?_
  exact XK.dG rfl rfl rfl fun w1 t=>⟨⟨_,_,⟨w1,q.Z⟩,rfl,rfl,⟨⟨g3,gr,gw⟩,rfl,rfl⟩,t.newR (by simp) (by simp) (hfr (by simp) (by simp))⟩,t.below (by simp)⟩
end
section
set_option maxHeartbeats 4000000
set_option maxRecDepth 20000
structure aO where
 ck:List dY
 dm:List eZ
 ln:List iK
 dv:List (dB×eJ)
 wt:List (Option gK)
 aQ:Int
def hw0(s:aA):aO:=⟨s.aD.map vD,s.domains.map fun _=>vA,s.aL.map fun _=>oN,s.aC.map fun d=>(Bb d,Kw),s.aC.map fun _=>none,0⟩
structure HL where
 h:Nat
 T:TL
 G:GL
 R:RL
 B:BL
 A:Option Addr
 c:Nat
 ds:List (FL×Nat)
def Fw(d:bK)(l:FL×Nat):List Value:=[iv d.clock,iv d.domain,iv d.reset,.int .u32 d.gB,.pointer (some ⟨l.1.f,0,none⟩),.pointer (some ⟨l.2,0,none⟩)]
def tG(ds:List bK)(ls:List (FL×Nat)):List (List Value):=List.zipWith Fw ds ls
def Na(d:bK)(p:(FL×Nat)×(dB×eJ)):HP:=HP.many [eP p.1.1 d p.2.1,qY p.1.2 p.2.2]
def uY(ds:List bK)(ls:List (FL×Nat))(xs:List (dB×eJ)):List HP:=List.zipWith Na ds (ls.zip xs)
def iF(s:aA):List Int:=s.aC.map fun d=>(d.aI.length:Int)
def Rx(L:HL)(n:Nat):List Value:=[.pointer (some ⟨L.T.t,0,none⟩),.pointer (some ⟨L.G.t,0,none⟩),.pointer (some ⟨L.R.t,0,none⟩),.pointer (some ⟨L.B.b,0,none⟩),.slice L.A n L.c]
def cP(L:HL)(s:aA)(x:aO):HP:=HP.many [HP.aB L.h 113 (Rx L s.aC.length),mF L.T s x.ck,sL L.G s x.dm,lP L.R s x.ln,rB L.B (iF s) x.wt x.aQ,HP.own 106 6 (.slice L.A s.aC.length L.c) s.aC.length (tG s.aC L.ds).flatten,HP.many (uY s.aC L.ds x.dv)]
def aGh(s:aA)(v:Value)(hs:List HP)(_:Piece):Prop:=∃L:HL,v=.tuple #[.pointer (some ⟨L.h,0,none⟩),iv 0]∧hs=[cP L s (hw0 s)]∧L.T.fa.length=s.aD.length∧L.ds.length=s.aC.length
theorem Ca(s:aA):(iF s).length=s.aC.length:=by simp[iF]
theorem aM8{ds:List bK}{i:Nat}{d:bK}(hd:ds[i]? =some d){ls:List (FL×Nat)}(hl:ls.length=i)(l:FL×Nat):uY (ds.take (i+1)) (ls++[l]) ((ds.take (i+1)).map fun d=>(Bb d,Kw))=uY (ds.take i) ls ((ds.take i).map fun d=>(Bb d,Kw))++[Na d (l,(Bb d,Kw))]:=by
 have hlt:i < ds.length:=wI hd
 rw[List.take_succ,hd,Option.toList_some,List.map_append]
 unfold uY
 rw[List.zip_append (by simp;omega),List.zipWith_append (by simp;omega)]
 rfl
theorem aM7{ds:List bK}{i:Nat}{d:bK}(hd:ds[i]? =some d){ls:List (FL×Nat)}(hl:ls.length=i)(l:FL×Nat):(tG (ds.take (i+1)) (ls++[l])).flatten=(tG (ds.take i) ls).flatten++Fw d l:=by
 have hlt:i < ds.length:=wI hd
 rw[List.take_succ,hd,Option.toList_some]
 unfold tG
 rw[List.zipWith_append (by simp;omega),List.flatten_append]
 simp
theorem XK.more{N:bO}{w0:World}{e:Env}{R:List Piece}{H:List HP}{K:Act→World→Prop}{p:HP}{ps:List HP}(h:XK N w0 K e R (HP.many (ps++[p])::H)):XK N w0 K e R (HP.many ps::p::H):=fun a w hr st=>
 (XK.push (ps:=ps) (p:=p) h) a w hr (st.weak (fun _ h=>h) (fun i=>match i with
  | 0=>1
  | 1=>0
  | i+2=>i+2) (fun i j _ _ he=>by
   match i,j with
   | 0,0=>rfl
   | 0,1=>simp at he
   | 0,j+2=>simp at he
   | 1,0=>simp at he
   | 1,1=>rfl
   | 1,j+2=>simp at he
   | i+2,0=>simp at he
   | i+2,1=>simp at he
   | i+2,j+2=>simpa using he) (fun i p hi=>by
   match i,hi with
   | 0,hi=>simpa using hi
   | 1,hi=>simpa using hi
   | i+2,hi=>simpa using hi))
theorem XK.aJP{N:bO}{w0:World}{e:Env}{R:List Piece}{H:List HP}{K:Act→World→Prop}(h:XK N w0 K e R (HP.many []::H)):XK N w0 K e R H:=XK.yY (p:=HP.many []) (fun w=>⟨fun _ _=>False,fun i p hp=>by simp at hp,fun _ _ h=>h,fun _ _ _ _ h=>h.elim⟩) h
theorem aL0(s:aA)(hH:s.cI)(A1 A2 A3 A4:Option Addr)(n1 k1 n2 k2 n3 k3 n4 k4:Nat)(w:World)(hW:eI w s A1 n1 A2 n2 A3 n3 A4 n4):
  Calls Tryz.prog 34 #[.agg #[.slice A1 n1 k1,.slice A2 n2 k2,.slice A3 n3 k3,.slice A4 n4 k4]] w (fun y w'=>(∃v hs q,y=.returned v∧q.w=w'∧aGh s v hs q∧iY w hs q)∧Below w.heap.size w w'):=by
 have lD:=hH.t.nv
 obtain⟨rv,Mg,nJ,rU⟩:=hW.dev
 obtain⟨da,kA,rfl,hda⟩:=aBG Mg
 subst nJ
 refine XK.en Tryz.func34 Tryz.ntmps34 ?_
 refine XK.gw ?_
 refine aS fun g1=>?_
 refine XK.gw ?_
 refine aJ (fun w1 t=>Nu s A1 A2 A3 A4 n1 k1 n2 k2 n3 k3 _ k4 w1 (hW.le (t.started (by simp))) hH.t.Nt) ?_
 refine XK.gw ?_
 refine fB (aFU s) (fun w1 t=>aNC s hH A1 A2 A3 A4 n1 k1 n2 k2 n3 k3 _ k4 w1 (hW.le (t.started (by simp)))) ?_
 rintro _ _ q1 ⟨LT,rfl,rfl,Xq⟩ _
 dsimp only[List.cons_append,List.nil_append]
 refine XK.gw ?_
 refine fB (aGm s) (fun w1 t=>aJh s hH A1 A2 A3 A4 n1 k1 n2 k2 n3 k3 _ k4 w1 (hW.le (t.started (by simp)))) ?_
 rintro _ _ q2 ⟨LG,rfl,rfl⟩ _
 dsimp only[List.cons_append,List.nil_append]
 refine XK.gw ?_
 refine fB (aGg s) (fun w1 t=>aHO s hH A1 A2 A3 A4 n1 k1 n2 k2 n3 k3 _ k4 w1 (hW.le (t.started (by simp)))) ?_
 rintro _ _ q3 ⟨LR,rfl,rfl⟩ _
 dsimp only[List.cons_append,List.nil_append]
 refine XK.gw ?_
 refine aS fun g2=>?_
 refine XK.gw ?_
 refine jG (n:=s.aC.length) 8 (el:=3) (z:=iv 0) (by kernel_rfl) (by kernel_rfl) rfl rfl rfl (by omega) (by omega) (by decide) fun gm=>?_
 refine XK.gw ?_
 refine XK.fY 106 6 ?_
 refine XK.aJP ?_
 refine XK.weak [0,1,2,3,4,5,6] rfl (by decide) (R':=[all w]) (by simp) ?_
 refine XK.aT [(56,iv 0),(55,iv s.aC.length),(54,.slice A4 s.aC.length k4),(10,.slice (some ⟨gm,0,none⟩) s.aC.length s.aC.length),(9,pt g2)] ?_
 refine XK.loop (fun m e R H=>∃(i:Nat) (A:Option Addr) (c:Nat) (ls:List (FL×Nat)),i≤s.aC.length∧ls.length=i∧m=s.aC.length - i∧e=[(56,iv i),(55,iv s.aC.length),(54,.slice A4 s.aC.length k4),(10,.slice (some ⟨gm,0,none⟩) s.aC.length s.aC.length),(9,pt g2)]∧R=[all w]∧H=[HP.many (uY (s.aC.take i) ls ((s.aC.take i).map fun d=>(Bb d,Kw))),HP.own 106 6 (.slice A i c) i (tG (s.aC.take i) ls).flatten,HP.aB gm 3 (aG (iS (iF s) ((iF s).map fun _=>0) i)),HP.aB g2 113 [.pointer (some ⟨LT.t,0,none⟩),.pointer (some ⟨LG.t,0,none⟩),.pointer (some ⟨LR.t,0,none⟩),.pointer none,.slice A i c],lP LR s (hw0 s).ln,sL LG s (hw0 s).dm,mF LT s (hw0 s).ck]) s.aC.length ⟨0,none,0,[],by omega,rfl,rfl,rfl,rfl,?_⟩ fun m e R H hI=>?_
 ·have:List.replicate s.aC.length (Value.int .i64 0)=aG (iS (iF s) ((iF s).map fun _=>0) 0):=by
   rw[Qi]
   refine List.ext_getElem? fun j=>?_
   simp only[aG,iF,List.map_map,List.getElem?_replicate,List.getElem?_map]
   by_cases h:j < s.aC.length
   ·rw[if_pos h,List.getElem?_eq_getElem h];rfl
   ·rw[if_neg h,List.getElem?_eq_none (by omega)];rfl
  rw[this]
  rfl
 obtain⟨i,A,c,ls,hi,mM,rfl,rfl,rfl,rfl⟩:=hI
 have hml:=Ca s
 have Rh:=Qk (vs:=iF s) (old:=(iF s).map fun _=>0) (n:=s.aC.length) hml (by simp[iF]) hi
 refine XK.gw ?_
 refine XK.if_ rfl (fun hlt=>?_) (fun hge=>?_)
 ·have hlt:i < s.aC.length:=by omega
  obtain⟨d,hd⟩:=get_some hlt
  obtain⟨⟨a1,a2⟩,ha⟩:=get_some (l:=da) (i:=i) (by omega)
  obtain⟨aBe,aEr⟩:=hda i d _ hd ha
  have hfit:=hH.t.aC i d hd
  obtain⟨b,off,hB,hro⟩:=aE.row rU (Um (f:=wR) (es:=s.aC) (bs:=da) (sz:=6) kA (fun _ _=>rfl)).2 (Oi (f:=wR) hd ha) hlt
  subst hB
  refine XK.go ?_
  refine kd (dat i (off+i*6)) ?_
  refine XK.gw ?_
  refine bB fun g3=>?_
  have hmi:(iF s)[i]? =some (d.aI.length:Int):=by rw[iF,List.getElem?_map,hd];rfl
  have fK:(aG (iS (iF s) ((iF s).map fun _=>0) i)).length=s.aC.length:=by simp[aG,Rh]
  have lA:(aG (iS (iF s) ((iF s).map fun _=>0) i)).set i (iv d.aI.length)=aG (iS (iF s) ((iF s).map fun _=>0) (i+1)):=by
   rw[←Qj (by simp) hmi,aG,aG,List.map_set]
  refine XK.gw ?_
  refine fB (aGo d) (fun w1 t=>aI0 d (by have:=hfit.2.2.2.2.2.2.2.2.1;omega) (fun r hr=>by have:=hfit.2.2.2.2.2.2.2.2.2.1 r hr;omega) a1.1 a1.2 w1 (aE.le aBe (t.le (by simp)))) ?_
  rintro _ _ q1 ⟨LF,rfl,rfl⟩ _
  dsimp only[List.cons_append,List.nil_append]
  refine XK.gw ?_
  refine aJ (fun w1 t=>Pp LF d (Bb d) w1 (t.aB6 0 rfl)) ?_
  refine XK.gw ?_
  rw[lA]
  refine XK.go ?_
  refine XK.eU [2,3,4,5,6,7,8,9,10,11,12] ?_
  refine XB.mv 0 ?_
  refine XB.mv 1 ?_
  refine XB.mv 13 ?_
  refine XB.q 2 ?_
  refine XB.q 3 ?_
  refine XB.q 4 ?_
  refine XB.q 5 ?_
  refine XB.q 6 ?_
  refine XB.q 7 ?_
  refine XB.q 8 ?_
  refine XB.q 9 ?_
  refine XB.q 10 ?_
  refine XB.q 11 ?_
  refine XB.q 12 ?_
  refine XB.next 14 rfl (by kernel_rfl) ?_
  refine fB (fun v hs _=>∃g,v=pt g∧hs=[HP.aB g 266 [iv 0,iv 0]]) (fun w1 t=>aIW w1) ?_
  rintro _ _ q2 ⟨gq,rfl,rfl⟩ _
  dsimp only[List.cons_append,List.nil_append]
  refine XB.bk ?_
  refine XB.next 15 rfl (by kernel_rfl) ?_
  refine kd (eM rfl) ?_
  refine XB.bk ?_
  refine XB.next 16 rfl (by kernel_rfl) ?_
  refine dF fun g4=>?_
  refine XB.bk ?_ (hS:=fun _ h=>h.tail.aK.tail)
  refine XB.next 17 rfl (by kernel_rfl) ?_
  refine fG 5 6 48 1 (n':=i+1) (el:=106) (by kernel_rfl) (by kernel_rfl) (by decide) rfl rfl rfl (kX 0 rfl rfl) (by simp[Value.oneCell']) rfl (by omega) (by omega) (by decide) fun An cn=>?_
  dsimp only[List.set]
  refine XB.bt ?_
  refine XB.next 18 rfl (by kernel_rfl) ?_
  refine bA ?_
  refine XB.bt ?_
  refine XB.next 19 rfl (by kernel_rfl) ?_
  refine bA ?_
  refine XB.bt ?_
  refine XB.next 20 rfl (by kernel_rfl) ?_
  refine dL rfl rfl ?_
  dsimp only[List.set]
  refine XB.bt ?_
  refine XB.done (by kernel_rfl) ?_
  refine XK.go ?_
  refine XK.weak [2,1,4,5,6,7,8,9,10] rfl (by decide) (R':=[all w]) (by simp) ?_
  refine XK.pair ?_
  refine XK.push ?_
  refine XK.aT [(56,iv (i+1:Nat)),(55,iv s.aC.length),(54,.slice (some ⟨b,off,none⟩) s.aC.length k4),(10,.slice (some ⟨gm,0,none⟩) s.aC.length s.aC.length),(9,pt g2)] ?_
  exact XK.round (s.aC.length - (i+1)) (by omega) ⟨i+1,An,cn,ls++[(LF,gq)],hlt,by simp;omega,rfl,rfl,rfl,by rw[aM8 hd mM,aM7 hd mM];rfl⟩
 ·obtain rfl:i=s.aC.length:=by omega
  rw[Ql hml (by simp[iF])]
  rw[List.take_length]
  refine XK.gw ?_
  refine fB (aGs (iF s)) (fun w1 t=>by
   have:=aOk (iF s) (by omega) (fun m hm=>by
    obtain⟨d,hd,rfl⟩:=List.mem_map.1 hm
    obtain⟨j,hj⟩:=List.getElem?_of_mem hd
    have:=(hH.t.aC j d hj).2.2.2.2.2.2.2.2.1
    omega) (some ⟨gm,0,none⟩) s.aC.length w1
   rw[hml] at this
   exact this (t.nX (i:=2) rfl (by simp[aG,hml]))) ?_
  rintro _ _ q1 ⟨LB,rfl,rfl⟩ _
  dsimp only[List.cons_append,List.nil_append]
  refine XK.gw ?_
  refine XK.weak [4,7,6,5,0,2,1] rfl (by decide) (R':=[all w]) (by simp) ?_
  refine XK.pair ?_
  refine XK.more ?_
  refine XK.more ?_
  refine XK.more ?_
  refine XK.more ?_
  refine XK.more ?_
  dsimp only[List.cons_append,List.nil_append]
  refine XK.still [] [] [0] (by simp) rfl (by decide) (by decide) fun q _ _ hfr=>?_
  exact XK.dG rfl rfl rfl fun w1 t=>⟨⟨_,_,⟨w1,q.Z⟩,rfl,rfl,⟨⟨g2,LT,LG,LR,LB,A,c,ls⟩,rfl,by simp[cP,Rx,hw0,iF,Function.comp_def],Xq,mM⟩,t.newR (by simp) (by simp) (hfr (by simp) (by simp))⟩,t.below (by simp)⟩
end
section
set_option maxHeartbeats 4000000
set_option maxRecDepth 20000
structure bR(s:aA)(x:aO):Prop where
 ck:nT s x.ck
 dm:rA s x.dm
 ln:Bl s x.ln
 dv:x.dv.length=s.aC.length
 each:∀(i:Nat) (d:bK) (p:dB×eJ),s.aC[i]? =some d→x.dv[i]? =some p→vJ d p.1∧xC p.2
 wt:x.wt.length=s.aC.length
structure fF(L:HL)(s:aA):Prop where
 fa:L.T.fa.length=s.aD.length
 ds:L.ds.length=s.aC.length
structure qZ(w:World)(L:HL)(s:aA)(x:aO):Prop where
 r0:cZ w L.h 0 (Rx L s.aC.length)
 tree:tJ w L.T s x.ck
 aBy:aGl w L.G s x.dm
 lines:Gp w L.R s x.ln
 Yt:Du w L.B (iF s) x.wt x.aQ
 rows:aE (all w) 6 L.A s.aC.length (tG s.aC L.ds).flatten
 each:∀(i:Nat) (d:bK) (l:FL×Nat) (p:dB×eJ),s.aC[i]? =some d→L.ds[i]? =some l→x.dv[i]? =some p→zF w l.1 d p.1∧cZ w l.2 0 (Od p.2)
theorem qZ.below{w w':World}{L:HL}{s:aA}{x:aO}(h:qZ w L s x)(hb:Below w.heap.size w w'):qZ w' L s x:=
 ⟨h.r0.below hb,h.tree.below hb,zC.below h.aBy hb,h.lines.below hb,h.Yt.below hb,h.rows.le (gQ hb),fun i d l p h1 h2 h3=>⟨(h.each i d l p h1 h2 h3).1.below hb,(h.each i d l p h1 h2 h3).2.below hb⟩⟩
theorem cP.reads{L:HL}{s:aA}{x:aO}{F:Nat→Prop}{w:World}(h:(cP L s x).sat F w)(hF:∀b,F b→b < w.heap.size)(hL:fF L s)(hok:bR s x):qZ w L s x:=by
 obtain⟨G,g1,g2,_⟩:=h
 have hl:∀i b,G i b→b < w.heap.size:=fun i b hb=>hF b (g2 i b hb)
 obtain⟨A',c',he,hs⟩:=aE.oA (Y:=fun b=>b < w.heap.size) (g1 5 _ rfl) (hl 5)
 injection he with he
 subst he
 refine⟨sD (g1 0 _ rfl).2,mF.reads (g1 1 _ rfl) (hl 1) hL.fa hok.ck,Bk.reads (g1 2 _ rfl) (hl 2),lP.reads (g1 3 _ rfl),rB.reads (g1 4 _ rfl),hs,fun i d l p h1 h2 h3=>?_⟩
 obtain⟨G',k1,k2,_⟩:=g1 6 _ rfl
 have hz:(uY s.aC L.ds x.dv)[i]? =some (Na d (l,p)):=by
  have hq:(L.ds.zip x.dv)[i]? =some (l,p):=List.getElem?_zip_eq_some.2 ⟨h2,h3⟩
  rw[uY,List.getElem?_zipWith,h1,hq]
 have hj:∀b,G' i b→b < w.heap.size:=fun b hb=>hl 6 b (k2 i b hb)
 obtain⟨G2,m1,m2,_⟩:=k1 i _ hz
 exact⟨eP.reads (m1 0 _ rfl) (fun b hb=>hj b (m2 0 b hb)),sD (m1 1 _ rfl).2⟩
section
variable{N:bO}{w0 w:World}{e:Env}{R:List Piece}{H:List HP}{K:Act→World→Prop}{L:HL}{s:aA}{x:aO}
theorem St.kB(t:St w0 R H w)(i:Nat)(hi:H[i]? =some (cP L s x))(hL:fF L s)(hok:bR s x):qZ w L s x:=by
 obtain⟨F,h1,h2,_⟩:=t.chunk hi
 exact cP.reads h1 h2 hL hok
end
section
variable(L:HL)(s:aA)(x:aO)(w:World)
theorem yJ(hR:qZ w L s x):Calls Tryz.prog 54 #[.pointer (some ⟨L.h,0,none⟩)] w (Rt (.bool true) w):=by
 have k0:=hR.r0.at_ (j:=0) rfl
 have k1:=hR.r0.at_ (j:=1) rfl
 have k2:=hR.r0.at_ (j:=2) rfl
 have k3:=hR.r0.at_ (j:=3) rfl
 refine XK.en Tryz.func54 Tryz.ntmps54 ?_
 refine XK.go ?_
 exact XK.rE
theorem Mn(i:Int)(hR:qZ w L s x):Calls Tryz.prog 40 #[.pointer (some ⟨L.h,0,none⟩),iv i] w (Rt (.bool (bE s.aC.length i)) w):=by
 have k0:=hR.r0.at_ (j:=4) rfl
 refine XK.en Tryz.func40 Tryz.ntmps40 ?_
 refine XK.go ?_
 refine aJ (fun w1 t=>yJ L s x w1 (hR.below (t.below (by simp)))) ?_
 refine XK.go ?_
 refine aW (t:=11) rfl (fun h=>?_) (fun h=>?_)
 ·refine XK.go ?_
  refine XK.gN (by simp) ?_
  unfold bE
  congr 1
  simp;omega
 ·refine XK.go ?_
  refine XK.gN (by simp) ?_
  have:bE s.aC.length i=false:=decide_eq_false (by omega)
  rw[this]
theorem aLi(i:Nat)(hi:i < s.aC.length)(hR:qZ w L s x):Calls Tryz.prog 97 #[.pointer (some ⟨L.h,0,none⟩),iv (i:Int)] w (Rt (iv (nE x.wt i:Nat)) w):=by
 have k0:=hR.r0.at_ (j:=3) rfl
 have hin:bE s.aC.length (i:Int)=true:=decide_eq_true (by omega)
 refine XK.en Tryz.func97 Tryz.ntmps97 ?_
 refine XK.go ?_
 refine aJ (fun w1 t=>Mn L s x w1 i (hR.below (t.below (by simp)))) ?_
 rw[hin]
 refine XK.go ?_
 refine aJ (fun w1 t=>aF5 L.B (iF s) x.wt x.aQ i (by rw[Ca];exact hi) w1 (hR.Yt.below (t.below (by simp)))) ?_
 refine XK.go ?_
 exact XK.rE
theorem aBp(hok:rA s x.dm)(i:Int)(hR:qZ w L s x):Calls Tryz.prog 173 #[.pointer (some ⟨L.h,0,none⟩),iv i] w (Rt (.int .u8 (qB x.dm i)) w):=by
 have k0:=hR.r0.at_ (j:=1) rfl
 refine XK.en Tryz.func173 Tryz.ntmps173 ?_
 refine XK.go ?_
 refine aJ (fun w1 t=>yJ L s x w1 (hR.below (t.below (by simp)))) ?_
 refine XK.go ?_
 refine aJ (fun w1 t=>aDw L.G s x.dm hok i w1 (zC.below hR.aBy (t.below (by simp)))) ?_
 refine XK.go ?_
 exact XK.rE
theorem aLm(i:Int)(hR:qZ w L s x):Calls Tryz.prog 181 #[.pointer (some ⟨L.h,0,none⟩),iv i] w (Rt (.bool (Fh x.ln i)) w):=by
 have k0:=hR.r0.at_ (j:=2) rfl
 refine XK.en Tryz.func181 Tryz.ntmps181 ?_
 refine XK.go ?_
 refine aJ (fun w1 t=>yJ L s x w1 (hR.below (t.below (by simp)))) ?_
 refine XK.go ?_
 refine aJ (fun w1 t=>aCW L.R s x.ln i w1 (hR.lines.below (t.below (by simp)))) ?_
 refine XK.go ?_
 exact XK.rE
end
end
section
set_option maxHeartbeats 4000000
set_option maxRecDepth 20000
theorem aKG{s:aA}(h:s.cI):bR s (hw0 s):=by
 refine⟨⟨by simp[hw0],fun x hx=>?_⟩,⟨by simp[hw0],fun x hx=>?_,fun x hx=>?_⟩,⟨by simp[hw0],fun x hx=>?_⟩,by simp[hw0],fun i d p hd hp=>?_,by simp[hw0]⟩
 ·obtain⟨c,hc,rfl⟩:=List.mem_map.1 hx
  obtain⟨i,hi⟩:=List.getElem?_of_mem hc
  have:=(h.t.aD i c hi).2
  unfold vD
  dsimp only
  split
  ·omega
  ·omega
 ·obtain⟨c,hc,rfl⟩:=List.mem_map.1 hx
  simp[vA]
 ·obtain⟨c,hc,rfl⟩:=List.mem_map.1 hx
  simp[vA]
 ·obtain⟨c,hc,rfl⟩:=List.mem_map.1 hx
  simp[oN]
 ·simp only[hw0,List.getElem?_map,hd,Option.map_some] at hp
  cases hp
  have hf:=h.t.aC i d hd
  refine⟨⟨by simp[Bb],by simp[Bb],fun v hv=>?_,fun v hv=>?_⟩,by simp[xC,Kw]⟩
  ·obtain⟨r,hr,rfl⟩:=List.mem_map.1 hv
   have:=hf.2.2.2.2.2.2.2.2.2.1 r hr
   omega
  ·simp only[Bb,List.mem_map] at hv
   obtain⟨r,_,rfl⟩:=hv
   omega
theorem aCu{s:aA}(h:s.uL):(iB s).sm:=by
 have h1:=h.nc
 have h2:=h.nd
 have h3:=h.nr
 exact⟨by simp[iB];omega,by simp[iB];omega,by simp[iB];omega⟩
end
section
set_option maxHeartbeats 4000000
set_option maxRecDepth 20000
theorem uH{α:Type}{l:List α}{i:Nat}{x:α}(h:l[i]? =some x):l.set i x=l:=by
 refine List.ext_getElem? fun j=>?_
 rw[List.getElem?_set]
 by_cases he:i=j
 ·subst he;rw[if_pos rfl,if_pos (List.getElem?_eq_some_iff.1 h).1,h]
 ·rw[if_neg he]
def qA(s:aA)(st:List dY)(i:Nat):List Value:=(List.range s.aD.length).map fun j=>.bool (decide (j < i)&&runs s st j)
theorem aIS(s:aA)(st:List dY):List.replicate s.aD.length (Value.bool false)=qA s st 0:=by
 refine List.ext_getElem? fun j=>?_
 rw[qA,List.getElem?_replicate,List.getElem?_map]
 by_cases hl:j < s.aD.length
 ·rw[List.getElem?_range hl];simp[hl]
 ·rw[List.getElem?_eq_none (l:=List.range s.aD.length) (by simp;omega)];simp[hl]
theorem aIT(s:aA)(st:List dY)(i:Nat):(qA s st i).set i (.bool (runs s st i))=qA s st (i+1):=by
 refine List.ext_getElem? fun j=>?_
 simp only[qA,List.getElem?_set,List.getElem?_map,List.length_map,List.length_range]
 by_cases he:i=j
 ·subst he
  by_cases hl:i < s.aD.length
  ·rw[if_pos rfl,if_pos hl,List.getElem?_range hl];simp
  ·rw[if_pos rfl,if_neg hl,List.getElem?_eq_none (by simp;omega)];rfl
 ·rw[if_neg he]
  by_cases hl:j < s.aD.length
  ·rw[List.getElem?_range hl]
   have:decide (j < i)=decide (j < i+1):=by simp;omega
   simp[this]
  ·rw[List.getElem?_eq_none (by simp;omega)];rfl
theorem aIU{s:aA}{st:List dY}{j:Nat}(h:j < s.aD.length):(qA s st s.aD.length)[j]? =some (.bool (runs s st j)):=by
 simp[qA,h]
def mT(s:aA)(st:List dY)(i:Nat):List dY:=(kV s st).take i++st.drop i
theorem aJY(s:aA)(st:List dY):mT s st 0=st:=by simp[mT]
theorem aKc{s:aA}{st:List dY}(hok:nT s st):mT s st s.aD.length=kV s st:=by
 have hl:=hok.len
 rw[mT,List.drop_eq_nil_of_le (by omega),List.append_nil,List.take_of_length_le (by simp[kV];omega)]
theorem aKb{s:aA}{st:List dY}(hok:nT s st){i:Nat}(hi:i < s.aD.length):(mT s st i)[i]? =st[i]? :=by
 have hl:=hok.len
 have:((kV s st).take i).length=i:=by simp[kV];omega
 rw[mT,List.getElem?_append_right (by omega),this,Nat.sub_self,List.getElem?_drop,Nat.add_zero]
theorem aAI{s:aA}{st:List dY}(hok:nT s st){i:Nat}(hi:i≤s.aD.length):(mT s st i).length=s.aD.length:=by
 have hl:=hok.len
 simp[mT,kV];omega
theorem aJZ{s:aA}{st:List dY}(hok:nT s st){i:Nat}{c:dV}{x:dY}(hc:s.aD[i]? =some c)(hx:st[i]? =some x):(mT s st i).set i (xQ s st c x)=mT s st (i+1):=by
 have hl:=hok.len
 have hi:=(List.getElem?_eq_some_iff.1 hc).1
 have ht:(kV s st)[i]? =some (xQ s st c x):=by rw[kV,List.getElem?_zipWith,hc,hx]
 have qK:(kV s st).length=s.aD.length:=by simp[kV];omega
 refine List.ext_getElem? fun j=>?_
 rw[List.getElem?_set]
 by_cases he:i=j
 ·subst he
  rw[if_pos rfl,if_pos (by rw[aAI hok (by omega)];exact hi),mT,List.getElem?_append_left (by rw[List.length_take];omega),List.getElem?_take_of_lt (by omega),ht]
 ·rw[if_neg he,mT,mT]
  rcases Nat.lt_or_ge j i with hj | hj
  ·rw[List.getElem?_append_left (by rw[List.length_take];omega),List.getElem?_append_left (by rw[List.length_take];omega),List.getElem?_take_of_lt hj,List.getElem?_take_of_lt (by omega)]
  ·rw[List.getElem?_append_right (by rw[List.length_take];omega),List.getElem?_append_right (by rw[List.length_take];omega),List.getElem?_drop,List.getElem?_drop,List.length_take,List.length_take]
   congr 1
   omega
theorem aGZ{s:aA}{st:List dY}(hH:s.cI)(hok:nT s st){i:Nat}{c:dV}{x:dY}(hc:s.aD[i]? =some c)(hx:x∈st):0≤(xQ s st c x).left∧(xQ s st c x).left≤3:=by
 have h1:=hok.left x hx
 have h2:=(hH.t.aD i c hc).2
 have h3:0≤c.lock∧c.lock≤3:=by omega
 unfold xQ
 split
 ·split
  ·exact h3
  ·split
   ·dsimp only;omega
   ·exact h1
 ·exact h1
theorem aAf{s:aA}{st:List dY}(hH:s.cI)(hok:nT s st):nT s (kV s st):=by
 have hl:=hok.len
 refine⟨by simp[kV];omega,fun x hx=>?_⟩
 obtain⟨j,hj⟩:=List.getElem?_of_mem hx
 rw[kV,List.getElem?_zipWith] at hj
 cases hc:s.aD[j]? with
 | none=>rw[hc] at hj;cases hj
 | some c =>
  cases hy:st[j]? with
  | none=>rw[hc,hy] at hj;cases hj
  | some y=>
   rw[hc,hy] at hj
   cases hj
   exact aGZ hH hok hc (List.mem_of_getElem? hy)
theorem aKa{s:aA}{st:List dY}(hH:s.cI)(hok:nT s st){i:Nat}(hi:i≤s.aD.length):nT s (mT s st i):=⟨aAI hok hi,fun x hx=>by
 rcases List.mem_append.1 hx with h | h
 ·exact(aAf hH hok).left x (List.mem_of_mem_take h)
 ·exact hok.left x (List.mem_of_mem_drop h)⟩
theorem aN8(L:TL)(s:aA)(st:List dY)(hH:s.cI)(hfl:L.fa.length=s.aD.length)(hok:nT s st)(w:World)(F:Nat→Prop)(hp:(mF L s st).sat F w)(hF:∀b,F b→b < w.heap.size):
  Calls Tryz.prog 58 #[.pointer (some ⟨L.t,0,none⟩)] w (fun y w'=>y=.returned (.tuple #[])∧∃F',(mF L s (kV s st)).sat F' w'∧aV w w' F F'):=by
 have hnc:=hH.t.nc
 have hl:=hok.len
 refine XK.bY Tryz.func58 Tryz.ntmps58 hp hF ?_
 have aBg:Rd w [⟨w,fun b=>b < w.heap.size∧¬F b⟩] [mF L s st] L.t 0 (.slice L.A s.aD.length L.c):=Rd.tree 0 rfl hfl hok
 refine XK.go ?_
 refine jG (n:=s.aD.length) 1 (el:=4) (z:=.bool false) (by kernel_rfl) (by kernel_rfl) rfl rfl rfl (by omega) (by omega) (by decide) fun g1=>?_
 have aOW:Rd w [⟨w,fun b=>b < w.heap.size∧¬F b⟩] [HP.aB g1 4 (List.replicate s.aD.length (.bool false)),mF L s st] L.t 0 (.slice L.A s.aD.length L.c):=Rd.tree 1 rfl hfl hok
 refine XK.go ?_
 rw[aIS s st]
 refine XK.aT [(19,iv 0),(18,iv s.aD.length),(2,.slice (some ⟨g1,0,none⟩) s.aD.length s.aD.length),(0,.pointer (some ⟨L.t,0,none⟩))] ?_
 refine XK.loop (fun m e R H=>∃i:Nat,i≤s.aD.length∧m=s.aD.length - i∧e=[(19,iv i),(18,iv s.aD.length),(2,.slice (some ⟨g1,0,none⟩) s.aD.length s.aD.length),(0,.pointer (some ⟨L.t,0,none⟩))]∧R=[⟨w,fun b=>b < w.heap.size∧¬F b⟩]∧H=[HP.aB g1 4 (qA s st i),mF L s st]) s.aD.length ⟨0,by omega,rfl,rfl,rfl,rfl⟩ fun m e R H hI=>?_
 obtain⟨i,hi,rfl,rfl,rfl,rfl⟩:=hI
 refine XK.go ?_
 refine XK.if_ rfl (fun hlt=>?_) (fun hge=>?_)
 ·have hlt:i < s.aD.length:=by omega
  have iG:(qA s st i).length=s.aD.length:=by simp[qA]
  refine XK.go ?_
  refine aJ (fun w1 t=>Tt L s st hH i w1 (t.aAc 1 rfl hfl hok)) ?_
  rw[show rM s st (i:Int)=runs s st i by simp[rM,bE,hlt]]
  refine XK.gw ?_
  rw[aIT]
  exact XK.rd (s.aD.length - (i+1)) ⟨i+1,hlt,rfl,rfl,rfl,rfl⟩
 ·obtain rfl:i=s.aD.length:=by omega
  have aOV:Rd w [⟨w,fun b=>b < w.heap.size∧¬F b⟩] [HP.aB g1 4 (qA s st s.aD.length),mF L s st] L.t 0 (.slice L.A s.aD.length L.c):=Rd.tree 1 rfl hfl hok
  refine XK.go ?_
  refine XK.aT [(34,iv 0),(33,iv s.aD.length),(2,.slice (some ⟨g1,0,none⟩) s.aD.length s.aD.length),(0,.pointer (some ⟨L.t,0,none⟩))] ?_
  refine XK.loop (fun m e R H=>∃i:Nat,i≤s.aD.length∧m=s.aD.length - i∧e=[(34,iv i),(33,iv s.aD.length),(2,.slice (some ⟨g1,0,none⟩) s.aD.length s.aD.length),(0,.pointer (some ⟨L.t,0,none⟩))]∧R=[⟨w,fun b=>b < w.heap.size∧¬F b⟩]∧H=[HP.aB g1 4 (qA s st s.aD.length),mF L s (mT s st i)]) s.aD.length ⟨0,by omega,rfl,rfl,rfl,by rw[aJY]⟩ fun m e R H hI=>?_
  obtain⟨i,hi,rfl,rfl,rfl,rfl⟩:=hI
  refine XK.go ?_
  refine XK.if_ rfl (fun hlt=>?_) (fun hge=>?_)
  ·have hlt:i < s.aD.length:=by omega
   obtain⟨c,hc⟩:=get_some hlt
   obtain⟨a,ha⟩:=get_some (l:=L.fa) (i:=i) (by omega)
   obtain⟨x,hx⟩:=get_some (l:=st) (i:=i) (by omega)
   have Ik:=aKa hH hok hi
   have hml:=aAI hok hi
   have Im:(mT s st i)[i]? =some x:=by rw[aKb hok hlt];exact hx
   obtain⟨fV,fU⟩:=aAC hfl Ik
   have hlx:=hok.left x (List.mem_of_getElem? hx)
   have iG:(qA s st s.aD.length).length=s.aD.length:=by simp[qA]
   have hpq:(iE s L.fa (mT s st i)).set i (oM c a (xQ s st c x))=iE s L.fa (mT s st (i+1)):=by rw[aD8 hc ha (by omega),aJZ hok hc hx]
   refine XK.aD5 1 rfl (by omega) fun g cs hA h1 h2 h3 h4=>?_
   dsimp only[List.set]
   rw[hA]
   have hs:=Cw h2 fV fU (Lb hc ha Im)
   have hu:=sH.refl cs (i*11) 11
   have hrd:Rd w [⟨w,fun b=>b < w.heap.size∧¬F b⟩] [HP.aB g 224 cs,HP.aB g1 4 (qA s st s.aD.length),HP.many [HP.aB L.t 227 [.slice (some ⟨g,0,none⟩) s.aD.length L.c],HP.emp,HP.bH (pT s L.fa) (pT.le (s:=s) (fa:=L.fa))]] L.t 0 (.slice (some ⟨g,0,none⟩) s.aD.length L.c):=Rd.aKB 2 0 rfl rfl rfl
   refine XK.go ?_
   refine kd (dat i (i*11)) ?_
   obtain⟨hsrc,hfit⟩:=hH.t.aD i c hc
   obtain⟨kd,src,rate,mul,dv,lock⟩:=c
   obtain⟨on,left⟩:=x
   dsimp only at hfit hsrc hlx
   dsimp only[oM] at hs
   have Qy:kd≠112∨on=false→iE s L.fa (mT s st i)=iE s L.fa (mT s st (i+1)):=fun hh=>by
    rw[←hpq]
    have:xQ s st ⟨kd,src,rate,mul,dv,lock⟩ ⟨on,left⟩=⟨on,left⟩:=by
     unfold xQ
     rw[if_neg]
     rintro⟨h1,h2⟩
     rcases hh with hh | hh
     ·exact hh h1
     ·rw[hh] at h2;cases h2
    rw[this,uH (Lb hc ha Im)]
   rcases hfit with⟨rfl,_⟩ | ⟨rfl,mV,_⟩ | ⟨rfl,_⟩ | ⟨rfl,_⟩ | ⟨rfl,_⟩
   ·rw[Qy (.inl (by decide))] at h2
    refine XK.go ?_
    refine XK.jO ?_
    refine XQ.end_ ?_
    refine XK.go ?_
    refine XK.wS 1 hA h1 h2 h3 h4 rfl ?_
    exact XK.rd (s.aD.length - (i+1)) ⟨i+1,hlt,rfl,rfl,rfl,rfl⟩
   ·cases on
    ·rw[Qy (.inr rfl)] at h2
     refine XK.go ?_
     refine XK.jO ?_
     refine XQ.end_ ?_
     refine XK.go ?_
     refine XK.wS 1 hA h1 h2 h3 h4 rfl ?_
     exact XK.rd (s.aD.length - (i+1)) ⟨i+1,hlt,rfl,rfl,rfl,rfl⟩
    ·obtain⟨f,fs,hf⟩:∃(f:Nat) (fs:List Int),src=(f:Int)::fs:=by
      cases hs0:src with
      | nil=>rw[hs0] at mV;simp at mV
      | cons f fs=>exact⟨f.toNat,fs,by have:=(hsrc f (by rw[hs0];simp)).1;rw[Int.toNat_of_nonneg this]⟩
     have Ip:f < i:=by have:=(hsrc f (by rw[hf];simp)).2;omega
     subst hf
     have hrun:=aIU (s:=s) (st:=st) (j:=f) (by omega)
     have bM:Rd w [⟨w,fun b=>b < w.heap.size∧¬F b⟩] [HP.aB g 224 cs,HP.aB g1 4 (qA s st s.aD.length),HP.many [HP.aB L.t 227 [.slice (some ⟨g,0,none⟩) s.aD.length L.c],HP.emp,HP.bH (pT s L.fa) (pT.le (s:=s) (fa:=L.fa))]] g1 f (.bool (runs s st f)):=Rd.aB 1 rfl hrun
     refine XK.go ?_
     refine aJ (fun w1 t=>Nr L s (mT s st i) i f _ fs w1 (t.aGX 0 2 rfl rfl hA h2 hfl Ik) hc rfl) ?_
     refine XK.gw ?_
     have Ib:xQ s st ⟨112,(f:Int)::fs,rate,mul,dv,lock⟩ ⟨true,left⟩=if runs s st f=false then⟨true,lock⟩ else if 0 < left then⟨true,left - 1⟩ else⟨true,left⟩:=by
      simp[xQ,aCJ]
     rw[Ib] at hpq
     cases Cg:runs s st f
     ·rw[Cg] at bM
      rw[if_pos Cg] at hpq
      have hs1:=hs.set 7 (iv lock) (by simp) (by omega)
      have rR:=hu.set 7 (iv lock) (by decide)
      have fJ:=Ba (r':=oM ⟨112,(f:Int)::fs,rate,mul,dv,lock⟩ a ⟨true,lock⟩) h2 fV fU hlt (by omega) rfl hs1 rR
      rw[hpq] at fJ
      refine XK.go ?_
      refine XK.wS 1 hA (by simpa using h1) fJ h3 h4 rfl ?_
      exact XK.rd (s.aD.length - (i+1)) ⟨i+1,hlt,rfl,rfl,rfl,rfl⟩
     ·rw[Cg] at bM
      rw[if_neg (by rw[Cg];decide)] at hpq
      refine XK.go ?_
      refine XK.if_ rfl (fun hp=>?_) (fun hp=>?_)
      ·rw[if_pos hp] at hpq
       have hs1:=hs.set 7 (iv (left - 1)) (by simp) (by omega)
       have rR:=hu.set 7 (iv (left - 1)) (by decide)
       have fJ:=Ba (r':=oM ⟨112,(f:Int)::fs,rate,mul,dv,lock⟩ a ⟨true,left - 1⟩) h2 fV fU hlt (by omega) rfl hs1 rR
       rw[hpq] at fJ
       refine XK.go ?_
       refine XK.wS 1 hA (by simpa using h1) fJ h3 h4 rfl ?_
       exact XK.rd (s.aD.length - (i+1)) ⟨i+1,hlt,rfl,rfl,rfl,rfl⟩
      ·rw[if_neg hp,uH (Lb hc ha Im)] at hpq
       rw[hpq] at h2
       refine XK.go ?_
       refine XK.jO ?_
       refine XQ.end_ ?_
       refine XK.go ?_
       refine XK.wS 1 hA h1 h2 h3 h4 rfl ?_
       exact XK.rd (s.aD.length - (i+1)) ⟨i+1,hlt,rfl,rfl,rfl,rfl⟩
   ·rw[Qy (.inl (by decide))] at h2
    refine XK.go ?_
    refine XK.jO ?_
    refine XQ.end_ ?_
    refine XK.go ?_
    refine XK.wS 1 hA h1 h2 h3 h4 rfl ?_
    exact XK.rd (s.aD.length - (i+1)) ⟨i+1,hlt,rfl,rfl,rfl,rfl⟩
   ·rw[Qy (.inl (by decide))] at h2
    refine XK.go ?_
    refine XK.jO ?_
    refine XQ.end_ ?_
    refine XK.go ?_
    refine XK.wS 1 hA h1 h2 h3 h4 rfl ?_
    exact XK.rd (s.aD.length - (i+1)) ⟨i+1,hlt,rfl,rfl,rfl,rfl⟩
   ·rw[Qy (.inl (by decide))] at h2
    refine XK.go ?_
    refine XK.jO ?_
    refine XQ.end_ ?_
    refine XK.go ?_
    refine XK.wS 1 hA h1 h2 h3 h4 rfl ?_
    exact XK.rd (s.aD.length - (i+1)) ⟨i+1,hlt,rfl,rfl,rfl,rfl⟩
  ·obtain rfl:i=s.aD.length:=by omega
   rw[aKc hok]
   refine XK.go ?_
   exact XK.r0 1 hF
end
section
set_option maxHeartbeats 4000000
set_option maxRecDepth 20000
section
variable{N:bO}{w0 w:World}{e:Env}{R:List Piece}{H:List HP}{K:Act→World→Prop}{L:RL}{s:aA}{st:List iK}
theorem XK.openLines(i:Nat)(hi:H[i]? =some (lP L s st))(h:XK N w0 K e R (HP.map L.g (lJ s st)::HP.aB L.t 277 [.map (some L.g)]::H.set i (HP.many [HP.emp,HP.emp]))):XK N w0 K e R H:=by
 have hlt:=wI hi
 refine XK.take i 0 hi rfl ?_
 refine XK.take (i+1) 1 (by rw[List.getElem?_cons_succ,List.getElem?_set_self hlt]) rfl ?_
 simpa[List.set_cons_succ,List.set_set] using h
theorem XK.Nl(i:Nat)(hi:H[i]? =some (HP.many [HP.emp,HP.emp]))(h:XK N w0 K e R (H.set i (lP L s st))):XK N w0 K e R (HP.map L.g (lJ s st)::HP.aB L.t 277 [.map (some L.g)]::H):=by
 have hlt:=wI hi
 refine XK.nM (i+1) 1 (by rw[List.getElem?_cons_succ];exact hi) rfl ?_
 dsimp only[List.set]
 refine XK.nM i 0 (by rw[List.getElem?_set_self hlt]) rfl ?_
 simpa[List.set_set,lP] using h
end
theorem aHP(L:RL)(s:aA)(st:List iK)(hok:Bl s st)(i:Int)(w:World)(F:Nat→Prop)(hp:(lP L s st).sat F w)(hF:∀b,F b→b < w.heap.size):
  Calls Tryz.prog 230 #[.pointer (some ⟨L.t,0,none⟩),iv i] w (fun y w'=>y=.returned (iv (pQ s st i).1)∧∃F',(lP L s (pQ s st i).2).sat F' w'∧aV w w' F F'):=by
 have hl:=hok.len
 cases hi:bE st.length i
 ·have hr:pQ s st i=(4,st):=by simp[pQ,hi]
  have hv:qN s st i=gJ 0 ⟨0,false,false⟩:=by simp[qN,hi]
  rw[hr]
  refine XK.bY Tryz.func230 Tryz.ntmps230 hp hF ?_
  refine XK.go ?_
  refine aJ (fun w1 t=>Pk L s st i w1 (t.Lo 0 rfl)) ?_
  rw[hi,hv]
  unfold gJ
  refine XK.go ?_
  refine bB fun g1=>?_
  refine XK.go ?_
  exact XK.rT 1 hF
 ·obtain⟨n,rfl⟩:∃n:Nat,i=n:=⟨i.toNat,by have:=of_decide_eq_true hi;omega⟩
  have hlt:n < st.length:=by have:=of_decide_eq_true hi;omega
  obtain⟨r,bM⟩:=get_some (l:=s.aL) (i:=n) (by omega)
  obtain⟨x,hx⟩:=get_some hlt
  have hrd:s.aL.getD n 0=r:=by rw[List.getD_eq_getElem?_getD,bM];rfl
  have hr:pQ s st (n:Int)=(0,st.set n ⟨r,true,false⟩):=by simp[pQ,hi,bM]
  have hv:qN s st (n:Int)=gJ r x:=by simp[qN,hi,List.getD_eq_getElem?_getD,bM,hx]
  rw[hr]
  refine XK.bY Tryz.func230 Tryz.ntmps230 hp hF ?_
  refine XK.go ?_
  refine aJ (fun w1 t=>Pk L s st n w1 (t.Lo 0 rfl)) ?_
  rw[hi,hv]
  unfold gJ
  refine XK.go ?_
  refine bB fun g1=>?_
  refine XK.go ?_
  refine XK.openLines 1 rfl ?_
  dsimp only[List.set]
  refine XK.draw 6 (by kernel_rfl) (by kernel_rfl) ?_
  refine XA.q 0 ?_
  refine XA.q 1 ?_
  refine XA.q 2 ?_
  refine XA.q 3 ?_
  refine XA.q 4 ?_
  refine XA.q 5 ?_
  refine XA.next 6 rfl (by kernel_rfl) ?_
  refine Dw (kt:=3) (et:=233) (kd:=.i64) (l:=lJ s st) (v:=gJ r ⟨r,true,false⟩) 0 (by kernel_rfl) (by kernel_rfl) rfl rfl rfl rfl ?_
  rw[aAE hrd hlt]
  dsimp only[List.set]
  refine XA.bt ?_
  refine XA.done (by kernel_rfl) ?_
  refine XK.Nl 1 rfl ?_
  refine XK.go ?_
  exact XK.rT 1 hF
theorem aHN(L:RL)(s:aA)(st:List iK)(hok:Bl s st)(i:Int)(w:World)(F:Nat→Prop)(hp:(lP L s st).sat F w)(hF:∀b,F b→b < w.heap.size):
  Calls Tryz.prog 229 #[.pointer (some ⟨L.t,0,none⟩),iv i] w (fun y w'=>y=.returned (iv (uI st i).1)∧∃F',(lP L s (uI st i).2).sat F' w'∧aV w w' F F'):=by
 have hl:=hok.len
 cases hi:bE st.length i
 ·have hr:uI st i=(4,st):=by simp[uI,hi]
  have hv:qN s st i=gJ 0 ⟨0,false,false⟩:=by simp[qN,hi]
  rw[hr]
  refine XK.bY Tryz.func229 Tryz.ntmps229 hp hF ?_
  refine XK.go ?_
  refine aJ (fun w1 t=>Pk L s st i w1 (t.Lo 0 rfl)) ?_
  rw[hi,hv]
  unfold gJ
  refine XK.go ?_
  refine bB fun g1=>?_
  refine XK.go ?_
  exact XK.rT 1 hF
 ·obtain⟨n,rfl⟩:∃n:Nat,i=n:=⟨i.toNat,by have:=of_decide_eq_true hi;omega⟩
  have hlt:n < st.length:=by have:=of_decide_eq_true hi;omega
  obtain⟨r,bM⟩:=get_some (l:=s.aL) (i:=n) (by omega)
  obtain⟨x,hx⟩:=get_some hlt
  have hrd:s.aL.getD n 0=r:=by rw[List.getD_eq_getElem?_getD,bM];rfl
  have hr:uI st (n:Int)=if x.held=false then(6,st) else(0,st.set n ⟨x.left,x.held,true⟩):=by simp[uI,hi,hx]
  have hv:qN s st (n:Int)=gJ r x:=by simp[qN,hi,List.getD_eq_getElem?_getD,bM,hx]
  rw[hr]
  refine XK.bY Tryz.func229 Tryz.ntmps229 hp hF ?_
  refine XK.go ?_
  refine aJ (fun w1 t=>Pk L s st n w1 (t.Lo 0 rfl)) ?_
  rw[hi,hv]
  obtain⟨left,held,wanted⟩:=x
  unfold gJ
  refine XK.go ?_
  refine bB fun g1=>?_
  cases held
  ·refine XK.go ?_
   exact XK.rT 1 hF
  ·refine XK.go ?_
   refine XK.openLines 1 rfl ?_
   dsimp only[List.set]
   refine XK.draw 6 (by kernel_rfl) (by kernel_rfl) ?_
   refine XA.q 0 ?_
   refine XA.q 1 ?_
   refine XA.q 2 ?_
   refine XA.q 3 ?_
   refine XA.q 4 ?_
   refine XA.q 5 ?_
   refine XA.next 6 rfl (by kernel_rfl) ?_
   refine Dw (kt:=3) (et:=233) (kd:=.i64) (l:=lJ s st) (v:=gJ r ⟨left,true,true⟩) 0 (by kernel_rfl) (by kernel_rfl) rfl rfl rfl rfl ?_
   rw[aAE hrd hlt]
   dsimp only[List.set]
   refine XA.bt ?_
   refine XA.done (by kernel_rfl) ?_
   refine XK.Nl 1 rfl ?_
   refine XK.go ?_
   exact XK.rT 1 hF
end
section
set_option maxHeartbeats 4000000
set_option maxRecDepth 20000
theorem aKq{α:Type}(f:α→α)(st:List α){i:Nat}{x:α}(hx:st[i]? =some x)(hs:f x=x):(st.map f).take i++st.drop i=(st.map f).take (i+1)++st.drop (i+1):=by
 have h1:=aAF f st hx
 rw[hs,aCO (by rw[aAG f st (List.getElem?_eq_some_iff.1 hx).1];exact hx)] at h1
 exact h1
theorem aHM(L:RL)(s:aA)(st:List iK)(hH:s.cI)(hok:Bl s st)(w:World)(F:Nat→Prop)(hp:(lP L s st).sat F w)(hF:∀b,F b→b < w.heap.size):
  Calls Tryz.prog 61 #[.pointer (some ⟨L.t,0,none⟩)] w (fun y w'=>∃a:Option Addr×Nat×Nat,y=.returned (.slice a.1 a.2.1 a.2.2)∧True∧∃F',(lP L s (Dz st)).sat F' w'∧aV w w' F F'):=by
 have hl:=hok.len
 have fU:=hH.t.nr
 refine XK.bY Tryz.func61 Tryz.ntmps61 hp hF ?_
 have aBg:Rd w [⟨w,fun b=>b < w.heap.size∧¬F b⟩] [lP L s st] L.t 0 (.map (some L.g)):=fun w1 t=>(t.Lo 0 rfl).r0.2
 refine XK.go ?_
 refine kd (aMX (kt:=3) (et:=233) (l:=lJ s st) (by kernel_rfl) rfl (fun w1 t=>(t.Lo 0 rfl).m)) ?_
 rw[show(lJ s st).length=st.length by simp[lJ]]
 refine XK.go ?_
 refine XK.fY 3 1 ?_
 refine XK.aT [(14,iv 0),(13,iv st.length),(3,sn),(0,.pointer (some ⟨L.t,0,none⟩))] ?_
 refine XK.loop (fun m e R H=>∃(i n:Nat) (A:Option Addr) (k:Nat) (xs:List Value),i≤st.length∧n≤i∧m=st.length - i∧e=[(14,iv i),(13,iv st.length),(3,.slice A n k),(0,.pointer (some ⟨L.t,0,none⟩))]∧R=[⟨w,fun b=>b < w.heap.size∧¬F b⟩]∧H=[HP.own 3 1 (.slice A n k) n xs,lP L s ((st.map lF).take i++st.drop i)]) st.length ⟨0,0,none,0,[],by omega,by omega,rfl,rfl,rfl,by simp⟩ fun m e R H hI=>?_
 obtain⟨i,n,A,k,xs,hi,hni,rfl,rfl,rfl,rfl⟩:=hI
 refine XK.go ?_
 refine XK.if_ rfl (fun hlt=>?_) (fun hge=>?_)
 ·have hlt:i < st.length:=by omega
  obtain⟨r,bM⟩:=get_some (l:=s.aL) (i:=i) (by omega)
  obtain⟨x,hx⟩:=get_some hlt
  have hlx:=hok.left x (List.mem_of_getElem? hx)
  have hrd:s.aL.getD i 0=r:=by rw[List.getD_eq_getElem?_getD,bM];rfl
  have hml:((st.map lF).take i++st.drop i).length=st.length:=by simp;omega
  have Im:((st.map lF).take i++st.drop i)[i]? =some x:=by rw[aAG _ st hlt];exact hx
  have hin:bE ((st.map lF).take i++st.drop i).length (i:Int)=true:=by rw[hml];exact decide_eq_true (by omega)
  have yE:kK (lJ s ((st.map lF).take i++st.drop i)) (i:Int)=some (gJ r x):=by
   rw[aDJ,if_pos hin,Int.toNat_natCast,hrd,List.getD_eq_getElem?_getD,Im];rfl
  have lA:lT (lJ s ((st.map lF).take i++st.drop i)) (i:Int) (gJ r (lF x))=lJ s ((st.map lF).take (i+1)++st.drop (i+1)):=by
   rw[aAE hrd (by omega),aAF lF st hx]
  refine XK.openLines 1 rfl ?_
  dsimp only[List.set]
  refine XK.go ?_
  refine Ut (kt:=3) (et:=233) (kd:=.i64) (z:=gJ 0 ⟨0,false,false⟩) (l:=lJ s ((st.map lF).take i++st.drop i)) true (by kernel_rfl) (by kernel_rfl) aDX rfl rfl (fun w1 t=>t.map (i:=0) rfl) (by decide) ?_
  simp only[if_true,yE,Option.getD_some,Option.isSome_some]
  obtain⟨left,held,wanted⟩:=x
  dsimp only at hlx
  dsimp only[gJ]
  refine XK.go ?_
  refine bB fun g1=>?_
  cases held
  ·have hsame:lF ⟨left,false,wanted⟩=⟨left,false,wanted⟩:=rfl
   rw[aKq lF st hx hsame]
   refine XK.go ?_
   refine XK.weak [1,2,3,4] rfl (by decide) (fun _ h=>h) ?_
   refine XK.Nl 1 rfl ?_
   exact XK.rd (st.length - (i+1)) ⟨i+1,n,A,k,xs,hlt,by omega,rfl,rfl,rfl,rfl⟩
  ·refine XK.go ?_
   refine XK.if_ rfl (fun hp=>?_) (fun hp=>?_)
   ·have Ib:lF ⟨left,true,wanted⟩=⟨left - 1,true,wanted⟩:=by simp[lF,hp]
    rw[Ib] at lA
    refine XK.go ?_
    refine XK.draw 6 (by kernel_rfl) (by kernel_rfl) ?_
    refine XA.q 0 ?_
    refine XA.q 1 ?_
    refine XA.q 2 ?_
    refine XA.q 3 ?_
    refine XA.q 4 ?_
    refine XA.q 5 ?_
    refine XA.next 6 rfl (by kernel_rfl) ?_
    refine Dw (kt:=3) (et:=233) (kd:=.i64) (l:=lJ s ((st.map lF).take i++st.drop i)) (v:=gJ r ⟨left - 1,true,wanted⟩) 1 (by kernel_rfl) (by kernel_rfl) rfl rfl rfl rfl ?_
    rw[lA]
    dsimp only[List.set]
    refine XA.bt ?_
    refine XA.done (by kernel_rfl) ?_
    refine XK.go ?_
    refine XK.weak [1,2,3,4] rfl (by decide) (fun _ h=>h) ?_
    refine XK.Nl 1 rfl ?_
    exact XK.rd (st.length - (i+1)) ⟨i+1,n,A,k,xs,hlt,by omega,rfl,rfl,rfl,rfl⟩
   ·cases wanted
    ·have Ib:lF ⟨left,true,false⟩=⟨left,true,false⟩:=by simp[lF,hp]
     rw[Ib] at lA
     refine XK.go ?_
     refine XK.draw 6 (by kernel_rfl) (by kernel_rfl) ?_
     refine XA.q 0 ?_
     refine XA.q 1 ?_
     refine XA.q 2 ?_
     refine XA.q 3 ?_
     refine XA.q 4 ?_
     refine XA.q 5 ?_
     refine XA.next 6 rfl (by kernel_rfl) ?_
     refine Dw (kt:=3) (et:=233) (kd:=.i64) (l:=lJ s ((st.map lF).take i++st.drop i)) (v:=gJ r ⟨left,true,false⟩) 1 (by kernel_rfl) (by kernel_rfl) rfl rfl rfl rfl ?_
     rw[lA]
     dsimp only[List.set]
     refine XA.bt ?_
     refine XA.done (by kernel_rfl) ?_
     refine XK.go ?_
     refine XK.weak [1,2,3,4] rfl (by decide) (fun _ h=>h) ?_
     refine XK.Nl 1 rfl ?_
     exact XK.rd (st.length - (i+1)) ⟨i+1,n,A,k,xs,hlt,by omega,rfl,rfl,rfl,rfl⟩
    ·have Ib:lF ⟨left,true,true⟩=⟨left,false,false⟩:=by simp[lF,hp]
     rw[Ib] at lA
     refine XK.go ?_
     refine dF fun g2=>?_
     refine fG 4 1 8 1 (el:=3) (by kernel_rfl) (by kernel_rfl) (by decide) rfl rfl rfl (kX 0 rfl rfl) (by simp[Value.oneCell']) rfl (by omega) (by omega) (by decide) fun A' k'=>?_
     dsimp only[List.set]
     refine XK.go ?_
     refine XK.draw 6 (by kernel_rfl) (by kernel_rfl) ?_
     refine XA.q 0 ?_
     refine XA.q 1 ?_
     refine XA.q 2 ?_
     refine XA.q 3 ?_
     refine XA.q 4 ?_
     refine XA.q 5 ?_
     refine XA.next 6 rfl (by kernel_rfl) ?_
     refine Dw (kt:=3) (et:=233) (kd:=.i64) (l:=lJ s ((st.map lF).take i++st.drop i)) (v:=gJ r ⟨left,false,false⟩) 2 (by kernel_rfl) (by kernel_rfl) rfl rfl rfl rfl ?_
     rw[lA]
     dsimp only[List.set]
     refine XA.bt ?_
     refine XA.done (by kernel_rfl) ?_
     refine XK.go ?_
     refine XK.weak [2,3,4,5] rfl (by decide) (fun _ h=>h) ?_
     refine XK.Nl 1 rfl ?_
     exact XK.rd (st.length - (i+1)) ⟨i+1,n+1,A',k',_,hlt,by omega,rfl,rfl,rfl,rfl⟩
 ·obtain rfl:i=st.length:=by omega
  have yG:(st.map lF).take st.length++st.drop st.length=Dz st:=by
   rw[List.drop_eq_nil_of_le (by omega),List.append_nil,List.take_of_length_le (by simp)]
   rfl
  rw[yG]
  refine XK.go ?_
  exact XK.jQ rfl rfl fun w1 t=>⟨(A,n,k),rfl,trivial,t.turns hF (by simp) (i:=1) rfl⟩
end
section
set_option maxHeartbeats 4000000
set_option maxRecDepth 20000
section
variable{N:bO}{w0 w:World}{e:Env}{R:List Piece}{H:List HP}{K:Act→World→Prop}{L:HL}{s:aA}{x:aO}
theorem Rd.hard(i:Nat){o:Nat}{v:Value}(hi:H[i]? =some (cP L s x))(hv:(Rx L s.aC.length)[o]? =some v):Rd w0 R H L.h o v:=fun w t=>by
 obtain⟨F,⟨G,g1,g2,_⟩,h2,_⟩:=t.chunk hi
 have:=(sD (g1 0 _ rfl).2).at_ (j:=o) hv
 rw[Nat.zero_add] at this
 exact this.2
end
variable(L:HL)(s:aA)(x:aO)(w:World)
theorem aE4(hH:s.cI)(aM:fF L s)(hok:bR s x)(i:Int)(on:Bool)(F:Nat→Prop)(hp:(cP L s x).sat F w)(hF:∀b,F b→b < w.heap.size):
  Calls Tryz.prog 179 #[.pointer (some ⟨L.h,0,none⟩),iv i,.bool on] w (fun y w'=>y=.returned (iv (jY s x.ck i on).1)∧∃F',(cP L s {x with ck:=(jY s x.ck i on).2}).sat F' w'∧aV w w' F F'):=by
 have qM:=hH.t.nd
 refine XK.bY Tryz.func179 Tryz.ntmps179 hp hF ?_
 refine XK.go ?_
 refine aJ (fun w1 t=>yJ L s x w1 (t.kB 0 rfl aM hok)) ?_
 refine XK.go ?_
 refine kd (aX rfl (Rd.hard 0 rfl rfl)) ?_
 refine XK.go ?_
 refine XK.tk 0 1 ?_
 refine cX 0 (mF L.T s (jY s x.ck i on).2) (fun w1 F1 t h1 h2 h3=>aNB L.T s x.ck aM.fa hok.ck i on w1 F1 h1 h2) ?_
 dsimp only[List.set]
 refine XK.go ?_
 refine XK.gv 0 1 ?_
 exact XK.rT 0 hF
theorem aEz(hH:s.cI)(aM:fF L s)(hok:bR s x)(i:Int)(F:Nat→Prop)(hp:(cP L s x).sat F w)(hF:∀b,F b→b < w.heap.size):
  Calls Tryz.prog 174 #[.pointer (some ⟨L.h,0,none⟩),iv i] w (fun y w'=>y=.returned (iv (sU s x.dm i).1)∧∃F',(cP L s {x with dm:=(sU s x.dm i).2}).sat F' w'∧aV w w' F F'):=by
 have qM:=hH.t.nd
 refine XK.bY Tryz.func174 Tryz.ntmps174 hp hF ?_
 refine XK.go ?_
 refine aJ (fun w1 t=>yJ L s x w1 (t.kB 0 rfl aM hok)) ?_
 refine XK.go ?_
 refine kd (aX rfl (Rd.hard 0 rfl rfl)) ?_
 refine XK.go ?_
 refine XK.tk 0 2 ?_
 refine cX 0 (sL L.G s (sU s x.dm i).2) (fun w1 F1 t h1 h2 h3=>aJd L.G s x.dm hH hok.dm i w1 F1 h1 h2) ?_
 dsimp only[List.set]
 refine XK.go ?_
 refine XK.gv 0 2 ?_
 exact XK.rT 0 hF
theorem aLn(hH:s.cI)(aM:fF L s)(hok:bR s x)(i:Int)(keep:Bool)(F:Nat→Prop)(hp:(cP L s x).sat F w)(hF:∀b,F b→b < w.heap.size):
  Calls Tryz.prog 178 #[.pointer (some ⟨L.h,0,none⟩),iv i,.bool keep] w (fun y w'=>y=.returned (iv (uZ s x.dm i keep).1)∧∃F',(cP L s {x with dm:=(uZ s x.dm i keep).2}).sat F' w'∧aV w w' F F'):=by
 have qM:=hH.t.nd
 refine XK.bY Tryz.func178 Tryz.ntmps178 hp hF ?_
 refine XK.go ?_
 refine aJ (fun w1 t=>yJ L s x w1 (t.kB 0 rfl aM hok)) ?_
 refine XK.go ?_
 refine kd (aX rfl (Rd.hard 0 rfl rfl)) ?_
 refine XK.go ?_
 refine XK.tk 0 2 ?_
 refine cX 0 (sL L.G s (uZ s x.dm i keep).2) (fun w1 F1 t h1 h2 h3=>aJi L.G s x.dm hok.dm (by omega) i keep w1 F1 h1 h2) ?_
 dsimp only[List.set]
 refine XK.go ?_
 refine XK.gv 0 2 ?_
 exact XK.rT 0 hF
theorem aLk(hH:s.cI)(aM:fF L s)(hok:bR s x)(i:Int)(F:Nat→Prop)(hp:(cP L s x).sat F w)(hF:∀b,F b→b < w.heap.size):
  Calls Tryz.prog 182 #[.pointer (some ⟨L.h,0,none⟩),iv i] w (fun y w'=>y=.returned (iv (uI x.ln i).1)∧∃F',(cP L s {x with ln:=(uI x.ln i).2}).sat F' w'∧aV w w' F F'):=by
 have qM:=hH.t.nd
 refine XK.bY Tryz.func182 Tryz.ntmps182 hp hF ?_
 refine XK.go ?_
 refine aJ (fun w1 t=>yJ L s x w1 (t.kB 0 rfl aM hok)) ?_
 refine XK.go ?_
 refine kd (aX rfl (Rd.hard 0 rfl rfl)) ?_
 refine XK.go ?_
 refine XK.tk 0 3 ?_
 refine cX 0 (lP L.R s (uI x.ln i).2) (fun w1 F1 t h1 h2 h3=>aHN L.R s x.ln hok.ln i w1 F1 h1 h2) ?_
 dsimp only[List.set]
 refine XK.go ?_
 refine XK.gv 0 3 ?_
 exact XK.rT 0 hF
end
section
set_option maxHeartbeats 4000000
set_option maxRecDepth 20000
def Yw(a b:Int):Int:=IntKind.u32.wrap (BitVec.ofInt 32 a&&& BitVec.ofInt 32 b).toNat
def Ty(a b:Int):Int:=IntKind.u32.wrap (BitVec.ofInt 32 a&&& ~~~ BitVec.ofInt 32 b).toNat
def Vw(a b:Int):Int:=IntKind.u32.wrap (BitVec.ofInt 32 a||| BitVec.ofInt 32 b).toNat
theorem Km(a:Int):0≤IntKind.u32.wrap a∧IntKind.u32.wrap a < 4294967296:=by
 unfold IntKind.wrap
 simp only[IntKind.signed,IntKind.bits,Bool.false_and,Bool.false_eq_true,if_false]
 exact⟨Int.emod_nonneg _ (by decide),Int.emod_lt_of_pos _ (by decide)⟩
def Es(many at':Int):Int:=IntKind.u32.wrap (IntKind.u64.wrap (IntKind.u64.wrap (IntKind.u64.wrap (1*2 ^ min many.toNat 64) - 1)*2 ^ min at'.toNat 64))
def bJ(w low many:Int):Int:=Yw (w.fdiv (2 ^ min low.toNat 32)) (Es many 0)
def wB(w low many v:Int):Int×Int:=if Ty v (Es many 0)≠0 then(0,1) else(Vw (Ty w (Es many low)) (IntKind.u32.wrap (v*2 ^ min low.toNat 32)),0)
def gE(w low many v:Int):Int×Int:=if v < 0∨IntKind.i64.wrap (1*2 ^ min many.toNat 64)≤v then(0,1) else if(wB w low many (IntKind.u32.wrap v)).2≠0 then(0,1) else((wB w low many (IntKind.u32.wrap v)).1,0)
def okF(low many:Int):Prop:=1≤many∧many≤32∧0≤low∧low≤32 - many
def aCl(many:Int)(v:Value)(w w':World):Prop:=∃g,v=.tuple #[.func (.func 247) #[] #[pt g],.bool true]∧RP (fresh w w') g 0 (iv many)
theorem aB7(a many:Int)(g:Nat)(w:World)(h:eS w g 0 (iv many))(ha:0≤a)(hm:0≤many):
  Calls Tryz.prog 247 #[iv a,pt g] w (Rt (.int .u32 (Es many a)) w):=by
 refine XK.en Tryz.func247 Tryz.ntmps247 ?_
 refine XK.gw ?_
 refine Ki rfl rfl (by omega) rfl (by decide) ?_
 refine Uq rfl rfl rfl (by decide) ?_
 refine aR rfl (by decide) ?_
 refine Ki rfl rfl (by omega) rfl (by decide) ?_
 refine zI (kd:=.u32) (ds:=.int .u64) (by kernel_rfl) (by kernel_rfl) rfl rfl (by decide) ?_
 refine XK.gw ?_
 exact XK.rX (h:=fun _ _=>rfl)
theorem aEQ(low many:Int)(w:World)(hok:okF low many):Calls Tryz.prog 245 #[iv low,iv many] w (fun y w'=>(∃x,y=.returned x∧aCl many x w w')∧Below w.heap.size w w'):=by
 refine XK.en Tryz.func245 Tryz.ntmps245 ?_
 refine XK.go ?_
 refine aS fun g1=>?_
 refine XK.go ?_
 (first | refine aW (t:=8) rfl (fun hg=>?_) (fun hg=>?_) | refine oK (t:=8) rfl (fun hg=>?_) (fun hg=>?_))
 ·
  refine XK.go ?_
  exact absurd hok (by unfold okF;omega)
 ·
  refine XK.go ?_
  (first | refine aW (t:=12) rfl (fun hg=>?_) (fun hg=>?_) | refine oK (t:=12) rfl (fun hg=>?_) (fun hg=>?_))
  ·
   refine XK.go ?_
   exact absurd hok (by unfold okF;omega)
  ·
   refine XK.go ?_
   (first | refine aW (t:=16) rfl (fun hg=>?_) (fun hg=>?_) | refine oK (t:=16) rfl (fun hg=>?_) (fun hg=>?_))
   ·
    refine XK.go ?_
    exact absurd hok (by unfold okF;omega)
   ·
    refine XK.go ?_
    refine XK.if_ rfl (fun h=>?_) (fun h=>?_)
    ·
     refine XK.go ?_
     exact absurd hok (by unfold okF;omega)
    ·
     refine XK.go ?_
     refine iD (vf:=[]) (vc:=[pt g1]) rfl rfl (by decide) ?_
     refine XK.go ?_
     refine XK.still [] [0] [] (by simp) rfl (by decide) (by decide) fun q hq _ hfr=>?_
     refine XK.dG rfl rfl rfl fun w1 st=>⟨⟨_,rfl,g1,rfl,(RP.fZ (o:=0) (v:=iv many) (hq 0 _ (by simp) rfl) rfl).le (st.jD (by simp) (hfr (by simp) (by simp)))⟩,st.below (by simp)⟩
theorem aEA(w0 low many:Int)(w:World)(hok:okF low many):
  Calls Tryz.prog 241 #[.int .u32 w0,iv low,iv many] w (Rt (.tuple #[.int .u32 (bJ w0 low many),iv 0]) w):=by
 refine XK.en Tryz.func241 Tryz.ntmps241 ?_
 refine XK.gw ?_
 refine gO [] (aCl many) (fun w1 st=>aEQ low many w1 hok) ?_
 rintro _ w1 q1 ⟨g,rfl,bT⟩ hf _ _
 have bT:=bT.le hf
 clear hf
 refine aR rfl (by decide) ?_
 refine Dx rfl rfl (by decide) ?_
 refine Dx rfl rfl (by decide) ?_
 refine cM rfl (by decide) ?_
 refine cM rfl (by decide) ?_
 refine XK.aY ?_
 refine XK.seq ?_
 refine XK.seq ?_
 refine XK.region ?_
 refine aR rfl (by decide) ?_
 (first | refine Dv rfl (by decide) ?_ | refine tR rfl (by decide) ?_)
 refine XK.aY ?_
 refine XK.cond rfl (fun h=>?_) (fun h=>?_)
 ·
  refine XK.gw ?_
  exact absurd h (by simp)
 ·
  refine XK.skip ?_
  refine XK.norm ?_
  refine XK.seq ?_
  refine XK.draw 5 (by kernel_rfl) (by kernel_rfl) ?_
  refine XA.dA 0 rfl rfl rfl (iH rfl) ?_
  refine XA.dA 1 rfl rfl rfl (iH rfl) ?_
  refine XA.dA 2 rfl rfl rfl (aFe rfl rfl (by unfold okF at hok;omega) rfl) ?_
  refine XA.dA 3 rfl rfl rfl (iH rfl) ?_
  refine XA.next 4 rfl (by kernel_rfl) ?_
  refine vO (f:=247) (fi:=[]) (ca:=[pt g]) (by kernel_rfl) rfl rfl (by decide) (fun w1 st=>aB7 0 many g w1 (bT.le (st.le (by simp))) (by unfold okF at hok;omega) (by unfold okF at hok;omega)) ?_
  refine XA.bk ?_
  refine XA.next 5 rfl (by kernel_rfl) ?_
  refine Zq (c:=bJ w0 low many) rfl rfl (fun _=>rfl) (by simp) (by decide) ?_
  refine XA.bt ?_
  refine XA.next 6 rfl (by kernel_rfl) ?_
  refine cM rfl (by decide) ?_
  refine XA.bt ?_
  refine XA.next 7 rfl (by kernel_rfl) ?_
  refine cM rfl (by decide) ?_
  refine XA.bt ?_
  refine XA.done (by kernel_rfl) ?_
  refine XK.norm ?_
  refine XK.ret ?_
  refine XK.norm ?_
  exact XK.dG rfl rfl rfl fun w1 st=>⟨rfl,st.below (by simp)⟩
theorem aAv(w0 low many v:Int)(w:World)(hok:okF low many):
  Calls Tryz.prog 244 #[.int .u32 w0,iv low,iv many,.int .u32 v] w (Rt (.tuple #[.int .u32 (wB w0 low many v).1,iv (wB w0 low many v).2]) w):=by
 refine XK.en Tryz.func244 Tryz.ntmps244 ?_
 refine XK.gw ?_
 refine gO [] (aCl many) (fun w1 st=>aEQ low many w1 hok) ?_
 rintro _ w1 q1 ⟨g,rfl,bT⟩ hf _ _
 have bT:=bT.le hf
 clear hf
 refine aR rfl (by decide) ?_
 refine Dx rfl rfl (by decide) ?_
 refine Dx rfl rfl (by decide) ?_
 refine cM rfl (by decide) ?_
 refine cM rfl (by decide) ?_
 refine XK.aY ?_
 refine XK.seq ?_
 refine XK.seq ?_
 refine XK.region ?_
 refine aR rfl (by decide) ?_
 (first | refine Dv rfl (by decide) ?_ | refine tR rfl (by decide) ?_)
 refine XK.aY ?_
 refine XK.cond rfl (fun h=>?_) (fun h=>?_)
 ·
  refine XK.gw ?_
  exact absurd h (by simp)
 ·
  refine XK.gw ?_
  refine vO (f:=247) (fi:=[]) (ca:=[pt g]) (by kernel_rfl) rfl rfl (by decide) (fun w1 st=>aB7 0 many g w1 (bT.le (st.le (by simp))) (by unfold okF at hok;omega) (by unfold okF at hok;omega)) ?_
  refine Zq (c:=Ty v (Es many 0)) rfl rfl (fun _=>rfl) (by simp) (by decide) ?_
  refine XK.gw ?_
  refine XK.if_ rfl (fun h=>?_) (fun h=>?_)
  ·
   refine XK.gw ?_
   refine XK.dG rfl rfl rfl fun w1 st=>⟨by rw[wB,if_pos h],st.below (by simp)⟩
  ·
   refine XK.skip ?_
   refine XK.norm ?_
   refine XK.seq ?_
   refine XK.draw 8 (by kernel_rfl) (by kernel_rfl) ?_
   refine XA.dA 0 rfl rfl rfl (iH rfl) ?_
   refine XA.dA 1 rfl rfl rfl (iH rfl) ?_
   refine XA.dA 2 rfl rfl rfl (iH rfl) ?_
   refine XA.dA 5 rfl rfl rfl (iH rfl) ?_
   refine XA.dA 6 rfl rfl rfl (iH rfl) ?_
   refine XA.dA 7 rfl rfl rfl (aMT rfl rfl (by unfold okF at hok;omega) rfl) ?_
   refine XA.next 3 rfl (by kernel_rfl) ?_
   refine vO (f:=247) (fi:=[]) (ca:=[pt g]) (by kernel_rfl) rfl rfl (by decide) (fun w1 st=>aB7 low many g w1 (bT.le (st.le (by simp))) (by unfold okF at hok;omega) (by unfold okF at hok;omega)) ?_
   refine XA.bk ?_
   refine XA.dA 4 rfl rfl rfl (aFl (c:=Ty w0 (Es many low)) rfl rfl (fun _=>rfl) (by simp)) ?_
   refine XA.next 8 rfl (by kernel_rfl) ?_
   refine Zq (c:=Vw (Ty w0 (Es many low)) (IntKind.u32.wrap (v*2 ^ min low.toNat 32))) rfl rfl (fun _=>rfl) (by simp) (by decide) ?_
   refine XA.bt ?_
   refine XA.next 9 rfl (by kernel_rfl) ?_
   refine cM rfl (by decide) ?_
   refine XA.bt ?_
   refine XA.next 10 rfl (by kernel_rfl) ?_
   refine cM rfl (by decide) ?_
   refine XA.bt ?_
   refine XA.done (by kernel_rfl) ?_
   refine XK.norm ?_
   refine XK.ret ?_
   refine XK.norm ?_
   refine XK.dG rfl rfl rfl fun w1 st=>⟨by rw[wB,if_neg h],st.below (by simp)⟩
theorem Qd(w0 low many:Int)(w:World)(hok:okF low many):
  Calls Tryz.prog 231 #[.int .u32 w0,iv low,iv many] w (Rt (iv (bJ w0 low many)) w):=by
 refine XK.en Tryz.func231 Tryz.ntmps231 ?_
 refine XK.go ?_
 refine cG (fun w1 st=>aEA w0 low many w1 hok) ?_
 refine XK.go ?_
 refine zI (ds:=.int .u32) (by kernel_rfl) (by kernel_rfl) rfl (eR (by have:=Km (BitVec.ofInt 32 (w0.fdiv (2 ^ min low.toNat 32))&&& BitVec.ofInt 32 (Es many 0)).toNat;unfold bJ Yw;omega)) (by decide) ?_
 refine XK.go ?_
 exact XK.rX (h:=fun _ _=>rfl)
theorem Vt(w0 low many v:Int)(w:World)(hok:okF low many):
  Calls Tryz.prog 237 #[.int .u32 w0,iv low,iv many,iv v] w (Rt (.tuple #[.int .u32 (gE w0 low many v).1,iv (gE w0 low many v).2]) w):=by
 refine XK.en Tryz.func237 Tryz.ntmps237 ?_
 refine XK.gw ?_
 (first | refine aW (t:=13) rfl (fun hg=>?_) (fun hg=>?_) | refine oK (t:=13) rfl (fun hg=>?_) (fun hg=>?_))
 ·
  refine XK.gw ?_
  refine XK.dG rfl rfl rfl fun w1 st=>⟨by rw[gE,if_pos (.inl hg)],st.below (by simp)⟩
 ·
  refine dW rfl rfl ?_
  refine aR rfl (by decide) ?_
  refine dW rfl rfl ?_
  refine aR rfl (by decide) ?_
  refine dW rfl rfl ?_;refine Ki rfl rfl (by unfold okF at hok;omega) rfl (by decide) ?_
  refine XK.gw ?_
  refine XK.if_ rfl (fun h=>?_) (fun h=>?_)
  ·
   refine XK.gw ?_
   refine XK.dG rfl rfl rfl fun w1 st=>⟨by rw[gE,if_pos (.inr h)],st.below (by simp)⟩
  ·
   refine XK.skip ?_
   have hno:¬(v < 0∨IntKind.i64.wrap (1*2 ^ min many.toNat 64)≤v):=fun h2=>h2.elim hg h
   refine XK.norm ?_
   refine XK.seq ?_
   refine XK.region ?_
   refine aR rfl (by decide) ?_
   refine aR rfl (by decide) ?_
   refine aR rfl (by decide) ?_
   refine aR rfl (by decide) ?_
   refine zI (kd:=.u32) (ds:=.int .i64) (by kernel_rfl) (by kernel_rfl) rfl rfl (by decide) ?_
   refine cG (fun w1 st=>aAv w0 low many (IntKind.u32.wrap v) w1 hok) ?_
   refine XK.gw ?_
   refine XK.if_ rfl (fun h2=>?_) (fun h2=>?_)
   ·
    refine XK.gw ?_
    refine XK.dG rfl rfl rfl fun w1 st=>⟨by rw[gE,if_neg hno,if_pos h2],st.below (by simp)⟩
   ·
    refine XK.gw ?_
    refine XK.dG rfl rfl rfl fun w1 st=>⟨by rw[gE,if_neg hno,if_neg h2];rfl,st.below (by simp)⟩
end
section
set_option maxHeartbeats 4000000
set_option maxRecDepth 20000
def To(bZ:Int)(i:Nat):Bool:=decide (Yw (bZ.fdiv (2 ^ min i 32)) 1=1)
def zU(x:aO)(bZ:Int)(n:Nat):List (dB×eJ):=x.dv.mapIdx fun i p=>if i < n then(p.1,vU p.2 (decide (0 < nE x.wt i)) (To bZ i)) else p
def Df(k:Int)(d:bK)(f:dB):dB:=if k=115 then sY d f else if k=114 then Ei d f else if k=108∨k=110 then Bf d f else f
def Dg(s:aA)(e:Int×Nat)(i:Nat)(p:dB×eJ):dB×eJ:=match s.aC[i]? with
 | some d=>if d.domain=(e.2:Int) then(Df e.1 d p.1,p.2) else p
 | none=>p
def zV(s:aA)(dv:List (dB×eJ))(e:Int×Nat)(n:Nat):List (dB×eJ):=dv.mapIdx fun i p=>if i < n then Dg s e i p else p
def sA(s:aA)(dv:List (dB×eJ))(e:Int×Nat):List (dB×eJ):=zV s dv e s.aC.length
def Ou(s:aA)(x:aO)(bZ:Int):aO:=⟨kV s x.ck,nW x.dm,Dz x.ln,(jE x.dm s.domains.length).foldl (sA s) (zU x bZ s.aC.length),x.wt,x.aQ⟩
theorem Li{α:Type}(l:List α)(f:Nat→α→α):(l.mapIdx fun i p=>if i < 0 then f i p else p)=l:=by
 refine List.ext_getElem? fun i=>?_
 simp
theorem Lj{α:Type}{l:List α}{f:Nat→α→α}{n:Nat}{p:α}(hp:l[n]? =some p):(l.mapIdx fun i p=>if i < n then f i p else p).set n (f n p)=l.mapIdx fun i p=>if i < n+1 then f i p else p:=by
 refine List.ext_getElem? fun i=>?_
 have hlt:=(List.getElem?_eq_some_iff.1 hp).1
 rw[List.getElem?_set]
 by_cases he:n=i
 ·subst he
  rw[if_pos rfl,if_pos (by simpa using hlt),List.getElem?_mapIdx,hp]
  simp
 ·rw[if_neg he,List.getElem?_mapIdx,List.getElem?_mapIdx]
  cases l[i]? with
  | none=>rfl
  | some q=>
   simp only[Option.map_some,Option.some.injEq]
   by_cases h:i < n
   ·rw[if_pos h,if_pos (by omega)]
   ·rw[if_neg h,if_neg (by omega)]
theorem Ll{α:Type}{l:List α}{f:Nat→α→α}{n:Nat}{p:α}(hp:l[n]? =some p):(l.mapIdx fun i p=>if i < n then f i p else p)[n]? =some p:=by
 rw[List.getElem?_mapIdx,hp]
 simp
theorem Yh{ds:List bK}{ls:List (FL×Nat)}{xs:List (dB×eJ)}{i:Nat}{d:bK}{l:FL×Nat}{p:dB×eJ}(hd:ds[i]? =some d)(hl:ls[i]? =some l)(hp:xs[i]? =some p):(uY ds ls xs)[i]? =some (Na d (l,p)):=by
 have hq:(ls.zip xs)[i]? =some (l,p):=List.getElem?_zip_eq_some.2 ⟨hl,hp⟩
 rw[uY,List.getElem?_zipWith,hd,hq]
theorem aM9{ds:List bK}{ls:List (FL×Nat)}{xs:List (dB×eJ)}{i:Nat}{d:bK}{l:FL×Nat}{p:dB×eJ}(hd:ds[i]? =some d)(hl:ls[i]? =some l)(hp:xs[i]? =some p)(p':dB×eJ):(uY ds ls xs).set i (Na d (l,p'))=uY ds ls (xs.set i p'):=by
 refine List.ext_getElem? fun j=>?_
 have hlt:=(List.getElem?_eq_some_iff.1 (Yh hd hl hp)).1
 rw[List.getElem?_set]
 by_cases he:i=j
 ·subst he
  rw[if_pos rfl,if_pos hlt]
  exact(Yh hd hl (List.getElem?_set_self (List.getElem?_eq_some_iff.1 hp).1)).symm
 ·rw[if_neg he]
  simp only[uY,List.getElem?_zipWith,List.zip,List.getElem?_set_ne he]
theorem aBA{ds:List bK}{ls:List (FL×Nat)}{i:Nat}{d:bK}{l:FL×Nat}(hd:ds[i]? =some d)(hl:ls[i]? =some l):(tG ds ls)[i]? =some (Fw d l):=by
 rw[tG,List.getElem?_zipWith,hd,hl]
theorem aB9{ds:List bK}{ls:List (FL×Nat)}:∀r∈tG ds ls,r.length=6:=fun r hr=>by
 obtain⟨i,hi⟩:=List.getElem?_of_mem hr
 rw[tG,List.getElem?_zipWith] at hi
 split at hi
 ·cases hi;rfl
 ·cases hi
theorem aHb{x:eJ}(h:xC x)(a b:Bool):xC (vU x a b):=by
 unfold vU
 unfold xC at h⊢
 split
 ·exact h
 ·split
  ·exact⟨(by show(0:Int)≤3;omega),(by show(3:Int)≤3;omega)⟩
  ·split
   ·exact h
   ·exact⟨(by show(0:Int)≤2;omega),(by show(2:Int)≤3;omega)⟩
theorem aH5{r:Rg}{p:Int×Int}(h1:0≤p.1∧p.1 < 4294967296)(h2:0≤p.2∧p.2 < 4294967296):0≤Hg r p∧Hg r p < 4294967296:=by
 unfold Hg
 split<;>assumption
theorem aFm{d:bK}{f:dB}(k:Int)(hr:∀r∈d.aI,0≤r.reset∧r.reset≤6)(h:vJ d f):vJ d (Df k d f):=by
 have hres:∀v∈d.aI.map (·.reset),0≤v∧v < 4294967296:=fun v hv=>by
  obtain⟨r,dH,rfl⟩:=List.mem_map.1 hv
  have:=hr r dH
  omega
 have h1:=h.now
 have h2:=h.saved
 unfold Df
 split
 ·refine⟨h1,by simp[sY];omega,h.u.1,fun v hv=>?_⟩
  obtain⟨i,hi⟩:=List.getElem?_of_mem hv
  simp only[sY,List.getElem?_zipWith] at hi
  split at hi
  ·rename_i r p dH fI
   cases hi
   obtain⟨Cm,hp3⟩:=List.getElem?_zip_eq_some.1 fI
   exact aH5 (h.u.1 _ (List.mem_of_getElem? Cm)) (h.u.2 _ (List.mem_of_getElem? hp3))
  ·cases hi
 ·split
  ·refine⟨by simp[Ei];omega,h2,fun v hv=>?_,h.u.2⟩
   obtain⟨i,hi⟩:=List.getElem?_of_mem hv
   simp only[Ei,List.getElem?_zipWith] at hi
   split at hi
   ·rename_i r p dH fI
    cases hi
    unfold Vm
    split
    ·exact h.u.2 _ (List.mem_of_getElem? fI)
    ·have:=hr r (List.mem_of_getElem? dH)
     omega
   ·cases hi
  ·split
   ·exact⟨by simp[Bf],h2,hres,h.u.2⟩
   ·exact h
theorem Qh{s:aA}{x:aO}(hH:s.cI)(hok:bR s x){dv:List (dB×eJ)}(hl:dv.length=x.dv.length)(h:∀(i:Nat) (d:bK) (p:dB×eJ),s.aC[i]? =some d→dv[i]? =some p→vJ d p.1∧xC p.2):bR s {x with dv:=dv}:=⟨hok.ck,hok.dm,hok.ln,hl.trans hok.dv,h,hok.wt⟩
theorem aAH{s:aA}{x:aO}(hH:s.cI)(hok:bR s x)(bZ:Int)(n:Nat):bR s {x with dv:=zU x bZ n}:=Qh hH hok (by simp[zU]) fun i d p hd hp=>by
 rw[zU,List.getElem?_mapIdx] at hp
 cases hq:x.dv[i]? with
 | none=>rw[hq] at hp;cases hp
 | some q=>
  rw[hq] at hp
  obtain⟨h1,h2⟩:=hok.each i d q hd hq
  simp only[Option.map_some,Option.some.injEq] at hp
  subst hp
  split
  ·exact⟨h1,aHb h2 _ _⟩
  ·exact⟨h1,h2⟩
theorem aDH{s:aA}{x:aO}(hH:s.cI)(hok:bR s x)(e:Int×Nat)(n:Nat):bR s {x with dv:=zV s x.dv e n}:=Qh hH hok (by simp[zV]) fun i d p hd hp=>by
 rw[zV,List.getElem?_mapIdx] at hp
 cases hq:x.dv[i]? with
 | none=>rw[hq] at hp;cases hp
 | some q =>
  rw[hq] at hp
  obtain⟨h1,h2⟩:=hok.each i d q hd hq
  simp only[Option.map_some,Option.some.injEq] at hp
  subst hp
  split
  ·unfold Dg
   rw[hd]
   dsimp only
   split
   ·exact⟨aFm _ (hH.t.aC i d hd).2.2.2.2.2.2.2.2.2.1 h1,h2⟩
   ·exact⟨h1,h2⟩
  ·exact⟨h1,h2⟩
theorem aB1{s:aA}(hH:s.cI):∀(es:List (Int×Nat)) (x:aO),bR s x→bR s {x with dv:=es.foldl (sA s) x.dv}
 | [],x,h=>h
 | e::es,x,h=>aB1 hH es {x with dv:=sA s x.dv e} (aDH hH h e _)
theorem aJW{s:aA}{dv:List (dB×eJ)}{e:Int×Nat}(h:¬(e.1=115∨e.1=114∨e.1=108∨e.1=110)):sA s dv e=dv:=by
 unfold sA zV
 refine List.ext_getElem? fun i=>?_
 rw[List.getElem?_mapIdx]
 cases dv[i]? with
 | none=>rfl
 | some p =>
  simp only[Option.map_some,Option.some.injEq]
  split
  ·unfold Dg
   split
   ·split
    ·have:Df e.1 (by assumption) p.1=p.1:=by
      unfold Df
      rw[if_neg (by omega),if_neg (by omega),if_neg (by omega)]
     rw[this]
    ·rfl
   ·rfl
  ·rfl
theorem aHd{s:aA}{st:List iK}(h:Bl s st):Bl s (Dz st):=by
 refine⟨by simp[Dz,h.len],fun x hx=>?_⟩
 obtain⟨y,hy,rfl⟩:=List.mem_map.1 hx
 have:=h.left y hy
 unfold lF
 split
 ·exact this
 ·split
  ·dsimp only;omega
  ·split
   ·exact this
   ·exact this
theorem aHa{s:aA}{x:aO}(hH:s.cI)(hok:bR s x)(bZ:Int):bR s (Ou s x bZ):=by
 have h1:=aB1 hH (jE x.dm s.domains.length) _ (aAH hH hok bZ s.aC.length)
 exact⟨aAf hH hok.ck,aAe hok.dm,aHd hok.ln,h1.dv,h1.each,hok.wt⟩
section
variable{N:bO}{w0 w:World}{e:Env}{R:List Piece}{H:List HP}{K:Act→World→Prop}{L:HL}{s:aA}{x:aO}
def aE3(L:HL)(s:aA)(x:aO):HP:=HP.many [HP.aB L.h 113 (Rx L s.aC.length),mF L.T s x.ck,sL L.G s x.dm,lP L.R s x.ln,rB L.B (iF s) x.wt x.aQ,HP.own 106 6 (.slice L.A s.aC.length L.c) s.aC.length (tG s.aC L.ds).flatten,HP.emp]
def aEY(L:HL)(s:aA)(x:aO)(i:Nat):HP:=HP.many ((uY s.aC L.ds x.dv).set i HP.emp)
theorem XK.Kz(j i:Nat){d:bK}{l:FL×Nat}{p:dB×eJ}(hj:H[j]? =some (cP L s x))(hd:s.aC[i]? =some d)(hl:L.ds[i]? =some l)(hp:x.dv[i]? =some p)
  (k:XK N w0 K e R (HP.many [eP l.1 d p.1,qY l.2 p.2]::aEY L s x i::H.set j (aE3 L s x))):XK N w0 K e R H:=by
 refine XK.take j 6 hj rfl ?_
 refine XK.take 0 i rfl (Yh hd hl hp) ?_
 exact k
theorem XK.Nn(j i:Nat){d:bK}{l:FL×Nat}{p p':dB×eJ}(hj:H[j]? =some (aE3 L s x))(hd:s.aC[i]? =some d)(hl:L.ds[i]? =some l)(hp:x.dv[i]? =some p)
  (k:XK N w0 K e R (H.set j (cP L s {x with dv:=x.dv.set i p'}))):XK N w0 K e R (HP.many [eP l.1 d p'.1,qY l.2 p'.2]::aEY L s x i::H):=by
 have hlt:=(List.getElem?_eq_some_iff.1 (Yh hd hl hp)).1
 refine XK.nM 0 i rfl (by rw[List.getElem?_set_self (by simpa using hlt)]) ?_
 dsimp only[List.set]
 refine XK.nM j 6 hj rfl ?_
 rw[List.set_set,show HP.many [eP l.1 d p'.1,qY l.2 p'.2]=Na d (l,p') from rfl,aM9 hd hl hp p']
 exact k
theorem XK.rows(j:Nat)(hj:H[j]? =some (cP L s x))(aM:fF L s)(hok:bR s x)(hn:0 < s.aC.length)(k:∀b off,L.A=some ⟨b,off,none⟩→XK N w0 K e R H):XK N w0 K e R H:=fun a w hr st=>by
 obtain⟨b,off,hA,_⟩:=(st.kB j hj aM hok).rows.2 hn
 exact k b off hA a w hr st
theorem aH.dev(j:Nat){i b off o:Nat}{d:bK}{l:FL×Nat}(hj:H[j]? =some (cP L s x))(aM:fF L s)(hok:bR s x)(hA:L.A=some ⟨b,off,none⟩)(hd:s.aC[i]? =some d)(hl:L.ds[i]? =some l)(ho:o=off+i*6):aH w0 R H b o (Fw d l):=.of fun k v hv w st=>by
 obtain⟨b',off',mO,hr⟩:=aE.row (st.kB j hj aM hok).rows (rows:=tG s.aC L.ds) (fun r hr=>aB9 r hr) (aBA hd hl) (List.getElem?_eq_some_iff.1 hd).1
 rw[hA] at mO
 cases mO
 subst ho
 exact(hr.2 k v hv)
end
end
section
set_option maxHeartbeats 4000000
set_option maxRecDepth 20000
section
variable{P:Program}{N:bO}{w0:World}{e:Env}{R:List Piece}{H:List HP}{Q:Exit→Act→World→Prop}{ops:Array Oper}{rest:List Oper}
variable{d:Nat}{ty:TypeId}{pos:String}{aF:Array Edge}
theorem vP{α:Type}(i:Nat){f:FuncId}{x:Operand}{args:List Operand}{fi ca vs:List Value}{tys:Array TypeId}{p:HP}(v:α→Value)(q:α→HP)(G:α→Prop)(hf:eG P f=true)(hx:e.ev x=some (.func (.func f) fi.toArray ca.toArray))(ha:e.eY args=some vs)(hi:H[i]? =some p)(hd:d < N.n)
  (hc:∀w F,St w0 R H w→p.sat F w→(∀b,F b→b < w.heap.size)→(∀q∈R,q.Le ⟨w,fun b=>b < w.heap.size∧¬F b⟩)→Calls P f (fi++vs++ca).toArray w fun y w'=>∃a,y=.returned (v a)∧G a∧∃F',(q a).sat F' w'∧aV w w' F F')
  (k:∀a,G a→XK N w0 (wpList P ops Q rest) ((d,v a)::e) R (H.set i (q a))):XK N w0 (wpList P ops Q (⟨some d,.call {callee:=.value x,args:=args.toArray,argTypes:=tys},ty,pos,aF,none⟩::rest)) e R H:=fun a w hr st=>wpList_plain rfl fun K hK=>by
 unfold eG at hf
 cases hq:P.funcs[f]? with
 | none=>simp[hq] at hf
 | some fn =>
  simp[hq] at hf
  obtain⟨fJ,jZ⟩:=hf
  have hrun:(execOp a.eval (⟨some d,.call {callee:=.value x,args:=args.toArray,argTypes:=tys},ty,pos,aF,none⟩:Oper)).run P w=.ok (.enter f (fi++vs++ca).toArray) w:=by
   cases hb:fn.body with
   | none=>simp[hb] at jZ
   | some c=>simp[execOp,resolve,hr.ev hx,Deferred.ofValue,invoke,callFunc,hq,fJ,hb,hr.eY ha]
  obtain⟨F,hp,hlt,hle,lA⟩:=st.chunk hi
  unfold Oper.wp
  rw[hrun]
  refine(hc w F st hp hlt hle).mono fun y w' hy=>?_
  obtain⟨a',rfl,hG,F',hs,ht⟩:=hy
  exact hK _ _ (k a' hG _ _ (hr.put hd (v a')) (lA w' F' (q a') hs ht))
end
end
section
set_option maxHeartbeats 4000000
set_option maxRecDepth 20000
section
variable{P:Program}{N:bO}{w0:World}{e:Env}{R:List Piece}{H:List HP}{d:Nat}{ty:TypeId}{pos:String}{aF:Array Edge}
def aEB(P:Program)(t:TypeId):Bool:=match P.underlying t with
 | some (.func ..)=>true
 | _=>false
theorem aHI(w:World)(n:Nat)(t:TypeId){f1 f2:Array TypeId}{f3:Bool}(hu:P.underlying t=some (.func f1 f2 f3)):(Op.equalIn (n+1) t .nilFunc .nilFunc).run P w=.ok true w:=by simp[Op.equalIn,run_underlying hu]
theorem aHK(w:World)(n:Nat)(t:TypeId){f1 f2:Array TypeId}{f3:Bool}(f:Fn)(fi ca:Array Value)(hu:P.underlying t=some (.func f1 f2 f3)):(Op.equalIn (n+1) t (.func f fi ca) .nilFunc).run P w=.ok false w:=by simp[Op.equalIn,run_underlying hu]
theorem aFk{x:Operand}{t u:TypeId}{v:Value}{b:Bool}(hx:e.ev x=some v)(hv:(v=.nilFunc∧b=true)∨(∃f a c,v=.func f a c)∧b=false)(ht:aEB P t=true:=by kernel_rfl):aZ P N w0 e R H ⟨some d,.binOp .eql t x (.const .nilFunc) u,ty,pos,aF,none⟩ (.bool b):=fW fun a w hr=>by
 have h2:=hr.ev (show e.ev (.const .nilFunc)=some .nilFunc from rfl)
 unfold aEB at ht
 split at ht
 ·rename_i f1 f2 f3 hu
  rcases hv with⟨rfl,rfl⟩ | ⟨⟨f,fi,ca,rfl⟩,rfl⟩
  ·have h4:(Op.equal t .nilFunc .nilFunc).run P w=.ok true w:=aHI w 9999 t hu
   simp[execOp,hr.ev hx,h2,eqGuard,binOp,h4]
  ·have h4:(Op.equal t (.func f fi ca) .nilFunc).run P w=.ok false w:=aHK w 9999 t f fi ca hu
   simp[execOp,hr.ev hx,h2,eqGuard,binOp,h4]
 ·cases ht
end
def De(k:Int):Value:=if k=115 then .func (.func 113) #[] #[] else if k=114 then .func (.func 114) #[] #[] else if k=108∨k=110 then .func (.func 115) #[] #[] else .nilFunc
theorem aLo(k:Int)(w:World):Calls Tryz.prog 60 #[.int .u8 k] w (Rt (De k) w):=by
 refine XK.en Tryz.func60 Tryz.ntmps60 ?_
 refine XK.go ?_
 refine XK.if_ rfl (fun h1=>?_) (fun h1=>?_)
 ·refine XK.go ?_
  exact XK.rE (by rw[De,if_pos h1])
 refine XK.go ?_
 refine XK.if_ rfl (fun h2=>?_) (fun h2=>?_)
 ·refine XK.go ?_
  exact XK.rE (by rw[De,if_neg h1,if_pos h2])
 refine XK.go ?_
 refine XK.if_ rfl (fun h3=>?_) (fun h3=>?_)
 ·refine XK.go ?_
  refine XK.if_ rfl (fun _=>?_) (fun h=>absurd h3 h)
  refine XK.go ?_
  exact XK.rE (by rw[De,if_neg h1,if_neg h2,if_pos (.inl h3)])
 ·refine XK.go ?_
  refine XK.if_ rfl (fun h4=>?_) (fun h4=>?_)
  ·refine XK.go ?_
   exact XK.rE (by rw[De,if_neg h1,if_neg h2,if_pos (.inr h4)])
  ·refine XK.go ?_
   exact XK.rE (by rw[De,if_neg h1,if_neg h2,if_neg (by omega)])
theorem aNo{k:Int}(hk:k=115∨k=114∨k=108∨k=110):∃f:FuncId,De k=.func (.func f) #[] #[]∧eG Tryz.prog f=true∧∀(L:FL) (d:bK) (x:dB) (hrl:d.aI.length≤100) (hok:vJ d x) (w:World) (F:Nat→Prop) (hp:(eP L d x).sat F w) (hF:∀b,F b→b < w.heap.size),
  Calls Tryz.prog f #[.pointer (some ⟨L.f,0,none⟩)] w (fun y w'=>y=.returned (.tuple #[])∧∃F',(eP L d (Df k d x)).sat F' w'∧aV w w' F F'):=by
 rcases hk with rfl | rfl | rfl | rfl
 ·exact⟨_,rfl,(by kernel_rfl),aIx⟩
 ·exact⟨_,rfl,(by kernel_rfl),aIy⟩
 ·exact⟨_,rfl,(by kernel_rfl),Vo⟩
 ·exact⟨_,rfl,(by kernel_rfl),Vo⟩
theorem aOi(L:BL)(ms:List Int)(ws:List (Option gK))(aQ:Int)(i:Nat)(hi:i < ms.length)(h0:nE ws i=0)(w:World)(hR:Du w L ms ws aQ):
  Calls Tryz.prog 108 #[.pointer (some ⟨L.b,0,none⟩),iv (i:Int)] w (Rt (.tuple #[.agg #[iv 0,.bool false,iv 0,.int .u32 0],.bool false]) w):=by
 have k1:=hR.r0.at_ (j:=1) rfl
 obtain⟨A,c,k2⟩:=hR.wt i hi
 rw[h0] at k2
 have hin:bE ms.length (i:Int)=true:=decide_eq_true (by omega)
 refine XK.en Tryz.func108 Tryz.ntmps108 ?_
 refine XK.go ?_
 refine bB fun g1=>?_
 refine XK.go ?_
 refine aJ (fun w1 t=>Ys L ms ws aQ i w1 (hR.below (t.below (by simp)))) ?_
 rw[hin]
 refine XK.gw ?_
 exact XK.wA (vs:=[iv 0,.bool false,iv 0,.int .u32 0]) rfl (by kernel_rfl) rfl rfl (aH.whole 0 rfl) rfl fun w1 t=>⟨rfl,t.below (by simp)⟩
theorem aLr(L:HL)(s:aA)(x:aO)(i:Nat)(hi:i < s.aC.length)(h0:nE x.wt i=0)(w:World)(hR:qZ w L s x):
  Calls Tryz.prog 55 #[.pointer (some ⟨L.h,0,none⟩),iv (i:Int)] w (Rt (.tuple #[.agg #[iv 0,iv 0,.bool false,.int .u32 0],.bool false]) w):=by
 have k3:=hR.r0.at_ (j:=3) rfl
 refine XK.en Tryz.func55 Tryz.ntmps55 ?_
 refine XK.go ?_
 refine bB fun g1=>?_
 refine XK.go ?_
 refine aJ (fun w1 t=>aOi L.B (iF s) x.wt x.aQ i (by rw[Ca];exact hi) h0 w1 (hR.Yt.below (t.below (by simp)))) ?_
 refine XK.go ?_
 refine bB fun g2=>?_
 refine XK.gw ?_
 exact XK.wA (vs:=[iv 0,iv 0,.bool false,.int .u32 0]) rfl (by kernel_rfl) rfl rfl (aH.whole 1 rfl) rfl fun w1 t=>⟨rfl,t.below (by simp)⟩
end
section
set_option maxHeartbeats 4000000
set_option maxRecDepth 20000
section
variable{P:Program}{ops:Array Oper}{Q:Exit→Act→World→Prop}{N:bO}{w0:World}{e e':Env}{R R':List Piece}{H H':List HP}{rest:List Oper}{d:Nat}{ty:TypeId}{pos:String}{aF:Array Edge}
def isIface(P:Program)(t:TypeId):Bool:=match P.underlying t with
 | some (.interface _)=>true
 | _=>false
def aD9(P:Program)(t:TypeId):Bool:=match P.underlying t with
 | some (.interface _)=>false
 | some _=>true
 | none=>false
theorem Ng{x:Operand}{t:TypeId}{v:Value}(hx:e.ev x=some v)(ht:aD9 P t=true:=by kernel_rfl):aZ P N w0 e R H ⟨some d,.makeInterface t x,ty,pos,aF,none⟩ (.iface t v):=fW fun a w hr=>by
 unfold aD9 at ht
 cases hu:P.underlying t with
 | none=>rw[hu] at ht;cases ht
 | some u=>cases u<;>first | (rw[hu] at ht;cases ht;done) | simp[execOp,hr.ev hx,Instr.makeInterface,run_underlying hu]
theorem aHJ(w:World)(n:Nat)(t:TypeId){f:Array (String×TypeId)}(hu:P.underlying t=some (.interface f)):(Op.equalIn (n+1) t .nilIface .nilIface).run P w=.ok true w:=by simp[Op.equalIn,run_underlying hu]
theorem aHG(w:World)(n:Nat)(t:TypeId){f:Array (String×TypeId)}(u:TypeId)(v:Value)(hu:P.underlying t=some (.interface f)):(Op.equalIn (n+1) t (.iface u v) .nilIface).run P w=.ok false w:=by simp[Op.equalIn,run_underlying hu]
theorem aFi{x:Operand}{t u:TypeId}{v:Value}{b:Bool}(hx:e.ev x=some v)(hv:(v=.nilIface∧b=true)∨(∃u y,v=.iface u y)∧b=false)(ht:isIface P t=true:=by kernel_rfl):aZ P N w0 e R H ⟨some d,.binOp .eql t x (.const .nilIface) u,ty,pos,aF,none⟩ (.bool b):=fW fun a w hr=>by
 have h2:=hr.ev (show e.ev (.const .nilIface)=some .nilIface from rfl)
 unfold isIface at ht
 split at ht
 ·rename_i f1 hu
  rcases hv with⟨rfl,rfl⟩ | ⟨⟨u,y,rfl⟩,rfl⟩
  ·have h4:(Op.equal t .nilIface .nilIface).run P w=.ok true w:=aHJ w 9999 t hu
   simp[execOp,hr.ev hx,h2,eqGuard,binOp,h4]
  ·have h4:(Op.equal t (.iface u y) .nilIface).run P w=.ok false w:=aHG w 9999 t u y hu
   simp[execOp,hr.ev hx,h2,eqGuard,binOp,h4]
 ·cases ht
theorem aCz(i:Nat){dst:Option Nat}{e':Env}{f:FuncId}{x:Operand}{name:String}{args:List Operand}{vs:List Value}{tys:Array TypeId}{tx:TypeId}{u u':Value}{p:HP}{v:Value}(q:HP)(hf:eG P f=true)(hx:e.ev x=some (.iface tx u))(hm:∀w,(method (P.types.size+Made.depth) tx u name).run P w=.ok (f,u') w)(ha:e.eY args=some vs)(hi:H[i]? =some p)
  (hd:match dst with | some d=>d < N.n∧e'=(d,v)::e | none=>e'=e)
  (hc:∀w F,St w0 R H w→p.sat F w→(∀b,F b→b < w.heap.size)→(∀q∈R,q.Le ⟨w,fun b=>b < w.heap.size∧¬F b⟩)→Calls P f (u'::vs).toArray w fun y w'=>y=.returned v∧∃F',q.sat F' w'∧aV w w' F F')
  (k:XK N w0 (wpList P ops Q rest) e' R (H.set i q)):XK N w0 (wpList P ops Q (⟨dst,.call {callee:=.invoke x name,args:=args.toArray,argTypes:=tys},ty,pos,aF,none⟩::rest)) e R H:=fun a w hr st=>wpList_plain rfl fun K hK=>by
 unfold eG at hf
 cases hq:P.funcs[f]? with
 | none=>simp[hq] at hf
 | some fn =>
  simp[hq] at hf
  obtain⟨fJ,jZ⟩:=hf
  have hrun:(execOp a.eval (⟨dst,.call {callee:=.invoke x name,args:=args.toArray,argTypes:=tys},ty,pos,aF,none⟩:Oper)).run P w=.ok (.enter f (u'::vs).toArray) w:=by
   cases hb:fn.body with
   | none=>simp[hb] at jZ
   | some c=>
    have h0:(#[Value.iface tx u]++(args.toArray.map a.eval))[0]? =some (.iface tx u):=by simp[Array.getElem?_append]
    simp[execOp,resolve,hr.ev hx,invoke,callMethod,hm,callFunc,hq,fJ,hb,hr.eY ha]
  obtain⟨Z,F,hz,bM,hs,cE,eA⟩:=st.ex
  unfold Oper.wp
  rw[hrun]
  refine(hc w (F i) st (hs i p hi) (fun b hb=>(cE i b hb).2) (fun q hq b hb=>⟨⟨hz b (bM q hq b hb).1,fun mN=>(cE i b mN).1 (bM q hq b hb).1⟩,(bM q hq b hb).2⟩)).mono fun y w' ⟨hy,F',jN,ht⟩=>?_
  subst hy
  have st':St w0 R (H.set i q) w':=by
   have hlt:i < H.length:=by
    rcases Nat.lt_or_ge i H.length with h | h
    ·exact h
    ·rw[List.getElem?_eq_none h] at hi;cases hi
   refine⟨ht.os.trans st.os,ht.tape.trans st.tape,ht.output.trans st.output,Nat.le_trans st.size ht.size,Z,fun j=>if j=i then F' else F j,fun b h=>Nat.lt_of_lt_of_le (hz b h) ht.size,fun p hp b h=>?_,fun j r hj=>?_,fun j b h=>?_,fun j k b iT h=>?_⟩
   ·exact⟨(bM p hp b h).1,(ht.old b (hz b (bM p hp b h).1) (fun mN=>(cE i b mN).1 (bM p hp b h).1)).trans (bM p hp b h).2⟩
   ·rw[List.getElem?_set] at hj
    split at hj
    ·rename_i e;subst e
     first | (rw[if_pos hlt] at hj;cases hj) | cases hj
     simpa using jN
    ·rename_i e
     simp only[if_neg (Ne.symm e)]
     exact r.loc _ _ _ (hs j r hj) (fun b hb=>ht.old b (cE j b hb).2 (eA j i b (Ne.symm e) hb))
   ·dsimp only at h
    split at h
    ·refine⟨fun fC=>?_,(ht.new b h).2⟩
     rcases(ht.new b h).1 with h | h
     ·exact(cE i b h).1 fC
     ·have:=hz b fC;omega
    ·exact⟨(cE j b h).1,Nat.lt_of_lt_of_le (cE j b h).2 ht.size⟩
   ·dsimp only at h⊢
    split at h<;>split
    ·rename_i h1 h2;omega
    ·rename_i e1 e2
     intro hk
     rcases(ht.new b h).1 with h | h
     ·exact eA i k b (by omega) h hk
     ·have:=(cE k b hk).2;omega
    ·rename_i e1 e2
     intro hk
     rcases(ht.new b hk).1 with hk | hk
     ·exact eA j i b (by omega) h hk
     ·have:=(cE j b h).2;omega
    ·exact eA j k b iT h
  cases dst with
  | none=>dsimp only at hd;subst hd;exact hK _ _ (k _ _ hr st')
  | some d=>dsimp only at hd;obtain⟨hd,rfl⟩:=hd;exact hK _ _ (k _ _ (hr.put hd v) st')
end
end
section
set_option maxHeartbeats 4000000
set_option maxRecDepth 20000
open Go.RowKit Go.Shelf
attribute [local go_sem] Oper.semAt_some
def nF(zs:List Int):List Value:=zs.map (Value.int .u32)
end
section
set_option maxHeartbeats 4000000
set_option maxRecDepth 20000
section
variable{P:Program}{N:bO}{w0:World}{e:Env}{R:List Piece}{H:List HP}{Q:Exit→Act→World→Prop}{ops:Array Oper}{rest:List Oper}
variable{d:Nat}{ty:TypeId}{pos:String}{aF:Array Edge}
end
def gY(l:List (Int×Int))(k:Int):Int:=((l.find? fun p=>decide (p.1=k)).map (·.2)).getD 0
def xR:List (Int×Int)→Int→Int→List (Int×Int)
 | [],k,v=>[(k,v)]
 | (a,b)::r,k,v=>if a=k then(k,v)::r else(a,b)::xR r k v
def tH(l:List (Int×Int)):List (Int×Value):=l.map fun p=>(p.1,iv p.2)
theorem aDK:∀(l:List (Int×Int)) (k:Int),(kK (tH l) k).getD (iv 0)=iv (gY l k)
 | [],k=>rfl
 | (a, b) :: l, k => by
  have ih:=aDK l k
  show(kK ((a,iv b)::tH l) k).getD _=_
  rw[Lf]
  unfold gY
  rw[List.find?_cons]
  by_cases h:a=k
  ·simp[h]
  ·simp only[h,if_false,decide_false,Bool.false_eq_true]
   exact ih
theorem aDG:∀(l:List (Int×Int)) (k v:Int),lT (tH l) k (iv v)=tH (xR l k v)
 | [],k,v=>rfl
 | (a,b)::l,k,v=>by
  show lT ((a,iv b)::tH l) k _=tH (if a=k then _ else _)
  unfold lT
  by_cases h:a=k
  ·rw[if_pos h,if_pos h];rfl
  ·rw[if_neg h,if_neg h,aDG l k v];rfl
end
end Go.Proofs.YtdcdccmpcmjmhaaGreatDoor
