/- package hard: Assert; package firm: what is done for the act that asserts. -/
import Derived.KernelRfl
import Derived.Test.YtdcdccmpcmjmhaaGreatDoorProg
import Derived.Test.YtdcdccmpcmjmhaaGreatDoorRpmOneK6
namespace Go.Proofs.YtdcdccmpcmjmhaaGreatDoor
set_option linter.all false
open Go.RowKit
section
set_option maxHeartbeats 4000000
set_option maxRecDepth 20000
def Gc(s:aA)(i:Int)(k:Nat)(p:dB×eJ):dB×eJ:=match s.aC[k]? with
 | some d=>if d.reset=i then(Bf d p.1,p.2) else p
 | none=>p
def Di(s:aA)(dv:List (dB×eJ))(i:Int)(n:Nat):List (dB×eJ):=dv.mapIdx fun k p=>if k < n then Gc s i k p else p
def Gg(s:aA)(x:aO)(i:Int):aO:=if bE x.ln.length i then {x with ln:=(pQ s x.ln i).2,dv:=Di s x.dv i s.aC.length} else x
theorem aFE{s:aA}{st:List iK}(hH:s.cI)(h:Bl s st)(i:Int):Bl s (pQ s st i).2:=by
 unfold pQ
 split
 ·exact h
 ·refine⟨by simp[h.len],fun y hy=>?_⟩
  rcases List.mem_or_eq_of_mem_set hy with hy | rfl
  ·exact h.left y hy
  ·cases hq:s.aL[i.toNat]? with
   | none=>simp
   | some r=>
    have:=hH.aL r (List.mem_of_getElem? hq)
    simpa using this
theorem aNF{d:bK}{f:dB}(hr:∀r∈d.aI,0≤r.reset∧r.reset≤6)(h:vJ d f):vJ d (Bf d f):=aFm 108 hr h
theorem aFr{s:aA}{x:aO}(hH:s.cI)(hok:bR s x)(i:Int)(n:Nat):bR s {x with dv:=Di s x.dv i n}:=Qh hH hok (by simp[Di]) fun k d p hd hp=>by
 rw[Di,List.getElem?_mapIdx] at hp
 cases hq:x.dv[k]? with
 | none=>rw[hq] at hp;cases hp
 | some q =>
  rw[hq] at hp
  obtain⟨h1,h2⟩:=hok.each k d q hd hq
  simp only[Option.map_some,Option.some.injEq] at hp
  subst hp
  split
  ·unfold Gc
   rw[hd]
   dsimp only
   split
   ·exact⟨aNF (hH.t.aC k d hd).2.2.2.2.2.2.2.2.2.1 h1,h2⟩
   ·exact⟨h1,h2⟩
  ·exact⟨h1,h2⟩
theorem aOp{s:aA}{x:aO}(hH:s.cI)(hok:bR s x)(i:Int):bR s (Gg s x i):=by
 unfold Gg
 split
 ·have h:=aFr hH hok i s.aC.length
  exact⟨hok.ck,hok.dm,aFE hH hok.ln i,h.dv,h.each,hok.wt⟩
 ·exact hok
section
variable(L:HL)(s:aA)(x:aO)(w:World)
theorem aLp(hH:s.cI)(aM:fF L s)(hok:bR s x)(i:Int)(F:Nat→Prop)(hp:(cP L s x).sat F w)(hF:∀b,F b→b < w.heap.size):
  Calls Tryz.prog 183 #[.pointer (some ⟨L.h,0,none⟩),iv i] w (fun y w'=>y=.returned (iv (pQ s x.ln i).1)∧∃F',(cP L s (Gg s x i)).sat F' w'∧aV w w' F F'):=by
 have lD:=hH.t.nv
 have hls:=aM.ds
 refine XK.bY Tryz.func183 Tryz.ntmps183 hp hF ?_
 generalize bN:(⟨w,fun b=>b < w.heap.size∧¬F b⟩:Piece)=R0
 refine XK.go ?_
 refine aJ (fun w1 t=>yJ L s x w1 (t.kB 0 rfl aM hok)) ?_
 refine XK.go ?_
 refine kd (aX rfl (Rd.hard 0 rfl rfl)) ?_
 refine XK.go ?_
 refine XK.tk 0 3 ?_
 refine cX 0 (lP L.R s (pQ s x.ln i).2) (fun w1 F1 t h1 h2 h3=>aHP L.R s x.ln hok.ln i w1 F1 h1 h2) ?_
 dsimp only[List.set]
 refine XK.gv 0 3 ?_
 unfold Gg
 cases hin:bE x.ln.length i
 ·have e:pQ s x.ln i=(4,x.ln):=by
   unfold pQ
   rw[if_pos hin]
  rw[e]
  refine XK.go ?_
  subst bN
  exact XK.rT 0 hF
 ·have e1:(pQ s x.ln i).1=0:=by
   unfold pQ
   rw[if_neg (by simp[hin])]
  rw[e1,if_pos rfl]
  have iO:bR s {x with ln:=(pQ s x.ln i).2}:=⟨hok.ck,hok.dm,aFE hH hok.ln i,hok.dv,hok.each,hok.wt⟩
  generalize Cp:(pQ s x.ln i).2=ln2 at iO⊢
  change XK _ _ _ _ _ [cP L s {x with ln:=ln2}]
  have kA:=hok.dv
  refine XK.go ?_
  refine kd (aX rfl (Rd.hard 0 rfl rfl)) ?_
  refine XK.go ?_
  have hm0:Di s x.dv i 0=x.dv:=Li _ _
  refine XK.aT [(25,iv 0),(24,iv s.aC.length),(23,.slice L.A s.aC.length L.c),(1,iv i)] ?_
  refine XK.loop (fun m e R H=>∃k:Nat,k≤s.aC.length∧m=s.aC.length - k∧e=[(25,iv k),(24,iv s.aC.length),(23,.slice L.A s.aC.length L.c),(1,iv i)]∧R=[R0]∧H=[cP L s {x with ln:=ln2,dv:=Di s x.dv i k}]) s.aC.length ⟨0,by omega,rfl,rfl,rfl,by rw[hm0]⟩ fun m e R H hI=>?_
  obtain⟨k,hk,rfl,rfl,rfl,rfl⟩:=hI
  have lC:=aFr hH iO i k
  dsimp only at lC
  refine XK.go ?_
  refine XK.if_ rfl (fun hlt=>?_) (fun hge=>?_)
  ·have hlt:k < s.aC.length:=by omega
   obtain⟨d,cF⟩:=get_some hlt
   obtain⟨l,gA⟩:=get_some (l:=L.ds) (i:=k) (by omega)
   obtain⟨p,fI⟩:=get_some (l:=x.dv) (i:=k) (by omega)
   have jC:(Di s x.dv i k)[k]? =some p:=Ll fI
   have hstep:(Di s x.dv i k).set k (Gc s i k p)=Di s x.dv i (k+1):=Lj (f:=Gc s i) fI
   have hfo:=(lC.each k d p cF jC).1
   refine XK.rows 0 rfl aM lC (by omega) fun b off hA=>?_
   refine XK.go ?_
   refine kd (dat k (off+k*6) (hx:=by rw[←hA];rfl)) ?_
   refine kd (mE rfl (aH.dev 0 rfl aM lC hA cF gA rfl)) ?_
   refine bB fun g2=>?_
   refine XK.go ?_
   refine XK.if_ rfl (fun he=>?_) (fun he=>?_)
   ·have kO:Gc s i k p=(Bf d p.1,p.2):=by
     unfold Gc
     rw[cF]
     exact if_pos he
    refine XK.go ?_
    refine XK.Kz 1 k rfl cF gA jC ?_
    dsimp only[List.set]
    refine XK.tk 0 0 ?_
    refine cX 0 (eP l.1 d (Bf d p.1)) (fun w1 F1 t h1 h2 h3=>Vo l.1 d p.1 (by have:=(hH.t.aC k d cF).2.2.2.2.2.2.2.2.1;omega) hfo w1 F1 h1 h2) ?_
    dsimp only[List.set]
    refine XK.gv 0 0 ?_
    refine XK.Nn 1 k rfl cF gA jC (p':=(Bf d p.1,p.2)) ?_
    dsimp only[List.set]
    rw[←kO,hstep]
    refine XK.go ?_
    refine XK.weak [1] rfl (by decide) (fun _ h=>h) ?_
    exact XK.rd (s.aC.length - (k+1)) ⟨k+1,hlt,rfl,rfl,rfl,rfl⟩
   ·have kO:Gc s i k p=p:=by
     unfold Gc
     rw[cF]
     exact if_neg he
    rw[kO,uH jC] at hstep
    rw[hstep]
    refine XK.go ?_
    refine XK.weak [1] rfl (by decide) (fun _ h=>h) ?_
    exact XK.rd (s.aC.length - (k+1)) ⟨k+1,hlt,rfl,rfl,rfl,rfl⟩
  obtain rfl:k=s.aC.length:=by omega
  refine XK.go ?_
  subst bN
  exact XK.rT 0 hF
end
theorem aMf(f:Nat)(hL:HL)(s:aA)(z:bP)(x:aO)(w:World)(hH:s.cI)(aM:fF hL s)(hok:bR s x)(c:Int)(F:Nat→Prop)(hp:(dU f hL s z x).sat F w)(hF:∀b,F b→b < w.heap.size):
  Calls Tryz.prog 105 #[pt f,iv c] w (fun y w'=>y=.returned (.bool true)∧∃F',(dU f hL s z (Gg s x c)).sat F' w'∧aV w w' F F'):=by
 refine XK.bY Tryz.func105 Tryz.ntmps105 hp hF ?_
 generalize bN:(⟨w,fun b=>b < w.heap.size∧¬F b⟩:Piece)=R0
 refine XK.tk 0 0 ?_
 refine XK.ox 0 fun L=>?_
 refine XK.tk 1 1 ?_
 refine XK.go ?_
 refine kd (aX rfl (Rd.fL 1 rfl rfl)) ?_
 refine XK.go ?_
 refine cX 0 (cP hL s (Gg s x c)) (fun w1 F1 t h1 h2 h3=>aLp hL s x w1 hH aM hok c F1 h1 h2) ?_
 dsimp only[List.set]
 refine XK.go ?_
 refine XK.gv 1 1 ?_
 refine XK.te 0 (fun L:fS=>fT f hL.h L s z) L ?_
 refine XK.gv 0 0 ?_
 subst bN
 exact XK.rT 0 hF
end
section
set_option maxHeartbeats 4000000
set_option maxRecDepth 20000
def Gj(s:aA)(x:aO)(k id:Int):aO×Bool:=if k=117 then Ky s x id else if k=99 then Tu s x id.toNat else if k=114 then Ku x id else if k=100∨k=107 then Hl s x id (decide (k=107)) else if k=111 then({x with ck:=(jY s x.ck id false).2},true) else if k=97 then(Gg s x id,true) else(x,false)
structure Kb(s:aA)(k id:Int):Prop where
 kd:k=117∨k=99∨k=114∨k=100∨k=107∨k=111∨k=97
 c:k=99→0≤id∧id < (s.aD.length:Int)
theorem aIv{s:aA}{st:List iK}(h:Bl s st)(i:Int):Bl s (uI st i).2:=by
 unfold uI
 split
 ·exact h
 ·split
  ·rename_i x hx
   split
   ·exact h
   ·refine⟨by simp[h.len],fun y hy=>?_⟩
    rcases List.mem_or_eq_of_mem_set hy with hy | rfl
    ·exact h.left y hy
    ·exact h.left x (List.mem_of_getElem? hx)
  ·exact h
theorem aMF{s:aA}{st:List eZ}(h:rA s st)(d:Int)(keep:Bool):rA s (uZ s st d keep).2:=by
 unfold uZ
 split
 ·exact h
 ·split
  ·rename_i c y hc hy
   split
   ·exact h
   ·split
    ·exact h
    ·split
     ·exact h
     ·refine⟨by simp[h.len],fun z hz=>?_,fun z hz=>?_⟩
      ·rcases List.mem_or_eq_of_mem_set hz with hz | rfl
       ·exact h.left z hz
       ·exact h.left y (List.mem_of_getElem? hy)
      ·rcases List.mem_or_eq_of_mem_set hz with hz | rfl
       ·exact h.phase z hz
       ·exact⟨by show(0:Int)≤99;omega,by show(99:Int) < 256;omega⟩
  ·exact h
theorem aJg{s:aA}{x:aO}(hH:s.cI)(hok:bR s x)(d:Int)(keep:Bool):bR s (Hl s x d keep).1:=by
 have h1:=aAY hH hok d s.aC.length
 unfold Hl
 split
 ·dsimp only
  split
  ·exact⟨hok.ck,aMF hok.dm _ _,hok.ln,h1.dv,h1.each,hok.wt⟩
  ·exact h1
 ·split
  ·exact hok
  ·exact hok
theorem aCa{s:aA}{x:aO}(hH:s.cI)(hok:bR s x)(k id:Int):bR s (Gj s x k id).1:=by
 unfold Gj
 split
 ·unfold Ky
  split
  ·exact⟨hok.ck,aGT hH hok.dm _,hok.ln,hok.dv,hok.each,hok.wt⟩
  ·split
   ·exact aDZ hH hok _ _
   ·exact hok
 ·split
  ·exact⟨aA7 hH hok.ck _ _,hok.dm,hok.ln,hok.dv,hok.each,hok.wt⟩
  ·split
   ·unfold Ku
    split
    ·exact⟨hok.ck,hok.dm,aIv hok.ln _,hok.dv,hok.each,hok.wt⟩
    ·exact hok
   ·split
    ·exact aJg hH hok _ _
    ·split
     ·exact⟨aA7 hH hok.ck _ _,hok.dm,hok.ln,hok.dv,hok.each,hok.wt⟩
     ·split
      ·exact aOp hH hok _
      ·exact hok
section
variable(f:Nat)(hL:HL)(s:aA)(z:bP)(x:aO)(w:World)
theorem aFO(hH:s.cI)(aM:fF hL s)(hok:bR s x)(hk:Kb s z.kind z.id):aCr f hL s z x (Gj s x z.kind z.id):=by
 have iO:=aCa hH hok z.kind z.id
 rcases hk.kd with h | h | h | h | h | h | h
 ·refine⟨_,by rw[h];rfl,(by kernel_rfl),iO,fun w F hp hF eB=>?_⟩
  rw[h]
  exact aLZ f hL s z x w hH aM hok z.id F hp hF eB
 ·refine⟨_,by rw[h];rfl,(by kernel_rfl),iO,fun w F hp hF eB=>?_⟩
  obtain⟨h0,h1⟩:=hk.c h
  obtain⟨c,hc⟩:∃c:Nat,z.id=c:=⟨z.id.toNat,by omega⟩
  rw[h,hc]
  exact aMc f hL s z x w hH aM hok c (by omega) F hp hF
 ·refine⟨_,by rw[h];rfl,(by kernel_rfl),iO,fun w F hp hF eB=>?_⟩
  rw[h]
  exact aLY f hL s z x w hH aM hok z.id F hp hF
 ·refine⟨_,by rw[h];rfl,(by kernel_rfl),iO,fun w F hp hF eB=>?_⟩
  have:=aEI f hL s z x w hH aM hok z.id F hp hF eB
  rw[h] at this⊢
  exact this
 ·refine⟨_,by rw[h];rfl,(by kernel_rfl),iO,fun w F hp hF eB=>?_⟩
  have:=aEI f hL s z x w hH aM hok z.id F hp hF eB
  rw[h] at this⊢
  exact this
 ·refine⟨_,by rw[h];rfl,(by kernel_rfl),iO,fun w F hp hF eB=>?_⟩
  rw[h]
  exact aMd f hL s z x w hH aM hok z.id F hp hF
 ·refine⟨_,by rw[h];rfl,(by kernel_rfl),iO,fun w F hp hF eB=>?_⟩
  rw[h]
  exact aMf f hL s z x w hH aM hok z.id F hp hF
theorem aLN(z0:bP)(hH:s.cI)(aM:fF hL s)(hok:bR s x)(hz:Dt s z0)(eX:z0.at_ < 0)(oF:lR s x z0=(z,true))(hst:∀a,qH z0=some a→(fN s x z0 a).2.1=0→(fN s x z0 a).1=0→qX (gP z0 a))(a:Nat)(ha:z.at_=(a:Int))(yO:a < 2)(r:aO×Bool)(hact:aCr f hL s z x r)(zZ:qX (gP z a))(F:Nat→Prop)(hp:(dU f hL s z0 x).sat F w)(hF:∀b,F b→b < w.heap.size)(eB:iZ ⟨w,fun b=>b < w.heap.size∧¬F b⟩):
  Calls Tryz.prog 20 #[pt f] w (fun y w'=>y=.returned (.tuple #[])∧∃F',(dU f hL s (Cz s z r) r.1).sat F' w'∧aV w w' F F'):=by
 obtain⟨fn,cY,hcb,Rf,wM⟩:=hact
 refine XK.Ss (vs:=[pt f]) (p:=dU f hL s z0 x) Tryz.func20 rfl Tryz.ntmps20 (by simp) hp hF ?_
 generalize bN:(⟨w,fun b=>b < w.heap.size∧¬F b⟩:Piece)=R0 at eB⊢
 refine XK.go ?_
 refine Ol (f:=49) (fi:=[]) (ca:=[]) rfl ?_
 refine XK.go ?_
 refine kd (aX rfl (Rd.Cc 0 rfl fun _=>rfl)) ?_
 refine XK.go ?_
 refine aW (t:=8) rfl (fun _=>?_) (fun h=>absurd eX h)
 refine XK.go ?_
 refine cX 0 (dU f hL s z x) (fun w1 F1 t h1 h2 h3=>by
  have:=aEG f hL s z0 x hH aM hok hz hst w1 F1 h1 h2
  rw[oF] at this
  exact this) ?_
 dsimp only[List.set]
 refine XK.go ?_
 refine XK.eU [1,2,3,4,8,9,10,11] ?_
 refine XB.mv 0 ?_ (hQ:=fun _ _ _ h=>jX rfl h)
 refine XB.mv 6 ?_ (hQ:=fun _ _ _ h=>jX rfl h)
 refine XB.mv 7 ?_ (hQ:=fun _ _ _ h=>jX rfl h)
 refine XB.q 1 ?_ (hQ:=fun _ _ _ h=>jX rfl h)
 refine XB.q 2 ?_ (hQ:=fun _ _ _ h=>jX rfl h)
 refine XB.q 3 ?_ (hQ:=fun _ _ _ h=>jX rfl h)
 refine XB.q 4 ?_ (hQ:=fun _ _ _ h=>jX rfl h) (cY:=aX rfl (Rd.Cc 0 rfl fun _=>rfl))
 refine XB.q 8 ?_ (hQ:=fun _ _ _ h=>jX rfl h)
 refine XB.q 9 ?_ (hQ:=fun _ _ _ h=>jX rfl h)
 refine XB.q 10 ?_ (hQ:=fun _ _ _ h=>jX rfl h)
 refine XB.q 11 ?_ (hQ:=fun _ _ _ h=>jX rfl h) (cY:=aX rfl (Rd.Cc 0 rfl fun _=>rfl))
 refine XB.next 5 rfl (by kernel_rfl) ?_
 refine aJ (fun w1 t=>aFc z.kind w1) ?_
 rw[cY]
 refine XB.bk ?_
 refine XB.next 12 rfl (by kernel_rfl) ?_
 refine Wk 0 (fi:=[]) (ca:=[]) (dU f hL s z r.1) (fun w1 F1 t h1 h2 h3=>by simpa using wM w1 F1 h1 h2 (iZ.le eB (h3 _ (by simp)))) ?_ (hf:=hcb)
 dsimp only[List.set]
 refine XB.bt ?_
 refine XB.done (by kernel_rfl) ?_
 refine XK.go ?_
 obtain⟨x',b⟩:=r
 dsimp only at Rf⊢
 cases b
 ·refine XK.go ?_
  subst bN
  exact XK.wE (.inr rfl) (by kernel_rfl) So rfl fun w1 t=>⟨rfl,t.turns hF (by simp) (i:=0) rfl⟩
 ·refine XK.go ?_
  refine kd (aX rfl (Rd.Cc 0 rfl fun _=>rfl)) ?_
  refine XK.go ?_
  refine XK.tk 0 0 ?_
  refine XK.ox 0 fun L=>?_
  refine XK.tk 0 0 ?_
  refine dL rfl rfl ?_ (hs:=dK.mk 0 rfl bL.h rfl (by simp[cN]))
  dsimp only[List.set]
  rw[show(cN hL.h L s z).set (0+16) (iv (-1))=cN hL.h L s {z with at_:= -1} from rfl]
  refine XK.gv 0 0 ?_
  refine XK.te 0 (fun L:fS=>fT f hL.h L s {z with at_:= -1}) L ?_
  refine XK.gv 0 0 ?_
  refine XK.go ?_
  rw[ha]
  refine cX 0 (dU f hL s (jM s x' {z with at_:= -1} a 0) x') (fun w1 F1 t h1 h2 h3=>aB2 f hL s {z with at_:= -1} x' hH aM Rf a yO 0 (fun _=>zZ) w1 F1 h1 h2) ?_
  dsimp only[List.set]
  refine XK.go ?_
  have hend:Cz s z (x',true)=jM s x' {z with at_:= -1} a 0:=by
   unfold Cz
   rw[if_pos rfl,ha]
   rfl
  rw[hend]
  subst bN
  exact XK.wE (.inr rfl) (by kernel_rfl) So rfl fun w1 t=>⟨rfl,t.turns hF (by simp) (i:=0) rfl⟩
def uC(s:aA)(x:aO)(z:bP):bP×aO:=
 let t:=lR s x z
 let z1:=if z.at_ < 0 then t.1 else z
 if z.at_ < 0∧t.2=false then(t.1,x) else(Cz s z1 (Gj s x z1.kind z1.id),(Gj s x z1.kind z1.id).1)
structure aFX(s:aA)(x:aO)(z:bP):Prop where
 hok:bR s x
 fm:Dt s z
 at_:z.at_ < 0∨(∃a:Nat,z.at_=(a:Int)∧a < 2∧Kb s z.kind z.id∧qX (gP z a))
 ask:z.at_ < 0→∀a,qH z=some a→(fN s x z a).2.1=0→(fN s x z a).1=0→qX (gP z a)
 new:z.at_ < 0→∀a,qH z=some a→(fN s x z a).2.1≠0→Kb s (fN s x z a).2.1 (fN s x z a).2.2∧qX (gP z a)
theorem aDB{z:bP}{a:Nat}(h:z.last=0∨z.last=1)(hn:qH z=some a):a < 2:=by
 unfold qH at hn
 split at hn
 ·cases hn;omega
 ·split at hn
  ·cases hn;omega
  ·cases hn
theorem aLO(hH:s.cI)(aM:fF hL s)(h:aFX s x z)(F:Nat→Prop)(hp:(dU f hL s z x).sat F w)(hF:∀b,F b→b < w.heap.size)(eB:iZ ⟨w,fun b=>b < w.heap.size∧¬F b⟩):
  Calls Tryz.prog 20 #[pt f] w (fun y w'=>y=.returned (.tuple #[])∧∃F',(dU f hL s (uC s x z).1 (uC s x z).2).sat F' w'∧aV w w' F F'):=by
 unfold uC
 dsimp only
 by_cases eX:z.at_ < 0
 ·cases oF:(lR s x z).2
  ·rw[if_pos ⟨eX,rfl⟩]
   exact aLQ f hL s z x hH aM h.hok h.fm (h.ask eX) eX oF w F hp hF
  ·rw[if_neg (by simp),if_pos eX]
   have jS:lR s x z=((lR s x z).1,true):=Prod.ext rfl oF
   have Sa:∃a,qH z=some a∧(fN s x z a).2.1≠0∧(lR s x z).1=(uB s x z a).1:=by
    unfold lR at oF⊢
    cases hn:qH z with
    | none=>rw[hn] at oF;cases oF
    | some a=>
     rw[hn] at oF
     refine⟨a,rfl,fun h0=>?_,rfl⟩
     unfold uB at oF
     dsimp only at oF
     rw[if_pos h0] at oF
     cases oF
   obtain⟨a,hn,hd,he⟩:=Sa
   have ha:=aDB h.fm.la hn
   obtain⟨hk,zZ⟩:=h.new eX a hn hd
   have e:(uB s x z a).1={z with last:=a,x:=cS z.x a (fN s x z a).2.1 (fN s x z a).2.2,y:=cR z.y a (fN s x z a).2.1 (fN s x z a).2.2,at_:=a,kind:=(fN s x z a).2.1,id:=(fN s x z a).2.2}:=by
    unfold uB
    dsimp only
    rw[if_neg hd]
   rw[e] at he
   have hb:gP (lR s x z).1 a=gP z a:=by rw[he];rfl
   have h1:(lR s x z).1.at_=(a:Int):=by rw[he]
   have h2:(lR s x z).1.kind=(fN s x z a).2.1:=by rw[he]
   have h3:(lR s x z).1.id=(fN s x z a).2.2:=by rw[he]
   exact aLN f hL s (lR s x z).1 x w z hH aM h.hok h.fm eX jS (h.ask eX) a h1 ha _ (aFO f hL s (lR s x z).1 x hH aM h.hok (by rw[h2,h3];exact hk)) (by rw[hb];exact zZ) F hp hF eB
 ·rw[if_neg (fun hh=>eX hh.1),if_neg eX]
  rcases h.at_ with h1 | ⟨a,ha,yO,hk,zZ⟩
  ·exact absurd h1 eX
  ·exact aLP f hL s z x w hH aM h.hok h.fm a ha yO _ (aFO f hL s z x hH aM h.hok hk) zZ F hp hF eB
end
end
section
set_option maxHeartbeats 4000000
set_option maxRecDepth 20000
theorem aHo(A:Option Addr)(n c:Nat)(l:List Int)(st:Int)(w:World)(hs:aE (all w) 1 A n (nF l))(hn:n=l.length)(h2:2≤n)(h1:l[1]? =some st):
  Calls Tryz.prog 96 #[.slice A n c] w (Rt (.tuple #[.int .i32 (IntKind.i32.wrap st),iv 0]) w):=by
 subst hn
 obtain⟨b,off,rfl,hr⟩:=aE.u32 hs (by omega)
 have k1:=hr 1 st h1
 refine XK.en Tryz.func96 Tryz.ntmps96 ?_
 refine XK.go ?_
 refine XK.if_ rfl (fun h=>absurd h (by omega)) (fun _=>?_)
 refine XK.go ?_
 refine kd (dat 1 (off+1)) ?_
 refine XK.go ?_
 refine kd (Ga (ds:=.int .u32) (kd:=.i32) (c:=IntKind.i32.wrap st) (by kernel_rfl) (by kernel_rfl) rfl rfl) ?_
 refine XK.go ?_
 exact XK.dG rfl rfl rfl fun w1 t=>⟨rfl,t.below (by simp)⟩
end
section
set_option maxHeartbeats 4000000
set_option maxRecDepth 20000
def aCe(g h f:Nat)(s:aA)(z:aU)(y:bP):HP:=HP.many [fE g h f s z,xG f h s y]
def tV(p:eH)(k:Int):List Int:=[(iR p.msg 0 p.pr k).1,p.id,p.v]
def Ed(a:List Int):Prop:=IntKind.i32.wrap (a.getD 1 0)=0∨IntKind.i32.wrap (a.getD 1 0)= -3
instance(a:List Int):Decidable (Ed a):=by unfold Ed;infer_instance
def pZ(z:aU)(a:List Int):aU:=if Ed a then {z with sent:=false,steps:=z.steps.tail} else {z with sent:=false}
theorem aCH{z:aU}{a:List Int}(h:Ed a):pZ z a={z with sent:=false,steps:=z.steps.tail}:=if_pos h
theorem aHf{z:aU}{a:List Int}(h:¬Ed a):pZ z a={z with sent:=false}:=if_neg h
def qS(z:aU)(y:bP)(j:Nat):aU×bP:=
 if z.sent=true then
  match nZ y 0 with
  | none=>(z,nY y 0)
  | some a=>(if(pZ z a).steps.length=0 then kC (pZ z a) j 0 0 else pZ z a,nY y 0)
 else
  match z.steps with
  | []=>(z,y)
  | p::_=>if(mS y 0 (tV p z.many)).1=0 then({z with sent:=true,many:=(z.many+1) % 1024},(mS y 0 (tV p z.many)).2) else(z,(mS y 0 (tV p z.many)).2)
theorem aDa{h f:Nat}{L:cK}{s:aA}{z:aU}{p:eH}{tl:List eH}{A:Option Addr}{c:Nat}(hst:z.steps=p::tl):(iQ h f L s z).set 50 (.slice A (z.steps.length - 1) c)=iQ h f {L with st:=(A,c)} s {z with steps:=z.steps.tail}:=by
 obtain⟨cn,wn,t0,t1,t2,cH,steps,sent,aQ,id,many⟩:=z
 dsimp only at hst
 subst hst
 rfl
theorem aE.aMD{p:Piece}{sz n k:Nat}{A A':Option Addr}{xs:List Value}(h:aE p sz A n xs)(hk:k≤n)(hA:k < n→∀b off,A=some ⟨b,off,none⟩→A'=some ⟨b,off+k*sz,none⟩):aE p sz A' (n - k) (xs.drop (k*sz)):=by
 refine⟨by rw[List.length_drop,h.1,Nat.sub_mul],fun h0=>?_⟩
 obtain⟨b,off,hA2,hz,hc⟩:=h.2 (by omega)
 refine⟨b,off+k*sz,hA (by omega) b off hA2,hz,fun j u hu=>?_⟩
 rw[List.getElem?_drop] at hu
 rw[Nat.add_assoc]
 exact hc _ u hu
theorem XK.eqB{N:bO}{w0:World}{e:Env}{R:List Piece}{H:List HP}{K:Act→World→Prop}(i:Nat){b:Nat}{t:TypeId}{cs cs':List Value}(hi:H[i]? =some (HP.aB b t cs))(he:cs=cs')(k:XK N w0 K e R (H.set i (HP.aB b t cs'))):XK N w0 K e R H:=by
 subst he
 obtain⟨hlt,hx⟩:=List.getElem?_eq_some_iff.1 hi
 rw[←hx,List.set_getElem_self hlt] at k
 exact k
def Dc(L:cK):cK:={L with st:=(if L.st.2=1 then L.st.1 else L.st.1.map (·.add (1*4)),L.st.2 - 1)}
theorem lO.tail{L:cK}{p:eH}{l tl:List eH}{q:Piece}(hl:l=p::tl)(h:lO L l q):lO (Dc L) l.tail q:=by
 subst hl
 obtain⟨h1,h2⟩:=h
 simp only[List.length_cons] at h2
 refine⟨h1.aMD (k:=1) (by simp) fun hlt b off hA=>?_,by simp only[List.tail_cons,Dc];omega⟩
 simp only[List.length_cons] at hlt
 unfold Dc
 dsimp only
 rw[if_neg (by omega),hA]
 rfl
section
variable(g h f:Nat)(s:aA)(z:aU)(y:bP)(w:World)(F:Nat→Prop)
theorem aIg(j:Nat)(hh:z.cH=(j:Int))(hj:T3 j)(hne:z.steps≠[])(hmy:0≤z.many∧z.many < 1024)(hpk:∀p∈z.steps,(iR p.msg 0 p.pr z.many).2=0)(hra:∀a,nZ y 0=some a→2≤a.length)(hp:(aCe g h f s z y).sat F w)(hF:∀b,F b→b < w.heap.size):
  Calls Tryz.prog 48 #[pt g] w (fun v w'=>v=.returned (.tuple #[])∧∃F',(aCe g h f s (qS z y j).1 (qS z y j).2).sat F' w'∧aV w w' F F'):=by
 obtain⟨p,tl,hst⟩:=List.exists_cons_of_ne_nil hne
 have Ak:z.steps.length=tl.length+1:=by rw[hst];rfl
 refine XK.bY Tryz.func48 Tryz.ntmps48 hp hF ?_
 generalize bN:(⟨w,fun b=>b < w.heap.size∧¬F b⟩:Piece)=R0
 refine XK.tk 0 0 ?_
 refine XK.ox 0 fun L=>?_
 refine XK.tk 0 0 ?_
 refine XK.tk 1 5 ?_
 refine XK.tk 3 1 ?_
 refine XK.go ?_
 cases Xd:z.sent
 ·have Sf:qS z y j=if(mS y 0 (tV p z.many)).1=0 then({z with sent:=true,many:=(z.many+1) % 1024},(mS y 0 (tV p z.many)).2) else(z,(mS y 0 (tV p z.many)).2):=by
   unfold qS
   rw[if_neg (by rw[Xd];simp),hst]
  rw[Sf]
  have aKQ:=hpk p (by rw[hst];simp)
  have hfm:z.steps.flatMap eH.cells=p.cells++tl.flatMap eH.cells:=by rw[hst];rfl
  refine XK.go ?_
  refine XK.aA2 (A:=L.st.1) (sz:=4) (n:=z.steps.length) (xs:=z.steps.flatMap eH.cells) 1 rfl (fun _ h=>h.1) (by omega) fun b off hA=>?_
  refine XK.eU [1,2,3,4,5,7,8,9,12,13] ?_
  refine XB.mv 0 ?_
  refine XB.q 1 ?_
  refine XB.q 2 ?_
  refine XB.q 3 ?_
  refine XB.q 4 ?_ (hi:=rfl) (cY:=dat 0 off (hx:=by rw[←hA];rfl) (hj:=rfl))
  refine XB.q 5 ?_ (hi:=rfl) (cY:=mE rfl (aH.of (vs:=p.cells) fun i v hv=>Rd.bH 1 rfl (fun _ h=>h.1) hA (by omega) (by rw[hfm,List.getElem?_append_left (List.getElem?_eq_some_iff.1 hv).1];exact hv)))
  refine XB.mv 6 ?_
  refine XB.q 7 ?_
  refine XB.q 8 ?_
  refine XB.q 9 ?_
  refine XB.next 10 rfl (by kernel_rfl) ?_
  refine gO [] (Zh (tV p z.many)) (fun w1 t=>aGB p.pr p.msg p.id p.v z.many w1 aKQ) ?_
  rintro _ w1 q1 ⟨Am,cm,rfl,hmw⟩ hf _ _
  have hmw:=hmw.le hf
  clear hf
  refine XB.bk ?_
  refine XB.next 11 rfl (by kernel_rfl) ?_
  refine bA ?_
  refine XB.bk ?_
  refine XB.q 12 ?_
  refine XB.q 13 ?_
  refine XB.next 14 rfl (by kernel_rfl) ?_
  refine bA ?_
  refine XB.bk ?_
  refine XB.next 15 rfl (by kernel_rfl) ?_
  refine bA ?_
  refine XB.bk ?_
  refine XB.done (by kernel_rfl) ?_
  refine XK.go ?_
  refine cX 0 (xG f h s (mS y 0 (tV p z.many)).2) (fun w1 F1 t h1 h2 h3=>aLR f h s y 0 Am _ cm (tV p z.many) w1 F1 h1 h2 (hmw.le (h3 _ (by simp))) rfl (by simp[tV])) ?_
  dsimp only[List.set]
  refine XK.go ?_
  refine XK.if_ rfl (fun h0=>?_) (fun h0=>?_)
  ·rw[if_pos h0]
   refine XK.go ?_
   refine dL rfl rfl ?_ (hs:=dK.mk 2 rfl bL.h rfl (of_decide_eq_true rfl))
   dsimp only[List.set]
   rw[show(iQ h f L s z).set (0+51) (.bool true)=iQ h f L s {z with sent:=true} from rfl]
   refine XK.go ?_
   refine kd (Jj (i:=z.many) (j:=1) (c:=z.many+1) rfl rfl (eR (by omega))) ?_
   refine kd (aFf (i:=z.many+1) (j:=1024) (c:=(z.many+1) % 1024) rfl rfl (by decide) (rem_in (by omega))) ?_
   refine XK.go ?_
   refine dL rfl rfl ?_ (hs:=dK.mk 2 rfl bL.h rfl (of_decide_eq_true rfl))
   dsimp only[List.set]
   rw[show(iQ h f L s {z with sent:=true}).set (0+54) (iv ((z.many+1) % 1024))=iQ h f L s {z with sent:=true,many:=(z.many+1) % 1024} from rfl]
   refine XK.go ?_
   refine XK.gv 3 1 ?_
   refine XK.gv 1 5 ?_
   refine XK.gv 0 0 ?_
   refine XK.te 0 (fun L:cK=>eC g h f L s {z with sent:=true,many:=(z.many+1) % 1024}) L ?_
   refine XK.gv 0 0 ?_
   subst bN
   exact XK.r0 0 hF
  ·rw[if_neg h0]
   refine XK.go ?_
   refine XK.gv 3 1 ?_
   refine XK.gv 1 5 ?_
   refine XK.gv 0 0 ?_
   refine XK.te 0 (fun L:cK=>eC g h f L s z) L ?_
   refine XK.gv 0 0 ?_
   subst bN
   exact XK.r0 0 hF
 ·cases hr:nZ y 0 with
  | none =>
   have Sf:qS z y j=(z,nY y 0):=by
    unfold qS
    rw[if_pos Xd,hr]
   rw[Sf]
   refine XK.go ?_
   refine vP (α:=AC) 0 (f:=95) (fi:=[]) (ca:=[]) (fun c=>Pu none c) (fun c=>Ej f h s (nY y 0) [] c) (fun _=>True) (by kernel_rfl) rfl rfl rfl (by decide) (fun w1 F1 t h1 h2 h3=>by
    have:=aEH f h s y 0 w1 F1 h1 h2
    rw[hr] at this
    exact this) ?_
   rintro⟨Ar,cr⟩ _
   dsimp only[List.set,Pu]
   refine XK.tk 0 0 ?_
   refine XK.weak [0,2,3,4,5] rfl (by decide) (fun _ h=>h) ?_
   refine XK.go ?_
   refine XK.gv 3 1 ?_
   refine XK.gv 1 5 ?_
   refine XK.gv 0 0 ?_
   refine XK.te 0 (fun L:cK=>eC g h f L s z) L ?_
   refine XK.gv 0 0 ?_
   subst bN
   exact XK.r0 0 hF
  | some a =>
   have Sf:qS z y j=(if(pZ z a).steps.length=0 then kC (pZ z a) j 0 0 else pZ z a,nY y 0):=by
    unfold qS
    rw[if_pos Xd,hr]
   rw[Sf]
   have yO:=hra a hr
   have ha1:a[1]? =some (a.getD 1 0):=by rw[List.getD_eq_getElem?_getD,List.getElem?_eq_getElem (by omega)];rfl
   refine XK.go ?_
   refine vP (α:=AC) 0 (f:=95) (fi:=[]) (ca:=[]) (fun c=>Pu (some a) c) (fun c=>Ej f h s (nY y 0) a c) (fun _=>True) (by kernel_rfl) rfl rfl rfl (by decide) (fun w1 F1 t h1 h2 h3=>by
    have:=aEH f h s y 0 w1 F1 h1 h2
    rw[hr] at this
    exact this) ?_
   rintro⟨Ar,cr⟩ _
   dsimp only[List.set,Pu]
   refine XK.tk 0 0 ?_
   refine XK.tk 1 1 ?_
   refine XK.weak [1,3,4,5,6,0] rfl (by decide) (fun _ h=>h) ?_
   refine XK.go ?_
   refine dL rfl rfl ?_ (hs:=dK.mk 2 rfl bL.h rfl (of_decide_eq_true rfl))
   dsimp only[List.set]
   refine XK.go ?_
   refine aJ (fun w1 t=>aHo Ar _ cr a _ w1 (t.bH 5 rfl) rfl yO ha1) ?_
   generalize rU:IntKind.i32.wrap (a.getD 1 0)=sv
   rw[show(iQ h f L s z).set (0+51) (.bool false)=iQ h f L s {z with sent:=false} from rfl]
   refine XK.go ?_
   refine aW (t:=73) rfl (fun h0=>?_) (fun h0=>?_)
   ·rw[aCH (show Ed a from .inl (rU.trans h0))]
    refine XK.go ?_
    refine kd (aFd (n:=z.steps.length) (l:=1) rfl rfl (by omega)) ?_
    refine XK.go ?_
    refine dL rfl rfl ?_ (hs:=dK.mk 2 rfl bL.h rfl (of_decide_eq_true rfl))
    dsimp only[List.set]
    refine XK.eqB 2 rfl (aDa (z:={z with sent:=false}) hst) ?_
    dsimp only[List.set]
    refine XK.reuse (q:=HP.bH (lO (Dc L) z.steps.tail) (lO.le (L:=Dc L) (l:=z.steps.tail))) 1 rfl (fun F w hs=>lO.tail hst hs) ?_
    dsimp only[List.set]
    refine XK.go ?_
    refine XK.gv 3 1 ?_
    refine XK.gv 1 5 ?_
    refine XK.gv 0 0 ?_
    refine XK.sV 0 (f:=fun L:cK=>eC g h f L s {z with sent:=false,steps:=z.steps.tail}) (Dc L) rfl ?_
    dsimp only[List.set]
    refine XK.go ?_
    refine XK.if_ rfl (fun hn=>?_) (fun hn=>?_)
    ·rw[if_pos (Int.ofNat.inj hn)]
     refine XK.go ?_
     refine kd (eM rfl) ?_
     refine XK.go ?_
     refine cX 0 (fE g h f s (kC {z with sent:=false,steps:=z.steps.tail} j 0 0)) (fun w1 F1 t h1 h2 h3=>Ef g h f s {z with sent:=false,steps:=z.steps.tail} w1 F1 j hh hj 0 0 h1 h2) ?_
     dsimp only[List.set]
     refine XK.gv 0 0 ?_
     subst bN
     exact XK.r0 0 hF
    ·rw[if_neg (fun h=>hn (congrArg Int.ofNat h))]
     refine XK.go ?_
     refine XK.gv 0 0 ?_
     subst bN
     exact XK.r0 0 hF
   ·refine XK.go ?_
    refine XK.if_ rfl (fun h3=>?_) (fun h3=>?_)
    ·rw[aCH (show Ed a from .inr (rU.trans h3))]
     refine XK.go ?_
     refine kd (aFd (n:=z.steps.length) (l:=1) rfl rfl (by omega)) ?_
     refine XK.go ?_
     refine dL rfl rfl ?_ (hs:=dK.mk 2 rfl bL.h rfl (of_decide_eq_true rfl))
     dsimp only[List.set]
     refine XK.eqB 2 rfl (aDa (z:={z with sent:=false}) hst) ?_
     dsimp only[List.set]
     refine XK.reuse (q:=HP.bH (lO (Dc L) z.steps.tail) (lO.le (L:=Dc L) (l:=z.steps.tail))) 1 rfl (fun F w hs=>lO.tail hst hs) ?_
     dsimp only[List.set]
     refine XK.go ?_
     refine XK.gv 3 1 ?_
     refine XK.gv 1 5 ?_
     refine XK.gv 0 0 ?_
     refine XK.sV 0 (f:=fun L:cK=>eC g h f L s {z with sent:=false,steps:=z.steps.tail}) (Dc L) rfl ?_
     dsimp only[List.set]
     refine XK.go ?_
     refine XK.if_ rfl (fun hn=>?_) (fun hn=>?_)
     ·rw[if_pos (Int.ofNat.inj hn)]
      refine XK.go ?_
      refine kd (eM rfl) ?_
      refine XK.go ?_
      refine cX 0 (fE g h f s (kC {z with sent:=false,steps:=z.steps.tail} j 0 0)) (fun w1 F1 t h1 h2 h3=>Ef g h f s {z with sent:=false,steps:=z.steps.tail} w1 F1 j hh hj 0 0 h1 h2) ?_
      dsimp only[List.set]
      refine XK.gv 0 0 ?_
      subst bN
      exact XK.r0 0 hF
     ·rw[if_neg (fun h=>hn (congrArg Int.ofNat h))]
      refine XK.go ?_
      refine XK.gv 0 0 ?_
      subst bN
      exact XK.r0 0 hF
    ·rw[aHf (show ¬Ed a from fun h=>h.elim (fun h=>h0 (rU▸h)) (fun h=>h3 (rU▸h)))]
     refine XK.go ?_
     refine XK.gv 3 1 ?_
     refine XK.gv 1 5 ?_
     refine XK.gv 0 0 ?_
     refine XK.te 0 (fun L:cK=>eC g h f L s {z with sent:=false}) L ?_
     refine XK.go ?_
     refine XK.if_ rfl (fun hn=>?_) (fun hn=>?_)
     ·rw[if_pos (Int.ofNat.inj hn)]
      refine XK.go ?_
      refine kd (eM rfl) ?_
      refine XK.go ?_
      refine cX 0 (fE g h f s (kC {z with sent:=false} j 0 0)) (fun w1 F1 t h1 h2 h3=>Ef g h f s {z with sent:=false} w1 F1 j hh hj 0 0 h1 h2) ?_
      dsimp only[List.set]
      refine XK.gv 0 0 ?_
      subst bN
      exact XK.r0 0 hF
     ·rw[if_neg (fun h=>hn (congrArg Int.ofNat h))]
      refine XK.go ?_
      refine XK.gv 0 0 ?_
      subst bN
      exact XK.r0 0 hF
end
end
section
set_option maxHeartbeats 4000000
set_option maxRecDepth 20000
theorem Hh(w:World):CallsD Tryz.prog 46 #[] .returning w fun e u' w'=>e=.returned (.tuple #[])∧u'=.returning∧w'=w:=by
 refine callsD_of_wpS Tryz.func46 rfl fun c₀ cs hu=>?_
 apply wpS_region
 simp[wpOpsS,go_sem,recoverD,hu,Tryz.ntmps46,Exit.thenS]
 cases c₀
 simp_all [bodyPostS,results,Tryz.results46]
def Zb(g f:Nat)(hL:HL)(s:aA)(z:aU)(y:bP)(x:aO):HP:=HP.many [fE g hL.h f s z,xG f hL.h s y,cP hL s x]
structure aFZ(s:aA)(z:aU)(y:bP):Prop where
 ok:Oc s z
 call:∀j,T3 j→(z.tk j).st=1→uN (z.tk j).kind
 work:∀j:Nat,T3 j→(z.tk j).st=2→z.cH=(j:Int)∧(z.aQ=false→z.steps≠[])
 many:0≤z.many∧z.many < 1024
 pack:∀p∈z.steps,(iR p.msg 0 p.pr z.many).2=0
 ans:∀a,nZ y 0=some a→2≤a.length
def zN(s:aA)(z:aU)(y:bP)(x:aO)(t:Int):aU×bP×aO:=
 if bE 3 t=false then(z,y,x)
 else if(z.tk t.toNat).st=1 then(if z.cH < 0 then((sE s x z t.toNat).1,y,(sE s x z t.toNat).2) else(z,y,x))
 else if(z.tk t.toNat).st=2 then(if z.aQ=false then((qS z y t.toNat).1,(qS z y t.toNat).2,x) else(z,y,x))
 else(z,y,x)
theorem aHT(g f:Nat)(hL:HL)(s:aA)(z:aU)(y:bP)(x:aO)(w:World)(F:Nat→Prop)(t:Int)(hm:s.made)(aM:fF hL s)(hx:z.cH < 0→Zd s x)(hz:aFZ s z y)(hp:(Zb g f hL s z y x).sat F w)(hF:∀b,F b→b < w.heap.size)(eB:iZ ⟨w,fun b=>b < w.heap.size∧¬F b⟩):
  Calls Tryz.prog 19 #[pt g,iv t] w (fun v w'=>v=.returned (.tuple #[])∧∃F',(Zb g f hL s (zN s z y x t).1 (zN s z y x t).2.1 (zN s z y x t).2.2).sat F' w'∧aV w w' F F'):=by
 unfold zN
 refine XK.Ss (vs:=[pt g,iv t]) (p:=Zb g f hL s z y x) Tryz.func19 rfl Tryz.ntmps19 (by simp) hp hF ?_
 generalize bN:(⟨w,fun b=>b < w.heap.size∧¬F b⟩:Piece)=R0 at eB⊢
 refine XK.go ?_
 refine Ol (f:=46) (fi:=[]) (ca:=[]) rfl ?_
 refine XK.go ?_
 refine aJ (fun w1 _=>Pm t w1) ?_
 cases hin:bE 3 t
 ·refine XK.go ?_
  subst bN
  exact XK.wE (.inl rfl) (by kernel_rfl) Hh rfl fun w1 t=>⟨rfl,t.turns hF (by simp) (i:=0) rfl⟩
 ·obtain⟨j,rfl,hj⟩:=Ev hin
  have hj2:j≤2:=by rcases hj with rfl | rfl | rfl<;>decide
  rw[if_neg (by simp),Int.toNat_natCast]
  refine XK.tk 0 0 ?_
  refine XK.ox 0 fun L=>?_
  refine XK.go ?_
  refine kd (dX j (10+13*j) (ho:=by omega)) ?_
  refine XK.go ?_
  refine kd (aX rfl (Rd.lS 0 rfl (xT (k:=0) hj rfl))) ?_
  refine XK.go ?_
  refine XK.if_ rfl (fun h1=>?_) (fun h1=>?_)
  ·rw[if_pos h1]
   refine XK.go ?_
   refine kd (aX rfl (Rd.lS 0 rfl rfl)) ?_
   refine XK.go ?_
   refine XK.te 0 (fun L:cK=>eC g hL.h f L s z) L ?_
   refine XK.gv 0 0 ?_
   refine XK.if_ rfl (fun h2=>?_) (fun h2=>?_)
   ·rw[if_pos h2]
    refine XK.tk 0 0 ?_
    refine XK.tk 1 2 ?_
    refine XK.weak [1,0,2] rfl (by decide) (fun _ h=>h) ?_
    refine XK.pair ?_
    refine XK.go ?_
    refine cX 0 (Gl g f hL s (sE s x z j).1 (sE s x z j).2) (fun w1 F1 t Si Sh h3=>aId g f hL s z x w1 F1 j hm aM (hx h2) hz.ok hj (hz.call j hj h1) Si Sh (iZ.le eB (h3 _ (by simp)))) ?_
    dsimp only[List.set]
    refine XK.tk 0 0 ?_
    refine XK.tk 1 1 ?_
    refine XK.gv 2 2 ?_
    refine XK.gv 1 0 ?_
    refine XK.go ?_
    subst bN
    exact XK.wE (.inr rfl) (by kernel_rfl) Hh rfl fun w1 t=>⟨rfl,t.turns hF (by simp) (i:=1) rfl⟩
   ·rw[if_neg h2]
    refine XK.go ?_
    subst bN
    exact XK.wE (.inr rfl) (by kernel_rfl) Hh rfl fun w1 t=>⟨rfl,t.turns hF (by simp) (i:=0) rfl⟩
  ·rw[if_neg h1]
   refine XK.go ?_
   refine XK.if_ rfl (fun h2=>?_) (fun h2=>?_)
   ·rw[if_pos h2]
    obtain⟨hh,hne⟩:=hz.work j hj h2
    refine XK.go ?_
    refine kd (aX rfl (Rd.lS 0 rfl rfl)) ?_
    cases lB:z.aQ
    ·refine XK.go ?_
     refine XK.te 0 (fun L:cK=>eC g hL.h f L s z) L ?_
     refine XK.gv 0 0 ?_
     refine XK.tk 0 0 ?_
     refine XK.tk 1 1 ?_
     refine XK.weak [1,0,2] rfl (by decide) (fun _ h=>h) ?_
     refine XK.pair ?_
     refine XK.go ?_
     refine cX 0 (aCe g hL.h f s (qS z y j).1 (qS z y j).2) (fun w1 F1 t Si Sh h3=>aIg g hL.h f s z y w1 F1 j hh hj (hne lB) hz.many hz.pack hz.ans Si Sh) ?_
     dsimp only[List.set]
     refine XK.tk 0 0 ?_
     refine XK.tk 1 1 ?_
     refine XK.gv 2 1 ?_
     refine XK.gv 1 0 ?_
     refine XK.go ?_
     subst bN
     exact XK.wE (.inr rfl) (by kernel_rfl) Hh rfl fun w1 t=>⟨rfl,t.turns hF (by simp) (i:=1) rfl⟩
    ·refine XK.go ?_
     refine XK.te 0 (fun L:cK=>eC g hL.h f L s z) L ?_
     refine XK.gv 0 0 ?_
     subst bN
     exact XK.wE (.inr rfl) (by kernel_rfl) Hh rfl fun w1 t=>⟨rfl,t.turns hF (by simp) (i:=0) rfl⟩
   ·rw[if_neg h2]
    refine XK.go ?_
    refine XK.te 0 (fun L:cK=>eC g hL.h f L s z) L ?_
    refine XK.gv 0 0 ?_
    subst bN
    exact XK.wE (.inr rfl) (by kernel_rfl) Hh rfl fun w1 t=>⟨rfl,t.turns hF (by simp) (i:=0) rfl⟩
end
section
set_option maxHeartbeats 4000000
set_option maxRecDepth 20000
def wX(z:aU)(a:kH):aU:=if z.aQ=false then z else if a.id≠z.id then z else if a.dead=true then kC z z.cH.toNat 6 0 else kC z z.cH.toNat 0 a.val
def sF(z:aU)(l:List kH):aU:=l.foldl wX z
def Jv(z:aU):Prop:=z.aQ=true→∃j:Nat,z.cH=(j:Int)∧T3 j
theorem aOz{z:aU}{a:kH}(h:Jv z):Jv (wX z a):=by
 unfold wX
 split
 ·exact h
 split
 ·exact h
 split
 ·intro h1
  cases h1
 ·intro h1
  cases h1
theorem aO6{l:List kH}:∀{z:aU},Jv z→Jv (sF z l):=by
 induction l with
 | nil=>exact fun h=>h
 | cons a l ih=>exact fun h=>ih (aOz h)
theorem aO5{z:aU}{l:List kH}{i:Nat}{a:kH}(h:l[i]? =some a):sF z (l.take (i+1))=wX (sF z (l.take i)) a:=by
 obtain⟨hi,rfl⟩:=List.getElem?_eq_some_iff.1 h
 unfold sF
 rw[List.take_succ_eq_append_getElem hi,List.foldl_append]
 rfl
theorem aOy{l:List kH}{i k:Nat}{a:kH}{v:Value}(h:l[i]? =some a)(hv:a.cells[k]? =some v):(l.flatMap kH.cells)[i*4+k]? =some v:=by
 induction l generalizing i with
 | nil=>simp at h
 | cons x l ih =>
  cases i with
  | zero=>
   simp at h
   subst h
   rw[Nat.zero_mul,Nat.zero_add,List.flatMap_cons,List.getElem?_append_left (List.getElem?_eq_some_iff.1 hv).1]
   exact hv
  | succ i=>
   rw[List.getElem?_cons_succ] at h
   rw[List.flatMap_cons,show(i+1)*4+k=x.cells.length+(i*4+k) by simp[kH.cells];omega,List.getElem?_append_right (by omega),Nat.add_sub_cancel_left]
   exact ih h
theorem aIf(g h f:Nat)(s:aA)(z:aU)(w:World)(F:Nat→Prop)(A:Option Addr)(c:Nat)(l:List kH)(hl:l.length≤1000)(aKO:Jv z)(hp:(fE g h f s z).sat F w)(hF:∀b,F b→b < w.heap.size)(hs:aE ⟨w,fun b=>b < w.heap.size∧¬F b⟩ 4 A l.length (l.flatMap kH.cells)):
  Calls Tryz.prog 21 #[pt g,.slice A l.length c] w (fun v w'=>v=.returned (.tuple #[])∧∃F',(fE g h f s (sF z l)).sat F' w'∧aV w w' F F'):=by
 refine XK.bY Tryz.func21 Tryz.ntmps21 hp hF ?_
 generalize bN:(⟨w,fun b=>b < w.heap.size∧¬F b⟩:Piece)=R0 at hs⊢
 refine XK.go ?_
 refine XK.aT [(8,iv 0),(7,iv l.length),(6,.slice A l.length c),(0,pt g),(1,.slice A l.length c)] ?_
 refine XK.loop (fun m e R H=>∃i:Nat,i≤l.length∧m=l.length - i∧e=[(8,iv i),(7,iv l.length),(6,.slice A l.length c),(0,pt g),(1,.slice A l.length c)]∧R=[R0]∧H=[fE g h f s (sF z (l.take i))]) l.length ⟨0,by omega,rfl,rfl,rfl,rfl⟩ fun m e R H hI=>?_
 obtain⟨i,hi,rfl,rfl,rfl,rfl⟩:=hI
 refine XK.go ?_
 refine XK.if_ rfl (fun hlt=>?_) (fun hge=>?_)
 ·have hlt:i < l.length:=by omega
  obtain⟨a,ha⟩:=get_some hlt
  obtain⟨b,off,rfl,fC,hc⟩:=hs.2 (by omega)
  have cQ:=aO5 (z:=z) ha
  have aEn:Jv (sF z (l.take i)):=aO6 aKO
  generalize sF z (l.take i)=zi at cQ aEn⊢
  obtain⟨Nz,Ua,Jp,Gf⟩:=a
  refine XK.go ?_
  refine kd (dat i (off+i*4)) ?_
  refine kd (mE rfl (aH.of (vs:=[iv Nz,iv Ua,.bool Jp,.int .u32 Gf]) fun k v hv=>Rd.ro (p:=R0) (by simp) fC (by rw[Nat.add_assoc];exact hc _ _ (aOy ha hv)))) ?_
  refine bB fun g1=>?_
  refine XK.go ?_
  refine XK.ox 1 fun L=>?_
  refine XK.jO ?_
  refine XQ.go ?_
  refine XQ.kd (aX rfl (Rd.lS 1 rfl rfl)) ?_
  cases lB:zi.aQ
  ·have hst:wX zi ⟨Nz,Ua,Jp,Gf⟩=zi:=if_pos lB
   refine XQ.end_ ?_
   refine XK.te 1 (fun L:cK=>eC g h f L s zi) L ?_
   refine XK.go ?_
   refine XK.weak [1] rfl (by decide) (fun _ h=>h) ?_
   refine XK.aT [(8,iv (i+1:Nat)),(7,iv l.length),(6,.slice (some ⟨b,off,none⟩) l.length c),(0,pt g),(1,.slice (some ⟨b,off,none⟩) l.length c)] ?_
   exact XK.round (l.length - (i+1)) (by omega) ⟨i+1,by omega,rfl,rfl,rfl,by rw[cQ,hst];rfl⟩
  ·obtain⟨j,hj,hj3⟩:=aEn lB
   have Az:0≤zi.cH:=by omega
   have Ic:wX zi ⟨Nz,Ua,Jp,Gf⟩=if Nz≠zi.id then zi else if Jp=true then kC zi zi.cH.toNat 6 0 else kC zi zi.cH.toNat 0 Gf:=if_neg (by rw[lB];simp)
   refine XQ.go ?_
   refine XQ.kd (aX rfl (Rd.lS 1 rfl rfl)) ?_
   refine XQ.end_ ?_
   refine XK.te 1 (fun L:cK=>eC g h f L s zi) L ?_
   refine XK.go ?_
   refine XK.if_ rfl (fun hne=>?_) (fun hne=>?_)
   ·rw[if_pos hne] at Ic
    refine XK.go ?_
    refine XK.weak [1] rfl (by decide) (fun _ h=>h) ?_
    refine XK.aT [(8,iv (i+1:Nat)),(7,iv l.length),(6,.slice (some ⟨b,off,none⟩) l.length c),(0,pt g),(1,.slice (some ⟨b,off,none⟩) l.length c)] ?_
    exact XK.round (l.length - (i+1)) (by omega) ⟨i+1,by omega,rfl,rfl,rfl,by rw[cQ,Ic];rfl⟩
   ·rw[if_neg hne] at Ic
    refine XK.go ?_
    cases Jp
    ·refine XK.gw ?_
     refine cX 1 (fE g h f s (kC zi zi.cH.toNat 0 Gf)) (fun w1 F1 t h1 h2 h3=>Ef g h f s zi w1 F1 zi.cH.toNat (by omega) (by rw[hj,Int.toNat_natCast];exact hj3) 0 Gf h1 h2) ?_
     dsimp only[List.set]
     refine XK.go ?_
     refine XK.weak [1] rfl (by decide) (fun _ h=>h) ?_
     refine XK.aT [(8,iv (i+1:Nat)),(7,iv l.length),(6,.slice (some ⟨b,off,none⟩) l.length c),(0,pt g),(1,.slice (some ⟨b,off,none⟩) l.length c)] ?_
     exact XK.round (l.length - (i+1)) (by omega) ⟨i+1,by omega,rfl,rfl,rfl,by rw[cQ,Ic];rfl⟩
    ·refine XK.gw ?_
     refine cX 1 (fE g h f s (kC zi zi.cH.toNat 6 0)) (fun w1 F1 t h1 h2 h3=>Ef g h f s zi w1 F1 zi.cH.toNat (by omega) (by rw[hj,Int.toNat_natCast];exact hj3) 6 0 h1 h2) ?_
     dsimp only[List.set]
     refine XK.go ?_
     refine XK.weak [1] rfl (by decide) (fun _ h=>h) ?_
     refine XK.aT [(8,iv (i+1:Nat)),(7,iv l.length),(6,.slice (some ⟨b,off,none⟩) l.length c),(0,pt g),(1,.slice (some ⟨b,off,none⟩) l.length c)] ?_
     exact XK.round (l.length - (i+1)) (by omega) ⟨i+1,by omega,rfl,rfl,rfl,by rw[cQ,Ic];rfl⟩
 obtain rfl:i=l.length:=by omega
 rw[List.take_length]
 refine XK.go ?_
 subst bN
 exact XK.r0 0 hF
end
section
set_option maxHeartbeats 4000000
set_option maxRecDepth 20000
section
variable(s:aA)(A1 A2 A3 A4:Option Addr)(n1 k1 n2 k2 n3 k3 n4 k4:Nat)(w:World)
def aGq(s:aA)(v:Value)(hs:List HP)(_:Piece):Prop:=∃gc gm A k,v=.tuple #[pt gc,iv 0]∧hs=[Gu gc gm A k (bX s) ⟨[],false⟩]
theorem aNz(hm:s.made)(hW:eI w s A1 n1 A2 n2 A3 n3 A4 n4):
  Calls Tryz.prog 24 #[.agg #[.slice A1 n1 k1,.slice A2 n2 k2,.slice A3 n3 k3,.slice A4 n4 k4]] w (fun y w'=>(∃v hs q,y=.returned v∧q.w=w'∧aGq s v hs q∧iY w hs q)∧Below w.heap.size w w'):=by
 obtain rfl:=hW.kL
 obtain rfl:=hW.kY
 obtain rfl:=hW.mL
 obtain rfl:=hW.lK
 refine XK.en Tryz.func24 Tryz.ntmps24 ?_
 refine XK.go ?_
 refine aS fun g1=>?_
 refine XK.go ?_
 refine aJ (fun w1 t=>Nu s A1 A2 A3 A4 _ k1 _ k2 _ k3 _ k4 w1 (hW.le (t.started (by simp))) (Wg hm)) ?_
 refine XK.go ?_
 refine gO [] (sM (bX s)) (fun w1 t=>aDC s A1 A2 A3 A4 _ k1 _ k2 _ k3 _ k4 w1 (hW.le (t.started (by simp)))) ?_
 rintro _ w1 q1 ⟨Ag,cg,rfl,iU⟩ hf _ hfr
 have iU:=iU.le hf
 refine XK.Ho (Φ:=zE Ag (bX s)) (hm:=zE.le) (hfr (by simp)) (by simp[all]) iU ?_
 refine Us (by decide) fun gm=>?_
 refine kd (eM rfl) ?_
 refine aS fun g2=>?_
 refine XK.go ?_
 refine XK.weak [0,1,2] rfl (by decide) (R':=[all w]) (by simp) ?_
 refine XK.pair ?_
 refine XK.pair ?_
 refine XK.still [] [] [0] (by simp) rfl (by decide) (by decide) fun q _ _ hfr=>?_
 exact XK.dG rfl rfl rfl fun w1 t=>⟨⟨_,_,⟨w1,q.Z⟩,rfl,rfl,⟨g2,gm,Ag,cg,rfl,rfl⟩,t.newR (by simp) (by simp) (hfr (by simp) (by simp))⟩,t.below (by simp)⟩
def Ee(s:aA):aU:={rp0 s with wn:=fP s []}
def aFY(h f:Nat)(s:aA)(v:Value)(hs:List HP)(_:Piece):Prop:=∃g,v=.tuple #[pt g,iv 0]∧hs=[fE g h f s (Ee s)]
theorem aHR(h f:Nat)(hm:s.made)(hW:eI w s A1 n1 A2 n2 A3 n3 A4 n4):
  Calls Tryz.prog 36 #[pt h,pt f,.agg #[.slice A1 n1 k1,.slice A2 n2 k2,.slice A3 n3 k3,.slice A4 n4 k4]] w (fun y w'=>(∃v hs q,y=.returned v∧q.w=w'∧aFY h f s v hs q∧iY w hs q)∧Below w.heap.size w w'):=by
 obtain rfl:=hW.kL
 obtain rfl:=hW.kY
 obtain rfl:=hW.mL
 obtain rfl:=hW.lK
 refine XK.en Tryz.func36 Tryz.ntmps36 ?_
 refine XK.go ?_
 refine aS fun g1=>?_
 refine XK.go ?_
 refine fB (aGq s) (fun w1 t=>aNz s A1 A2 A3 A4 _ k1 _ k2 _ k3 _ k4 w1 hm (hW.le (t.started (by simp)))) ?_
 rintro _ _ q0 ⟨gc,gm,Ag,cg,rfl,rfl⟩ _
 dsimp only[List.cons_append,List.nil_append]
 refine XK.weak [0,1] rfl (by decide) (R':=[all w]) (by simp) ?_
 refine XK.go ?_
 refine gO [] (fun v w w'=>Zg s v w w') (fun w1 t=>aBK s A1 A2 A3 A4 _ k1 _ k2 _ k3 _ k4 w1 (hW.le (t.started (by simp))) (fun d hd=>by
  obtain⟨j,hj⟩:=List.getElem?_of_mem hd
  have:=(hm.aC j d hj).2.2.2.2.2.2.2.2.1
  omega)) ?_
 rintro _ w1 q1 ⟨cs,rfl,hcs⟩ Ck _ pM
 have pM:=pM (by simp)
 obtain⟨B1,m1,j1,B2,m2,j2,B3,m3,j3,B4,m4,j4,rfl,hsp⟩:=zB.P hcs
 have hsp:=hsp.le Ck
 obtain⟨rfl,rfl,rfl,rfl⟩:=hsp.len
 refine XK.Ho (Φ:=kE ⟨(B1,j1),(B2,j2),(B3,j3),(B4,j4),gc,gm,(Ag,cg),(none,0),(none,0),(none,0),(none,0)⟩ s) (hm:=kE.le) pM (by simp[all]) hsp ?_
 refine XK.go ?_
 refine kd (eM rfl) ?_
 refine aS fun g=>?_
 refine XK.go ?_
 refine kd (mE rfl (aH.mid (vs:=[_,_,_,_]) 0 rfl rfl)) ?_
 refine fB (Ue (fP s [])) (fun w1 t=>Ux (all w1) s B1 B2 B3 B4 _ j1 _ j2 _ j3 _ j4 none 0 [] w1 (t.bH 1 rfl) hm (Piece.Le.refl _) (aE.nil _ _)) ?_
 rintro _ _ q2 ⟨ga,gb,gd,px,rfl,rfl⟩ _
 dsimp only[List.cons_append,List.nil_append]
 refine XK.go ?_
 refine Lr 2 rfl ?_
 dsimp only[List.set]
 refine XK.go ?_
 obtain⟨L',hL'⟩:∃L':cK,L'=⟨(B1,j1),(B2,j2),(B3,j3),(B4,j4),gc,gm,(Ag,cg),(some ⟨ga,0,none⟩,(fP s []).d.length),(some ⟨gb,0,none⟩,(fP s []).c.length),(some ⟨gd,0,none⟩,(fP s []).l.length),(none,0)⟩:=⟨_,rfl⟩
 refine XK.reuse (q:=HP.bH (qV L' (fP s [])) (qV.le (L:=L') (x:=fP s []))) 0 rfl (fun F w hs=>?_) ?_
 ·obtain⟨G,k1,k2,_⟩:=hs
  subst hL'
  exact⟨aE.fZ (c:=0) (k1 0 _ rfl) (fun b hb=>k2 0 b hb) (by simp[aP]),aE.fZ (c:=0) (k1 1 _ rfl) (fun b hb=>k2 1 b hb) (by simp[aP]),aE.fZ (c:=0) (k1 2 _ rfl) (fun b hb=>k2 2 b hb) (by simp[aP])⟩
 dsimp only[List.set]
 refine XK.yY (p:=HP.bH (lO L' []) (lO.le (L:=L') (l:=[]))) (fun w=>by subst hL';exact⟨aE.nil _ _,Nat.le_refl _⟩) ?_
 refine XK.tk 5 0 ?_
 refine XK.tk 6 1 ?_
 refine XK.weak [5,6,3,1,0,2] rfl (by decide) (R':=[all w]) (by simp) ?_
 refine XK.pair ?_
 refine XK.more ?_
 refine XK.more ?_
 refine XK.more ?_
 refine XK.more ?_
 refine XK.sV 0 (f:=fun L:cK=>eC g h f L s (Ee s)) L' (by subst hL';rfl) ?_
 dsimp only[List.set]
 refine XK.still [] [] [0] (by simp) rfl (by decide) (by decide) fun q _ _ hfr=>?_
 exact XK.dG rfl rfl rfl fun w1 t=>⟨⟨_,_,⟨w1,q.Z⟩,rfl,rfl,⟨g,rfl,rfl⟩,t.newR (by simp) (by simp) (hfr (by simp) (by simp))⟩,t.below (by simp)⟩
end
end
section
set_option maxHeartbeats 4000000
set_option maxRecDepth 20000
theorem aCR(x:dJ)(k id:Int):(eD x k id).d.length=x.d.length∧(eD x k id).c.length=x.c.length∧(eD x k id).l.length=x.l.length:=by
 unfold eD
 split
 ·exact⟨Kt _ _ _,rfl,rfl⟩
 ·split
  ·exact⟨rfl,Kt _ _ _,rfl⟩
  ·split
   ·exact⟨rfl,rfl,Kt _ _ _⟩
   ·exact⟨rfl,rfl,rfl⟩
theorem aCP{x:dJ}(h:x.sm)(k id:Int):(eD x k id).sm:=by
 obtain⟨h1,h2,h3⟩:=aCR x k id
 exact⟨by rw[h1];exact h.d,by rw[h2];exact h.c,by rw[h3];exact h.l⟩
theorem aMK{x:dJ}(h:x.sm)(ag:Nat)(k id:Int):(cS x ag k id).sm:=by
 unfold cS;split
 ·exact aCP h k id
 ·exact h
theorem aMJ{x:dJ}(h:x.sm)(ag:Nat)(k id:Int):(cR x ag k id).sm:=by
 unfold cR;split
 ·exact h
 ·exact aCP h k id
end
section
set_option maxHeartbeats 4000000
set_option maxRecDepth 20000
section
variable{s:aA}{x:aO}{z:bP}{b:Nat}{m:List Int}{k id:Int}
theorem aDr(hu:vF m)(h:(eK s m).1=0):qX m:=by
 cases m with
 | nil=>exact absurd h (by show ¬((-10:Int)=0);decide)
 | cons w r =>
  unfold eK at h
  dsimp only at h
  split at h
  ·exact absurd h (by decide)
  ·rename_i h1
   split at h
   ·exact absurd h (by decide)
   ·split at h
    ·exact absurd h (by decide)
    ·rename_i h3
     have hz:bJ w 28 4=0:=by
      refine Classical.byContradiction fun hc=>h1 (.inl ?_)
      unfold zL
      rw[if_pos hc]
      decide
     refine⟨⟨w,r,rfl,hz,fun hh=>?_⟩⟩
     have hp:dI w=bJ w 10 8:=by rw[dI,if_neg (by simp[hz])]
     have hmm:dQ w=bJ w 0 8:=by rw[dQ,if_neg (by simp[hz])]
     have hn:(dP (dI w) (dQ w)).n=1:=by
      rw[hp,hmm]
      rcases hh with⟨a,b⟩ | ⟨a,b⟩<;>rw[a,b]<;>rfl
     rw[hn] at h3
     have h4:r.length=1:=by omega
     obtain⟨i,rfl⟩:=List.length_eq_one_iff.1 h4
     exact⟨i,rfl,hu i (by simp)⟩
end
end
section
set_option maxHeartbeats 4000000
set_option maxRecDepth 20000
theorem aLd:([(4,17),(7,20),(4,22)]:List (Int×Int)).all (fun q=>(List.range 1024).all fun k=>aEy q.1 q.2 k)=true:=by decide+kernel
def Uh(p:eH):Prop:=(p.msg=4∧p.pr=17)∨(p.msg=7∧p.pr=20)∨(p.msg=4∧p.pr=22)
theorem aLe{p:eH}(h:Uh p){k:Int}(h0:0≤k)(h1:k < 1024):(iR p.msg 0 p.pr k).2=0∧bJ (iR p.msg 0 p.pr k).1 28 4=0∧bJ (iR p.msg 0 p.pr k).1 0 8=p.msg∧bJ (iR p.msg 0 p.pr k).1 8 2=0∧bJ (iR p.msg 0 p.pr k).1 10 8=p.pr:=by
 have ha:=aLd
 rw[List.all_eq_true] at ha
 obtain⟨n,rfl⟩:∃n:Nat,k=n:=⟨k.toNat,by omega⟩
 have key:aEy p.msg p.pr (n:Int)=true:=by
  have h2:=ha (p.msg,p.pr) (by
   obtain⟨pr,msg,id,v⟩:=p
   dsimp only[Uh] at h⊢
   rcases h with⟨rfl,rfl⟩ | ⟨rfl,rfl⟩ | ⟨rfl,rfl⟩<;>simp)
  rw[List.all_eq_true] at h2
  exact h2 n (List.mem_range.2 (by omega))
 obtain⟨e1,e2,e3,e4,e5,_⟩:=of_decide_eq_true key
 exact⟨e1,e2,e3,e4,e5⟩
theorem aJm(m t p k:Int):0≤(iR m t p k).1∧(iR m t p k).1 < 4294967296:=by
 unfold iR
 repeat' split
 all_goals first | exact aJa _ _ _ _ | exact⟨Int.le_refl 0,(by decide:(0:Int) < 4294967296)⟩
theorem aOA{s:aA}{x y:dJ}:∀p∈allM s x y,Uh p:=by
 intro p hp
 unfold allM sG at hp
 simp only[List.mem_append,kW,List.mem_map] at hp
 rcases hp with⟨i,_,rfl⟩ | ⟨i,_,rfl⟩ | ⟨i,_,rfl⟩ | ⟨i,_,rfl⟩ | ⟨i,_,rfl⟩ | ⟨i,_,rfl⟩
 all_goals simp[Uh]
theorem aOv{s:aA}{x:aO}{l:List Int}{st:Int}(hl:vF l):vF (vE s x l st):=by
 have h0:0≤l.headD 0∧l.headD 0 < 4294967296:=by
  cases l with
  | nil=>exact⟨by decide,by decide⟩
  | cons a r=>exact hl a (by simp)
 have hm : vF (jR s x l) := by
  intro v hv
  unfold jR at hv
  dsimp only at hv
  split at hv
  ·simp at hv;subst hv;decide
  ·split at hv
   ·simp at hv;subst hv;exact Km _
   ·split at hv
    ·simp at hv;subst hv
     unfold Em
     repeat' split
     all_goals decide
    ·split at hv
     ·simp at hv
      rcases hv with rfl | rfl<;>exact Km _
     ·cases hv
 intro v hv
 unfold vE at hv
 rw[List.mem_cons,List.mem_cons] at hv
 rcases hv with rfl | rfl | hv
 ·exact h0
 ·exact Km _
 ·split at hv
  ·exact hm v hv
  ·cases hv
theorem aOw{s:aA}{x:aO}{l:List Int}{st:Int}:2≤(vE s x l st).length∧(vE s x l st).length≤4:=by
 have:=Hq s x l
 unfold vE
 split<;>simp<;>omega
theorem aFn{s:aA}{x y:dJ}{wt:List Int}{ag:Nat}{l:List Int}(hu:vF l):((mY s x y wt ag l).2.1=0∧((mY s x y wt ag l).1=0→qX l))∨((mY s x y wt ag l).1=0∧(mY s x y wt ag l).2=(eK s l).2∧(eK s l).1=0∧(mY s x y wt ag l).2.1≠0∧qX l∧Kb s (mY s x y wt ag l).2.1 (mY s x y wt ag l).2.2):=by
 unfold mY
 by_cases h:(eK s l).1≠0∨(eK s l).2.1=0∨rK (if ag=0 then x else y) (eK s l).2.1 (eK s l).2.2=decide (iM (eK s l).2.1)
 ·rw[if_pos h]
  exact .inl ⟨rfl,fun h=>aDr hu h⟩
 ·rw[if_neg h]
  have h1:(eK s l).1=0:=Classical.byContradiction fun hc=>h (.inl hc)
  have h2:(eK s l).2.1≠0:=fun hc=>h (.inr (.inl hc))
  have hr:=aDr hu h1
  have hk:Kb s (eK s l).2.1 (eK s l).2.2:=by
   rcases aDs (s:=s) hu with⟨h0,_⟩ | ⟨_,hk,lZ,hi1,_,_⟩
   ·exact absurd h0 h2
   ·refine⟨by unfold Qq at hk;omega,fun h99=>⟨lZ,?_⟩⟩
    rw[h99] at hi1
    simpa[xY,Lu] using hi1
  have no:∀e:Int,e≠0→e=0→qX l:=fun _ h k=>absurd k h
  by_cases ho:iM (eK s l).2.1
  ·rw[if_pos ho]
   split
   ·exact .inl ⟨rfl,no _ (by decide)⟩
   ·exact .inr ⟨rfl,rfl,h1,h2,hr,hk⟩
  ·rw[if_neg ho]
   split
   ·exact .inl ⟨rfl,no _ (by decide)⟩
   ·split
    ·exact .inl ⟨rfl,no _ (by decide)⟩
    ·exact .inr ⟨rfl,rfl,h1,h2,hr,hk⟩
theorem aFP(s:aA)(x:aO)(k id:Int):(Gj s x k id).1.wt=x.wt∧(Gj s x k id).1.aQ=x.aQ:=by
 unfold Gj Ky Tu Ku Hl Gg
 repeat' split
 all_goals exact⟨rfl,rfl⟩
structure Gt(s:aA)(y:bP):Prop where
 fm:Dt s y
 ax:y.x.of s
 ay:y.y.of s
 h0:y.h0=0∨y.h0=1∨y.h0=2
 h1:y.h1=0∨y.h1=1∨y.h1=2
 r0:y.h0=2→2≤y.w0.length
 r1:y.h1=2→2≤y.w1.length
structure nS(s:aA)(y:bP):Prop extends Gt s y where
 at_:y.at_= -1∨∃a:Nat,y.at_=(a:Int)∧a < 2∧wN y a=1∧Kb s y.kind y.id∧qX (gP y a)
theorem nS.step{s:aA}{x:aO}{y:bP}(h:nS s y)(hx:bR s x):aFX s x y:=by
 refine⟨hx,h.fm,?_,fun _ a _ h1 h2=>?_,fun _ a _ h1=>?_⟩
 ·rcases h.at_ with h1 | ⟨a,h1,h2,_,h3,h4⟩
  ·exact .inl (by omega)
  ·exact .inr ⟨a,h1,h2,h3,h4⟩
 ·rcases aFn (s:=s) (x:=y.x) (y:=y.y) (wt:=kT s x) (ag:=a) (h.fm.box a).1 with⟨_,h3⟩ | ⟨_,_,_,h3,_⟩
  ·exact h3 h2
  ·exact absurd h1 h3
 ·rcases aFn (s:=s) (x:=y.x) (y:=y.y) (wt:=kT s x) (ag:=a) (h.fm.box a).1 with⟨h3,_⟩ | ⟨_,_,_,_,h4,h5⟩
  ·exact absurd h3 h1
  ·exact⟨h5,h4⟩
theorem Gt.aDm{s:aA}{x:aO}{y:bP}(h:Gt s y)(eX:y.at_= -1){a:Nat}(ha:a < 2)(st:Int):nS s (jM s x y a st):=by
 have hb:=h.fm.box a
 have hu:=aOv (s:=s) (x:=x) (st:=st) hb.1
 have hl:=aOw (s:=s) (x:=x) (l:=gP y a) (st:=st)
 have Cp:(vE s x (gP y a) st).length≤1000000:=Nat.le_trans hl.2 (by decide)
 unfold jM El
 split
 ·exact⟨⟨⟨h.fm.la,hu,h.fm.u1,Cp,h.fm.n1,h.fm.sx,h.fm.sy⟩,h.ax,h.ay,.inr (.inr rfl),h.h1,fun _=>hl.1,h.r1⟩,.inl eX⟩
 ·exact⟨⟨⟨h.fm.la,h.fm.u0,hu,h.fm.n0,Cp,h.fm.sx,h.fm.sy⟩,h.ax,h.ay,h.h0,.inr (.inr rfl),h.r0,fun _=>hl.1⟩,.inl eX⟩
theorem aCQ{s:aA}{x:dJ}(h:x.of s)(k id:Int):(eD x k id).of s:=by
 obtain⟨h1,h2,h3⟩:=aCR x k id
 exact⟨h1.trans h.d,h2.trans h.c,h3.trans h.l⟩
theorem nS.end_{s:aA}{y:bP}(h:nS s y){a:Nat}(eX:y.at_=(a:Int))(ha:a < 2)(r:aO×Bool):nS s (Cz s y r):=by
 unfold Cz
 split
 ·rw[eX,Int.toNat_natCast]
  exact Gt.aDm (y:={y with at_:= -1}) ⟨⟨h.fm.la,h.fm.u0,h.fm.u1,h.fm.n0,h.fm.n1,h.fm.sx,h.fm.sy⟩,h.ax,h.ay,h.h0,h.h1,h.r0,h.r1⟩ rfl ha 0
 ·exact h
theorem nS.next{s:aA}{x:aO}{y:bP}(hH:s.cI)(h:nS s y)(hx:bR s x):nS s (uC s x y).1∧bR s (uC s x y).2∧(uC s x y).2.wt=x.wt∧(uC s x y).2.aQ=x.aQ:=by
 unfold uC
 dsimp only
 rcases h.at_ with eX | ⟨a,eX,ha,_⟩
 ·have hlt:y.at_ < 0:=by omega
  cases hn:qH y with
  | none=>
   have ht:lR s x y=(y,false):=by unfold lR;rw[hn]
   rw[ht,if_pos ⟨hlt,rfl⟩]
   exact⟨h,hx,rfl,rfl⟩
  | some a =>
   have ha:=aDB h.fm.la hn
   have Cq:wN y a=1:=by
    unfold qH at hn
    split at hn
    ·cases hn;assumption
    ·split at hn
     ·cases hn;assumption
     ·cases hn
   have hla:(a:Int)=0∨(a:Int)=1:=by omega
   have ht:lR s x y=uB s x y a:=by unfold lR;rw[hn]
   rw[ht]
   by_cases hd:(fN s x y a).2.1=0
   ·have e:uB s x y a=(jM s x {y with last:=a} a (fN s x y a).1,false):=by
     unfold uB;dsimp only;rw[if_pos hd]
    rw[e,if_pos ⟨hlt,rfl⟩]
    exact⟨Gt.aDm (y:={y with last:=a}) ⟨⟨hla,h.fm.u0,h.fm.u1,h.fm.n0,h.fm.n1,h.fm.sx,h.fm.sy⟩,h.ax,h.ay,h.h0,h.h1,h.r0,h.r1⟩ eX ha _,hx,rfl,rfl⟩
   ·have e:uB s x y a=({y with last:=a,x:=cS y.x a (fN s x y a).2.1 (fN s x y a).2.2,y:=cR y.y a (fN s x y a).2.1 (fN s x y a).2.2,at_:=a,kind:=(fN s x y a).2.1,id:=(fN s x y a).2.2},true):=by
     unfold uB;dsimp only;rw[if_neg hd]
    rw[e,if_neg (by simp),if_pos hlt]
    dsimp only
    obtain⟨hk,hr⟩:=(h.step hx).new hlt a hn hd
    have hax:(cS y.x a (fN s x y a).2.1 (fN s x y a).2.2).of s:=by
     unfold cS;split
     ·exact aCQ h.ax _ _
     ·exact h.ax
    have hay:(cR y.y a (fN s x y a).2.1 (fN s x y a).2.2).of s:=by
     unfold cR;split
     ·exact h.ay
     ·exact aCQ h.ay _ _
    obtain⟨w1,w2⟩:=aFP s x (fN s x y a).2.1 (fN s x y a).2.2
    exact⟨nS.end_ (y:={y with last:=a,x:=cS y.x a (fN s x y a).2.1 (fN s x y a).2.2,y:=cR y.y a (fN s x y a).2.1 (fN s x y a).2.2,at_:=a,kind:=(fN s x y a).2.1,id:=(fN s x y a).2.2})
     ⟨⟨⟨hla,h.fm.u0,h.fm.u1,h.fm.n0,h.fm.n1,aMK h.fm.sx _ _ _,aMJ h.fm.sy _ _ _⟩,hax,hay,h.h0,h.h1,h.r0,h.r1⟩,.inr ⟨a,rfl,ha,Cq,hk,hr⟩⟩ rfl ha _,aCa hH hx _ _,w1,w2⟩
 ·have hlt:¬y.at_ < 0:=by omega
  rw[if_neg (fun hh=>hlt hh.1),if_neg hlt]
  obtain⟨w1,w2⟩:=aFP s x y.kind y.id
  exact⟨h.end_ eX ha _,aCa hH hx _ _,w1,w2⟩
theorem nS.send{s:aA}{y:bP}(h:nS s y)(a:Int){l:List Int}(hu:vF l)(hn:l.length≤1000000):nS s (mS y a l).2:=by
 have eX:∀b:Nat,y.at_= -1∨(∃c:Nat,y.at_=(c:Int)∧c < 2∧wN y c=1∧Kb s y.kind y.id∧qX (gP y c)):=fun _=>h.at_
 unfold mS
 split
 ·exact h
 ·split
  ·split
   ·exact h
   ·rename_i Az
    have Az:y.h0=0:=Classical.byContradiction Az
    refine⟨⟨⟨h.fm.la,hu,h.fm.u1,hn,h.fm.n1,h.fm.sx,h.fm.sy⟩,h.ax,h.ay,.inr (.inl rfl),h.h1,(fun h=>absurd (show(1:Int)=2 from h) (by decide)),h.r1⟩,?_⟩
    rcases h.at_ with h1 | ⟨c,h1,h2,h3,h4,h5⟩
    ·exact .inl h1
    ·refine .inr ⟨c,h1,h2,?_⟩
     obtain rfl | rfl:c=0∨c=1:=by omega
     ·exact absurd (Az.symm.trans h3) (by decide)
     ·exact⟨h3,h4,h5⟩
  ·split
   ·exact h
   ·rename_i Az
    have Az:y.h1=0:=Classical.byContradiction Az
    refine⟨⟨⟨h.fm.la,h.fm.u0,hu,h.fm.n0,hn,h.fm.sx,h.fm.sy⟩,h.ax,h.ay,h.h0,.inr (.inl rfl),h.r0,fun h=>absurd (show(1:Int)=2 from h) (by decide)⟩,?_⟩
    rcases h.at_ with h1 | ⟨c,h1,h2,h3,h4,h5⟩
    ·exact .inl h1
    ·refine .inr ⟨c,h1,h2,?_⟩
     obtain rfl | rfl:c=0∨c=1:=by omega
     ·exact⟨h3,h4,h5⟩
     ·exact absurd (Az.symm.trans h3) (by decide)
theorem nS.read{s:aA}{y:bP}(h:nS s y)(a:Int):nS s (nY y a):=by
 unfold nY
 split
 ·split
  ·rename_i h2
   refine⟨⟨⟨h.fm.la,(fun _ hv=>by cases hv),h.fm.u1,Nat.zero_le _,h.fm.n1,h.fm.sx,h.fm.sy⟩,h.ax,h.ay,.inl rfl,h.h1,(fun h=>absurd (show(0:Int)=2 from h) (by decide)),h.r1⟩,?_⟩
   rcases h.at_ with h1 | ⟨c,h1,hc,h3,h4,h5⟩
   ·exact .inl h1
   ·refine .inr ⟨c,h1,hc,?_⟩
    obtain rfl | rfl:c=0∨c=1:=by omega
    ·exact absurd (h2.symm.trans h3) (by decide)
    ·exact⟨h3,h4,h5⟩
  ·exact h
 ·split
  ·split
   ·rename_i h2
    refine⟨⟨⟨h.fm.la,h.fm.u0,(fun _ hv=>by cases hv),h.fm.n0,Nat.zero_le _,h.fm.sx,h.fm.sy⟩,h.ax,h.ay,h.h0,.inl rfl,h.r0,fun h=>absurd (show(0:Int)=2 from h) (by decide)⟩,?_⟩
    rcases h.at_ with h1 | ⟨c,h1,hc,h3,h4,h5⟩
    ·exact .inl h1
    ·refine .inr ⟨c,h1,hc,?_⟩
     obtain rfl | rfl:c=0∨c=1:=by omega
     ·exact⟨h3,h4,h5⟩
     ·exact absurd (h2.symm.trans h3) (by decide)
   ·exact h
  ·exact h
theorem Gt.ans{s:aA}{y:bP}(h:Gt s y){b:Int}{a:List Int}(ha:nZ y b=some a):2≤a.length:=by
 unfold nZ at ha
 split at ha
 ·split at ha
  ·cases ha;exact h.r0 (by assumption)
  ·cases ha
 ·split at ha
  ·split at ha
   ·cases ha;exact h.r1 (by assumption)
   ·cases ha
  ·cases ha
theorem aMg{s:aA}(hT:s.uL):nS s (pN s):=
 ⟨⟨⟨.inr rfl,(fun _ hv=>by simp[pN] at hv),(fun _ hv=>by simp[pN] at hv),by simp[pN],by simp[pN],aCu hT,aCu hT⟩,⟨by simp[pN,iB],by simp[pN,iB],by simp[pN,iB]⟩,⟨by simp[pN,iB],by simp[pN,iB],by simp[pN,iB]⟩,.inl rfl,.inl rfl,(fun h=>by simp[pN] at h),(fun h=>by simp[pN] at h)⟩,.inl rfl⟩
end
section
set_option maxHeartbeats 4000000
set_option maxRecDepth 20000
theorem aBz:∀(l:List (Int×Int)) (k v j:Int),gY (xR l k v) j=if j=k then v else gY l j
 | [], k, v, j => by
  by_cases h:j=k
  ·subst h;simp[gY,xR]
  ·rw[if_neg h]
   have h2:¬k=j:=fun e=>h e.symm
   simp[gY,xR,h2]
 | (a, b) :: l, k, v, j => by
  have ih:=aBz l k v j
  unfold xR
  by_cases Cs:a=k
  ·subst Cs
   rw[if_pos rfl]
   by_cases h:j=a
   ·subst h;simp[gY]
   ·have h2:¬a=j:=fun e=>h e.symm
    simp[gY,h,h2]
  ·rw[if_neg Cs]
   by_cases haj:a=j
   ·subst haj
    rw[if_neg Cs]
    simp[gY]
   ·have e1:∀m,gY ((a,b)::m) j=gY m j:=fun m=>by simp[gY,haj]
    rw[e1,e1,ih]
theorem nN(a b:Int){p:Prop}(h:a=b)(hn:a≠b:=by decide):p:=absurd h hn
theorem vT{z:aU}{i j:Nat}{t:pR}(hi:T3 i)(hj:T3 j):(z.iC j t).tk i=if i=j then t else z.tk i:=by
 rcases hi with rfl | rfl | rfl<;>rcases hj with rfl | rfl | rfl<;>rfl
structure kS(s:aA)(z:aU):Prop where
 wn:z.wn.of s
 len:∀j,T3 j→(z.tk j).hs.length=6
 nn:∀j,T3 j→∀i,0≤hG (z.tk j) i
 cnt:∀i:Nat,hG (z.tk 0) i+hG (z.tk 1) i+hG (z.tk 2) i=gY z.cn.l (i:Int)
 c7:∀i:Nat,gY z.cn.l (i:Int)≤7
 call:∀j,T3 j→(z.tk j).st=1→uN (z.tk j).kind
 st:∀j,T3 j→0≤(z.tk j).st∧(z.tk j).st≤3
 val:∀j,T3 j→0≤(z.tk j).val∧(z.tk j).val < 4294967296
 many:0≤z.many∧z.many < 1024
 zO:∀p∈z.steps,Uh p∧p.ok
def aON(z:aU):Prop:=(z.cH= -1∧(∀j,T3 j→(z.tk j).st≠2)∧z.aQ=false∧z.steps=[]∧z.sent=false)∨(∃j:Nat,T3 j∧z.cH=(j:Int)∧(∀i,T3 i→((z.tk i).st=2↔i=j))∧(z.aQ=false→z.steps≠[]))
structure nA(s:aA)(z:aU):Prop extends kS s z where
 cH:aON z
theorem aL9{s:aA}{z:aU}(h:kS s z){j:Nat}(hj:T3 j)(i:Nat):hG (z.tk j) i≤7:=by
 have h0:=h.nn 0 (.inl rfl) i
 have h1:=h.nn 1 (.inr (.inl rfl)) i
 have h2:=h.nn 2 (.inr (.inr rfl)) i
 have h3:=h.cnt i
 have h4:=h.c7 i
 rcases hj with rfl | rfl | rfl<;>omega
theorem kS.rp{s:aA}{z:aU}(h:kS s z):Oc s z:=⟨h.wn,fun j hj=>⟨h.len j hj,fun i=>⟨h.nn j hj i,by have:=aL9 h hj i;omega⟩⟩⟩
theorem kS.iC{s:aA}{z:aU}(h:kS s z){j:Nat}(hj:T3 j){t:pR}(hh:t.hs=(z.tk j).hs)(hs:0≤t.st∧t.st≤3)(hv:0≤t.val∧t.val < 4294967296)(hc:t.st=1→uN t.kind):kS s (z.iC j t):=by
 have hg:∀i,T3 i→((z.iC j t).tk i).hs=(z.tk i).hs:=fun i hi=>by
  rw[vT hi hj]
  split
  ·rename_i e;subst e;exact hh
  ·rfl
 have Xz:∀i,T3 i→∀k,hG ((z.iC j t).tk i) k=hG (z.tk i) k:=fun i hi k=>by unfold hG;rw[hg i hi]
 refine⟨h.wn,fun i hi=>by rw[hg i hi];exact h.len i hi,fun i hi k=>by rw[Xz i hi];exact h.nn i hi k,fun i=>?_,h.c7,fun i hi=>?_,fun i hi=>?_,fun i hi=>?_,h.many,h.zO⟩
 ·rw[Xz 0 (.inl rfl),Xz 1 (.inr (.inl rfl)),Xz 2 (.inr (.inr rfl))]
  exact h.cnt i
 ·rw[vT hi hj]
  split
  ·exact hc
  ·exact h.call i hi
 ·rw[vT hi hj]
  split
  ·exact hs
  ·exact h.st i hi
 ·rw[vT hi hj]
  split
  ·exact hv
  ·exact h.val i hi
theorem kS.pG{s:aA}{z:aU}(h:kS s z){j:Nat}(hj:T3 j){d:Nat}(hd:d < 6){k:Int}{c:Cn}(hc:∀i:Nat,gY c.l (i:Int)=if i=d then gY z.cn.l (d:Int)+k else gY z.cn.l (i:Int))(h0:0≤hG (z.tk j) d+k)(h7:gY z.cn.l (d:Int)+k≤7):kS s {z.iC j (pG (z.tk j) d k) with cn:=c}:=by
 have ht:∀i,T3 i→({z.iC j (Go.Proofs.YtdcdccmpcmjmhaaGreatDoor.pG (z.tk j) d k) with cn:=c}:aU).tk i=if i=j then Go.Proofs.YtdcdccmpcmjmhaaGreatDoor.pG (z.tk j) d k else z.tk i:=fun i hi=>(show _=(z.iC j (Go.Proofs.YtdcdccmpcmjmhaaGreatDoor.pG (z.tk j) d k)).tk i from rfl).trans (vT hi hj)
 have hu:∀i,hG (Go.Proofs.YtdcdccmpcmjmhaaGreatDoor.pG (z.tk j) d k) i=if d=i then hG (z.tk j) d+k else hG (z.tk j) i:=fun i=>aE9 (h.len j hj) hd
 have hg:∀i,T3 i→∀n,hG (({z.iC j (Go.Proofs.YtdcdccmpcmjmhaaGreatDoor.pG (z.tk j) d k) with cn:=c}:aU).tk i) n=hG (z.tk i) n+(if i=j∧n=d then k else 0):=fun i hi n=>by
  rw[ht i hi]
  by_cases e:i=j
  ·subst e
   rw[if_pos rfl,hu]
   by_cases e2:d=n
   ·subst e2
    simp
   ·rw[if_neg e2,if_neg (fun hh=>e2 hh.2.symm)]
    omega
  ·rw[if_neg e,if_neg (fun hh=>e hh.1)]
   omega
 refine⟨h.wn,fun i hi=>?_,fun i hi n=>?_,fun n=>?_,fun n=>?_,fun i hi=>?_,fun i hi=>?_,fun i hi=>?_,h.many,h.zO⟩
 ·rw[ht i hi]
  split
  ·show((z.tk j).hs.set _ _).length=6
   rw[List.length_set]
   exact h.len j hj
  ·exact h.len i hi
 ·rw[hg i hi]
  have:=h.nn i hi n
  split
  ·rename_i e
   obtain⟨rfl,rfl⟩:=e
   exact h0
  ·omega
 ·rw[hg 0 (.inl rfl),hg 1 (.inr (.inl rfl)),hg 2 (.inr (.inr rfl))]
  show _=gY c.l (n:Int)
  rw[hc]
  have:=h.cnt n
  by_cases e:n=d
  ·subst e
   rcases hj with rfl | rfl | rfl<;>simp<;>omega
  ·rw[if_neg e,if_neg (fun hh=>e hh.2),if_neg (fun hh=>e hh.2),if_neg (fun hh=>e hh.2)]
   omega
 ·show gY c.l (n:Int)≤7
  rw[hc]
  split
  ·exact h7
  ·exact h.c7 n
 ·rw[ht i hi]
  split
  ·rename_i e;subst e;exact h.call _ hi
  ·exact h.call i hi
 ·rw[ht i hi]
  split
  ·rename_i e;subst e;exact h.st _ hi
  ·exact h.st i hi
 ·rw[ht i hi]
  split
  ·rename_i e;subst e;exact h.val _ hi
  ·exact h.val i hi
theorem aNY{n:Nat}{c:Cn}{d:Int}(h:(pP n c d).1=0)(h0:0≤gY c.l d):c.kD=false∧0≤d∧d < n∧gY c.l d < 7∧(pP n c d).2=⟨xR c.l d (gY c.l d+1),c.kD⟩:=by
 unfold pP at h⊢
 split at h
 ·simp at h
 ·rename_i h1
  split at h
  ·simp at h
  ·rename_i h2
   split at h
   ·simp at h
   ·rename_i h3
    rw[if_neg h1,if_neg h2,if_neg h3,eR (by omega)]
    exact⟨by simpa using h1,by omega,by omega,by omega,rfl⟩
theorem aNu{n:Nat}{c:Cn}{d:Int}(h:(sC n c d).1=0)(h7:gY c.l d≤7):c.kD=false∧0≤d∧d < n∧0 < gY c.l d∧(sC n c d).2=⟨xR c.l d (gY c.l d - 1),c.kD⟩:=by
 unfold sC at h⊢
 split at h
 ·simp at h
 ·rename_i h1
  split at h
  ·simp at h
  ·rename_i h2
   split at h
   ·simp at h
   ·rename_i h3
    rw[if_neg h1,if_neg h2,if_neg h3,eR (by omega)]
    exact⟨by simpa using h1,by omega,by omega,by omega,rfl⟩
theorem kS.want{s:aA}{z:aU}(hm:s.made)(h:kS s z):kS s (vQ s z):=
 ⟨aGD s z,h.len,h.nn,h.cnt,h.c7,h.call,h.st,h.val,h.many,fun p hp=>⟨aOA p hp,aOB hm _ _ p hp⟩⟩
theorem kS.same{s:aA}{z:aU}(h:kS s z)(c:Cn)(hc:c.l=z.cn.l):kS s {z with cn:=c}:=
 ⟨h.wn,h.len,h.nn,fun i=>by show _=gY c.l _;rw[hc];exact h.cnt i,fun i=>by show gY c.l _≤7;rw[hc];exact h.c7 i,h.call,h.st,h.val,h.many,h.zO⟩
structure aCm(s:aA)(z:aU)(x:aO)(r:Int×aU×aO):Prop where
 b:kS s r.2.1
 st:∀i,(r.2.1.tk i).st=(z.tk i).st
 err:r.1≠0→r.2.1=z∧r.2.2=x
 x_:r.2.1.aQ=false→r.2.2=x
 po:r.2.1.aQ=true→z.aQ=true∨∃(d:Nat) (wr:Bool) (rg v:Int) (dv:bK),s.aC[d]? =some dv∧0≤rg∧rg < dv.aI.length∧0≤v∧v < 4294967296∧r.2.1.id=x.aQ∧r.2.2=Qb x d wr rg v
theorem aM2{s:aA}(hm:s.made){z:aU}(h:kS s z)(x:aO){j:Nat}(hj:T3 j)(k:Int):aCm s z x (Bd s x z j k):=by
 have hnd:=Vz s
 have lD:=hm.nv
 have same:∀e:Int,aCm s z x (e,z,x):=fun e=>⟨h,fun _=>rfl,fun _=>⟨rfl,rfl⟩,fun _=>rfl,fun hp=>.inl hp⟩
 have Eb:∀(d:Nat) (q:Int) (c:Cn) (i:Nat),((vQ s {z.iC j (pG (z.tk j) d q) with cn:=c}).tk i).st=(z.tk i).st:=fun d q c i=>by
  show((z.iC j (pG (z.tk j) d q)).tk i).st=_
  rcases hj with rfl | rfl | rfl
  all_goals
   match i with
   | 0=>rfl
   | 1=>rfl
   | n+2=>rfl
 have acc : ∀ wr : Bool, aCm s z x (Dp s x z j wr) := fun wr => by
  unfold Dp
  split
  ·exact same 4
  ·rename_i hb
   split
   ·exact same 6
   ·split
    ·refine⟨⟨h.wn,h.len,h.nn,h.cnt,h.c7,h.call,h.st,h.val,h.many,h.zO⟩,fun _=>rfl,fun h=>absurd rfl h,(fun h=>by cases h),fun _=>.inr ?_⟩
     have h1:bE s.aC.length (z.tk j).dev=true:=by
      cases hh:bE s.aC.length (z.tk j).dev with
      | true=>rfl
      | false=>exact absurd (.inl hh) hb
     have h2:=of_decide_eq_true h1
     obtain⟨dv,pL⟩:=get_some (l:=s.aC) (i:=(z.tk j).dev.toNat) (by omega)
     have h3:¬(z.tk j).bF < 0:=fun hh=>hb (.inr (.inl hh))
     have h4:¬Pq s (z.tk j).dev≤(z.tk j).bF:=fun hh=>hb (.inr (.inr hh))
     unfold Pq at h4
     rw[pL] at h4
     simp only[Option.map_some,Option.getD_some] at h4
     exact⟨_,wr,(z.tk j).bF,(z.tk j).val,dv,pL,by omega,by omega,(h.val j hj).1,(h.val j hj).2,rfl,rfl⟩
    ·exact same 6
 unfold Bd
 split
 ·unfold Iz
  split
  ·exact same _
  ·rename_i h1
   have h1:(pP (bX s).length z.cn (z.tk j).dev).1=0:=Classical.byContradiction h1
   have Fi:=aF0 h1
   obtain⟨d,hd⟩:∃d:Nat,(z.tk j).dev=d:=⟨(z.tk j).dev.toNat,by omega⟩
   rw[hd] at h1 Fi⊢
   obtain⟨_,_,h2,h3,h4⟩:=aNY h1 (by have:=h.cnt d;have:=h.nn 0 (.inl rfl) d;have:=h.nn 1 (.inr (.inl rfl)) d;have:=h.nn 2 (.inr (.inr rfl)) d;omega)
   rw[h4,Int.toNat_natCast]
   refine⟨kS.want hm (h.pG hj (by omega) (fun i=>?_) (by have:=h.nn j hj d;omega) (by omega)),Eb _ _ _,fun h=>absurd rfl h,fun _=>rfl,fun hp=>.inl hp⟩
   dsimp only
   rw[aBz]
   by_cases e:i=d
   ·subst e;simp
   ·rw[if_neg (by omega),if_neg e]
 ·split
  ·unfold Hj
   split
   ·exact same _
   ·rename_i hin
    split
    ·exact same _
    ·rename_i h0
     split
     ·exact same _
     ·rename_i h1
      have h1:(sC (bX s).length z.cn (z.tk j).dev).1=0:=Classical.byContradiction h1
      have hin:bE s.aC.length (z.tk j).dev=true:=by simpa using hin
      have hin:=of_decide_eq_true hin
      obtain⟨d,hd⟩:∃d:Nat,(z.tk j).dev=d:=⟨(z.tk j).dev.toNat,by omega⟩
      rw[hd] at h1 h0 hin⊢
      rw[Int.toNat_natCast] at h0⊢
      obtain⟨_,_,h2,h3,h4⟩:=aNu h1 (h.c7 d)
      rw[h4]
      refine⟨kS.want hm (h.pG hj (by omega) (fun i=>?_) (by have:=h.nn j hj d;omega) (by have:=h.c7 d;omega)),Eb _ _ _,fun h=>absurd rfl h,fun _=>rfl,fun hp=>.inl hp⟩
      dsimp only
      rw[aBz]
      by_cases e:i=d
      ·subst e;simp;omega
      ·rw[if_neg (by omega),if_neg e]
  ·split
   ·exact acc false
   ·split
    ·exact acc true
    ·split
     ·unfold He
      split
      ·exact same _
      ·rename_i h1
       refine⟨kS.want hm (h.same _ ?_),fun _=>rfl,fun h=>absurd rfl h,fun _=>rfl,fun hp=>.inl hp⟩
       unfold vB
       split<;>rfl
     ·unfold Hi
      split
      ·exact same _
      ·refine⟨kS.want hm (h.same _ ?_),fun _=>rfl,fun h=>absurd rfl h,fun _=>rfl,fun hp=>.inl hp⟩
       unfold vC
       split<;>rfl
theorem kS.end_{s:aA}{z:aU}(h:kS s z){j:Nat}(hj:T3 j)(h2:∀i,T3 i→(z.tk i).st=2→i=j)(e r:Int):nA s (kC z j e r):=by
 have h1:=h.iC hj (t:={z.tk j with st:=3,err:=e,res:=r}) rfl ⟨by show(0:Int)≤3;decide,by show(3:Int)≤3;decide⟩ (h.val j hj) (fun hh=>nN 3 1 hh)
 refine⟨⟨h1.wn,h1.len,h1.nn,h1.cnt,h1.c7,h1.call,h1.st,h1.val,h1.many,fun p hp=>by cases hp⟩,.inl ⟨rfl,fun i hi hst=>?_,rfl,rfl,rfl⟩⟩
 have hst:((z.iC j {z.tk j with st:=3,err:=e,res:=r}).tk i).st=2:=hst
 rw[vT hi hj] at hst
 split at hst
 ·exact nN 3 2 hst
 ·rename_i hne
  exact hne (h2 i hi hst)
theorem aJ6{z:aU}{i j:Nat}(hi:T3 i)(hj:T3 j):(jA z j).tk i=if i=j then {z.tk j with st:=2} else z.tk i:=vT hi hj
theorem aOn{s:aA}(hm:s.made){z:aU}(h:nA s z)(hh:z.cH < 0)(x:aO){j:Nat}(hj:T3 j):nA s (sE s x z j).1∧z.aQ=false∧((sE s x z j).1.aQ=false→(sE s x z j).2=x)∧((sE s x z j).1.aQ=true→∃(d:Nat) (wr:Bool) (rg v:Int) (dv:bK),s.aC[d]? =some dv∧0≤rg∧rg < dv.aI.length∧0≤v∧v < 4294967296∧(sE s x z j).1.id=x.aQ∧(sE s x z j).2=Qb x d wr rg v):=by
 obtain⟨_,hno,lB,hsp,Xd⟩:z.cH= -1∧(∀j,T3 j→(z.tk j).st≠2)∧z.aQ=false∧z.steps=[]∧z.sent=false:=by
  rcases h.cH with h1 | ⟨i,_,h1,_⟩
  ·exact h1
  ·omega
 have hb:kS s (jA z j):=by
  have:=h.tokS.iC hj (t:={z.tk j with st:=2}) rfl ⟨by show(0:Int)≤2;decide,by show(2:Int)≤3;decide⟩ (h.val j hj) (fun hh=>nN 2 1 hh)
  exact⟨this.wn,this.len,this.nn,this.cnt,this.c7,this.call,this.st,this.val,this.many,this.zO⟩
 have h2:∀i,T3 i→(((jA z j).tk i).st=2↔i=j):=fun i hi=>by
  rw[aJ6 hi hj]
  split
  ·rename_i e;exact⟨fun _=>e,fun _=>rfl⟩
  ·rename_i e;exact⟨fun hh=>absurd hh (hno i hi),fun hh=>absurd hh e⟩
 have he:=aM2 hm hb x hj (z.tk j).kind
 have Il:=aEV s x (jA z j) j (z.tk j).kind
 have aKN:(jA z j).aQ=false:=lB
 unfold sE
 dsimp only
 generalize Bd s x (jA z j) j (z.tk j).kind=r at he Il
 split
 ·rename_i hne
  obtain⟨e1,e2⟩:=he.err hne
  rw[e1,e2]
  exact⟨hb.end_ hj (fun i hi hst=>(h2 i hi).1 hst) _ _,lB,fun _=>rfl,fun hp=>by cases hp⟩
 ·have h3:∀i,T3 i→((r.2.1.tk i).st=2↔i=j):=fun i hi=>by rw[he.st i];exact h2 i hi
  split
  ·rename_i hc
   exact⟨he.b.end_ hj (fun i hi hst=>(h3 i hi).1 hst) _ _,lB,fun _=>he.x_ hc.1,fun hp=>by cases hp⟩
  ·rename_i hc
   refine⟨⟨he.b,.inr ⟨j,hj,Il,h3,fun hp hs=>hc ⟨hp,by rw[hs];rfl⟩⟩⟩,lB,he.x_,fun hp=>?_⟩
   rcases he.po hp with h4 | h4
   ·rw[aKN] at h4;cases h4
   ·exact h4
theorem aOF{s:aA}{z:aU}{y:bP}(h:nA s z)(hy:nS s y){j:Nat}(hj:T3 j)(hst:(z.tk j).st=2)(lB:z.aQ=false):nA s (qS z y j).1∧nS s (qS z y j).2∧(qS z y j).1.aQ=false:=by
 obtain⟨hh,h2,hne⟩:z.cH=(j:Int)∧(∀i,T3 i→((z.tk i).st=2↔i=j))∧z.steps≠[]:=by
  rcases h.cH with⟨_,h1,_⟩ | ⟨i,hi,h1,h2,h3⟩
  ·exact absurd hst (h1 j hj)
  ·obtain rfl:=(h2 j hj).1 hst
   exact⟨h1,h2,h3 lB⟩
 unfold qS
 split
 ·cases hr:nZ y 0 with
  | none=>exact⟨h,hy.read 0,lB⟩
  | some a =>
   dsimp only
   have hb:kS s (pZ z a):=by
    unfold pZ
    split
    ·exact⟨h.wn,h.len,h.nn,h.cnt,h.c7,h.call,h.st,h.val,h.many,fun p hp=>h.zO p (List.mem_of_mem_tail hp)⟩
    ·exact⟨h.wn,h.len,h.nn,h.cnt,h.c7,h.call,h.st,h.val,h.many,h.zO⟩
   have ht:∀i,(pZ z a).tk i=z.tk i:=fun i=>by unfold pZ;split<;>rfl
   have hhh:(pZ z a).cH=z.cH:=by unfold pZ;split<;>rfl
   have hpp:(pZ z a).aQ=z.aQ:=by unfold pZ;split<;>rfl
   split
   ·exact⟨hb.end_ hj (fun i hi hs=>by rw[ht] at hs;exact(h2 i hi).1 hs) _ _,hy.read 0,rfl⟩
   ·rename_i hl
    exact⟨⟨hb,.inr ⟨j,hj,hhh.trans hh,fun i hi=>by rw[ht];exact h2 i hi,fun _ hs=>hl (by rw[hs];rfl)⟩⟩,hy.read 0,hpp.trans lB⟩
 ·cases hs:z.steps with
  | nil=>exact absurd hs hne
  | cons p tl =>
   dsimp only
   obtain⟨hk,hok⟩:=h.zO p (by rw[hs];simp)
   have hu:vF (tV p z.many):=fun v hv=>by
    simp only[tV,List.mem_cons,List.not_mem_nil,or_false] at hv
    rcases hv with rfl | rfl | rfl
    ·exact aJm _ _ _ _
    ·exact hok.id
    ·exact hok.v
   have zX:=hy.send 0 hu (by simp[tV])
   split
   ·refine⟨⟨⟨h.wn,h.len,h.nn,h.cnt,h.c7,h.call,h.st,h.val,?_,fun q hq=>h.zO q (by rw[hs];exact hq)⟩,.inr ⟨j,hj,hh,h2,fun _ hc=>by cases hc⟩⟩,zX,lB⟩
    have:=h.many
    show 0≤(z.many+1) % 1024∧(z.many+1) % 1024 < 1024
    omega
   ·exact⟨h,zX,lB⟩
theorem aHp{s:aA}{z:aU}(h:nA s z)(t k d r v:Int)(hv:0≤v∧v < 4294967296):nA s (sW z t k d r v).2∧(sW z t k d r v).2.aQ=z.aQ∧(sW z t k d r v).2.id=z.id:=by
 unfold sW
 split
 ·exact⟨h,rfl,rfl⟩
 ·rename_i hin
  obtain⟨j,rfl,hj⟩:=Ev (t:=t) (by simpa using hin)
  rw[Int.toNat_natCast]
  split
  ·exact⟨h,rfl,rfl⟩
  ·rename_i h0
   have h0:(z.tk j).st=0:=Classical.byContradiction h0
   split
   ·exact⟨h,rfl,rfl⟩
   ·rename_i hk
    have hk:uN k:=Classical.byContradiction hk
    refine⟨⟨h.tokS.iC hj rfl ⟨by show(0:Int)≤1;decide,by show(1:Int)≤3;decide⟩ hv (fun _=>hk),?_⟩,rfl,rfl⟩
    have key:∀i,T3 i→(((z.iC j {z.tk j with st:=1,kind:=k,dev:=d,bF:=r,val:=v}).tk i).st=2↔(z.tk i).st=2):=fun i hi=>by
     rw[vT hi hj]
     split
     ·rename_i e;subst e
      rw[h0]
      exact⟨fun h=>nN 1 2 h,fun h=>nN 0 2 h⟩
     ·exact Iff.rfl
    rcases h.cH with⟨h1,h2,h3⟩ | ⟨i,hi,h1,h2,h3⟩
    ·exact .inl ⟨h1,fun i hi hs=>h2 i hi ((key i hi).1 hs),h3⟩
    ·exact .inr ⟨i,hi,h1,fun k hk=>(key k hk).trans (h2 k hk),h3⟩
theorem aMG{s:aA}{z:aU}(h:nA s z)(t:Int):nA s (mB z t).2∧(mB z t).2.aQ=z.aQ∧(mB z t).2.id=z.id:=by
 unfold mB
 split
 ·exact⟨h,rfl,rfl⟩
 ·rename_i hin
  obtain⟨j,rfl,hj⟩:=Ev (t:=t) (by simpa using hin)
  rw[Int.toNat_natCast]
  split
  ·exact⟨h,rfl,rfl⟩
  ·rename_i h0
   have h0:(z.tk j).st=3:=Classical.byContradiction h0
   refine⟨⟨h.tokS.iC hj rfl ⟨by show(0:Int)≤0;decide,by show(0:Int)≤3;decide⟩ ⟨by show(0:Int)≤0;decide,by show(0:Int) < 4294967296;decide⟩ (fun h=>nN 0 1 h),?_⟩,rfl,rfl⟩
   have key:∀i,T3 i→(((z.iC j {z.tk j with st:=0,kind:=0,dev:=0,bF:=0,val:=0,err:=0,res:=0}).tk i).st=2↔(z.tk i).st=2):=fun i hi=>by
    rw[vT hi hj]
    split
    ·rename_i e;subst e
     rw[h0]
     exact⟨fun h=>nN 0 2 h,fun h=>nN 3 2 h⟩
    ·exact Iff.rfl
   rcases h.cH with⟨h1,h2,h3⟩ | ⟨i,hi,h1,h2,h3⟩
   ·exact .inl ⟨h1,fun i hi hs=>h2 i hi ((key i hi).1 hs),h3⟩
   ·exact .inr ⟨i,hi,h1,fun k hk=>(key k hk).trans (h2 k hk),h3⟩
theorem aOx{s:aA}{z:aU}(h:nA s z)(a:kH):nA s (wX z a):=by
 unfold wX
 split
 ·exact h
 ·rename_i hp
  obtain⟨j,hj,hh,h2⟩:∃j:Nat,T3 j∧z.cH=(j:Int)∧∀i,T3 i→((z.tk i).st=2↔i=j):=by
   rcases h.cH with⟨_,_,h1,_⟩ | ⟨i,hi,h1,h2,_⟩
   ·exact absurd h1 hp
   ·exact⟨i,hi,h1,h2⟩
  have h3:∀e r,nA s (kC z z.cH.toNat e r):=fun e r=>by
   rw[hh,Int.toNat_natCast]
   exact h.tokS.end_ hj (fun i hi hs=>(h2 i hi).1 hs) e r
  split
  ·exact h
  ·split
   ·exact h3 _ _
   ·exact h3 _ _
theorem aFK{s:aA}:∀(l:List kH) {z:aU},nA s z→nA s (sF z l)
 | [],_,h=>h
 | a::l,_,h=>aFK l (aOx h a)
theorem nA.po{s:aA}{z:aU}(h:nA s z):Jv z:=fun hp=>by
 rcases h.cH with⟨_,_,h1,_⟩ | ⟨i,hi,h1,_⟩
 ·rw[h1] at hp;cases hp
 ·exact⟨i,h1,hi⟩
theorem nA.go{s:aA}{z:aU}{y:bP}(h:nA s z)(hy:Gt s y):aFZ s z y:=by
 refine⟨h.rp,h.call,fun j hj hst=>?_,h.many,fun p hp=>(aLe (h.zO p hp).1 h.many.1 h.many.2).1,fun a ha=>hy.ans ha⟩
 rcases h.cH with⟨_,h1,_⟩ | ⟨i,hi,h1,h2,h3⟩
 ·exact absurd hst (h1 j hj)
 ·obtain rfl:=(h2 j hj).1 hst
  exact⟨h1,h3⟩
theorem aHX{s:aA}:nA s (Ee s):=by
 have ht:∀j,T3 j→(Ee s).tk j=Ot:=by rintro j (rfl | rfl | rfl)<;>rfl
 have h0:∀i,hG Ot i=0:=fun i=>by
  match i with
  | 0 | 1 | 2 | 3 | 4 | 5=>rfl
  | n+6=>rfl
 refine⟨⟨Zy s [],fun j hj=>by rw[ht j hj];rfl,fun j hj i=>by rw[ht j hj,h0];decide,fun i=>?_,fun i=>?_,fun j hj h=>?_,fun j hj=>?_,fun j hj=>?_,⟨by show(0:Int)≤0;decide,by show(0:Int) < 1024;decide⟩,fun p hp=>by cases hp⟩,.inl ⟨rfl,fun j hj h=>?_,rfl,rfl,rfl⟩⟩
 ·rw[ht 0 (.inl rfl),ht 1 (.inr (.inl rfl)),ht 2 (.inr (.inr rfl)),h0]
  rfl
 ·show(0:Int)≤7
  decide
 ·rw[ht j hj] at h
  exact nN 0 1 h
 ·rw[ht j hj]
  decide
 ·rw[ht j hj]
  decide
 ·rw[ht j hj] at h
  exact nN 0 2 h
end
section
set_option maxHeartbeats 4000000
set_option maxRecDepth 20000
theorem aH.evA{w0:World}{R:List Piece}{H:List HP}{q:Piece}{A:Option Addr}{es:List (Int×Nat)}{j:Nat}{p:Int×Nat}(hq:q∈R)(hs:aE q 2 A es.length (es.flatMap Bc))(hj:es[j]? =some p):∃b off,A=some ⟨b,off,none⟩∧aH w0 R H b (off+j*2) (Bc p):=by
 have hlt:=(List.getElem?_eq_some_iff.1 hj).1
 obtain⟨b,off,hA,hz,hc⟩:=aE.vY (rows:=es.map Bc) (sz:=2) (k:=j) (r:=Bc p) (n:=es.length) (by rw[←List.flatMap_def];exact hs) (fun r hr=>by
  obtain⟨x,_,rfl⟩:=List.mem_map.1 hr
  rfl) (by rw[List.getElem?_map,hj];rfl) hlt
 exact⟨b,off,hA,.of fun k v hv=>Rd.ro hq hz (hc k v hv)⟩
def fR(s:aA)(x:aO):Nat→aO×List kH
 | 0=>(x,[])
 | n+1=>((gZ s (fR s x n).1 n).1,(fR s x n).2++(gZ s (fR s x n).1 n).2.toList)
def mR(s:aA)(x:aO)(bZ:Int):aO×List kH:=(Ou s (fR s x s.aC.length).1 bZ,(fR s x s.aC.length).2)
theorem Jo{s:aA}{x:aO}(hok:bR s x)(kZ:Bi s x):∀n,bR s (fR s x n).1∧Bi s (fR s x n).1
 | 0=>⟨hok,kZ⟩
 | n+1=>⟨aO2 (Jo hok kZ n).1 (Jo hok kZ n).2 n,aO0 (Jo hok kZ n).2 n⟩
theorem aBV{s:aA}{x:aO}:∀n,(fR s x n).2.length≤n
 | 0=>Nat.le_refl _
 | n+1=>by
  have:=aBV (s:=s) (x:=x) n
  show((fR s x n).2++_).length≤_
  rw[List.length_append]
  cases(gZ s (fR s x n).1 n).2<;>simp<;>omega
theorem Yv{s:aA}{x:aO}{i:Nat}(h:(x.wt[i]?).join=none):gZ s x i=(x,none):=by
 unfold gZ
 rw[h]
theorem aBU{s:aA}{x:aO}{i:Nat}{t:gK}(hok:bR s x)(hi:i < s.aC.length)(h:(x.wt[i]?).join=some t):∃a,(gZ s x i).2=some a∧(gZ s x i).1.wt=x.wt.set i none:=by
 obtain⟨d,hd⟩:=get_some hi
 obtain⟨p,hp⟩:=get_some (l:=x.dv) (i:=i) (by have:=hok.dv;omega)
 unfold gZ
 rw[h,hd,hp]
 dsimp only
 split<;>exact⟨_,rfl,rfl⟩
theorem aO3{s:aA}{x:aO}(hok:bR s x)(i j:Nat)(h:j=i∨(x.wt[j]?).join=none):((gZ s x i).1.wt[j]?).join=none:=by
 cases hq:(x.wt[i]?).join with
 | none=>
  rw[Yv hq]
  rcases h with rfl | h
  ·exact hq
  ·exact h
 | some t =>
  have hlt:i < s.aC.length:=by
   have:=hok.wt
   rcases Nat.lt_or_ge i x.wt.length with h | h
   ·omega
   ·rw[List.getElem?_eq_none h] at hq
    cases hq
  obtain⟨a,_,h2⟩:=aBU hok hlt hq
  rw[h2]
  cases hj:((x.wt.set i none)[j]?).join with
  | none=>rfl
  | some t' =>
   have h3:=aAj hj
   rcases h with rfl | h
   ·rw[List.getElem?_set] at hj
    simp at hj
    split at hj<;>cases hj
   ·rw[h] at h3
    cases h3
theorem aFJ{s:aA}{x:aO}(hok:bR s x)(kZ:Bi s x):∀n j,j < n→((fR s x n).1.wt[j]?).join=none
 | 0,_,h=>absurd h (by omega)
 | n+1,j,h=>aO3 (Jo hok kZ n).1 n j (by
  by_cases hj:j=n
  ·exact .inl hj
  ·exact .inr (aFJ hok kZ n j (by omega)))
theorem aFH{s:aA}{x:aO}(hok:bR s x)(kZ:Bi s x)(i:Nat):nE (fR s x s.aC.length).1.wt i=0:=by
 have h:=(Jo hok kZ s.aC.length).1.wt
 unfold nE
 rcases Nat.lt_or_ge i s.aC.length with hi | hi
 ·rw[aFJ hok kZ _ i hi]
  rfl
 ·rw[List.getElem?_eq_none (by omega)]
  rfl
theorem aLj(L:HL)(s:aA)(x0:aO)(w:World)(hH:s.cI)(aM:fF L s)(aBk:bR s x0)(aEf:Bi s x0)(bZ:Int)(hd:0≤bZ∧bZ < 4294967296)(F:Nat→Prop)(hp:(cP L s x0).sat F w)(hF:∀b,F b→b < w.heap.size):
  Calls Tryz.prog 22 #[.pointer (some ⟨L.h,0,none⟩),.int .u32 bZ] w (fun y w'=>∃a:Option Addr×Nat,y=.returned (.slice a.1 (mR s x0 bZ).2.length a.2)∧True∧∃F',(HP.many [cP L s (mR s x0 bZ).1,HP.own 143 4 (.slice a.1 (mR s x0 bZ).2.length a.2) (mR s x0 bZ).2.length ((mR s x0 bZ).2.flatMap kH.cells)]).sat F' w'∧aV w w' F F'):=by
 have lD:=hH.t.nv
 have hnd:=hH.t.nd
 have hls:=aM.ds
 refine XK.bY Tryz.func22 Tryz.ntmps22 hp hF ?_
 generalize bN:(⟨w,fun b=>b < w.heap.size∧¬F b⟩:Piece)=R0
 refine XK.go ?_
 refine aJ (fun w1 t=>yJ L s x0 w1 (t.kB 0 rfl aM aBk)) ?_
 refine XK.go ?_
 refine kd (aX rfl (Rd.hard 0 rfl rfl)) ?_
 refine XK.go ?_
 refine XK.fY 143 4 ?_
 refine XK.aT [(24,iv 0),(23,iv s.aC.length),(5,sn),(0,.pointer (some ⟨L.h,0,none⟩)),(1,.int .u32 bZ)] ?_
 refine XK.loop (fun m e R H=>∃(i:Nat) (A:Option Addr) (c:Nat),i≤s.aC.length∧m=s.aC.length - i∧e=[(24,iv i),(23,iv s.aC.length),(5,.slice A (fR s x0 i).2.length c),(0,.pointer (some ⟨L.h,0,none⟩)),(1,.int .u32 bZ)]∧R=[R0]∧H=[HP.own 143 4 (.slice A (fR s x0 i).2.length c) (fR s x0 i).2.length ((fR s x0 i).2.flatMap kH.cells),cP L s (fR s x0 i).1]) s.aC.length ⟨0,none,0,by omega,rfl,rfl,rfl,rfl⟩ fun m e R H hI=>?_
 obtain⟨i,A0,c0,hi,rfl,rfl,rfl,rfl⟩:=hI
 obtain⟨Fa,Wu⟩:=Jo aBk aEf i
 have hlen:=aBV (s:=s) (x:=x0) i
 refine XK.go ?_
 refine XK.if_ rfl (fun hlt=>?_) (fun hge=>?_)
 ·have hlt:i < s.aC.length:=by omega
  have cQ:fR s x0 (i+1)=((gZ s (fR s x0 i).1 i).1,(fR s x0 i).2++(gZ s (fR s x0 i).1 i).2.toList):=rfl
  generalize hr:fR s x0 i=r at Fa Wu hlen cQ⊢
  obtain⟨xi,l⟩:=r
  dsimp only at Fa Wu hlen cQ⊢
  cases hj:(xi.wt[i]?).join with
  | none=>
   rw[Yv hj] at cQ
   refine XK.go ?_
   refine aJ (fun w1 t=>aLr L s xi i hlt (by unfold nE;rw[hj];rfl) w1 (t.kB 1 rfl aM Fa)) ?_
   refine XK.go ?_
   refine bB fun g1=>?_
   refine XK.go ?_
   refine XK.weak [1,2] rfl (by decide) (fun _ h=>h) ?_
   refine XK.aT [(24,iv (i+1:Nat)),(23,iv s.aC.length),(5,.slice A0 l.length c0),(0,.pointer (some ⟨L.h,0,none⟩)),(1,.int .u32 bZ)] ?_
   exact XK.round (s.aC.length - (i+1)) (by omega) ⟨i+1,A0,c0,hlt,rfl,by rw[cQ];simp,rfl,by rw[cQ];simp⟩
  | some t=>
   obtain⟨d,cF⟩:=get_some hlt
   obtain⟨a,ha,_⟩:=aBU Fa hlt hj
   obtain⟨Nz,Ua,Jp,Gf⟩:=a
   rw[ha] at cQ
   refine XK.go ?_
   refine cX (v:=.tuple #[.agg #[iv Nz,iv Ua,.bool Jp,.int .u32 Gf],.bool true]) 1 (cP L s (gZ s xi i).1) (fun w1 F1 st h1 h2 h3=>aLq L s xi w1 hH aM Fa Wu i d cF t hj _ ha F1 h1 h2) ?_
   dsimp only[List.set]
   refine XK.go ?_
   refine bB fun g1=>?_
   refine XK.go ?_
   refine dF fun g4=>?_
   refine XK.go ?_
   refine fG 2 4 24 1 (n':=l.length+1) (el:=143) (by kernel_rfl) (by kernel_rfl) (by decide) rfl rfl rfl (kX 0 rfl rfl) (by simp[Value.oneCell']) rfl (by omega) (by omega) (by decide) fun An cn=>?_
   dsimp only[List.set]
   refine XK.go ?_
   refine XK.weak [2,3] rfl (by decide) (fun _ h=>h) ?_
   refine XK.aT [(24,iv (i+1:Nat)),(23,iv s.aC.length),(5,.slice An (l.length+1) cn),(0,.pointer (some ⟨L.h,0,none⟩)),(1,.int .u32 bZ)] ?_
   exact XK.round (s.aC.length - (i+1)) (by omega) ⟨i+1,An,cn,hlt,rfl,by rw[cQ];simp,rfl,by rw[cQ];simp[kH.cells]⟩
 obtain rfl:i=s.aC.length:=by omega
 have kZ:=aFH aBk aEf
 have aBn:mR s x0 bZ=(Ou s (fR s x0 s.aC.length).1 bZ,(fR s x0 s.aC.length).2):=rfl
 generalize hr:fR s x0 s.aC.length=r at Fa Wu hlen kZ aBn⊢
 obtain⟨x,l⟩:=r
 dsimp only at Fa kZ hlen aBn⊢
 rw[aBn]
 have hok:=Fa
 have kA:=hok.dv
 refine XK.weak [1,0] rfl (by decide) (fun _ h=>h) ?_
 generalize hT:HP.own 143 4 (.slice A0 l.length c0) l.length (l.flatMap kH.cells)=T
 generalize hTv:Value.slice A0 l.length c0=tv
 refine XK.go ?_
 refine kd (aX rfl (Rd.hard 0 rfl rfl)) ?_
 refine XK.go ?_
 have Ez:zU x bZ 0=x.dv:=Li _ _
 refine XK.aT [(44,iv 0),(43,iv s.aC.length),(42,.slice L.A s.aC.length L.c),(5,tv),(0,.pointer (some ⟨L.h,0,none⟩)),(1,.int .u32 bZ)] ?_
 refine XK.loop (fun m e R H=>∃i:Nat,i≤s.aC.length∧m=s.aC.length - i∧e=[(44,iv i),(43,iv s.aC.length),(42,.slice L.A s.aC.length L.c),(5,tv),(0,.pointer (some ⟨L.h,0,none⟩)),(1,.int .u32 bZ)]∧R=[R0]∧H=[cP L s {x with dv:=zU x bZ i},T]) s.aC.length ⟨0,by omega,rfl,rfl,rfl,by rw[Ez]⟩ fun m e R H hI=>?_
 obtain⟨i,hi,rfl,rfl,rfl,rfl⟩:=hI
 have lC:=aAH hH hok bZ i
 refine XK.go ?_
 refine XK.if_ rfl (fun hlt=>?_) (fun hge=>?_)
 ·have hlt:i < s.aC.length:=by omega
  obtain⟨d,cF⟩:=get_some hlt
  obtain⟨l,gA⟩:=get_some (l:=L.ds) (i:=i) (by omega)
  obtain⟨p,fI⟩:=get_some (l:=x.dv) (i:=i) (by omega)
  have jC:(zU x bZ i)[i]? =some p:=Ll fI
  have hstep:(zU x bZ i).set i (p.1,vU p.2 (decide (0 < nE x.wt i)) (To bZ i))=zU x bZ (i+1):=Lj (f:=fun i p=>(p.1,vU p.2 (decide (0 < nE x.wt i)) (To bZ i))) fI
  have hw0:decide (0 < nE x.wt i)=false:=by rw[kZ i];rfl
  rw[hw0] at hstep
  refine XK.rows 0 rfl aM lC (by omega) fun b off hA=>?_
  refine XK.go ?_
  refine kd (dat i (off+i*6) (hx:=by rw[←hA];rfl)) ?_
  refine kd (mE rfl (aH.dev 0 rfl aM lC hA cF gA rfl)) ?_
  refine bB fun g1=>?_
  refine XK.go ?_
  refine XK.eU [0,1,3,4,5,11,12,13] ?_
  refine XB.mv 2 ?_
  refine XB.mv 6 ?_
  refine XB.mv 9 ?_
  refine XB.mv 10 ?_
  refine XB.q 0 ?_
  refine XB.q 1 ?_
  refine XB.q 3 ?_
  refine XB.q 4 ?_
  refine XB.q 5 ?_ (cY:=aX rfl (Rd.hard 1 rfl rfl))
  refine XB.q 11 ?_ (cY:=aFe rfl rfl (c:=bZ.fdiv (2 ^ min i 32)) (by omega) rfl)
  refine XB.q 12 ?_ (cY:=aFl (c:=Yw (bZ.fdiv (2 ^ min i 32)) 1) rfl rfl (fun _=>rfl) (by simp))
  refine XB.q 13 ?_
  refine XB.next 7 rfl (by kernel_rfl) ?_
  refine aJ (fun w1 t=>aF5 L.B (iF s) x.wt x.aQ i (by rw[Ca];exact hlt) w1 (t.kB 1 rfl aM lC).Yt) ?_
  refine XB.bk ?_
  refine XB.next 8 rfl (by kernel_rfl) ?_
  refine bA ?_
  refine XB.bk ?_
  refine XB.next 14 rfl (by kernel_rfl) ?_
  refine XK.Kz 1 i rfl cF gA jC ?_
  dsimp only[List.set]
  refine XK.tk 0 1 ?_
  refine cX 0 (qY l.2 (vU p.2 (decide ((nE x.wt i:Int)>0)) (To bZ i))) (fun w1 F1 t h1 h2 h3=>aIX _ _ h1 h2) ?_
  dsimp only[List.set]
  refine XK.gv 0 1 ?_
  refine XK.Nn 1 i rfl cF gA jC (p':=(p.1,vU p.2 (decide ((nE x.wt i:Int)>0)) (To bZ i))) ?_
  dsimp only[List.set]
  have hw1:decide ((nE x.wt i:Int)>0)=false:=by rw[kZ i];rfl
  rw[hw1,hstep]
  refine XB.bt ?_
  refine XB.done (by kernel_rfl) ?_
  refine XK.go ?_
  refine XK.weak [1,2] rfl (by decide) (fun _ h=>h) ?_
  exact XK.rd (s.aC.length - (i+1)) ⟨i+1,hlt,rfl,rfl,rfl,rfl⟩
 obtain rfl:i=s.aC.length:=by omega
 have aBi:=aAH hH hok bZ s.aC.length
 generalize pL:zU x bZ s.aC.length=yW at aBi⊢
 refine XK.go ?_
 refine kd (aX rfl (Rd.hard 0 rfl rfl)) ?_
 refine XK.go ?_
 refine XK.tk 0 1 ?_
 refine cX 0 (mF L.T s (kV s x.ck)) (fun w1 F1 t h1 h2 h3=>aN8 L.T s x.ck hH aM.fa hok.ck w1 F1 h1 h2) ?_
 dsimp only[List.set]
 refine XK.gv 0 1 ?_
 change XK _ _ _ _ _ [cP L s {x with ck:=kV s x.ck,dv:=yW},T]
 refine XK.go ?_
 refine kd (aX rfl (Rd.hard 0 rfl rfl)) ?_
 refine XK.go ?_
 refine XK.tk 0 2 ?_
 refine vP (α:=Option Addr×Nat) 0 (f:=59) (fi:=[]) (ca:=[]) (fun a=>.slice a.1 (jE x.dm s.domains.length).length a.2) (fun a=>HP.many [sL L.G s (nW x.dm),HP.own 151 2 (.slice a.1 (jE x.dm s.domains.length).length a.2) (jE x.dm s.domains.length).length ((jE x.dm s.domains.length).flatMap Bc)]) (fun _=>True) (by kernel_rfl) rfl rfl rfl (by decide) (fun w1 F1 t h1 h2 h3=>aJe L.G s x.dm hok.dm (by omega) w1 F1 h1 h2) ?_
 rintro⟨Ae,ce⟩ _
 dsimp only[List.set]
 refine XK.tk 0 0 ?_
 refine XK.gv 1 2 ?_
 refine XK.tk 0 1 ?_
 refine XK.still [] [0] [2,3] (by simp) rfl (by decide) (by decide) fun q hq _ hfr=>?_
 obtain⟨F2,rL,rG⟩:=hq 0 _ (by simp) rfl
 have hev:aE q 2 Ae (jE x.dm s.domains.length).length ((jE x.dm s.domains.length).flatMap Bc):=aE.own ⟨F2,rL,rG⟩
 have iO:bR s {x with ck:=kV s x.ck,dm:=nW x.dm,dv:=yW}:=⟨aAf hH hok.ck,aAe hok.dm,hok.ln,aBi.dv,aBi.each,hok.wt⟩
 have hel:(jE x.dm s.domains.length).length≤1000:=Nat.le_trans (aET x.dm s.domains.length) (by omega)
 generalize hes:jE x.dm s.domains.length=es at hev hel⊢
 change XK _ _ _ _ _ [cP L s {x with ck:=kV s x.ck,dm:=nW x.dm,dv:=yW},T]
 refine XK.go ?_
 refine XK.aT [(76,iv 0),(75,iv es.length),(74,.slice Ae es.length ce),(5,tv),(0,.pointer (some ⟨L.h,0,none⟩))] ?_
 refine XK.loop (fun m e R H=>∃j:Nat,j≤es.length∧m=es.length - j∧e=[(76,iv j),(75,iv es.length),(74,.slice Ae es.length ce),(5,tv),(0,.pointer (some ⟨L.h,0,none⟩))]∧R=[q,R0]∧H=[cP L s {x with ck:=kV s x.ck,dm:=nW x.dm,dv:=(es.take j).foldl (sA s) yW},T]) es.length ⟨0,by omega,rfl,rfl,rfl,rfl⟩ fun m e R H hI=>?_
 obtain⟨j,hj,rfl,rfl,rfl,rfl⟩:=hI
 have aBj:bR s {x with ck:=kV s x.ck,dm:=nW x.dm,dv:=(es.take j).foldl (sA s) yW}:=aB1 hH (es.take j) _ iO
 refine XK.go ?_
 refine XK.if_ rfl (fun hlt=>?_) (fun hge=>?_)
 ·have hlt:j < es.length:=by omega
  obtain⟨p,fI⟩:=get_some hlt
  have cQ:(es.take (j+1)).foldl (sA s) yW=sA s ((es.take j).foldl (sA s) yW) p:=by
   rw[List.take_add_one,fI,List.foldl_append]
   rfl
  generalize hx3:({x with ck:=kV s x.ck,dm:=nW x.dm,dv:=(es.take j).foldl (sA s) yW}:aO)=x3 at aBj
  have Wt:({x with ck:=kV s x.ck,dm:=nW x.dm,dv:=(es.take (j+1)).foldl (sA s) yW}:aO)={x3 with dv:=sA s x3.dv p}:=by rw[cQ,←hx3]
  have aPf:=aBj.dv
  obtain⟨be,aJB,hAe,hrd⟩:=aH.evA (w0:=w) (R:=[q,R0]) (H:=[cP L s x3,T]) (by simp) hev fI
  obtain⟨kn,dm⟩:=p
  refine XK.go ?_
  refine kd (dat j (aJB+j*2) (hx:=by rw[←hAe];rfl)) ?_
  refine kd (mE rfl hrd) ?_
  refine bB fun g1=>?_
  refine XK.go ?_
  refine aJ (fun w1 t=>aLo kn w1) ?_
  by_cases hk:kn=115∨kn=114∨kn=108∨kn=110
  ·obtain⟨f,aBo,hcb,wM⟩:=aNo hk
   rw[aBo]
   refine XK.go ?_
   refine kd (aFk rfl (.inr ⟨⟨_,_,_,rfl⟩,rfl⟩)) ?_
   refine XK.go ?_
   refine kd (aX rfl (Rd.hard 1 rfl rfl)) ?_
   refine XK.go ?_
   have hm0:zV s x3.dv (kn,dm) 0=x3.dv:=Li _ _
   refine XK.aT [(90,iv 0),(89,iv s.aC.length),(88,.slice L.A s.aC.length L.c),(13,.func (.func f) #[] #[]),(12,pt g1),(76,iv j),(75,iv es.length),(74,.slice Ae es.length ce),(5,tv),(0,.pointer (some ⟨L.h,0,none⟩))] ?_
   refine XK.loop (fun m e R H=>∃i:Nat,i≤s.aC.length∧m=s.aC.length - i∧e=[(90,iv i),(89,iv s.aC.length),(88,.slice L.A s.aC.length L.c),(13,.func (.func f) #[] #[]),(12,pt g1),(76,iv j),(75,iv es.length),(74,.slice Ae es.length ce),(5,tv),(0,.pointer (some ⟨L.h,0,none⟩))]∧R=[q,R0]∧H=[HP.aB g1 151 [.int .u8 kn,iv (dm:Int)],cP L s {x3 with dv:=zV s x3.dv (kn,dm) i},T]) s.aC.length ⟨0,by omega,rfl,rfl,rfl,by rw[hm0];rfl⟩ fun m e R H hI=>?_
   obtain⟨i,hi,rfl,rfl,rfl,rfl⟩:=hI
   have lC:=aDH hH aBj (kn,dm) i
   refine XK.go ?_
   refine XK.if_ rfl (fun hlt=>?_) (fun hge=>?_)
   ·have hlt:i < s.aC.length:=by omega
    obtain⟨d,cF⟩:=get_some hlt
    obtain⟨l,gA⟩:=get_some (l:=L.ds) (i:=i) (by omega)
    obtain⟨p,fI⟩:=get_some (l:=x3.dv) (i:=i) (by omega)
    have jC:(zV s x3.dv (kn,dm) i)[i]? =some p:=Ll fI
    have hstep:(zV s x3.dv (kn,dm) i).set i (Dg s (kn,dm) i p)=zV s x3.dv (kn,dm) (i+1):=Lj (f:=Dg s (kn,dm)) fI
    have hfo:=(lC.each i d p cF jC).1
    refine XK.rows 1 rfl aM lC (by omega) fun b off hA=>?_
    refine XK.go ?_
    refine kd (dat i (off+i*6) (hx:=by rw[←hA];rfl)) ?_
    refine kd (mE rfl (aH.dev 1 rfl aM lC hA cF gA rfl)) ?_
    refine bB fun g2=>?_
    refine XK.go ?_
    refine XK.if_ rfl (fun he=>?_) (fun he=>?_)
    ·have kO:Dg s (kn,dm) i p=(Df kn d p.1,p.2):=by
      unfold Dg
      rw[cF]
      exact if_pos he
     refine XK.go ?_
     refine XK.Kz 2 i rfl cF gA jC ?_
     dsimp only[List.set]
     refine XK.tk 0 0 ?_
     refine Wk 0 (fi:=[]) (ca:=[]) (eP l.1 d (Df kn d p.1)) (fun w1 F1 t h1 h2 h3=>by simpa using wM l.1 d p.1 (by have:=(hH.t.aC i d cF).2.2.2.2.2.2.2.2.1;omega) hfo w1 F1 h1 h2) ?_ (hf:=hcb)
     dsimp only[List.set]
     refine XK.gv 0 0 ?_
     refine XK.Nn 2 i rfl cF gA jC (p':=(Df kn d p.1,p.2)) ?_
     dsimp only[List.set]
     rw[←kO,hstep]
     refine XK.go ?_
     refine XK.weak [1,2,3] rfl (by decide) (fun _ h=>h) ?_
     exact XK.rd (s.aC.length - (i+1)) ⟨i+1,hlt,rfl,rfl,rfl,rfl⟩
    ·have kO:Dg s (kn,dm) i p=p:=by
      unfold Dg
      rw[cF]
      exact if_neg he
     rw[kO,uH jC] at hstep
     rw[hstep]
     refine XK.go ?_
     refine XK.weak [1,2,3] rfl (by decide) (fun _ h=>h) ?_
     exact XK.rd (s.aC.length - (i+1)) ⟨i+1,hlt,rfl,rfl,rfl,rfl⟩
   obtain rfl:i=s.aC.length:=by omega
   refine XK.go ?_
   refine XK.weak [1,2] rfl (by decide) (fun _ h=>h) ?_
   refine XK.aT [(76,iv (j+1:Nat)),(75,iv es.length),(74,.slice Ae es.length ce),(5,tv),(0,.pointer (some ⟨L.h,0,none⟩))] ?_
   exact XK.round (es.length - (j+1)) (by omega) ⟨j+1,by omega,rfl,rfl,rfl,by rw[Wt];rfl⟩
  ·have aBo:De kn=.nilFunc:=by
    rw[De,if_neg (by omega),if_neg (by omega),if_neg (by omega)]
   rw[aBo]
   refine XK.go ?_
   refine kd (aFk rfl (.inl ⟨rfl,rfl⟩)) ?_
   refine XK.go ?_
   refine XK.weak [1,2] rfl (by decide) (fun _ h=>h) ?_
   refine XK.aT [(76,iv (j+1:Nat)),(75,iv es.length),(74,.slice Ae es.length ce),(5,tv),(0,.pointer (some ⟨L.h,0,none⟩))] ?_
   exact XK.round (es.length - (j+1)) (by omega) ⟨j+1,by omega,rfl,rfl,rfl,by rw[Wt,aJW hk,←hx3]⟩
 obtain rfl:j=es.length:=by omega
 rw[List.take_length]
 refine XK.go ?_
 refine kd (aX rfl (Rd.hard 0 rfl rfl)) ?_
 refine XK.go ?_
 refine XK.tk 0 3 ?_
 refine vP (α:=Option Addr×Nat×Nat) 0 (f:=61) (fi:=[]) (ca:=[]) (fun a=>.slice a.1 a.2.1 a.2.2) (fun _=>lP L.R s (Dz x.ln)) (fun _=>True) (by kernel_rfl) rfl rfl rfl (by decide) (fun w1 F1 t h1 h2 h3=>aHM L.R s x.ln hH hok.ln w1 F1 h1 h2) ?_
 rintro _ _
 dsimp only[List.set]
 refine XK.gv 0 3 ?_
 change XK _ _ _ _ _ [cP L s {x with ck:=kV s x.ck,dm:=nW x.dm,ln:=Dz x.ln,dv:=es.foldl (sA s) yW},T]
 have yG:({x with ck:=kV s x.ck,dm:=nW x.dm,ln:=Dz x.ln,dv:=es.foldl (sA s) yW}:aO)=Ou s x bZ:=by rw[Ou,pL,hes]
 rw[yG]
 refine XK.go ?_
 subst bN
 subst hT
 subst hTv
 refine XK.pair ?_
 exact XK.jQ rfl rfl fun w1 t=>⟨(A0,c0),rfl,trivial,t.turns hF (by simp) (i:=0) rfl⟩
end
section
set_option maxHeartbeats 4000000
set_option maxRecDepth 20000
structure iJ where
 z:aU
 y:bP
 x:aO
def iJ.start(m:iJ)(t k d r v:Int):iJ:=⟨(sW m.z t k d r v).2,m.y,m.x⟩
def iJ.done(m:iJ)(t:Int):iJ:=⟨(mB m.z t).2,m.y,m.x⟩
def iJ.step(s:aA)(m:iJ)(t:Int):iJ:=⟨(zN s m.z m.y m.x t).1,(zN s m.z m.y m.x t).2.1,(zN s m.z m.y m.x t).2.2⟩
def iJ.fL(s:aA)(m:iJ):iJ:=⟨m.z,(uC s m.x m.y).1,(uC s m.x m.y).2⟩
def iJ.tick(s:aA)(m:iJ)(bZ:Int):iJ:=⟨sF m.z (mR s m.x bZ).2,m.y,(mR s m.x bZ).1⟩
structure eV(s:aA)(n:Nat)(m:iJ):Prop where
 vX:nA s m.z
 fw:nS s m.y
 hw:bR s m.x
 wt:Bi s m.x
 po:0≤m.x.aQ∧m.x.aQ≤n
 w0:m.z.aQ=false→∀i:Nat,(m.x.wt[i]?).join=none
 w1:m.z.aQ=true→∃(i:Nat) (t:gK),i < s.aC.length∧(m.x.wt[i]?).join=some t∧t.id=m.z.id∧∀k:Nat,k≠i→(m.x.wt[k]?).join=none
section
variable{s:aA}{n:Nat}{m:iJ}
theorem eV.le{k:Nat}(h:eV s n m)(hk:n≤k):eV s k m:=⟨h.vX,h.fw,h.hw,h.wt,by have:=h.po;omega,h.w0,h.w1⟩
theorem eV.start(h:eV s n m)(t k d r v:Int)(hv:0≤v∧v < 4294967296):eV s n (m.start t k d r v):=by
 obtain⟨h1,h2,h3⟩:=aHp h.vX t k d r v hv
 refine⟨h1,h.fw,h.hw,h.wt,h.po,fun hp=>h.w0 (h2.symm.trans hp),fun hp=>?_⟩
 have h4:=h.w1 (h2.symm.trans hp)
 rwa [←h3] at h4
theorem eV.done(h:eV s n m)(t:Int):eV s n (m.done t):=by
 obtain⟨h1,h2,h3⟩:=aMG h.vX t
 refine⟨h1,h.fw,h.hw,h.wt,h.po,fun hp=>h.w0 (h2.symm.trans hp),fun hp=>?_⟩
 have h4:=h.w1 (h2.symm.trans hp)
 rwa [←h3] at h4
theorem eV.fL(hm:s.made)(h:eV s n m):eV s n (m.fL s):=by
 obtain⟨h1,h2,h3,h4⟩:=h.fw.next hm.cI h.hw
 refine⟨h.vX,h1,h2,fun i d t hd ht=>h.wt i d t hd (by rw[←h3];exact ht),by rw[show(m.fL s).x.aQ=m.x.aQ from h4];exact h.po,fun hp i=>?_,fun hp=>?_⟩
 ·show((uC s m.x m.y).2.wt[i]?).join=none
  rw[h3]
  exact h.w0 hp i
 ·show ∃i t,i < s.aC.length∧((uC s m.x m.y).2.wt[i]?).join=some t∧t.id=m.z.id∧∀k:Nat,k≠i→((uC s m.x m.y).2.wt[k]?).join=none
  rw[h3]
  exact h.w1 hp
theorem eV.idle(h:eV s n m)(hp:m.z.aQ=false)(hn:n≤1000000000):Zd s m.x:=⟨h.hw,h.w0 hp,by have:=h.po;omega⟩
theorem eV.free(h:eV s n m)(hh:m.z.cH < 0):m.z.aQ=false:=by
 rcases h.vX.cH with⟨_,_,h1,_⟩ | ⟨i,_,h1,_⟩
 ·exact h1
 ·omega
theorem eV.step(hm:s.made)(h:eV s n m)(t:Int):eV s (n+1) (m.step s t):=by
 have same:eV s (n+1) ⟨m.z,m.y,m.x⟩:=h.le (by omega)
 unfold iJ.step zN
 split
 ·exact same
 ·rename_i hin
  obtain⟨j,rfl,hj⟩:=Ev (t:=t) (by simpa using hin)
  rw[Int.toNat_natCast]
  split
  ·split
   ·rename_i hh
    have hp:=h.free hh
    have hw0:=h.w0 hp
    obtain⟨h1,h2,h3,h4⟩:=aOn hm h.vX hh m.x hj
    dsimp only
    generalize sE s m.x m.z j=r at h1 h3 h4
    obtain⟨z',x'⟩:=r
    dsimp only at h1 h3 h4⊢
    cases hp':z'.aQ with
    | false=>
     cases h3 hp'
     exact⟨h1,h.fw,h.hw,h.wt,by have:=h.po;dsimp only;omega,fun _=>hw0,fun hc=>by dsimp only at hc;rw[hp'] at hc;cases hc⟩
    | true =>
     obtain⟨d,wr,rg,v,dv,pL,r0,r1,v0,v1,hid,rfl⟩:=h4 hp'
     have hlt:=(List.getElem?_eq_some_iff.1 pL).1
     have uO:=h.hw.wt
     have eX:∀k:Nat,(((m.x.wt.set d (some ⟨m.x.aQ,wr,rg,v⟩))[k]?).join)=if k=d then some ⟨m.x.aQ,wr,rg,v⟩ else none:=fun k=>by
      rw[List.getElem?_set]
      by_cases e:d=k
      ·subst e
       rw[if_pos rfl,if_pos (by omega),if_pos rfl]
       rfl
      ·rw[if_neg e,if_neg (fun hh=>e hh.symm)]
       exact hw0 k
     refine⟨h1,h.fw,Zr h.hw d _ _,fun i e t he ht=>?_,?_,fun hc=>?_,fun _=>⟨d,⟨m.x.aQ,wr,rg,v⟩,hlt,?_,hid.symm,fun k hk=>?_⟩⟩
     ·have Cf:((m.x.wt.set d (some ⟨m.x.aQ,wr,rg,v⟩))[i]?).join=some t:=ht
      rw[eX] at Cf
      by_cases e1:i=d
      ·rw[if_pos e1] at Cf
       cases Cf
       rw[e1,pL] at he
       cases he
       exact⟨r0,r1,v0,v1⟩
      ·rw[if_neg e1] at Cf
       cases Cf
     ·have:=h.po
      show 0≤m.x.aQ+1∧m.x.aQ+1≤((n+1:Nat):Int)
      omega
     ·dsimp only at hc
      rw[hp'] at hc
      cases hc
     ·show((m.x.wt.set d (some ⟨m.x.aQ,wr,rg,v⟩))[d]?).join=_
      rw[eX,if_pos rfl]
     ·show((m.x.wt.set d (some ⟨m.x.aQ,wr,rg,v⟩))[k]?).join=_
      rw[eX,if_neg hk]
   ·exact same
  ·split
   ·rename_i hst
    split
    ·rename_i hp
     obtain⟨h1,h2,h3⟩:=aOF h.vX h.fw hj hst hp
     exact⟨h1,h2,h.hw,h.wt,by have:=h.po;dsimp only;omega,fun _=>h.w0 hp,fun hc=>by dsimp only at hc;rw[h3] at hc;cases hc⟩
    ·exact same
   ·exact same
theorem aBW{x:aO}:∀n:Nat,(∀k,k < n→(x.wt[k]?).join=none)→fR s x n=(x,[])
 | 0,_=>rfl
 | n+1,h=>by
  have ih:=aBW n fun k hk=>h k (by omega)
  have hx:=Yv (s:=s) (h n (by omega))
  show((gZ s (fR s x n).1 n).1,(fR s x n).2++(gZ s (fR s x n).1 n).2.toList)=_
  rw[ih]
  dsimp only
  rw[hx]
  rfl
theorem aO4{x:aO}(hok:bR s x){i:Nat}{t:gK}(hi:i < s.aC.length)(ht:(x.wt[i]?).join=some t)(ho:∀k:Nat,k≠i→(x.wt[k]?).join=none):
  ∃a,(gZ s x i).2=some a∧a.id=t.id∧a.dev=i∧∀d,fR s x (i+1+d)=((gZ s x i).1,[a]):=by
 obtain⟨a,ha,kZ⟩:=aBU hok hi ht
 refine⟨a,ha,?_,?_,fun d=>?_⟩
 ·obtain⟨d,hd⟩:=get_some hi
  obtain⟨p,hp⟩:=get_some (l:=x.dv) (i:=i) (by have:=hok.dv;omega)
  unfold gZ at ha
  rw[ht,hd,hp] at ha
  dsimp only at ha
  split at ha<;>cases ha<;>rfl
 ·obtain⟨d,hd⟩:=get_some hi
  obtain⟨p,hp⟩:=get_some (l:=x.dv) (i:=i) (by have:=hok.dv;omega)
  unfold gZ at ha
  rw[ht,hd,hp] at ha
  dsimp only at ha
  split at ha<;>cases ha<;>rfl
 ·induction d with
  | zero=>
   show((gZ s (fR s x i).1 i).1,(fR s x i).2++(gZ s (fR s x i).1 i).2.toList)=_
   rw[aBW i fun k hk=>ho k (by omega)]
   dsimp only
   rw[ha]
   rfl
  | succ d ih =>
   show((gZ s (fR s x (i+1+d)).1 (i+1+d)).1,(fR s x (i+1+d)).2++(gZ s (fR s x (i+1+d)).1 (i+1+d)).2.toList)=_
   rw[ih]
   dsimp only
   have hx:gZ s (gZ s x i).1 (i+1+d)=((gZ s x i).1,none):=Yv (by
    rw[kZ,List.getElem?_set,if_neg (by omega)]
    exact ho _ (by omega))
   rw[hx]
   rfl
theorem eV.ans(h:eV s n m)(bZ:Int):(m.z.aQ=false→(mR s m.x bZ).2=[])∧(m.z.aQ=true→∃a,(mR s m.x bZ).2=[a]∧a.id=m.z.id):=by
 refine⟨fun hp=>?_,fun hp=>?_⟩
 ·show(fR s m.x s.aC.length).2=[]
  rw[aBW _ fun k _=>h.w0 hp k]
 ·obtain⟨i,t,hi,ht,hid,ho⟩:=h.w1 hp
  obtain⟨a,_,ha,_,hn⟩:=aO4 h.hw hi ht ho
  obtain⟨d,hd⟩:∃d,s.aC.length=i+1+d:=⟨s.aC.length - (i+1),by omega⟩
  refine⟨a,?_,ha.trans hid⟩
  show(fR s m.x s.aC.length).2=[a]
  rw[hd,hn d]
theorem eV.aHc(h:eV s n m)(bZ:Int):(m.tick s bZ).z.aQ=false:=by
 obtain⟨h1,h2⟩:=h.ans bZ
 show(sF m.z (mR s m.x bZ).2).aQ=false
 cases hp:m.z.aQ with
 | false=>rw[h1 hp];exact hp
 | true=>
  obtain⟨a,h3,h4⟩:=h2 hp
  rw[h3]
  show(wX m.z a).aQ=false
  unfold wX
  rw[if_neg (by rw[hp];simp),if_neg (fun hc=>hc h4)]
  split<;>rfl
theorem aO1(s:aA)(x:aO)(i:Nat):(gZ s x i).1.aQ=x.aQ:=by
 unfold gZ
 split
 ·split<;>rfl
 ·rfl
theorem aFI(s:aA)(x:aO):∀n,(fR s x n).1.aQ=x.aQ
 | 0=>rfl
 | n+1=>(aO1 s _ n).trans (aFI s x n)
theorem eV.tick(hm:s.made)(h:eV s n m)(bZ:Int):eV s n (m.tick s bZ):=by
 obtain⟨a1,a2⟩:=Jo h.hw h.wt s.aC.length
 have hz:∀i:Nat,(((m.tick s bZ).x.wt)[i]?).join=none:=fun i=>by
  have:=aFH h.hw h.wt i
  show((fR s m.x s.aC.length).1.wt[i]?).join=none
  unfold nE at this
  cases hh:((fR s m.x s.aC.length).1.wt[i]?).join with
  | none=>rfl
  | some t=>rw[hh] at this;simp at this
 refine⟨aFK _ h.vX,h.fw,aHa hm.cI a1 bZ,(fun i d t _ ht=>by rw[hz i] at ht;cases ht),?_,fun _=>hz,fun hp=>by rw[h.aHc bZ] at hp;cases hp⟩
 show 0≤(fR s m.x s.aC.length).1.aQ∧(fR s m.x s.aC.length).1.aQ≤n
 rw[aFI]
 exact h.po
end
def aDU(s:aA):iJ:=⟨Ee s,pN s,hw0 s⟩
theorem aKv{s:aA}(hm:s.made):eV s 0 (aDU s):=by
 have hx:=aKG hm.cI
 have hw:∀i:Nat,((hw0 s).wt[i]?).join=none:=fun i=>by
  show((s.aC.map fun _=>(none:Option gK))[i]?).join=none
  rw[List.getElem?_map]
  cases s.aC[i]? <;>rfl
 exact⟨aHX,aMg hm.uL,hx,(fun i d t _ ht=>by
  have:=(hw i).symm.trans ht
  cases this),⟨Int.le_refl 0,Int.le_refl 0⟩,fun _=>hw,fun hp=>by cases hp⟩
theorem Yc{P:Program}{fn:FuncId}{args:Array Value}{w:World}{ps:List HP}(i:Nat){p p':HP}{v:Value}{F:Nat→Prop}(hi:ps[i]? =some p)(h:∀F0,p.sat F0 w→(∀b,F0 b→b < w.heap.size)→(∀b,F0 b→F b)→Calls P fn args w fun y w'=>y=.returned v∧∃F',p'.sat F' w'∧aV w w' F0 F')
  (hp:(HP.many ps).sat F w) (hF:∀b,F b→b < w.heap.size):Calls P fn args w fun y w'=>y=.returned v∧∃F',(HP.many (ps.set i p')).sat F' w'∧aV w w' F F':=by
 obtain⟨G,g1,g2,g3⟩:=hp
 have hlt:=(List.getElem?_eq_some_iff.1 hi).1
 refine(h (G i) (g1 i p hi) (fun b hb=>hF b (g2 i b hb)) (g2 i)).mono fun y w' ⟨hy,F',h1,ht⟩=>⟨hy,fun b=>F' b∨∃k,k≠i∧k < ps.length∧G k b,⟨fun k=>if k=i then F' else fun b=>k < ps.length∧G k b,fun k r hr=>?_,fun k b hb=>?_,fun j k b iT hj hk=>?_⟩,⟨ht.os,ht.tape,ht.output,ht.size,fun b hb=>?_,fun b hb hn=>?_⟩⟩
 ·by_cases e:i=k
  ·subst e
   rw[List.getElem?_set_self hlt] at hr
   cases hr
   simpa using h1
  ·rw[List.getElem?_set_ne e] at hr
   have hk:=(List.getElem?_eq_some_iff.1 hr).1
   simp only[if_neg (Ne.symm e)]
   rw[show(fun b=>k < ps.length∧G k b)=G k by funext b;simp[hk]]
   exact r.loc _ _ _ (g1 k r hr) fun b hb=>ht.old b (hF b (g2 k b hb)) fun h0=>g3 i k b e h0 hb
 ·dsimp only at hb
  split at hb
  ·exact .inl hb
  ·exact .inr ⟨k,by assumption,hb.1,hb.2⟩
 ·have key:∀k b,k≠i→F' b→G k b→False:=fun k b hki h0 h2=>by
   rcases(ht.new b h0).1 with h3 | h3
   ·exact g3 i k b (Ne.symm hki) h3 h2
   ·have:=hF b (g2 k b h2)
    omega
  dsimp only at hj hk
  split at hj<;>split at hk
  ·rename_i e1 e2;exact iT (e1.trans e2.symm)
  ·rename_i e1 e2;exact key k b e2 hj hk.2
  ·rename_i e1 e2;exact key j b e1 hk hj.2
  ·exact g3 j k b iT hj.2 hk.2
 ·rcases hb with hb | ⟨k,_,_,hb⟩
  ·refine⟨?_,(ht.new b hb).2⟩
   rcases(ht.new b hb).1 with h3 | h3
   ·exact .inl (g2 i b h3)
   ·exact .inr h3
  ·exact⟨.inl (g2 k b hb),Nat.lt_of_lt_of_le (hF b (g2 k b hb)) ht.size⟩
 ·exact ht.old b hb fun h0=>hn (g2 i b h0)
theorem aKs{a b c:HP}{F:Nat→Prop}{w:World}(h:(HP.many [a,b,c]).sat F w):(HP.many [a,HP.many [b,c]]).sat F w:=by
 obtain⟨G,g1,g2,g3⟩:=h
 have h1:=g1 1 b rfl
 have h2:=g1 2 c rfl
 have key:∀k,k < 3→(fun b=>k < 3∧G k b)=G k:=fun k hk=>by funext b;simp[hk]
 refine⟨fun i=>match i with | 0=>G 0 | 1=>fun b=>G 1 b∨G 2 b | _=>fun _=>False,fun i p hi=>?_,fun i b hb=>?_,fun i j b hij hi hj=>?_⟩
 ·match i,hi with
  | 0,hi=>cases hi;exact g1 0 _ rfl
  | 1, hi =>
   cases hi
   refine⟨fun i=>match i with | 0=>G 1 | 1=>G 2 | _=>fun _=>False,fun i p hi=>?_,fun i b hb=>?_,fun i j b hij hi hj=>?_⟩
   ·match i,hi with
    | 0,hi=>cases hi;exact h1
    | 1,hi=>cases hi;exact h2
    | i+2,hi=>simp at hi
   ·match i,hb with
    | 0,hb=>exact .inl hb
    | 1,hb=>exact .inr hb
    | i+2,hb=>exact hb.elim
   ·match i,j,hi,hj with
    | 0,0,_,_=>exact absurd rfl hij
    | 0,1,hi,hj=>exact g3 1 2 b (by decide) hi hj
    | 1,0,hi,hj=>exact g3 2 1 b (by decide) hi hj
    | 1,1,_,_=>exact absurd rfl hij
    | i+2,_,hi,_=>exact hi.elim
    | _,j+2,_,hj=>exact hj.elim
  | i+2,hi=>simp at hi
 ·match i,hb with
  | 0,hb=>exact g2 0 b hb
  | 1,hb=>rcases hb with hb | hb<;>exact g2 _ b hb
  | i+2,hb=>exact hb.elim
 ·match i,j,hi,hj with
  | 0,0,_,_=>exact absurd rfl hij
  | 0,1,hi,hj=>rcases hj with hj | hj<;>exact g3 _ _ b (by decide) hi hj
  | 1,0,hi,hj=>rcases hi with hi | hi<;>exact g3 _ _ b (by decide) hi hj
  | 1,1,_,_=>exact absurd rfl hij
  | i+2,_,hi,_=>exact hi.elim
  | _,j+2,_,hj=>exact hj.elim
theorem aKr{a b c:HP}{F:Nat→Prop}{w:World}(h:(HP.many [a,HP.many [b,c]]).sat F w):(HP.many [a,b,c]).sat F w:=by
 obtain⟨G,g1,g2,g3⟩:=h
 obtain⟨I,i1,i2,i3⟩:=g1 1 _ rfl
 refine⟨fun i=>match i with | 0=>G 0 | 1=>I 0 | 2=>I 1 | _=>fun _=>False,fun i p hi=>?_,fun i b hb=>?_,fun i j b hij hi hj=>?_⟩
 ·match i,hi with
  | 0,hi=>cases hi;exact g1 0 _ rfl
  | 1,hi=>cases hi;exact i1 0 _ rfl
  | 2,hi=>cases hi;exact i1 1 _ rfl
  | i+3,hi=>simp at hi
 ·match i,hb with
  | 0,hb=>exact g2 0 b hb
  | 1,hb=>exact g2 1 b (i2 0 b hb)
  | 2,hb=>exact g2 1 b (i2 1 b hb)
  | i+3,hb=>exact hb.elim
 ·match i,j,hi,hj with
  | 0,0,_,_ | 1,1,_,_ | 2,2,_,_=>exact absurd rfl hij
  | 0,1,hi,hj=>exact g3 0 1 b (by decide) hi (i2 0 b hj)
  | 0,2,hi,hj=>exact g3 0 1 b (by decide) hi (i2 1 b hj)
  | 1,0,hi,hj=>exact g3 0 1 b (by decide) hj (i2 0 b hi)
  | 2,0,hi,hj=>exact g3 0 1 b (by decide) hj (i2 1 b hi)
  | 1,2,hi,hj=>exact i3 0 1 b (by decide) hi hj
  | 2,1,hi,hj=>exact i3 0 1 b (by decide) hj hi
  | i+3,_,hi,_=>exact hi.elim
  | _,j+3,_,hj=>exact hj.elim
def jU(g f:Nat)(hL:HL)(s:aA)(m:iJ):HP:=Zb g f hL s m.z m.y m.x
def aCd(g f:Nat)(hL:HL)(s:aA)(m:iJ)(l:List kH)(a:Option Addr×Nat):HP:=HP.many [jU g f hL s m,HP.own 143 4 (.slice a.1 l.length a.2) l.length (l.flatMap kH.cells)]
theorem St.mac{w0 w:World}{R:List Piece}{H:List HP}{g f:Nat}{hL:HL}{s:aA}{m:iJ}(t:St w0 R H w)(i:Nat)(hi:H[i]? =some (jU g f hL s m)):∃L,Bj w g hL.h f L s m.z:=by
 obtain⟨F,h1,h2,_⟩:=t.chunk hi
 obtain⟨G,g1,g2,_⟩:=h1
 obtain⟨L,hL⟩:=g1 0 _ rfl
 exact⟨L,eC.reads hL fun b hb=>h2 b (g2 0 b hb)⟩
section
variable(g f:Nat)(hL:HL)(s:aA)(n:Nat)(m:iJ)(w:World)(F:Nat→Prop)
theorem aKj(t k d r v:Int)(hp:(jU g f hL s m).sat F w)(hF:∀b,F b→b < w.heap.size):
  Calls Tryz.prog 17 #[pt g,iv t,.agg #[.int .u8 k,iv d,iv r,.int .u32 v]] w (fun y w'=>y=.returned (iv (sW m.z t k d r v).1)∧∃F',(jU g f hL s (m.start t k d r v)).sat F' w'∧aV w w' F F'):=
 Yc 0 rfl (fun F0 h1 h2 _=>aCX g hL.h f s m.z w F0 t k d r v h1 h2) hp hF
theorem aKm(t:Int)(hp:(jU g f hL s m).sat F w)(hF:∀b,F b→b < w.heap.size):
  Calls Tryz.prog 23 #[pt g,iv t] w (fun y w'=>y=.returned (.tuple #[.agg #[iv (mB m.z t).1.1,.int .u32 (mB m.z t).1.2.1],.bool (mB m.z t).1.2.2])∧∃F',(jU g f hL s (m.done t)).sat F' w'∧aV w w' F F'):=
 Yc 0 rfl (fun F0 h1 h2 _=>aCY g hL.h f s m.z w F0 t h1 h2) hp hF
theorem aKh(hm:s.made)(aM:fF hL s)(hok:eV s n m)(hn:n≤1000000000)(t:Int)(hp:(jU g f hL s m).sat F w)(hF:∀b,F b→b < w.heap.size)(eB:iZ ⟨w,fun b=>b < w.heap.size∧¬F b⟩):
  Calls Tryz.prog 19 #[pt g,iv t] w (fun y w'=>y=.returned (.tuple #[])∧∃F',(jU g f hL s (m.step s t)).sat F' w'∧aV w w' F F'):=
 aHT g f hL s m.z m.y m.x w F t hm aM (fun hh=>hok.idle (hok.free hh) hn) (hok.vX.go hok.fw.toGt) hp hF eB
theorem aKl(hm:s.made)(aM:fF hL s)(hok:eV s n m)(hp:(jU g f hL s m).sat F w)(hF:∀b,F b→b < w.heap.size)(eB:iZ ⟨w,fun b=>b < w.heap.size∧¬F b⟩):
  Calls Tryz.prog 20 #[pt f] w (fun y w'=>y=.returned (.tuple #[])∧∃F',(jU g f hL s (m.fL s)).sat F' w'∧aV w w' F F'):=
 (Yc 1 rfl (fun F0 h1 h2 h3=>aLO f hL s m.y m.x w hm.cI aM (hok.fw.step hok.hw) F0 h1 h2 (iZ.le eB fun b hb=>⟨⟨hb.1,fun h0=>hb.2 (h3 b h0)⟩,rfl⟩)) (aKs hp) hF).mono fun _ _ ⟨hy,F',h1,h2⟩=>⟨hy,F',aKr h1,h2⟩
theorem aKg(hm:s.made)(aM:fF hL s)(hok:eV s n m)(bZ:Int)(hd:0≤bZ∧bZ < 4294967296)(hp:(jU g f hL s m).sat F w)(hF:∀b,F b→b < w.heap.size):
  Calls Tryz.prog 22 #[.pointer (some ⟨hL.h,0,none⟩),.int .u32 bZ] w (fun y w'=>∃a:Option Addr×Nat,y=.returned (.slice a.1 (mR s m.x bZ).2.length a.2)∧True∧∃F',(aCd g f hL s ⟨m.z,m.y,(mR s m.x bZ).1⟩ (mR s m.x bZ).2 a).sat F' w'∧aV w w' F F'):=by
 obtain⟨G,g1,g2,g3⟩:=hp
 have hG:∀i b,G i b→b < w.heap.size:=fun i b hb=>hF b (g2 i b hb)
 have h0:=g1 0 _ rfl
 have h1:=g1 1 _ rfl
 refine(aLj hL s m.x w hm.cI aM hok.hw hok.wt bZ hd (G 2) (g1 2 _ rfl) (hG 2)).mono fun y w' ⟨a,hy,_,F',⟨I,i1,i2,i3⟩,ht⟩=>⟨a,hy,trivial,fun b=>F' b∨G 0 b∨G 1 b,⟨fun i=>match i with | 0=>fun b=>I 0 b∨G 0 b∨G 1 b | 1=>I 1 | _=>fun _=>False,fun i p hi=>?_,fun i b hb=>?_,fun i j b hij hi hj=>?_⟩,⟨ht.os,ht.tape,ht.output,ht.size,fun b hb=>?_,fun b hb hn=>?_⟩⟩
 ·have old:∀i,i≠2→∀b,G i b→w'.heap[b]? =w.heap[b]? :=fun i hi b hb=>ht.old b (hG i b hb) fun h=>g3 2 i b (Ne.symm hi) h hb
  have fr:∀i,i≠2→∀b,F' b→¬G i b:=fun i hi b hb hc=>by
   rcases(ht.new b hb).1 with h | h
   ·exact g3 2 i b (Ne.symm hi) h hc
   ·have:=hG i b hc
    omega
  match i,hi with
  | 0, hi =>
   cases hi
   refine⟨fun i=>match i with | 0=>G 0 | 1=>G 1 | 2=>I 0 | _=>fun _=>False,fun i p hi=>?_,fun i b hb=>?_,fun i j b hij hi hj=>?_⟩
   ·match i,hi with
    | 0,hi=>cases hi;exact HP.loc _ _ _ _ h0 (old 0 (by decide))
    | 1,hi=>cases hi;exact HP.loc _ _ _ _ h1 (old 1 (by decide))
    | 2,hi=>cases hi;exact i1 0 _ rfl
    | i+3,hi=>simp at hi
   ·match i,hb with
    | 0,hb=>exact .inr (.inl hb)
    | 1,hb=>exact .inr (.inr hb)
    | 2,hb=>exact .inl hb
    | i+3,hb=>exact hb.elim
   ·match i,j,hi,hj with
    | 0,0,_,_ | 1,1,_,_ | 2,2,_,_=>exact absurd rfl hij
    | 0,1,hi,hj=>exact g3 0 1 b (by decide) hi hj
    | 1,0,hi,hj=>exact g3 1 0 b (by decide) hi hj
    | 0,2,hi,hj=>exact fr 0 (by decide) b (i2 0 b hj) hi
    | 2,0,hi,hj=>exact fr 0 (by decide) b (i2 0 b hi) hj
    | 1,2,hi,hj=>exact fr 1 (by decide) b (i2 0 b hj) hi
    | 2,1,hi,hj=>exact fr 1 (by decide) b (i2 0 b hi) hj
    | i+3,_,hi,_=>exact hi.elim
    | _,j+3,_,hj=>exact hj.elim
  | 1,hi=>cases hi;exact i1 1 _ rfl
  | i+2,hi=>simp at hi
 ·match i,hb with
  | 0,hb=>
   rcases hb with hb | hb
   ·exact .inl (i2 0 b hb)
   ·exact .inr hb
  | 1,hb=>exact .inl (i2 1 b hb)
  | i+2,hb=>exact hb.elim
 ·have fr:∀i,i≠2→∀b,F' b→¬G i b:=fun i hi b hb hc=>by
   rcases(ht.new b hb).1 with h | h
   ·exact g3 2 i b (Ne.symm hi) h hc
   ·have:=hG i b hc
    omega
  match i,j,hi,hj with
  | 0,0,_,_ | 1,1,_,_=>exact absurd rfl hij
  | 0,1,hi,hj=>
   rcases hi with hi | hi | hi
   ·exact i3 0 1 b (by decide) hi hj
   ·exact fr 0 (by decide) b (i2 1 b hj) hi
   ·exact fr 1 (by decide) b (i2 1 b hj) hi
  | 1,0,hi,hj=>
   rcases hj with hj | hj | hj
   ·exact i3 0 1 b (by decide) hj hi
   ·exact fr 0 (by decide) b (i2 1 b hi) hj
   ·exact fr 1 (by decide) b (i2 1 b hi) hj
  | i+2,_,hi,_=>exact hi.elim
  | _,j+2,_,hj=>exact hj.elim
 ·rcases hb with hb | hb | hb
  ·refine⟨?_,(ht.new b hb).2⟩
   rcases(ht.new b hb).1 with h | h
   ·exact .inl (g2 2 b h)
   ·exact .inr h
  ·exact⟨.inl (g2 0 b hb),Nat.lt_of_lt_of_le (hG 0 b hb) ht.size⟩
  ·exact⟨.inl (g2 1 b hb),Nat.lt_of_lt_of_le (hG 1 b hb) ht.size⟩
 ·exact ht.old b hb fun h=>hn (g2 2 b h)
theorem aKo(hok:nA s m.z)(l:List kH)(hl:l.length≤1000)(a:Option Addr×Nat)(hp:(aCd g f hL s m l a).sat F w)(hF:∀b,F b→b < w.heap.size):
  Calls Tryz.prog 21 #[pt g,.slice a.1 l.length a.2] w (fun y w'=>y=.returned (.tuple #[])∧∃F',(jU g f hL s ⟨sF m.z l,m.y,m.x⟩).sat F' w'∧aV w w' F F'):=by
 obtain⟨G,g1,g2,g3⟩:=hp
 have hG:∀i b,G i b→b < w.heap.size:=fun i b hb=>hF b (g2 i b hb)
 obtain⟨A,c,hv,hs⟩:=aE.oA (Y:=G 1) (g1 1 _ rfl) (fun b hb=>hb)
 injection hv with Hz hv2 hv3
 subst Hz
 refine(Yc 0 rfl (p':=fE g hL.h f s (sF m.z l)) (v:=.tuple #[]) (fun F0 h1 h2 h3=>aIf g hL.h f s m.z w F0 a.1 a.2 l hl hok.po h1 h2 (hs.le fun b hb=>⟨⟨hG 1 b hb,fun h0=>g3 0 1 b (by decide) (h3 b h0) hb⟩,rfl⟩)) (g1 0 _ rfl) (hG 0)).mono fun y w' ⟨hy,F',h1,ht⟩=>⟨hy,F',h1,⟨ht.os,ht.tape,ht.output,ht.size,fun b hb=>?_,fun b hb hn=>ht.old b hb fun h=>hn (g2 0 b h)⟩⟩
 refine⟨?_,(ht.new b hb).2⟩
 rcases(ht.new b hb).1 with h | h
 ·exact .inl (g2 0 b h)
 ·exact .inr h
theorem aKn(t:Int){w0:World}{R:List Piece}{H:List HP}(i:Nat)(st:St w0 R H w)(hi:H[i]? =some (jU g f hL s m)):Calls Tryz.prog 16 #[pt g,iv t] w (Rt (.bool (oU m.z t)) w):=by
 obtain⟨L,hR⟩:=st.mac i hi
 exact aIc g hL.h f L s m.z w t hR
theorem aKk{w0:World}{R:List Piece}{H:List HP}(i:Nat)(st:St w0 R H w)(hi:H[i]? =some (jU g f hL s m)):Calls Tryz.prog 15 #[pt g] w (Rt (iv m.z.cH) w):=by
 obtain⟨L,hR⟩:=st.mac i hi
 exact aHY g hL.h f L s m.z w hR
end
end
section
set_option maxHeartbeats 4000000
set_option maxRecDepth 20000
theorem iA.aA9{q q2:Piece}{g:List (List Int)}{vs:List Value}{A:Option Addr}{n c:Nat}(h:Rows (nB (eN q)) 1 g (vs.map fun v=>[v]))(hl:q.Le q2)(h1:∃F,(HP.own 22 1 (.slice A n c) n vs).sat F q2.w∧∀b,F b→q2.Z b)(hn:n=g.length):iA q2 A n g:=by
 obtain⟨F,hs,hz⟩:=h1
 refine⟨_,h.mono (fun _ _=>nB.mono (lH hl)),hn,?_⟩
 rw[show(vs.map fun v=>[v]).flatten=vs by clear h hs;induction vs<;>simp_all]
 obtain⟨A',c',e,hS⟩:=aE.oA (Y:=q2.Z) hs hz
 injection e with e1 e2 e3
 subst e1
 exact hS
theorem aI7(s:aA)(A1 A2 A3 A4:Option Addr)(n1 k1 n2 k2 n3 k3 n4 k4:Nat)(w:World)(hW:eI w s A1 n1 A2 n2 A3 n3 A4 n4):
  Calls Tryz.prog 215 #[.agg #[.slice A1 n1 k1,.slice A2 n2 k2,.slice A3 n3 k3,.slice A4 n4 k4]] w (fun y w'=>(∃v,y=.returned v∧sM (fO s) v w w')∧Below w.heap.size w w'):=by
 have hn:=hW.kL
 have bQ:=hW.small
 unfold aA.small at bQ
 obtain⟨hs1,eL,lV,mW,jT,lU⟩:=bQ
 refine XK.en Tryz.func215 Tryz.ntmps215 ?_
 refine XK.gw ?_
 refine aS fun g1=>?_
 refine XK.gw ?_
 refine XK.aT [(4,iv 0),(3,sn),(1,pt g1)] ?_
 refine XK.fY 22 1 ?_
 refine XK.still [] [] [0,1] (by simp) rfl (by decide) (by decide) fun q0 _ _ yF=>?_
 refine XK.gw ?_
 refine XK.loop (fun m e R H=>∃(k:Nat) (vs:List Value) (q:Piece) (Ag:Option Addr) (cg:Nat),k≤n1∧m=n1 - k∧nC w q∧Rows (nB (eN q)) 1 ((fO s).take k) (vs.map fun v=>[v])∧e=[(4,iv k),(3,.slice Ag k cg),(1,pt g1)]∧R=[q,all w]∧H=[HP.own 22 1 (.slice Ag k cg) k vs,HP.aB g1 30 [.slice A1 n1 k1,.slice A2 n2 k2,.slice A3 n3 k3,.slice A4 n4 k4]]) n1 ⟨0,[],_,none,0,by omega,rfl,yF (by simp) (by simp),trivial,rfl,rfl,rfl⟩ fun m e R H hI=>?_
 obtain⟨k,vs,q,Ag,cg,hk,rfl,nK,hrows,rfl,rfl,rfl⟩:=hI
 refine XK.gw ?_
 refine XK.if_ rfl (fun h=>?_) (fun h=>?_)
 ·
  refine XK.gw ?_
  have hkn:k < s.aD.length:=by omega
  obtain⟨e,he⟩:∃e,s.aD[k]? =some e:=⟨_,List.getElem?_eq_getElem hkn⟩
  obtain⟨b,off,r,rfl,hrl,hR,hro⟩:=hW.qP.row he
  obtain⟨Af,nf,kf,rfl,hnf,oP⟩:=hR
  have uR:(fO s)[k]? =some (e.src):=by simp[fO,he]
  refine XK.gw ?_
  refine zH (el:=3) (sz:=1) (by kernel_rfl) (by kernel_rfl) (by decide) fun g4=>?_
  refine XK.wW 0 1 0 rfl rfl (by omega) ?_
  dsimp only[List.set]
  refine XK.go ?_
  refine kd (dat k (off+k*6)) ?_
  refine jH (off:=1) (by kernel_rfl) rfl (by decide) ?_
  refine fX (by kernel_rfl) rfl (Rd.jP (by simp) (hro.at_ (j:=1) rfl)) (by decide) ?_
  refine fG 0 1 8 nf (n':=nf) (el:=3) (by kernel_rfl) (by kernel_rfl) (by decide) rfl rfl rfl (nG (p:=all w) (by simp) oP) (by simp[aG,Value.oneCell']) (by omega) (by have:=jT e (List.mem_of_getElem? he);omega) (by have:=jT e (List.mem_of_getElem? he);omega) (by decide) fun A5 c5=>?_
  dsimp only[List.set,List.nil_append]
  refine dF fun g3=>?_
  refine fG 2 1 24 1 (n':=k+1) (el:=22) (by kernel_rfl) (by kernel_rfl) (by decide) rfl rfl rfl (kX 0 rfl rfl) (by simp[Value.oneCell']) rfl (by omega) (by omega) (by decide) fun A6 c6=>?_
  dsimp only[List.set]
  refine XK.gw ?_
  refine XK.still [q] [1] [2,3] (by simp) rfl (by decide) (by decide) fun q' jN hle Aq=>?_
  obtain⟨Fg,Ig,Hw⟩:=jN 1 _ (by simp) rfl
  obtain⟨A7,c7,e7,yB⟩:=aE.oA (Y:=q'.Z) Ig Hw
  injection e7 with f1 f2 f3
  subst f1
  exact XK.rd (n1 - (k+1)) ⟨k+1,vs++[_],q',A6,c6,by omega,rfl,Aq (by simp) (by simpa using nK),Eg hrows (hle q (by simp)) uR ⟨A5,nf,c5,rfl,hnf,yB⟩,rfl,rfl,rfl⟩
 ·
  refine XK.gw ?_
  obtain rfl:k=n1:=by omega
  rw[List.take_of_length_le (by simp[fO];omega)] at hrows
  refine XK.gw ?_
  refine XK.still [q] [0] [] (by simp) rfl (by decide) (by decide) fun q2 hq hle hfr=>?_
  have iG:k=(fO s).length:=by simp[fO];omega
  exact XK.rX (h:=fun w1 st=>⟨_,rfl,Ag,cg,by rw[←iG],by rw[←iG];exact(iA.aA9 hrows (hle q (by simp)) (hq 0 _ (by simp) rfl) iG).le (st.jD (by simp) (hfr (by simp) (by simpa using nK)))⟩)
theorem aI3(s:aA)(A1 A2 A3 A4:Option Addr)(n1 k1 n2 k2 n3 k3 n4 k4:Nat)(w:World)(hW:eI w s A1 n1 A2 n2 A3 n3 A4 n4):
  Calls Tryz.prog 217 #[.agg #[.slice A1 n1 k1,.slice A2 n2 k2,.slice A3 n3 k3,.slice A4 n4 k4]] w (fun y w'=>(∃v,y=.returned v∧sM (fM s) v w w')∧Below w.heap.size w w'):=by
 have hn:=hW.kY
 have bQ:=hW.small
 unfold aA.small at bQ
 obtain⟨hs1,eL,lV,mW,jT,lU⟩:=bQ
 refine XK.en Tryz.func217 Tryz.ntmps217 ?_
 refine XK.gw ?_
 refine aS fun g1=>?_
 refine XK.gw ?_
 refine XK.aT [(4,iv 0),(3,sn),(1,pt g1)] ?_
 refine XK.fY 22 1 ?_
 refine XK.still [] [] [0,1] (by simp) rfl (by decide) (by decide) fun q0 _ _ yF=>?_
 refine XK.gw ?_
 refine XK.loop (fun m e R H=>∃(k:Nat) (vs:List Value) (q:Piece) (Ag:Option Addr) (cg:Nat),k≤n2∧m=n2 - k∧nC w q∧Rows (nB (eN q)) 1 ((fM s).take k) (vs.map fun v=>[v])∧e=[(4,iv k),(3,.slice Ag k cg),(1,pt g1)]∧R=[q,all w]∧H=[HP.own 22 1 (.slice Ag k cg) k vs,HP.aB g1 30 [.slice A1 n1 k1,.slice A2 n2 k2,.slice A3 n3 k3,.slice A4 n4 k4]]) n2 ⟨0,[],_,none,0,by omega,rfl,yF (by simp) (by simp),trivial,rfl,rfl,rfl⟩ fun m e R H hI=>?_
 obtain⟨k,vs,q,Ag,cg,hk,rfl,nK,hrows,rfl,rfl,rfl⟩:=hI
 refine XK.gw ?_
 refine XK.if_ rfl (fun h=>?_) (fun h=>?_)
 ·
  refine XK.gw ?_
  have hkn:k < s.domains.length:=by omega
  obtain⟨e,he⟩:∃e,s.domains[k]? =some e:=⟨_,List.getElem?_eq_getElem hkn⟩
  obtain⟨b,off,r,rfl,hrl,hR,hro⟩:=hW.dom.row he
  obtain rfl:=hR
  have uR:(fM s)[k]? =some (if e.above= -1 then[] else[e.above]):=by simp[fM,he]
  refine XK.go ?_
  refine kd (dat k (off+k*3)) ?_
  refine jH (off:=0) (by kernel_rfl) rfl (by decide) ?_
  refine fX (by kernel_rfl) rfl (Rd.jP (by simp) (hro.at_ (j:=0) rfl)) (by decide) ?_
  refine Kj rfl rfl (by decide) ?_
  refine XK.aY ?_
  refine XK.if_ rfl (fun hab=>?_) (fun hab=>?_)
  ·
   refine XK.fY 3 1 ?_
   refine XK.go ?_
   refine kd (dat k (off+k*3)) ?_
   refine jH (off:=0) (by kernel_rfl) rfl (by decide) ?_
   refine fX (by kernel_rfl) rfl (Rd.jP (by simp) (hro.at_ (j:=0) rfl)) (by decide) ?_
   refine dF fun g2=>?_
   refine fG 1 1 8 1 (n':=1) (v:=sn) (el:=3) (by kernel_rfl) (by kernel_rfl) (by decide) rfl rfl rfl (kX 0 rfl rfl) (by simp[Value.oneCell']) rfl (by omega) (by omega) (by decide) fun A5 c5=>?_
   dsimp only[List.set,List.nil_append]
   refine XK.gw ?_
   refine dF fun g3=>?_
   refine fG 3 1 24 1 (n':=k+1) (el:=22) (by kernel_rfl) (by kernel_rfl) (by decide) rfl rfl rfl (kX 0 rfl rfl) (by simp[Value.oneCell']) rfl (by omega) (by omega) (by decide) fun A6 c6=>?_
   dsimp only[List.set]
   refine XK.gw ?_
   refine XK.still [q] [2] [3,4] (by simp) rfl (by decide) (by decide) fun q' jN hle Aq=>?_
   obtain⟨Fg,Ig,Hw⟩:=jN 2 _ (by simp) rfl
   obtain⟨A7,c7,e7,yB⟩:=aE.oA (Y:=q'.Z) Ig Hw
   injection e7 with f1 f2 f3
   subst f1
   exact XK.rd (n2 - (k+1)) ⟨k+1,vs++[_],q',A6,c6,by omega,rfl,Aq (by simp) (by simpa using nK),Eg hrows (hle q (by simp)) uR (by rw[if_neg hab];exact⟨A5,1,c5,rfl,rfl,yB⟩),rfl,rfl,rfl⟩
  ·
   refine XK.gw ?_
   refine dF fun g4=>?_
   refine fG 1 1 24 1 (n':=k+1) (el:=22) (by kernel_rfl) (by kernel_rfl) (by decide) rfl rfl rfl (kX 0 rfl rfl) (by simp[Value.oneCell']) rfl (by omega) (by omega) (by decide) fun A6 c6=>?_
   dsimp only[List.set]
   refine XK.gw ?_
   exact XK.rd (n2 - (k+1)) ⟨k+1,vs++[_],q,A6,c6,by omega,rfl,nK,Eg hrows (fun b hb=>⟨hb,rfl⟩) uR (by rw[if_pos (Classical.not_not.1 hab)];exact⟨_,0,0,rfl,rfl,aE.nil _ 1⟩),rfl,rfl,rfl⟩
 ·
  refine XK.gw ?_
  obtain rfl:k=n2:=by omega
  rw[List.take_of_length_le (by simp[fM];omega)] at hrows
  refine XK.gw ?_
  refine XK.still [q] [0] [] (by simp) rfl (by decide) (by decide) fun q2 hq hle hfr=>?_
  have iG:k=(fM s).length:=by simp[fM];omega
  exact XK.rX (h:=fun w1 st=>⟨_,rfl,Ag,cg,by rw[←iG],by rw[←iG];exact(iA.aA9 hrows (hle q (by simp)) (hq 0 _ (by simp) rfl) iG).le (st.jD (by simp) (hfr (by simp) (by simpa using nK)))⟩)
end
section
set_option maxHeartbeats 4000000
set_option maxRecDepth 20000
def sB(n j:Nat):List Value:=(List.replicate j (Value.bool true))++List.replicate (n - j) (.bool false)
theorem aMM{n j:Nat}(h:j≤n):(sB n j).length=n:=by simp[sB];omega
theorem aFa{n j v:Nat}(h:v < j):(sB n j)[v]? =some (.bool true):=by
 rw[sB,List.getElem?_append_left (by simpa using h),List.getElem?_replicate,if_pos h]
theorem aMN{n j:Nat}(h:j < n):(sB n j)[j]? =some (.bool false):=by
 rw[sB,List.getElem?_append_right (by simp)]
 simp[List.getElem?_replicate];omega
theorem aML{n j:Nat}(h:j < n):(sB n j).set j (.bool true)=sB n (j+1):=by
 unfold sB
 rw[List.set_append_right _ _ (by simp),List.length_replicate,Nat.sub_self,show n - j=(n - (j+1))+1 by omega,List.replicate_succ,List.set_cons_zero,List.replicate_succ' (n:=j),List.append_assoc]
 rfl
theorem aE.aAU{w:World}{A:Option Addr}{n:Nat}{l:List Int}(h:aE (all w) 1 A n (aG l))(hn:0 < n):∃b off,A=some ⟨b,off,none⟩∧∀(i:Nat) (x:Int),l[i]? =some x→eS w b (off+i) (iv x):=by
 obtain⟨b,off,hA,hb,hc⟩:=h.2 hn
 refine⟨b,off,hA,fun i x hx=>⟨hb,hc i _ ?_⟩⟩
 simp only[aG,List.getElem?_map,hx,Option.map_some]
theorem aIR(j:Nat):aG (cJ (List.range j))++[iv (j:Int)]=aG (cJ (List.range (j+1))):=by
 rw[List.range_succ];simp[aG,cJ]
def aDt(n:Nat)(v:Value)(w w':World):Prop:=∃A c,v=.slice A n c∧aE (fresh w w') 1 A n (aG (cJ (List.range n)))
theorem aI2(A:Option Addr)(n c:Nat)(g:List (List Int))(w:World)(hg:iA (all w) A n g)(hn:n=g.length)(hn2:n≤100)(Ap:∀l∈g,l.length≤1000000)(Xk:∀(v:Nat) (l:List Int),g[v]? =some l→∀y∈l,0≤y∧y < (v:Int)):
  Calls Tryz.prog 236 #[.slice A n c] w (fun y w'=>(∃v,y=.returned v∧aDt n v w w')∧Below w.heap.size w w'):=by
 refine XK.en Tryz.func236 Tryz.ntmps236 ?_
 refine XK.seq ?_
 refine XK.region ?_
 refine cM rfl (by decide) ?_
 refine XK.aY ?_
 refine XK.seq ?_
 refine XK.region ?_
 refine cM rfl (by decide) ?_
 refine XK.aY ?_
 refine XK.seq ?_
 refine XK.region ?_
 refine aR rfl (by decide) ?_
 refine pF (el:=22) (by kernel_rfl) rfl (by decide) ?_
 refine XK.fY 3 1 ?_
 refine jG 1 (n:=n) (el:=4) (z:=.bool false) (by kernel_rfl) (by kernel_rfl) rfl rfl rfl (by omega) (by omega) (by decide) fun g1=>?_
 refine cM rfl (by decide) ?_
 refine XK.aY ?_
 refine XK.seq ?_
 refine XK.region ?_
 refine cM rfl (by decide) ?_
 refine XK.aY ?_
 refine XK.seq ?_
 refine XK.aT [(5,.bool true),(4,.slice (some ⟨g1,0,none⟩) n n),(3,sn),(0,.slice A n c)] ?_
 refine XK.block ?_
 refine XK.loop (fun m e R H=>∃(j:Nat) (mo:Bool) (Ao:Option Addr) (co:Nat),j≤n∧(mo=false→j=n)∧m=2*(n - j)+mo.toNat∧e=[(5,.bool mo),(4,.slice (some ⟨g1,0,none⟩) n n),(3,.slice Ao j co),(0,.slice A n c)]∧R=[all w]∧H=[HP.aB g1 4 (sB n j),HP.own 3 1 (.slice Ao j co) j (aG (cJ (List.range j)))]) (2*n+1) ⟨0,true,none,0,by omega,(fun h=>by cases h),by simp,rfl,rfl,by simp[sB,aG,cJ]⟩ fun m e R H hI=>?_
 obtain⟨j,mo,Ao,co,hj,hmo,rfl,rfl,rfl,rfl⟩:=hI
 refine XK.seq ?_
 refine XK.seq ?_
 refine XK.region ?_
 refine aR rfl (by decide) ?_
 refine XK.aY ?_
 refine XK.cond rfl (fun h=>?_) (fun h=>?_)
 ·
  refine XK.skip ?_
  refine XK.norm ?_
  refine XK.block ?_
  refine XK.seq ?_
  subst h
  refine XK.region ?_
  refine cM rfl (by decide) ?_
  refine XK.aY ?_
  refine XK.seq ?_
  refine XK.region ?_
  refine cM rfl (by decide) ?_
  refine XK.aY ?_
  refine XK.aT [(6,iv 0),(5,.bool false),(4,.slice (some ⟨g1,0,none⟩) n n),(3,.slice Ao j co),(0,.slice A n c)] ?_
  refine XK.block ?_
  refine XK.loop (fun m e R H=>∃(v:Nat) (mi:Bool) (jj:Nat) (Ao:Option Addr) (co:Nat),v≤n∧((mi=false∧jj=j∧v≤j)∨(mi=true∧jj=j+1∧j < n∧v=j+1))∧m=n - v∧e=[(6,iv v),(5,.bool mi),(4,.slice (some ⟨g1,0,none⟩) n n),(3,.slice Ao jj co),(0,.slice A n c)]∧R=[all w]∧H=[HP.aB g1 4 (sB n jj),HP.own 3 1 (.slice Ao jj co) jj (aG (cJ (List.range jj)))]) n ⟨0,false,j,Ao,co,by omega,.inl ⟨rfl,rfl,by omega⟩,rfl,rfl,rfl,rfl⟩ fun m e R H hI=>?_
  obtain⟨v,mi,jj,Ao,co,hv,hst,rfl,rfl,rfl,rfl⟩:=hI
  refine XK.seq ?_
  refine XK.Tq 20 (v < n∧mi=false) ?_ ?_
  ·skip
   refine XK.region ?_
   refine aR rfl (by decide) ?_
   refine aR rfl (by decide) ?_
   refine pF (el:=22) (by kernel_rfl) rfl (by decide) ?_
   refine xN rfl rfl (by decide) ?_
   refine aR rfl (by decide) ?_
   (first | refine aW (t:=17) rfl (fun hg=>?_) (fun hg=>?_) | refine oK (t:=17) rfl (fun hg=>?_) (fun hg=>?_))
   ·
    refine dW rfl rfl ?_;refine aR rfl (by decide) ?_
    refine dW rfl rfl ?_;(first | refine Dv rfl (by decide) ?_ | refine tR rfl (by decide) ?_)
    (first | refine mH rfl rfl (by decide) ?_ | refine mI rfl rfl (by decide) ?_)
    refine XK.aY ?_
    exact XK.Lg
   ·
    refine dS rfl rfl rfl (by decide) ?_
    refine dS rfl rfl rfl (by decide) ?_
    (first | refine mH rfl rfl (by decide) ?_ | refine mI rfl rfl (by decide) ?_)
    refine XK.aY ?_
    exact XK.Lg
  refine XK.if_ rfl (fun hin=>?_) (fun hin=>?_)
  ·
   refine XK.skip ?_
   refine XK.norm ?_
   refine XK.seq ?_
   refine XK.block ?_
   refine XK.seq ?_
   obtain⟨Ew,hmf⟩:=hin
   obtain⟨hvj,hjj⟩:v≤j∧jj=j:=by
    rcases hst with⟨_,h2,h3⟩ | ⟨h1,_⟩
    ·exact⟨h3,h2⟩
    ·rw[hmf] at h1;cases h1
   subst hjj
   subst hmf
   clear hst
   obtain⟨l,hl⟩:∃l,g[v]? =some l:=⟨g[v]'(by omega),List.getElem?_eq_getElem _⟩
   have hlt:=Xk v l hl
   have hlen:=Ap l (List.mem_of_getElem? hl)
   obtain⟨bG,oG,Al,kl,rfl,hcG,mV⟩:=hg.row hl
   have pL:(sB n jj)[v]? =some (.bool (decide (¬v=jj))):=by
    by_cases Wv:v=jj
    ·subst Wv;rw[aMN Ew];simp
    ·rw[aFa (by omega)];simp[Wv]
   refine XK.region ?_
   refine aR rfl (by decide) ?_
   refine aR rfl (by decide) ?_
   refine kd (dat v v) ?_
   refine fX (by kernel_rfl) rfl (Rd.aB 0 rfl pL) (by decide) ?_
   refine Dv rfl (by decide) ?_
   rw[show decide (¬¬v=jj)=decide (v=jj) by simp]
   refine cM rfl (by decide) ?_
   refine XK.aY ?_
   refine XK.seq ?_
   refine XK.seq ?_
   refine XK.region ?_
   refine cM rfl (by decide) ?_
   refine XK.aY ?_
   refine XK.aT [(8,iv 0),(7,.bool (decide (v=jj))),(6,iv v),(5,.bool false),(4,.slice (some ⟨g1,0,none⟩) n n),(3,.slice Ao jj co),(0,.slice (some ⟨bG,oG,none⟩) n c)] ?_
   refine XK.block ?_
   refine XK.loop (fun m e R H=>∃(i:Nat) (rb:Bool),i≤l.length∧rb=decide (v=jj)∧m=l.length - i∧e=[(8,iv i),(7,.bool rb),(6,iv v),(5,.bool false),(4,.slice (some ⟨g1,0,none⟩) n n),(3,.slice Ao jj co),(0,.slice (some ⟨bG,oG,none⟩) n c)]∧R=[all w]∧H=[HP.aB g1 4 (sB n jj),HP.own 3 1 (.slice Ao jj co) jj (aG (cJ (List.range jj)))]) l.length ⟨0,_,by omega,rfl,rfl,rfl,rfl,rfl⟩ fun m e R H hI=>?_
   obtain⟨i,rb,hi,hrb,rfl,rfl,rfl,rfl⟩:=hI
   refine XK.seq ?_
   refine XK.seq ?_
   refine XK.region ?_
   refine aR rfl (by decide) ?_
   refine aR rfl (by decide) ?_
   refine aR rfl (by decide) ?_
   refine kd (dat v (oG+v)) ?_
   refine fX (by kernel_rfl) rfl (Rd.jP (by simp) hcG) (by decide) ?_
   refine pF (el:=3) (by kernel_rfl) rfl (by decide) ?_
   refine xN rfl rfl (by decide) ?_
   refine XK.aY ?_
   refine XK.if_ rfl (fun hil=>?_) (fun hil=>?_)
   ·
    refine XK.skip ?_
    refine XK.norm ?_
    refine XK.seq ?_
    refine XK.block ?_
    have Xl:i < l.length:=by have h':(i:Int) < (l.length:Int):=hil;omega
    obtain⟨y,hy⟩:∃y,l[i]? =some y:=⟨_,List.getElem?_eq_getElem Xl⟩
    have Wq:=hlt y (List.mem_of_getElem? hy)
    obtain⟨bI,oI,hAI,Is⟩:=mV.aAU (by omega)
    subst hAI
    have Fj:=Is i y hy
    refine XK.region ?_
    refine aR rfl (by decide) ?_
    refine aR rfl (by decide) ?_
    refine oK (t:=38) rfl (fun Rq=>?_) (fun Rq=>?_)
    ·
     have hdy:(sB n jj)[y.toNat]? =some (.bool true):=aFa (by omega)
     refine dW rfl rfl ?_;refine aR rfl (by decide) ?_
     refine dW rfl rfl ?_;refine aR rfl (by decide) ?_
     refine dW rfl rfl ?_;refine aR rfl (by decide) ?_
     refine dW rfl rfl ?_;refine kd (dat v (oG+v)) ?_
     refine dW rfl rfl ?_;refine fX (by kernel_rfl) rfl (Rd.jP (by simp) hcG) (by decide) ?_
     refine dW rfl rfl ?_;refine aR rfl (by decide) ?_
     refine dW rfl rfl ?_;refine kd (dat i (oI+i)) ?_
     refine dW rfl rfl ?_;refine fX (by kernel_rfl) rfl (Rd.jP (by simp) Fj) (by decide) ?_
     refine dW rfl rfl ?_;refine kd (dat y.toNat y.toNat) ?_
     refine dW rfl rfl ?_;refine fX (by kernel_rfl) rfl (Rd.aB 0 rfl hdy) (by decide) ?_
     (first | refine mH rfl rfl (by decide) ?_ | refine mI rfl rfl (by decide) ?_)
     refine cM rfl (by decide) ?_
     refine XK.aY ?_
     refine XK.region ?_
     refine aR rfl (by decide) ?_
     refine nD rfl rfl (eR (by omega)) (by decide) ?_
     refine cM rfl (by decide) ?_
     refine XK.aY ?_
     exact XK.rd (l.length - (i+1)) ⟨i+1,true,by omega,by rw[←hrb,Rq],rfl,rfl,rfl,rfl⟩
    ·
     refine dS rfl rfl rfl (by decide) ?_
     refine dS rfl rfl rfl (by decide) ?_
     refine dS rfl rfl rfl (by decide) ?_
     refine dS rfl rfl rfl (by decide) ?_
     refine dS rfl rfl rfl (by decide) ?_
     refine dS rfl rfl rfl (by decide) ?_
     refine dS rfl rfl rfl (by decide) ?_
     refine dS rfl rfl rfl (by decide) ?_
     refine dS rfl rfl rfl (by decide) ?_
     refine dS rfl rfl rfl (by decide) ?_
     (first | refine mH rfl rfl (by decide) ?_ | refine mI rfl rfl (by decide) ?_)
     refine cM rfl (by decide) ?_
     refine XK.aY ?_
     refine XK.region ?_
     refine aR rfl (by decide) ?_
     refine nD rfl rfl (eR (by omega)) (by decide) ?_
     refine cM rfl (by decide) ?_
     refine XK.aY ?_
     exact XK.rd (l.length - (i+1)) ⟨i+1,false,by omega,by rw[←hrb,Rq],rfl,rfl,rfl,rfl⟩
   ·
    refine XK.exit ?_
    refine XK.norm ?_
    refine XK.seq ?_
    refine XK.region ?_
    refine aR rfl (by decide) ?_
    refine XK.aY ?_
    refine XK.cond rfl (fun hrd=>?_) (fun hrd=>?_)
    ·
     refine XK.seq ?_
     have Wv:v=jj:=of_decide_eq_true (hrb▸hrd)
     subst Wv
     refine XK.region ?_
     refine aR rfl (by decide) ?_
     refine aR rfl (by decide) ?_
     refine kd (dat v v) ?_
     refine pE 0 rfl (by kernel_rfl) rfl rfl rfl (by rw[aMM (by omega)];omega) ?_
     dsimp only[List.set]
     rw[aML Ew]
     refine XK.aY ?_
     refine XK.seq ?_
     refine XK.region ?_
     refine aR rfl (by decide) ?_
     refine aR rfl (by decide) ?_
     refine dF fun g2=>?_
     refine fG 2 1 8 1 (n':=v+1) (el:=3) (by kernel_rfl) (by kernel_rfl) (by decide) rfl rfl rfl (kX 0 rfl rfl) (by simp[Value.oneCell']) rfl (by omega) (by omega) (by decide) fun A9 c9=>?_
     dsimp only[List.set]
     rw[aIR]
     refine cM rfl (by decide) ?_
     refine XK.aY ?_
     refine XK.region ?_
     refine cM rfl (by decide) ?_
     refine XK.aY ?_
     refine XK.region ?_
     refine aR rfl (by decide) ?_
     refine nD rfl rfl (eR (by omega)) (by decide) ?_
     refine cM rfl (by decide) ?_
     refine XK.aY ?_
     exact XK.rd (n - (v+1)) ⟨v+1,true,v+1,A9,c9,by omega,.inr ⟨rfl,rfl,Ew,rfl⟩,rfl,rfl,rfl,rfl⟩
    ·
     refine XK.skip ?_
     refine XK.norm ?_
     refine XK.region ?_
     refine aR rfl (by decide) ?_
     refine nD rfl rfl (eR (by omega)) (by decide) ?_
     refine cM rfl (by decide) ?_
     refine XK.aY ?_
     exact XK.rd (n - (v+1)) ⟨v+1,false,jj,Ao,co,by omega,.inl ⟨rfl,rfl,by have hne:¬v=jj:=of_decide_eq_false (hrb▸hrd);omega⟩,rfl,rfl,rfl,rfl⟩
  ·
   refine XK.exit ?_
   refine XK.norm ?_
   rcases hst with⟨rfl,rfl,h3⟩ | ⟨rfl,rfl,h3,rfl⟩
   ·have hjn:jj=n:=by
     rcases Nat.lt_or_ge v n with h9 | h9
     ·exact absurd ⟨h9,rfl⟩ hin
     ·omega
    exact XK.rd (2*(n - jj)+0) ⟨jj,false,Ao,co,by omega,(fun _=>hjn),by simp,rfl,rfl,rfl⟩ (hm:=by simp)
   ·exact XK.rd (2*(n - (j+1))+1) ⟨j+1,true,Ao,co,by omega,(fun h=>by cases h),by simp,rfl,rfl,rfl⟩ (hm:=by simp;omega)
 ·
  refine XK.exit ?_
  refine XK.norm ?_
  refine XK.seq ?_
  refine XK.region ?_
  refine aR rfl (by decide) ?_
  refine cM rfl (by decide) ?_
  refine XK.aY ?_
  refine XK.ret ?_
  refine XK.norm ?_
  obtain rfl:=hmo h
  refine XK.still [] [1] [] (by simp) rfl (by decide) (by decide) fun q hq _ hfr=>?_
  obtain⟨F1,Pg,Oj⟩:=hq 1 _ (by simp) rfl
  obtain⟨A8,c8,e8,h8⟩:=aE.oA (Y:=q.Z) Pg Oj
  injection e8 with f1 f2 f3
  subst f1
  exact XK.rX (h:=fun w1 st=>⟨_,rfl,Ao,co,rfl,aE.le h8 (st.jD (by simp) (hfr (by simp) (by simp)))⟩)
end
section
set_option maxHeartbeats 4000000
set_option maxRecDepth 20000
theorem aAu(A:Option Addr)(n c:Nat)(g:List (List Int))(w:World)(hg:iA (all w) A n g)(hn:n=g.length)(hn2:n≤100)(Ap:∀l∈g,l.length≤1000000)(Xk:∀(v:Nat) (l:List Int),g[v]? =some l→∀y∈l,0≤y∧y < (v:Int)):
  Calls Tryz.prog 214 #[.slice A n c] w (Rt (iv 0) w):=by
 refine XK.en Tryz.func214 Tryz.ntmps214 ?_
 refine XK.gw ?_
 refine XK.if_ rfl (fun h=>absurd h (by omega)) (fun h=>?_)
 ·
  refine XK.gw ?_
  refine XK.aT [(3,iv 0),(0,.slice A n c)] ?_
  refine XK.gw ?_
  refine XK.loop (fun m e R H=>∃(v:Nat),v≤n∧m=n - v∧e=[(3,iv v),(0,.slice A n c)]∧R=[all w]∧H=[]) n ⟨0,by omega,rfl,rfl,rfl,rfl⟩ fun m e R H hI=>?_
  obtain⟨v,hv,rfl,rfl,rfl,rfl⟩:=hI
  refine XK.gw ?_
  refine XK.if_ rfl (fun hvl=>?_) (fun hvl=>?_)
  ·
   refine XK.gw ?_
   have Ew:v < n:=by have h':(v:Int) < (n:Int):=hvl;omega
   obtain⟨l,hl⟩:∃l,g[v]? =some l:=⟨g[v]'(by omega),List.getElem?_eq_getElem _⟩
   have hlt:=Xk v l hl
   have hlen:=Ap l (List.mem_of_getElem? hl)
   obtain⟨bG,oG,Al,kl,rfl,hcG,mV⟩:=hg.row hl
   refine XK.gw ?_
   refine XK.aT [(4,iv 0),(3,iv v),(0,.slice (some ⟨bG,oG,none⟩) n c)] ?_
   refine XK.gw ?_
   refine XK.loop (fun m e R H=>∃(i:Nat),i≤l.length∧m=l.length - i∧e=[(4,iv i),(3,iv v),(0,.slice (some ⟨bG,oG,none⟩) n c)]∧R=[all w]∧H=[]) l.length ⟨0,by omega,rfl,rfl,rfl,rfl⟩ fun m e R H hI=>?_
   obtain⟨i,hi,rfl,rfl,rfl,rfl⟩:=hI
   refine XK.go ?_
   refine kd (dat v (oG+v)) ?_
   refine XK.gw ?_
   refine XK.if_ rfl (fun hil=>?_) (fun hil=>?_)
   ·
    refine XK.skip ?_
    refine XK.norm ?_
    refine XK.seq ?_
    refine XK.block ?_
    have Xl:i < l.length:=by have h':(i:Int) < (l.length:Int):=hil;omega
    obtain⟨y,hy⟩:∃y,l[i]? =some y:=⟨_,List.getElem?_eq_getElem Xl⟩
    have Wq:=hlt y (List.mem_of_getElem? hy)
    obtain⟨bI,oI,hAI,Is⟩:=mV.aAU (by omega)
    subst hAI
    have Fj:=Is i y hy
    refine XK.Tq 42 (False) ?_ ?_
    ·skip
     refine XK.go ?_
     refine kd (dat v (oG+v)) ?_
     refine XK.go ?_
     refine kd (dat i (oI+i)) ?_
     refine XK.gw ?_
     (first | refine aW (t:=31) rfl (fun hg=>?_) (fun hg=>?_) | refine oK (t:=31) rfl (fun hg=>?_) (fun hg=>?_))
     ·
      refine dS rfl rfl rfl (by decide) ?_
      refine dS rfl rfl rfl (by decide) ?_
      refine dS rfl rfl rfl (by decide) ?_
      refine dS rfl rfl rfl (by decide) ?_
      refine dS rfl rfl rfl (by decide) ?_
      refine dS rfl rfl rfl (by decide) ?_
      refine dS rfl rfl rfl (by decide) ?_
      refine dS rfl rfl rfl (by decide) ?_
      refine dS rfl rfl rfl (by decide) ?_
      refine dS rfl rfl rfl (by decide) ?_
      (first | refine mH rfl rfl (by decide) ?_ | refine mI rfl rfl (by decide) ?_)
      refine XK.aY ?_
      exact XK.Lh (by repeat (first | exact trivial | refine⟨rfl,?_⟩)) (by first | (exfalso;omega) | (refine Mt rfl ⟨fun hh=>?_,fun hh=>hh.elim⟩;omega) | (refine Sm rfl ?_;exact id))
     ·
      refine dW rfl rfl ?_
      refine aR rfl (by decide) ?_
      refine dW rfl rfl ?_
      refine aR rfl (by decide) ?_
      refine dW rfl rfl ?_
      refine kd (dat v (oG+v)) ?_
      refine XK.go ?_
      refine kd (dat i (oI+i)) ?_
      refine dW rfl rfl ?_
      refine fX (by kernel_rfl) rfl (Rd.jP (by simp) Fj) (by decide) ?_
      refine dW rfl rfl ?_
      refine aR rfl (by decide) ?_
      refine dW rfl rfl ?_
      refine pF (el:=22) (by kernel_rfl) rfl (by decide) ?_
      refine dW rfl rfl ?_
      refine aC2 rfl rfl (by decide) ?_
      (first | refine mH rfl rfl (by decide) ?_ | refine mI rfl rfl (by decide) ?_)
      refine XK.aY ?_
      exact XK.Lh (by repeat (first | exact trivial | refine⟨rfl,?_⟩)) (by first | (exfalso;omega) | (refine Mt rfl ⟨fun hh=>?_,fun hh=>hh.elim⟩;omega) | (refine Sm rfl ?_;exact id))
    refine XK.cond rfl (fun h=>by simp at h) (fun _=>?_)
    ·
     refine XK.gw ?_
     exact XK.rd (l.length - (i+1)) ⟨i+1,by omega,rfl,rfl,rfl,rfl⟩
   ·
    refine XK.gw ?_
    exact XK.rd (n - (v+1)) ⟨v+1,by omega,rfl,rfl,rfl,rfl⟩
  ·
   refine XK.gw ?_
   refine gO [] (aDt n) (fun w1 st=>aI2 _ n c g w1 (hg.le (gQ (st.started (by simp)))) hn hn2 Ap Xk) ?_
   rintro _ w1 q1 ⟨Ao,co,rfl,ho⟩ hf _ pM
   have ho:=ho.le hf
   clear hf
   refine XK.gw ?_
   refine XK.if_ rfl (fun h=>absurd h (by omega)) (fun h=>?_)
   ·
    refine XK.gw ?_
    exact XK.rX (h:=fun _ _=>rfl)
end
section
set_option maxHeartbeats 4000000
set_option maxRecDepth 20000
theorem aDq(v n:Int)(w:World):Calls Tryz.prog 216 #[iv v,iv n] w (Rt (.bool (decide (0≤v∧v < n))) w):=by
 refine XK.en Tryz.func216 Tryz.ntmps216 ?_
 refine XK.gw ?_
 refine aW (t:=7) rfl (fun hg=>?_) (fun hg=>?_)
 ·
  refine XK.gw ?_
  rw[show decide (0≤v∧v < n)=decide (v < n) from decide_eq_decide.2 ⟨fun h=>h.2,fun h=>⟨hg,h⟩⟩]
  exact XK.rX (h:=fun _ _=>rfl)
 ·
  refine XK.gw ?_
  rw[show decide (0≤v∧v < n)=false from decide_eq_false (fun h=>hg h.1)]
  exact XK.rX (h:=fun _ _=>rfl)
theorem aAs(v a b:Int)(w:World):Calls Tryz.prog 158 #[iv v,iv a,iv b] w (Rt (.bool (decide (a≤v∧v≤b))) w):=by
 refine XK.en Tryz.func158 Tryz.ntmps158 ?_
 refine XK.gw ?_
 refine aW (t:=10) rfl (fun hg=>?_) (fun hg=>?_)
 ·
  refine XK.gw ?_
  rw[show decide (a≤v∧v≤b)=decide (v≤b) from decide_eq_decide.2 ⟨fun h=>h.2,fun h=>⟨hg,h⟩⟩]
  exact XK.rX (h:=fun _ _=>rfl)
 ·
  refine XK.gw ?_
  rw[show decide (a≤v∧v≤b)=false from decide_eq_false (fun h=>hg h.1)]
  exact XK.rX (h:=fun _ _=>rfl)
set_option maxRecDepth 100000 in
theorem aI9(c:dV)(k0 nn:Nat)(As:Option Addr)(ns ks:Nat)(w:World)(hs:aE (all w) 1 As ns (aG c.src))(hns:ns=c.src.length)(hf:c.fit k0)(hk:k0≤nn)(hnn:nn≤1000):Calls Tryz.prog 213 #[.agg #[.int .u8 c.kind,.slice As ns ks,.int .u64 c.rate,iv c.mul,iv c.div,iv c.lock],iv (nn:Int)] w (Rt (iv 0) w):=by
  have hk9:=hf.1
  have hc:(c.kind=111∧ns=0∧1≤c.rate∧c.rate≤1000000)∨(c.kind=112∧ns=1∧1≤c.mul∧c.mul≤8∧1≤c.div∧c.div≤4∧0≤c.lock∧c.lock≤3)∨(c.kind=100∧ns=1∧1≤c.div∧c.div≤8)∨(c.kind=103∧ns=1)∨(c.kind=109∧ns=2):=by
    rcases hf.2 with h | h | h | h | h
    · exact .inl ⟨h.1,by rw[hns,h.2.1];rfl,h.2.2.1,h.2.2.2.1⟩
    · omega
    · omega
    · omega
    · omega
  clear hf
  obtain⟨kind,src,rate,mul,div,lock⟩:=c
  dsimp only at hs hns hk9 hc⊢
  have win:∀v a b:Int,a≤v∧v≤b→∀w1,Calls Tryz.prog 158 #[iv v,iv a,iv b] w1 (Rt (.bool true) w1):=fun v a b h w1=>by
    have:=aAs v a b w1
    rwa [decide_eq_true h] at this
  have inn:∀v:Int,v∈src→∀w1,Calls Tryz.prog 216 #[iv v,iv (nn:Int)] w1 (Rt (.bool true) w1):=fun v h w1=>by
    have:=aDq v nn w1
    have h2:=hk9 v h
    rwa [decide_eq_true (by omega)] at this
  refine XK.en Tryz.func213 Tryz.ntmps213 ?_
  refine XK.gw ?_
  refine aS fun g1=>?_
  rcases hc with⟨rfl,rfl,h⟩ | ⟨rfl,rfl,h⟩ | ⟨rfl,rfl,h⟩ | ⟨rfl,rfl⟩ | ⟨rfl,rfl⟩
  all_goals
    refine XK.gw ?_
  · refine XK.lq (fun i=>[(7,iv i),(5,_),(2,pt g1),(1,iv nn)]) 4 fun i hi=>?_
    refine XK.gw ?_
    refine aW (t:=68) rfl (fun h3=>by omega) (fun _=>?_)
    refine XK.gw ?_
    refine XK.if_ rfl (fun h3=>by omega) (fun _=>?_)
    refine XK.gw ?_
    exact XK.rE
  rotate_left 3
  refine aJ (fun w1 t=>win ((2:Nat):Int) 1 4 (by decide) w1) ?_
  refine XK.gw ?_
  rotate_left
  all_goals
    refine XK.lq (fun i=>[(7,iv i),(5,_),(2,pt g1),(1,iv nn)]) 4 fun i hi=>?_
    refine XK.gw ?_
    refine XK.if_ rfl (fun h2=>?_) (fun h2=>?_)
    · obtain⟨f,hf⟩:=get_some (l:=src) (i:=i) (by omega)
      obtain⟨b,off,rfl,fC,fK⟩:=hs.2 (by omega)
      have Rz:eS w b (off+i) (iv f):=⟨fC,fK i _ (by simp[aG,hf])⟩
      refine XK.gw ?_
      refine aJ (fun w1 t=>inn f (List.mem_of_getElem? hf) w1) ?_
      refine XK.gw ?_
      exact XK.ag ()
    refine XK.gw ?_
  · refine aJ (fun w1 t=>win mul 1 1000 (by omega) w1) ?_
    refine XK.gw ?_
    refine aJ (fun w1 t=>win div 1 1000 (by omega) w1) ?_
    refine XK.gw ?_
    refine aJ (fun w1 t=>win lock 0 20 (by omega) w1) ?_
    refine XK.gw ?_
    exact XK.rE
  · refine aJ (fun w1 t=>win div 1 1000 (by omega) w1) ?_
    refine XK.gw ?_
    exact XK.rE
  all_goals exact XK.rE
theorem aI6(s:aA)(A1 A2 A3 A4:Option Addr)(n1 k1 n2 k2 n3 k3 n4 k4:Nat)(w:World)(hW:eI w s A1 n1 A2 n2 A3 n3 A4 n4)(hm:s.made):Calls Tryz.prog 155 #[.agg #[.slice A1 n1 k1,.slice A2 n2 k2,.slice A3 n3 k3,.slice A4 n4 k4]] w (Rt (.bool true) w):=by
 have lX:=hW.kL
 have hn2:=hW.kY
 have lW:=hW.mL
 have nJ:=hW.lK
 have hnc:=hm.nc
 have hnd:=hm.nd
 have fU:=hm.nr
 have lD:=hm.nv
 have bQ:=hW.small
 refine XK.en Tryz.func155 Tryz.ntmps155 ?_
 refine XK.gw ?_
 refine aS fun g1=>?_
 refine XK.gw ?_
 refine aW (t:=8) rfl (fun h=>by omega) (fun _=>?_)
 refine XK.gw ?_
 refine aW (t:=14) rfl (fun h=>by omega) (fun _=>?_)
 refine XK.gw ?_
 refine aW (t:=20) rfl (fun h=>by omega) (fun _=>?_)
 refine XK.gw ?_
 refine XK.if_ rfl (fun h=>by omega) (fun _=>?_)
 refine XK.gw ?_
 refine XK.lq (fun i=>[(3,iv i),(1,pt g1)]) n4 fun i hi=>?_
 refine XK.gw ?_
 refine XK.if_ rfl (fun h=>?_) (fun h=>?_)
 ·obtain⟨d,hd⟩:∃d,s.aC[i]? =some d:=⟨_,List.getElem?_eq_getElem (by omega)⟩
  obtain⟨b,off,r,rfl,hrl,hR,hro⟩:=hW.dev.row hd
  obtain⟨Ar,nr,kr,An,nn,kn,rfl,aEp,aKS,Ey,hsn⟩:=hR
  obtain⟨_,_,_,_,_,_,_,_,hd9,_,aLu,_⟩:=hm.aC i d hd
  have h4:=hro.at_ (j:=4) rfl
  have h5:=hro.at_ (j:=5) rfl
  refine XK.gw ?_
  refine aW (t:=41) rfl (fun h=>by omega) (fun _=>?_)
  refine XK.gw ?_
  refine XK.if_ rfl (fun h=>by omega) (fun _=>?_)
  refine XK.gw ?_
  exact XK.ag ()
 ·refine XK.gw ?_
  exact XK.rE
theorem Pr{v n:Int}(h:0≤v∧v < n)(w:World):Calls Tryz.prog 216 #[iv v,iv n] w (Rt (.bool true) w):=by
 have:=aDq v n w
 rwa [decide_eq_true h] at this
theorem aDp{v a b:Int}(h:a≤v∧v≤b)(w:World):Calls Tryz.prog 158 #[iv v,iv a,iv b] w (Rt (.bool true) w):=by
 have:=aAs v a b w
 rwa [decide_eq_true h] at this
theorem aI8(s:aA)(A1 A2 A3 A4:Option Addr)(n1 k1 n2 k2 n3 k3 n4 k4:Nat)(w:World)(hW:eI w s A1 n1 A2 n2 A3 n3 A4 n4)(hm:s.made):Calls Tryz.prog 156 #[.agg #[.slice A1 n1 k1,.slice A2 n2 k2,.slice A3 n3 k3,.slice A4 n4 k4]] w (Rt (iv 0) w):=by
 have lX:=hW.kL
 have hn2:=hW.kY
 have lW:=hW.mL
 have nJ:=hW.lK
 have hnc:=hm.nc
 have hnd:=hm.nd
 have fU:=hm.nr
 have lD:=hm.nv
 have bQ:=hW.small
 unfold aA.small at bQ
 obtain⟨hs1,eL,lV,mW,jT,lU⟩:=bQ
 refine XK.en Tryz.func156 Tryz.ntmps156 ?_
 refine XK.gw ?_
 refine aS fun g1=>?_
 refine XK.gw ?_
 refine XK.lq (fun i=>[(3,iv i),(1,pt g1)]) n1 fun i hi=>?_
 refine XK.gw ?_
 refine XK.if_ rfl (fun h=>?_) (fun h=>?_)
 ·obtain⟨c,hc⟩:∃c,s.aD[i]? =some c:=⟨_,List.getElem?_eq_getElem (by omega)⟩
  obtain⟨b,off,r,rfl,hrl,hR,hro⟩:=hW.qP.row hc
  obtain⟨Af,nf,kf,rfl,hnf,oP⟩:=hR
  have hfit:=hm.aD i c hc
  refine XK.gw ?_
  refine XK.dz ?_
  refine XB.nx 8 ?_
  refine aJ (fun w1 st=>aI9 c i n1 Af nf kf w1 (aE.le oP (gQ (st.started (by simp)))) hnf hfit (by omega) (by omega)) ?_
  refine XB.bk ?_
  refine XB.lo 9 ?_
  refine XB.fin ?_
  refine XK.gw ?_
  exact XK.ag ()
 ·refine XK.gw ?_
  refine gO [] (sM (fO s)) (fun w1 st=>aI7 s A1 A2 A3 A4 n1 k1 n2 k2 n3 k3 n4 k4 w1 (hW.le (st.started (by simp)))) ?_
  rintro _ w1 q1 ⟨Ag,cg,rfl,iU⟩ hf hle hfr
  have iU:=iU.le hf
  refine XK.gw ?_
  refine aJ (fun w1 st=>aAu Ag _ cg (fO s) w1 (iU.le (st.le (by simp))) rfl (by simp[fO];omega) (fun l hl=>by
   simp only[fO,List.mem_map] at hl
   obtain⟨z,hz,rfl⟩:=hl
   have:=jT z hz;omega) (aDT hm)) ?_
  refine XK.gw ?_
  exact XK.rE
theorem aI4(s:aA)(A1 A2 A3 A4:Option Addr)(n1 k1 n2 k2 n3 k3 n4 k4:Nat)(w:World)(hW:eI w s A1 n1 A2 n2 A3 n3 A4 n4)(hm:s.made):Calls Tryz.prog 157 #[.agg #[.slice A1 n1 k1,.slice A2 n2 k2,.slice A3 n3 k3,.slice A4 n4 k4]] w (Rt (iv 0) w):=by
 have lX:=hW.kL
 have hn2:=hW.kY
 have lW:=hW.mL
 have nJ:=hW.lK
 have hnc:=hm.nc
 have hnd:=hm.nd
 have fU:=hm.nr
 have lD:=hm.nv
 refine XK.en Tryz.func157 Tryz.ntmps157 ?_
 refine XK.gw ?_
 refine aS fun g1=>?_
 refine XK.gw ?_
 refine XK.lq (fun i=>[(3,iv i),(1,pt g1)]) n2 fun i hi=>?_
 refine XK.gw ?_
 refine XK.if_ rfl (fun h=>?_) (fun h=>?_)
 ·obtain⟨d,hd⟩:∃d,s.domains[i]? =some d:=⟨_,List.getElem?_eq_getElem (by omega)⟩
  obtain⟨b,off,r,rfl,hrl,rfl,hro⟩:=hW.dom.row hd
  obtain⟨cF,Mo,kO⟩:=hm.domains i d hd
  refine XK.gw ?_
  refine bB fun g2=>?_
  refine XK.gw ?_
  refine aW (t:=20) rfl (fun h2=>?_) (fun h2=>?_)
  ·refine XK.gw ?_
   refine aJ (fun w1 _=>Pr (v:=d.above) (n:=(n2:Nat)) (by omega) w1) ?_
   refine XK.gw ?_
   refine aJ (fun w1 _=>aDp (v:=d.delay) (a:=0) (b:=20) (by omega) w1) ?_
   refine XK.gw ?_
   exact XK.ag ()
  ·refine XK.gw ?_
   refine aJ (fun w1 _=>aDp (v:=d.delay) (a:=0) (b:=20) (by omega) w1) ?_
   refine XK.gw ?_
   exact XK.ag ()
 ·refine XK.gw ?_
  refine gO [] (sM (fM s)) (fun w1 st=>aI3 s A1 A2 A3 A4 n1 k1 n2 k2 n3 k3 n4 k4 w1 (hW.le (st.started (by simp)))) ?_
  rintro _ w1 q1 ⟨Ag,cg,rfl,iU⟩ hf hle hfr
  have iU:=iU.le hf
  refine XK.gw ?_
  refine aJ (fun w1 st=>aAu Ag _ cg (fM s) w1 (iU.le (st.le (by simp))) rfl (by simp[fM];omega) (fun l hl=>by
   simp only[fM,List.mem_map] at hl
   obtain⟨z,_,rfl⟩:=hl
   split<;>simp) (aDR hm)) ?_
  refine XK.gw ?_
  exact XK.rE
theorem aAt(s:aA)(A1 A2 A3 A4:Option Addr)(n1 k1 n2 k2 n3 k3 n4 k4:Nat)(w:World)(hW:eI w s A1 n1 A2 n2 A3 n3 A4 n4):
  Calls Tryz.prog 160 #[.agg #[.slice A1 n1 k1,.slice A2 n2 k2,.slice A3 n3 k3,.slice A4 n4 k4]] w (fun y w'=>(∃v,y=.returned v∧sM (bX s) v w w')∧Below w.heap.size w w'):=by
 have hn:=hW.lK
 have bQ:=hW.small
 unfold aA.small at bQ
 obtain⟨hs1,eL,lV,mW,jT,lU⟩:=bQ
 refine XK.en Tryz.func160 Tryz.ntmps160 ?_
 refine XK.seq ?_
 refine XK.region ?_
 refine aS fun g1=>?_
 refine cM rfl (by decide) ?_
 refine XK.aY ?_
 refine XK.seq ?_
 refine XK.region ?_
 refine cM rfl (by decide) ?_
 refine XK.aY ?_
 refine XK.seq ?_
 refine XK.seq ?_
 refine XK.region ?_
 refine cM rfl (by decide) ?_
 refine XK.aY ?_
 refine XK.aT [(4,iv 0),(3,sn),(1,pt g1)] ?_
 refine XK.fY 22 1 ?_
 refine XK.still [] [] [0,1] (by simp) rfl (by decide) (by decide) fun q0 _ _ yF=>?_
 refine XK.block ?_
 refine XK.loop (fun m e R H=>∃(k:Nat) (vs:List Value) (q:Piece) (Ag:Option Addr) (cg:Nat),k≤n4∧m=n4 - k∧nC w q∧Rows (nB (eN q)) 1 ((bX s).take k) (vs.map fun v=>[v])∧e=[(4,iv k),(3,.slice Ag k cg),(1,pt g1)]∧R=[q,all w]∧H=[HP.own 22 1 (.slice Ag k cg) k vs,HP.aB g1 30 [.slice A1 n1 k1,.slice A2 n2 k2,.slice A3 n3 k3,.slice A4 n4 k4]]) n4 ⟨0,[],_,none,0,by omega,rfl,yF (by simp) (by simp),trivial,rfl,rfl,rfl⟩ fun m e R H hI=>?_
 obtain⟨k,vs,q,Ag,cg,hk,rfl,nK,hrows,rfl,rfl,rfl⟩:=hI
 refine XK.seq ?_
 refine XK.seq ?_
 refine XK.region ?_
 refine aR rfl (by decide) ?_
 refine jH (off:=3) (by kernel_rfl) rfl (by decide) ?_
 refine oL rfl ?_
 refine pF (el:=38) (by kernel_rfl) rfl (by decide) ?_
 refine xN rfl rfl (by decide) ?_
 refine XK.aY ?_
 refine XK.if_ rfl (fun h=>?_) (fun h=>?_)
 ·
  refine XK.skip ?_
  refine XK.norm ?_
  refine XK.seq ?_
  refine XK.block ?_
  have hkn:k < s.aC.length:=by omega
  obtain⟨e,he⟩:∃e,s.aC[k]? =some e:=⟨_,List.getElem?_eq_getElem hkn⟩
  obtain⟨b,off,r,rfl,hrl,hR,hro⟩:=hW.dev.row he
  obtain⟨Ar,nr,kr,Af,nf,kf,rfl,aEp,hnf,Ey,oP⟩:=hR
  have uR:(bX s)[k]? =some (e.gH):=by simp[bX,he]
  refine XK.region ?_
  refine aR rfl (by decide) ?_
  refine zH (el:=3) (sz:=1) (by kernel_rfl) (by kernel_rfl) (by decide) fun g4=>?_
  refine XK.wW 0 1 0 rfl rfl (by omega) ?_
  dsimp only[List.set]
  refine jH (off:=3) (by kernel_rfl) rfl (by decide) ?_
  refine oL rfl ?_
  refine aR rfl (by decide) ?_
  refine kd (dat k (off+k*6)) ?_
  refine jH (off:=5) (by kernel_rfl) rfl (by decide) ?_
  refine fX (by kernel_rfl) rfl (Rd.jP (by simp) (hro.at_ (j:=5) rfl)) (by decide) ?_
  refine fG 0 1 8 nf (n':=nf) (el:=3) (by kernel_rfl) (by kernel_rfl) (by decide) rfl rfl rfl (nG (p:=all w) (by simp) oP) (by simp[aG,Value.oneCell']) (by omega) (by have:=lU e (List.mem_of_getElem? he);omega) (by have:=lU e (List.mem_of_getElem? he);omega) (by decide) fun A5 c5=>?_
  dsimp only[List.set,List.nil_append]
  refine dF fun g3=>?_
  refine fG 2 1 24 1 (n':=k+1) (el:=22) (by kernel_rfl) (by kernel_rfl) (by decide) rfl rfl rfl (kX 0 rfl rfl) (by simp[Value.oneCell']) rfl (by omega) (by omega) (by decide) fun A6 c6=>?_
  dsimp only[List.set]
  refine cM rfl (by decide) ?_
  refine XK.aY ?_
  refine XK.region ?_
  refine aR rfl (by decide) ?_
  refine nD rfl rfl (eR (by omega)) (by decide) ?_
  refine cM rfl (by decide) ?_
  refine XK.aY ?_
  refine XK.still [q] [1] [2,3] (by simp) rfl (by decide) (by decide) fun q' jN hle Aq=>?_
  obtain⟨Fg,Ig,Hw⟩:=jN 1 _ (by simp) rfl
  obtain⟨A7,c7,e7,yB⟩:=aE.oA (Y:=q'.Z) Ig Hw
  injection e7 with f1 f2 f3
  subst f1
  exact XK.rd (n4 - (k+1)) ⟨k+1,vs++[_],q',A6,c6,by omega,rfl,Aq (by simp) (by simpa using nK),Eg hrows (hle q (by simp)) uR ⟨A5,nf,c5,rfl,hnf,yB⟩,rfl,rfl,rfl⟩
 ·
  refine XK.exit ?_
  refine XK.norm ?_
  refine XK.seq ?_
  obtain rfl:k=n4:=by omega
  rw[List.take_of_length_le (by simp[bX];omega)] at hrows
  refine XK.region ?_
  refine aR rfl (by decide) ?_
  refine cM rfl (by decide) ?_
  refine XK.aY ?_
  refine XK.ret ?_
  refine XK.norm ?_
  refine XK.still [q] [0] [] (by simp) rfl (by decide) (by decide) fun q2 hq hle hfr=>?_
  have iG:k=(bX s).length:=by simp[bX];omega
  exact XK.rX (h:=fun w1 st=>⟨_,rfl,Ag,cg,by rw[←iG],by rw[←iG];exact(iA.aA9 hrows (hle q (by simp)) (hq 0 _ (by simp) rfl) iG).le (st.jD (by simp) (hfr (by simp) (by simpa using nK)))⟩)
theorem aI5(s:aA)(A1 A2 A3 A4:Option Addr)(n1 k1 n2 k2 n3 k3 n4 k4:Nat)(w:World)(hW:eI w s A1 n1 A2 n2 A3 n3 A4 n4)(hm:s.made):Calls Tryz.prog 159 #[.agg #[.slice A1 n1 k1,.slice A2 n2 k2,.slice A3 n3 k3,.slice A4 n4 k4]] w (Rt (iv 0) w):=by
 have lX:=hW.kL
 have hn2:=hW.kY
 have lW:=hW.mL
 have nJ:=hW.lK
 have hnc:=hm.nc
 have hnd:=hm.nd
 have fU:=hm.nr
 have lD:=hm.nv
 have bQ:=hW.small
 unfold aA.small at bQ
 obtain⟨hs1,eL,lV,mW,jT,lU⟩:=bQ
 refine XK.en Tryz.func159 Tryz.ntmps159 ?_
 refine XK.gw ?_
 refine aS fun g1=>?_
 refine XK.gw ?_
 refine XK.lq (fun i=>[(3,iv i),(1,pt g1)]) n4 fun i hi=>?_
 refine XK.gw ?_
 refine XK.if_ rfl (fun h=>?_) (fun h=>?_)
 ·obtain⟨d,hd⟩:∃d,s.aC[i]? =some d:=⟨_,List.getElem?_eq_getElem (by omega)⟩
  obtain⟨b,off,r,rfl,hrl,hR,hro⟩:=hW.dev.row hd
  obtain⟨Ar,nr,kr,An,nn,kn,rfl,aEp,aKS,Ey,hsn⟩:=hR
  obtain⟨cF,Mo,kO,hd4,hd5,wK,hd7,hd8,hd9,aPg,aLu,aLt⟩:=hm.aC i d hd
  refine XK.gw ?_
  refine bB fun g2=>?_
  refine XK.gw ?_
  refine aJ (fun w1 _=>Pr (v:=d.clock) (n:=(n1:Nat)) (by omega) w1) ?_
  refine XK.gw ?_
  refine aJ (fun w1 _=>Pr (v:=d.domain) (n:=(n2:Nat)) (by omega) w1) ?_
  refine XK.gw ?_
  refine aJ (fun w1 _=>Pr (v:=d.reset) (n:=(n3:Nat)) (by omega) w1) ?_
  refine XK.gw ?_
  refine XK.lq (fun k=>[(5,iv k),(4,pt g2),(3,iv i),(1,pt g1)]) nn fun k hk=>?_
  refine XK.gw ?_
  refine XK.if_ rfl (fun h2=>?_) (fun h2=>?_)
  ·obtain⟨y,hy⟩:∃y,d.gH[k]? =some y:=⟨_,List.getElem?_eq_getElem (by omega)⟩
   have Wq:=aLt y (List.mem_of_getElem? hy)
   obtain⟨bI,oI,rfl,Is⟩:=aE.aAU hsn (by omega)
   have Fj:=Is k y hy
   refine XK.gw ?_
   refine XK.dz ?_
   refine XB.nx 8 ?_
   refine aJ (fun w1 _=>Pr (v:=y) (n:=(n4:Nat)) (by omega) w1) ?_
   refine XB.bk ?_
   refine XB.lo 9 ?_
   refine XB.fin ?_
   refine XK.gw ?_
   exact XK.ag ()
  ·refine XK.gw ?_
   exact XK.ag ()
 ·refine XK.gw ?_
  refine gO [] (sM (bX s)) (fun w1 st=>aAt s A1 A2 A3 A4 n1 k1 n2 k2 n3 k3 n4 k4 w1 (hW.le (st.started (by simp)))) ?_
  rintro _ w1 q1 ⟨Ag,cg,rfl,iU⟩ hf hle hfr
  have iU:=iU.le hf
  refine XK.gw ?_
  refine aJ (fun w1 st=>aAu Ag _ cg (bX s) w1 (iU.le (st.le (by simp))) rfl (by simp[bX];omega) (fun l hl=>by
   simp only[bX,List.mem_map] at hl
   obtain⟨z,hz,rfl⟩:=hl
   have:=lU z hz;omega) (aDQ hm)) ?_
  refine XK.gw ?_
  exact XK.rE
theorem Pt(s:aA)(A1 A2 A3 A4:Option Addr)(n1 k1 n2 k2 n3 k3 n4 k4:Nat)(w:World)(hW:eI w s A1 n1 A2 n2 A3 n3 A4 n4)(hm:s.made):Calls Tryz.prog 84 #[.agg #[.slice A1 n1 k1,.slice A2 n2 k2,.slice A3 n3 k3,.slice A4 n4 k4]] w (Rt (iv 0) w):=by
 have lX:=hW.kL
 have hn2:=hW.kY
 have lW:=hW.mL
 have nJ:=hW.lK
 have hnc:=hm.nc
 have hnd:=hm.nd
 have fU:=hm.nr
 have lD:=hm.nv
 refine XK.en Tryz.func84 Tryz.ntmps84 ?_
 refine XK.seq ?_
 refine XK.region ?_
 refine aS fun g1=>?_
 refine cM rfl (by decide) ?_
 refine XK.aY ?_
 refine XK.seq ?_
 refine XK.seq ?_
 refine XK.region ?_
 refine sN 4 rfl ?_
 refine cG (fun w1 st=>aI6 s A1 A2 A3 A4 n1 k1 n2 k2 n3 k3 n4 k4 w1 (hW.le (st.started (by simp))) hm) ?_
 (first | refine Dv rfl (by decide) ?_ | refine tR rfl (by decide) ?_)
 refine XK.aY ?_
 refine XK.if_ rfl (fun h=>by first | exact absurd rfl h | cases h | (exfalso;omega)) (fun h=>?_)
 ·
  refine XK.skip ?_
  refine XK.norm ?_
  refine XK.seq ?_
  refine XK.region ?_
  refine sN 4 rfl ?_
  refine cG (fun w1 st=>aI8 s A1 A2 A3 A4 n1 k1 n2 k2 n3 k3 n4 k4 w1 (hW.le (st.started (by simp))) hm) ?_
  refine cM rfl (by decide) ?_
  refine XK.aY ?_
  refine XK.seq ?_
  refine XK.seq ?_
  refine XK.region ?_
  refine aR rfl (by decide) ?_
  refine Kj rfl rfl (by decide) ?_
  refine XK.aY ?_
  refine XK.if_ rfl (fun h=>by first | exact absurd rfl h | cases h | (exfalso;omega)) (fun h=>?_)
  ·
   refine XK.skip ?_
   refine XK.norm ?_
   refine XK.seq ?_
   refine XK.region ?_
   refine sN 4 rfl ?_
   refine cG (fun w1 st=>aI4 s A1 A2 A3 A4 n1 k1 n2 k2 n3 k3 n4 k4 w1 (hW.le (st.started (by simp))) hm) ?_
   refine cM rfl (by decide) ?_
   refine XK.aY ?_
   refine XK.seq ?_
   refine XK.seq ?_
   refine XK.region ?_
   refine aR rfl (by decide) ?_
   refine Kj rfl rfl (by decide) ?_
   refine XK.aY ?_
   refine XK.if_ rfl (fun h=>by first | exact absurd rfl h | cases h | (exfalso;omega)) (fun h=>?_)
   ·
    refine XK.skip ?_
    refine XK.norm ?_
    refine XK.seq ?_
    refine XK.seq ?_
    refine XK.region ?_
    refine cM rfl (by decide) ?_
    refine XK.aY ?_
    refine XK.aT [(4,iv 0),(1,pt g1)] ?_
    refine XK.block ?_
    refine XK.loop (fun m e R H=>∃(i:Nat),i≤n3∧m=n3 - i∧e=[(4,iv i),(1,pt g1)]∧R=[all w]∧H=[HP.aB g1 30 [.slice A1 n1 k1,.slice A2 n2 k2,.slice A3 n3 k3,.slice A4 n4 k4]]) n3 ⟨0,by omega,rfl,rfl,rfl,rfl⟩ fun m e R H hI=>?_
    obtain⟨i,hi,rfl,rfl,rfl,rfl⟩:=hI
    refine XK.seq ?_
    refine XK.seq ?_
    refine XK.region ?_
    refine aR rfl (by decide) ?_
    refine jH (off:=2) (by kernel_rfl) rfl (by decide) ?_
    refine oL rfl ?_
    refine pF (el:=88) (by kernel_rfl) rfl (by decide) ?_
    refine xN rfl rfl (by decide) ?_
    refine XK.aY ?_
    refine XK.if_ rfl (fun hil=>?_) (fun hil=>?_)
    ·
     refine XK.skip ?_
     refine XK.norm ?_
     refine XK.seq ?_
     refine XK.block ?_
     refine XK.seq ?_
     refine XK.region ?_
     refine jH (off:=2) (by kernel_rfl) rfl (by decide) ?_
     refine oL rfl ?_
     refine aR rfl (by decide) ?_
     have Xl:i < n3:=by have h':(i:Int) < (n3:Int):=hil;omega
     obtain⟨r0,Ab⟩:∃r0,s.aL[i]? =some r0:=⟨_,List.getElem?_eq_getElem (by omega)⟩
     obtain⟨b,off,r,rfl,hrl,rfl,hro⟩:=hW.xS.row Ab
     have hrb:=hm.aL r0 (List.mem_of_getElem? Ab)
     refine kd (dat (i) (off+i*1)) ?_
     refine jH (off:=0) (by kernel_rfl) rfl (by decide) ?_
     refine fX (by kernel_rfl) rfl (Rd.jP (by simp) (hro.at_ (j:=0) rfl)) (by decide) ?_
     refine cG (fun w1 st=>aAs _ _ _ w1) ?_
     (first | refine Dv rfl (by decide) ?_ | refine tR rfl (by decide) ?_)
     refine XK.aY ?_
     refine XK.if_ rfl (fun h=>by first | exact absurd rfl h | cases h | (exfalso;omega)) (fun h=>?_)
     ·
      refine XK.skip ?_
      refine XK.norm ?_
      refine XK.region ?_
      refine aR rfl (by decide) ?_
      refine nD rfl rfl (eR (by omega)) (by decide) ?_
      refine cM rfl (by decide) ?_
      refine XK.aY ?_
      exact XK.rd (n3 - (i+1)) ⟨i+1,by omega,rfl,rfl,rfl,rfl⟩
    ·
     refine XK.exit ?_
     refine XK.norm ?_
     refine XK.seq ?_
     refine XK.region ?_
     refine sN 4 rfl ?_
     refine cG (fun w1 st=>aI5 s A1 A2 A3 A4 n1 k1 n2 k2 n3 k3 n4 k4 w1 (hW.le (st.started (by simp))) hm) ?_
     refine cM rfl (by decide) ?_
     refine XK.aY ?_
     refine XK.ret ?_
     refine XK.norm ?_
     exact XK.rX (h:=fun _ _=>rfl)
end
section
set_option maxHeartbeats 4000000
set_option maxRecDepth 20000
def sJ(v:Value):Prop:=∃(p:Option Addr) (e:Int),v=.tuple #[.pointer p,iv e]
theorem gM.aAq{α:Type}{w:World}{R:α→List Value→Prop}{t:TypeId}{sz n k:Nat}{A:Option Addr}{es:List α}{e:α}(h:gM (eN (all w)) R t sz A n es)(hk:es[k]? =some e):∃b off r,A=some ⟨b,off,none⟩∧R e r∧cZ w b (off+k*sz) r:=by
 obtain⟨b,off,r,h1,h2,_,h3,h4⟩:=h.aDh hk
 exact⟨b,off,r,h1,h3,h2,fun j v hv=>h4 j v hv⟩
theorem aN7{s:aA}(hm:s.made){i:Nat}{c:dV}(hc:s.aD[i]? =some c):c.src.length≤2:=by
 rcases(hm.aD i c hc).2 with h | h | h | h | h
 ·rw[h.2.1];simp
 all_goals(have:=h.2.1;omega)
theorem aK7(l:List Int):∀v∈aG l,v.oneCell'=true:=fun v hv=>by
 simp[aG] at hv
 obtain⟨_,_,rfl⟩:=hv
 rfl
section
variable(s:aA)(A1 A2 A3 A4:Option Addr)(n1 k1 n2 k2 n3 k3 n4 k4:Nat)(w:World)(hW:eI w s A1 n1 A2 n2 A3 n3 A4 n4)(hm:s.made)
include hW hm
theorem aIC:Calls Tryz.prog 80 #[.agg #[.slice A1 n1 k1,.slice A2 n2 k2,.slice A3 n3 k3,.slice A4 n4 k4]] w (fun y w'=>(∃v,y=.returned v∧sJ v)∧Below w.heap.size w w'):=by
 have fU:=hm.nr
 obtain⟨rr,bM,lW,hst⟩:=hW.xS
 have bM:=aAm bM
 subst bM;subst lW
 refine XK.en Tryz.func80 Tryz.ntmps80 ?_
 refine XK.gw ?_
 refine aS fun g1=>?_
 refine XK.gw ?_
 refine aJ (fun w1 t=>Pt s A1 A2 A3 A4 n1 k1 n2 k2 _ k3 n4 k4 w1 (hW.le (t.started (by simp))) hm) ?_
 refine XK.gw ?_
 refine aS fun g2=>?_
 refine XK.gw ?_
 refine XK.fY 3 1 ?_
 refine XK.fY 320 3 ?_
 refine XK.lp (α:=((Option Addr×Nat)×List Value)×(Option Addr×Nat)×List Value) (fun i _=>[(6,iv i),(5,pt g2),(1,pt g1)]) (fun i x=>[HP.own 320 3 (.slice x.1.1.1 i x.1.1.2) i x.1.2,HP.own 3 1 (.slice x.2.1.1 i x.2.1.2) i x.2.2,HP.aB g2 318 [.slice x.2.1.1 i x.2.1.2,.slice x.1.1.1 i x.1.1.2],HP.aB g1 30 [.slice A1 n1 k1,.slice A2 n2 k2,.slice A3 s.aL.length k3,.slice A4 n4 k4]]) (fun _ _=>True) s.aL.length (((none,0),[]),(none,0),[]) trivial fun i x hi _=>?_
 obtain⟨⟨⟨L1,L2⟩,L3⟩,⟨⟨M1,M2⟩,M3⟩⟩:=x
 dsimp only
 refine XK.gw ?_
 refine XK.if_ rfl (fun hlt=>?_) (fun hge=>?_)
 ·have hlt:i < s.aL.length:=by omega
  obtain⟨c,hc⟩:=get_some hlt
  obtain⟨b,off,rfl,hro⟩:=aE.row hst (fun r hr=>by obtain⟨q,_,rfl⟩:=List.mem_map.1 hr;rfl) (r:=[iv c]) (by rw[List.getElem?_map,hc];rfl) hlt
  have k0:=hro.at_ (j:=0) rfl
  simp only[Nat.mul_one] at k0
  refine XK.gw ?_
  refine XK.dr ?_
  refine XB.nx 11 ?_
  refine dF fun g3=>?_
  refine XB.bk ?_
  refine XB.tl [12,13,14,15] ?_
  refine XK.gw ?_
  refine oO 2 fun A' k'=>?_
  dsimp only[List.set]
  refine XK.gw ?_
  refine dF fun g4=>?_
  refine XK.gw ?_
  refine oO 2 fun A'' k''=>?_
  dsimp only[List.set]
  refine XK.gw ?_
  exact XK.ag (((_,_),_),(_,_),_)
 ·refine XK.gw ?_
  exact XK.dG rfl rfl rfl fun w1 t=>⟨⟨_,rfl,⟨_,_,rfl⟩⟩,t.below (by simp)⟩
theorem aID:Calls Tryz.prog 79 #[.agg #[.slice A1 n1 k1,.slice A2 n2 k2,.slice A3 n3 k3,.slice A4 n4 k4]] w (fun y w'=>(∃v,y=.returned v∧sJ v)∧Below w.heap.size w w'):=by
 have hnd:=hm.nd
 obtain⟨rr,bM,hn2,hst⟩:=hW.dom
 have bM:=aBD bM
 subst bM;subst hn2
 refine XK.en Tryz.func79 Tryz.ntmps79 ?_
 refine XK.gw ?_
 refine aS fun g1=>?_
 refine XK.gw ?_
 refine aJ (fun w1 t=>Pt s A1 A2 A3 A4 _ k1 _ k2 _ k3 n4 k4 w1 (hW.le (t.started (by simp))) hm) ?_
 refine XK.gw ?_
 refine zH (el:=50) (sz:=3) (by kernel_rfl) (by kernel_rfl) (by decide) fun g=>?_
 refine XK.wW 0 3 0 rfl rfl (by omega) ?_
 dsimp only[List.set]
 refine XK.gw ?_
 refine fG 0 3 24 s.domains.length (n':=s.domains.length) (el:=50) (by kernel_rfl) (by kernel_rfl) (by decide) rfl rfl rfl (nG (by simp) hst) (fun v hv=>by
  simp only[List.mem_flatten,List.mem_map] at hv
  obtain⟨_,⟨d,_,rfl⟩,hv⟩:=hv
  simp only[List.mem_cons,List.not_mem_nil,or_false] at hv
  rcases hv with rfl | rfl | rfl<;>rfl) (by omega) (by omega) (by omega) (by decide) fun A k=>?_
 dsimp only[List.set,List.nil_append]
 refine XK.gw ?_
 refine aS fun g2=>?_
 refine XK.gw ?_
 refine XK.fY 315 3 ?_
 refine XK.lp (α:=(Option Addr×Nat)×List Value) (fun i _=>[(6,iv i),(5,pt g2)]) (fun i x=>[HP.own 315 3 (.slice x.1.1 i x.1.2) i x.2,HP.aB g2 313 [.slice A s.domains.length k,.slice x.1.1 i x.1.2]]) (fun _ _=>True) s.domains.length ((none,0),[]) trivial fun i x hi _=>?_
 obtain⟨⟨L1,L2⟩,L3⟩:=x
 dsimp only
 refine XK.gw ?_
 refine XK.if_ rfl (fun hlt=>?_) (fun hge=>?_)
 ·have hlt:i < s.domains.length:=by omega
  refine XK.gw ?_
  refine dF fun g4=>?_
  refine XK.gw ?_
  refine oO 1 fun A'' k''=>?_
  dsimp only[List.set]
  refine XK.gw ?_
  exact XK.ag ((_,_),_)
 ·refine XK.gw ?_
  exact XK.dG rfl rfl rfl fun w1 t=>⟨⟨_,rfl,⟨_,_,rfl⟩⟩,t.below (by simp)⟩
theorem aIE:Calls Tryz.prog 78 #[.agg #[.slice A1 n1 k1,.slice A2 n2 k2,.slice A3 n3 k3,.slice A4 n4 k4]] w (fun y w'=>(∃v,y=.returned v∧sJ v)∧Below w.heap.size w w'):=by
 have hnc:=hm.nc
 obtain rfl:=hW.kL
 refine XK.en Tryz.func78 Tryz.ntmps78 ?_
 refine XK.gw ?_
 refine aS fun g1=>?_
 refine XK.gw ?_
 refine aJ (fun w1 t=>Pt s A1 A2 A3 A4 _ k1 _ k2 _ k3 n4 k4 w1 (hW.le (t.started (by simp))) hm) ?_
 refine XK.gw ?_
 refine aS fun g2=>?_
 refine XK.gw ?_
 refine XK.fY 86 6 ?_
 refine XK.fY 310 5 ?_
 refine XK.lp (α:=((Option Addr×Nat)×List Value)×(Option Addr×Nat)×List Value) (fun i _=>[(6,iv i),(5,pt g2),(1,pt g1)]) (fun i x=>[HP.own 310 5 (.slice x.1.1.1 i x.1.1.2) i x.1.2,HP.own 86 6 (.slice x.2.1.1 i x.2.1.2) i x.2.2,HP.aB g2 308 [.slice x.2.1.1 i x.2.1.2,.slice x.1.1.1 i x.1.1.2],HP.aB g1 30 [.slice A1 s.aD.length k1,.slice A2 n2 k2,.slice A3 n3 k3,.slice A4 n4 k4]]) (fun _ _=>True) s.aD.length (((none,0),[]),(none,0),[]) trivial fun i x hi _=>?_
 obtain⟨⟨⟨L1,L2⟩,L3⟩,⟨⟨M1,M2⟩,M3⟩⟩:=x
 dsimp only
 refine XK.gw ?_
 refine XK.if_ rfl (fun hlt=>?_) (fun hge=>?_)
 ·have hlt:i < s.aD.length:=by omega
  obtain⟨c,hc⟩:=get_some hlt
  obtain⟨b,off,_,rfl,⟨AF,_,kF,rfl,rfl,hF⟩,hro⟩:=hW.qP.aAq hc
  have eL:=aN7 hm hc
  refine XK.gw ?_
  refine bB fun g3=>?_
  refine XK.gw ?_
  refine zH (el:=3) (sz:=1) (by kernel_rfl) (by kernel_rfl) (by decide) fun g=>?_
  refine XK.wW 0 1 0 rfl rfl (by omega) ?_
  dsimp only[List.set]
  refine XK.gw ?_
  refine fG 0 1 8 c.src.length (n':=c.src.length) (el:=3) (by kernel_rfl) (by kernel_rfl) (by decide) rfl rfl rfl (nG (by simp) hF) (aK7 _) (by omega) (by omega) (by omega) (by decide) fun A k=>?_
  dsimp only[List.set,List.nil_append]
  refine XK.gw ?_
  refine XK.dr ?_
  refine XB.nx 6 ?_
  refine dF fun g4=>?_
  refine XB.bk ?_
  refine XB.tl [7,8,9,10] ?_
  refine XK.gw ?_
  refine oO 4 fun A' k'=>?_
  dsimp only[List.set]
  refine XK.gw ?_
  refine bB fun g5=>?_
  refine XK.gw ?_
  refine XK.cu (α:=Int) (fun _=>[(8,pt g5),(6,iv i),(5,pt g2),(1,pt g1)]) (fun v=>[HP.aB g5 310 [.bool false,iv v,iv 0,iv 0,iv c.div],HP.own 310 5 (.slice L1 i L2) i L3,HP.own 86 6 (.slice A' (i+1) k') (i+1) (M3++[.int .u8 c.kind,.slice A c.src.length k,.int .u64 c.rate,iv c.mul,iv c.div,iv c.lock]),HP.aB g2 308 [.slice A' (i+1) k',.slice L1 i L2],HP.aB g1 30 [.slice (some ⟨b,off,none⟩) s.aD.length k1,.slice A2 n2 k2,.slice A3 n3 k3,.slice A4 n4 k4]]) (fun _=>True) ?_ fun v _=>?_
  ·refine XK.gw ?_
   refine XK.if_ rfl (fun _=>?_) (fun _=>?_)
   ·refine XK.gw ?_
    exact XK.mt _
   ·refine XK.gw ?_
    exact XK.mt _
  refine XK.gw ?_
  refine XK.dr ?_
  refine XB.nx 6 ?_
  refine dF fun g6=>?_
  refine XB.bk ?_
  refine XB.tl [7,8,9,10] ?_
  refine XK.gw ?_
  refine oO 2 fun A'' k''=>?_
  dsimp only[List.set]
  refine XK.gw ?_
  exact XK.ag (((_,_),_),(_,_),_)
 ·refine XK.gw ?_
  exact XK.dG rfl rfl rfl fun w1 t=>⟨⟨_,rfl,⟨_,_,rfl⟩⟩,t.below (by simp)⟩
end
end
section
set_option maxHeartbeats 4000000
set_option maxRecDepth 20000
section
variable{N:bO}{w0 w:World}{e:Env}{R:List Piece}{H:List HP}{Q:Exit→Act→World→Prop}{ops:Array Oper}{rest:List Oper}{pos:String}{ty:TypeId}{aF:Array Edge}{p:HP}
theorem aK2(i:Nat){x y:Operand}{s t:TypeId}{g o:Nat}{cs vs:List Value}(hi:H[i]? =some (HP.aB g t cs))(k:XK N w0 (wpList Tryz.prog ops Q rest) e R (H.set i (HP.aB g t (eE cs o vs))))(hx:e.ev x=some (.pointer (some ⟨g,o,none⟩)):=by rfl)(hy:e.ev y=some (.agg vs.toArray):=by rfl)(hs:(Tryz.prog.info? s).any (·.size==vs.length)=true:=by kernel_rfl)(h1:vs.all Value.oneCell'=true:=by rfl)(hl:decide (o+vs.length≤cs.length)=true:=by rfl):
  XK N w0 (wpList Tryz.prog ops Q (⟨none,.store s x y,ty,pos,aF,none⟩::rest)) e R H:=
 jV i hi hx hy hs (fun u hu=>List.all_eq_true.1 h1 u (by simpa[Value.cells] using hu)) (by simpa[Value.cells] using of_decide_eq_true hl) (by simpa[Value.cells] using k)
end
section
variable(s:aA)(A1 A2 A3 A4:Option Addr)(n1 k1 n2 k2 n3 k3 n4 k4:Nat)(w:World)(hm:s.made)
include hm
theorem aIJ:Calls Tryz.prog 85 #[.agg #[.slice A1 s.aD.length k1,.slice A2 s.domains.length k2,.slice A3 s.aL.length k3,.slice A4 n4 k4]] w (fun y w'=>(∃v,y=.returned v∧∃v1 v2 v3 v4 v5 v6:Value,v=.agg #[v1,v2,v3,v4,v5,v6])∧Below w.heap.size w w'):=by
 have hnc:=hm.nc
 have hnd:=hm.nd
 have fU:=hm.nr
 refine XK.en Tryz.func85 Tryz.ntmps85 ?_
 refine XK.gw ?_
 refine aS fun g1=>?_
 refine bB fun g2=>?_
 refine XK.gw ?_
 refine bB fun g3=>?_
 refine XK.gw ?_
 refine XK.lp (α:=(Value×Value×Value)×Value×Value×Value) (fun i _=>[(4,iv i),(3,pt g3),(2,pt g2),(1,pt g1)]) (fun i x=>[HP.aB g3 201 [x.1.1,x.1.2.1,x.1.2.2,x.2.1,x.2.2.1,x.2.2.2],HP.aB g2 201 [sn,sn,sn,sn,sn,sn],HP.aB g1 30 [.slice A1 s.aD.length k1,.slice A2 s.domains.length k2,.slice A3 s.aL.length k3,.slice A4 n4 k4]]) (fun _ x=>∀v∈[x.1.1,x.1.2.1,x.1.2.2,x.2.1,x.2.2.1,x.2.2.2],v.oneCell'=true) 2 ((sn,sn,sn),sn,sn,sn) (by simp[Value.oneCell']) fun i x hi hx=>?_
 obtain⟨⟨a1,a2,a3⟩,a4,a5,a6⟩:=x
 dsimp only at hx⊢
 refine XK.gw ?_
 refine XK.if_ rfl (fun hlt=>?_) (fun hge=>?_)
 ·obtain rfl | rfl:i=0∨i=1:=by omega
  all_goals
   refine XK.gw ?_
   refine XK.draw 15 (by kernel_rfl) (by kernel_rfl) ?_
   refine XA.q 0 ?_
   refine XA.q 1 ?_
   refine XA.q 2 ?_
   refine XA.q 3 ?_
   refine XA.q 5 ?_
   refine XA.q 6 ?_
   refine XA.q 7 ?_
   refine XA.q 9 ?_
   refine XA.q 10 ?_
   refine XA.q 11 ?_
   refine XA.q 14 ?_
   refine XA.Yx (fuel:=3) [4,8,12] [[4,8,12]] (fun i=>match i with | 4=>⟨13,4,List.replicate s.domains.length (.bool false),fun g=>.slice (some ⟨g,0,none⟩) s.domains.length s.domains.length⟩ | 8=>⟨17,4,List.replicate s.aD.length (.bool false),fun g=>.slice (some ⟨g,0,none⟩) s.aD.length s.aD.length⟩ | _=>⟨21,4,List.replicate s.aL.length (.bool false),fun g=>.slice (some ⟨g,0,none⟩) s.aL.length s.aL.length⟩) (fun i hi=>?_) (by show[13,17,21].Nodup;decide) (by kernel_rfl) (fun _ h=>h) (fun sub hsub hex g=>?_)
   ·simp only[List.mem_cons,List.not_mem_nil,or_false] at hi
    rcases hi with rfl | rfl | rfl
    ·exact pW.of rfl rfl rfl (wC 1 (el:=4) (z:=.bool false) (by kernel_rfl) (by kernel_rfl) rfl rfl rfl (by omega) (by omega)) (Nat.le_of_ble_eq_true rfl) rfl
    ·exact pW.of rfl rfl rfl (wC 1 (el:=4) (z:=.bool false) (by kernel_rfl) (by kernel_rfl) rfl rfl rfl (by omega) (by omega)) (Nat.le_of_ble_eq_true rfl) rfl
    ·exact pW.of rfl rfl rfl (wC 1 (el:=4) (z:=.bool false) (by kernel_rfl) (by kernel_rfl) rfl rfl rfl (by omega) (by omega)) (Nat.le_of_ble_eq_true rfl) rfl
   have eL:sub=[4,8,12]:=by simpa using hex
   subst eL
   dsimp only[nO,pK,iN,List.map,List.foldr,List.cons_append,List.nil_append,List.length_cons,List.length_nil,Nat.reduceAdd,Nat.reduceSub]
   refine XA.q 13 ?_ (hi:=rfl) (cY:=eM rfl) (hsub:=fun _ h=>h.tail.tail.tail)
   refine XA.next 15 rfl (by kernel_rfl) ?_
   refine kz ?_
   refine XA.bt ?_
   refine XA.next 16 rfl (by kernel_rfl) ?_
   refine aK2 3 rfl ?_
   simp only[eE,List.set,Nat.reduceAdd,Nat.zero_add,List.take,List.drop,List.cons_append,List.nil_append,List.length_cons,List.length_nil]
   refine XA.bt ?_
   refine XA.done (by kernel_rfl) ?_
   refine XK.gw ?_
   exact XK.ag ((_,_,_),_,_,_) (hg:=by simp[Value.oneCell'] at hx⊢;simp[hx])
 ·refine XK.gw ?_
  refine lM 1 rfl ?_ (h1:=List.all_eq_true.2 hx)
  dsimp only[List.set]
  refine XK.gw ?_
  exact XK.By (vs:=[a1,a2,a3,a4,a5,a6]) rfl (by kernel_rfl) rfl rfl (aH.whole 1 rfl) fun w1 t=>⟨⟨_,rfl,_,_,_,_,_,_,rfl⟩,t.below (by simp)⟩
end
end
section
set_option maxHeartbeats 4000000
set_option maxRecDepth 20000
section
variable(s:aA)(A1 A2 A3 A4:Option Addr)(n1 k1 n2 k2 n3 k3 n4 k4:Nat)(w:World)(hW:eI w s A1 n1 A2 n2 A3 n3 A4 n4)(hm:s.made)
include hW hm
theorem aIG:Calls Tryz.prog 87 #[.agg #[.slice A1 n1 k1,.slice A2 n2 k2,.slice A3 n3 k3,.slice A4 n4 k4],sn] w (fun y w'=>(∃v,y=.returned v∧∃v1 v2 v3:Value,v=.agg #[v1,v2,v3])∧Below w.heap.size w w'):=by
 obtain rfl:=hW.kL
 obtain rfl:=hW.kY
 obtain rfl:=hW.mL
 obtain rfl:=hW.lK
 have hnc:=hm.nc
 have hnd:=hm.nd
 have fU:=hm.nr
 have lD:=hm.nv
 refine XK.en Tryz.func87 Tryz.ntmps87 ?_
 refine XK.gw ?_
 refine aS fun g1=>?_
 refine bB fun g2=>?_
 refine XK.gw ?_
 refine XK.cu (α:=Nat×Nat×Nat×Nat) (fun x=>[(5,.pointer (some ⟨x.2.2.2,0,none⟩)),(4,pt g2),(2,pt g1),(1,sn)]) (fun x=>[HP.aB x.2.2.2 198 [.slice (some ⟨x.1,0,none⟩) s.domains.length s.domains.length,.slice (some ⟨x.2.1,0,none⟩) s.aD.length s.aD.length,.slice (some ⟨x.2.2.1,0,none⟩) s.aL.length s.aL.length],HP.aB g2 198 [sn,sn,sn],HP.aB g1 30 [.slice A1 s.aD.length k1,.slice A2 s.domains.length k2,.slice A3 s.aL.length k3,.slice A4 s.aC.length k4]]) (fun _=>True) ?_ fun x _=>?_
 ·refine XK.draw 14 (by kernel_rfl) (by kernel_rfl) ?_
  refine XA.q 0 ?_
  refine XA.q 1 ?_
  refine XA.q 2 ?_
  refine XA.q 4 ?_
  refine XA.q 5 ?_
  refine XA.q 6 ?_
  refine XA.q 8 ?_
  refine XA.q 9 ?_
  refine XA.q 10 ?_
  refine XA.Yx (fuel:=2) [3,7,11,13] [[3,7,11],[3,7,11,13]] (fun i=>match i with | 3=>⟨14,4,List.replicate s.domains.length (.bool false),fun g=>.slice (some ⟨g,0,none⟩) s.domains.length s.domains.length⟩ | 7=>⟨18,4,List.replicate s.aD.length (.bool false),fun g=>.slice (some ⟨g,0,none⟩) s.aD.length s.aD.length⟩ | 11=>⟨22,4,List.replicate s.aL.length (.bool false),fun g=>.slice (some ⟨g,0,none⟩) s.aL.length s.aL.length⟩ | _=>⟨5,198,[sn,sn,sn],fun g=>pt g⟩) (fun i hi=>?_) (by show[14,18,22,5].Nodup;decide) (by kernel_rfl) (fun _ h=>h) (fun sub hsub hex g=>?_)
  ·simp only[List.mem_cons,List.not_mem_nil,or_false] at hi
   rcases hi with rfl | rfl | rfl | rfl
   ·exact pW.of rfl rfl rfl (wC 1 (el:=4) (z:=.bool false) (by kernel_rfl) (by kernel_rfl) rfl rfl rfl (by omega) (by omega)) (Nat.le_of_ble_eq_true rfl) rfl
   ·exact pW.of rfl rfl rfl (wC 1 (el:=4) (z:=.bool false) (by kernel_rfl) (by kernel_rfl) rfl rfl rfl (by omega) (by omega)) (Nat.le_of_ble_eq_true rfl) rfl
   ·exact pW.of rfl rfl rfl (wC 1 (el:=4) (z:=.bool false) (by kernel_rfl) (by kernel_rfl) rfl rfl rfl (by omega) (by omega)) (Nat.le_of_ble_eq_true rfl) rfl
   ·exact pW.of rfl rfl rfl (aDP (dN (by kernel_rfl))) (Nat.le_of_ble_eq_true rfl) rfl
  have eL:sub=[3,7,11]∨sub=[3,7,11,13]:=by simpa using hex
  rcases eL with rfl | rfl
  ·dsimp only[nO,pK,iN,List.map,List.foldr,List.cons_append,List.nil_append,List.length_cons,List.length_nil,Nat.reduceAdd,Nat.reduceSub]
   refine XA.q 12 ?_ (hi:=rfl) (cY:=eM rfl) (hsub:=fun _ h=>h.tail.tail.tail)
   refine XA.next 13 rfl (by kernel_rfl) ?_
   refine bB fun g6=>?_
   refine XK.nil ?_;refine XK.dD ?_;refine XA.back (fun _ h=>h.tail.tail.tail.tail) ?_
   refine XA.next 14 rfl (by kernel_rfl) ?_
   refine lM 0 rfl ?_
   dsimp only[List.set]
   refine XA.bt ?_
   refine XA.done (by kernel_rfl) ?_
   refine XK.gw ?_
   exact XK.mt (_,_,_,_)
  ·dsimp only[nO,pK,iN,List.map,List.foldr,List.cons_append,List.nil_append,List.length_cons,List.length_nil,Nat.reduceAdd,Nat.reduceSub]
   refine XA.q 12 ?_ (hi:=rfl) (cY:=eM rfl) (hsub:=fun _ h=>h.tail.tail.tail.tail)
   refine XA.next 14 rfl (by kernel_rfl) ?_
   refine lM 3 rfl ?_
   dsimp only[List.set]
   refine XA.bt ?_
   refine XA.done (by kernel_rfl) ?_
   refine XK.gw ?_
   exact XK.mt (_,_,_,_)
 obtain⟨ga,gb,gc,gw⟩:=x
 dsimp only
 refine XK.gw ?_
 refine XK.lp (α:=Unit) (fun i _=>[(6,iv i),(5,pt gw),(4,pt g2),(2,pt g1),(1,sn)]) (fun _ _=>[HP.aB gw 198 [.slice (some ⟨ga,0,none⟩) s.domains.length s.domains.length,.slice (some ⟨gb,0,none⟩) s.aD.length s.aD.length,.slice (some ⟨gc,0,none⟩) s.aL.length s.aL.length],HP.aB g2 198 [sn,sn,sn],HP.aB g1 30 [.slice A1 s.aD.length k1,.slice A2 s.domains.length k2,.slice A3 s.aL.length k3,.slice A4 s.aC.length k4]]) (fun _ _=>True) 0 () trivial fun i _ hi _=>?_
 obtain rfl:i=0:=by omega
 refine XK.gw ?_
 refine aW (t:=29) rfl (fun hg=>?_) (fun hg=>?_)
 all_goals
  refine XK.gw ?_
  exact XK.By (vs:=[.slice (some ⟨ga,0,none⟩) s.domains.length s.domains.length,.slice (some ⟨gb,0,none⟩) s.aD.length s.aD.length,.slice (some ⟨gc,0,none⟩) s.aL.length s.aL.length]) rfl (by kernel_rfl) rfl rfl (aH.whole 1 rfl) fun w1 t=>⟨⟨_,rfl,_,_,_,rfl⟩,t.below (by simp)⟩
theorem aIH:Calls Tryz.prog 86 #[.agg #[.slice A1 n1 k1,.slice A2 n2 k2,.slice A3 n3 k3,.slice A4 n4 k4]] w (fun y w'=>(∃v,y=.returned v∧∃p:Option Addr,v=.tuple #[.pointer p,iv 0])∧Below w.heap.size w w'):=by
 obtain rfl:=hW.lK
 have lD:=hm.nv
 refine XK.en Tryz.func86 Tryz.ntmps86 ?_
 refine XK.gw ?_
 refine aS fun g1=>?_
 refine XK.gw ?_
 refine aJ (fun w1 t=>Pt s A1 A2 A3 A4 _ k1 _ k2 _ k3 _ k4 w1 (hW.le (t.started (by simp))) hm) ?_
 refine XK.gw ?_
 refine XK.dr ?_
 refine XB.either 1 5 rfl rfl (by kernel_rfl) ?_ ?_
 ·refine qJ (fun v=>∃(A:Option Addr) (n c:Nat),v=.slice A n c) (fun w1 t=>(aAt s A1 A2 A3 A4 _ k1 _ k2 _ k3 _ k4 w1 (hW.le (t.started (by simp)))).mono fun y w' ⟨⟨v,h1,h2⟩,h3⟩=>⟨⟨v,h1,by obtain⟨A,c,rfl,_⟩:=h2;exact⟨_,_,_,rfl⟩⟩,h3⟩) fun v hv=>?_
  obtain⟨A,n,c,rfl⟩:=hv
  refine XB.bk ?_
  refine XB.nx 5 ?_
  refine jG 8 (n:=s.aC.length) (el:=3) (z:=iv 0) (by kernel_rfl) (by kernel_rfl) rfl rfl rfl (by omega) (by omega) (by decide) fun g2=>?_
  refine XB.bk ?_
  refine XB.tl [6,7,8,9] ?_
  refine XK.gw ?_
  refine aS fun g3=>?_
  refine XK.gw ?_
  exact XK.dG rfl rfl rfl fun w1 t=>⟨⟨_,rfl,⟨_,rfl⟩⟩,t.below (by simp)⟩
 ·refine jG 8 (n:=s.aC.length) (el:=3) (z:=iv 0) (by kernel_rfl) (by kernel_rfl) rfl rfl rfl (by omega) (by omega) (by decide) fun g2=>?_
  refine XB.bk ?_
  refine XB.nx 1 ?_
  refine qJ (fun v=>∃(A:Option Addr) (n c:Nat),v=.slice A n c) (fun w1 t=>(aAt s A1 A2 A3 A4 _ k1 _ k2 _ k3 _ k4 w1 (hW.le (t.started (by simp)))).mono fun y w' ⟨⟨v,h1,h2⟩,h3⟩=>⟨⟨v,h1,by obtain⟨A,c,rfl,_⟩:=h2;exact⟨_,_,_,rfl⟩⟩,h3⟩) fun v hv=>?_
  obtain⟨A,n,c,rfl⟩:=hv
  refine XB.bk ?_
  refine XB.tl [6,7,8,9] ?_
  refine XK.gw ?_
  refine aS fun g3=>?_
  refine XK.gw ?_
  exact XK.dG rfl rfl rfl fun w1 t=>⟨⟨_,rfl,⟨_,rfl⟩⟩,t.below (by simp)⟩
theorem aII(p:Option Addr):Calls Tryz.prog 38 #[.pointer p,.agg #[.slice A1 n1 k1,.slice A2 n2 k2,.slice A3 n3 k3,.slice A4 n4 k4]] w (fun y w'=>(∃v,y=.returned v∧sJ v)∧Below w.heap.size w w'):=by
 obtain rfl:=hW.kL
 obtain rfl:=hW.kY
 obtain rfl:=hW.mL
 refine XK.en Tryz.func38 Tryz.ntmps38 ?_
 refine XK.gw ?_
 refine aS fun g1=>?_
 refine XK.gw ?_
 refine aJ (fun w1 t=>Pt s A1 A2 A3 A4 _ k1 _ k2 _ k3 _ k4 w1 (hW.le (t.started (by simp))) hm) ?_
 refine XK.gw ?_
 cases p with
 | none=>
  refine XK.gw ?_
  exact XK.dG rfl rfl rfl fun w1 t=>⟨⟨_,rfl,⟨_,_,rfl⟩⟩,t.below (by simp)⟩
 | some a=>
  refine XK.gw ?_
  refine XK.dr ?_
  refine XB.nx 3 ?_
  refine qJ (fun v=>∃v1 v2 v3 v4 v5 v6:Value,v=.agg #[v1,v2,v3,v4,v5,v6]) (fun w1 t=>aIJ s A1 A2 A3 A4 k1 k2 k3 n4 k4 w1 hm) fun v hv=>?_
  obtain⟨v1,v2,v3,v4,v5,v6,rfl⟩:=hv
  refine XB.bk ?_
  refine XB.tl [4,5,6,7] ?_
  refine XK.gw ?_
  refine aS fun g2=>?_
  refine XK.gw ?_
  exact XK.dG rfl rfl rfl fun w1 t=>⟨⟨_,rfl,⟨_,_,rfl⟩⟩,t.below (by simp)⟩
end
end
section
set_option maxHeartbeats 4000000
set_option maxRecDepth 20000
theorem aIp{l:List Rg}{i k:Nat}{a:Rg}{v:Value}(h:l[i]? =some a)(hk:k < 2)(hv:a.cells[k]? =some v):(l.flatMap Rg.cells)[i*2+k]? =some v:=(Jc Rg.cells 2 l (fun _ _=>rfl) i k a h hk).trans hv
theorem aIB(f n kR:Nat)(RA:Option Addr)(v1 v2 v3:Value)(aI:List Rg)(hn:n=aI.length)(hn8:n≤8)(w:World)(F:Nat→Prop)(hp:(HP.many [HP.aB f 322 [.slice RA n kR,v1,v2,v3],HP.own 48 2 (.slice RA n kR) n (aI.flatMap Rg.cells)]).sat F w)(hF:∀b,F b→b < w.heap.size):
  Calls Tryz.prog 154 #[pt f] w (fun y w'=>y=.returned (.tuple #[])∧∃F',(HP.many [HP.emp,HP.emp]).sat F' w'∧aV w w' F F'):=by
 subst hn
 refine XK.bY Tryz.func154 Tryz.ntmps154 hp hF ?_
 generalize bN:(⟨w,fun b=>b < w.heap.size∧¬F b⟩:Piece)=R0
 refine XK.tk 0 0 ?_
 refine XK.tk 1 1 ?_
 refine XK.gw ?_
 refine XK.fY 23 1 ?_
 refine XK.lp (α:=(Option Addr×Nat)×List Value) (fun i _=>[(2,iv i),(0,pt f)]) (fun i x=>[HP.own 23 1 (.slice x.1.1 i x.1.2) i x.2,HP.own 48 2 (.slice RA aI.length kR) aI.length (aI.flatMap Rg.cells),HP.aB f 322 [.slice RA aI.length kR,.slice x.1.1 i x.1.2,v2,v3],HP.many [HP.emp,HP.emp]]) (fun _ _=>True) aI.length ((none,0),[]) trivial fun i x hi _=>?_
 obtain⟨⟨L1,L2⟩,L3⟩:=x
 dsimp only
 refine XK.gw ?_
 refine XK.if_ rfl (fun hlt=>?_) (fun hge=>?_)
 ·have hlt:i < aI.length:=by omega
  obtain⟨r,hr⟩:=get_some hlt
  have hx:=aIp (k:=0) hr (by omega) rfl
  refine XK.Hp 1 rfl (by omega) fun⟨gR,hgR⟩=>?_
  subst hgR
  refine XK.gw ?_
  refine XK.dr ?_
  refine XB.nx 13 ?_
  refine dF fun g3=>?_
  refine XB.bk ?_
  refine XB.tl [14,15,16,17] ?_
  refine XK.gw ?_
  refine oO 1 fun A' k'=>?_
  dsimp only[List.set]
  refine XK.gw ?_
  exact XK.ag ((_,_),_)
 ·refine XK.gw ?_
  subst bN
  exact XK.r0 3 hF
theorem aIo(l:List Rg):∀v∈l.flatMap Rg.cells,v.oneCell'=true:=fun v hv=>by
 obtain⟨r,_,hv⟩:=List.mem_flatMap.1 hv
 simp only[Rg.cells,List.mem_cons,List.not_mem_nil,or_false] at hv
 rcases hv with rfl | rfl<;>rfl
theorem aIA(aI:List Rg)(hl:aI.length≤8)(A:Option Addr)(c:Nat)(w:World)(hs:aE (all w) 2 A aI.length (aI.flatMap Rg.cells)):
  Calls Tryz.prog 81 #[.slice A aI.length c] w (fun y w'=>(∃v,y=.returned v∧sJ v)∧Below w.heap.size w w'):=by
 refine XK.en Tryz.func81 Tryz.ntmps81 ?_
 refine XK.gw ?_
 refine XK.if_ rfl (fun h=>absurd h (by omega)) (fun _=>?_)
 refine XK.gw ?_
 refine zH (el:=48) (sz:=2) (by kernel_rfl) (by kernel_rfl) (by decide) fun g=>?_
 refine XK.wW 0 2 0 rfl rfl (by omega) ?_
 dsimp only[List.set]
 refine XK.gw ?_
 refine fG 0 2 8 aI.length (n':=aI.length) (el:=48) (by kernel_rfl) (by kernel_rfl) (by decide) rfl rfl rfl (nG (by simp) hs) (aIo _) (by omega) (by omega) (by omega) (by decide) fun A' k'=>?_
 dsimp only[List.set,List.nil_append]
 refine XK.gw ?_
 refine aS fun g2=>?_
 refine XK.gw ?_
 refine XK.pair ?_
 refine cX 0 (HP.many [HP.emp,HP.emp]) (fun w1 F1 t h1 h2 h3=>aIB g2 aI.length k' A' _ _ _ aI rfl hl w1 F1 h1 h2) ?_
 dsimp only[List.set]
 refine XK.gw ?_
 exact XK.dG rfl rfl rfl fun w1 t=>⟨⟨_,rfl,⟨_,_,rfl⟩⟩,t.below (by simp)⟩
end
section
set_option maxHeartbeats 4000000
set_option maxRecDepth 20000
def aOK(v:Value)(_ _:World):Prop:=∃p:Option Addr,v=.pointer p
def aOL(v:Value)(_ _:World):Prop:=∃(p:Option Addr) (e:Int),v=.tuple #[.pointer p,iv e]
theorem aIM(w:World):Calls Tryz.prog 82 #[] w (fun y w'=>(∃v,y=.returned v∧aOK v w w')∧Below w.heap.size w w'):=by
 refine XK.en Tryz.func82 Tryz.ntmps82 ?_
 refine XK.go ?_
 refine kd (eM rfl) ?_
 refine aS fun g1=>?_
 refine XK.go ?_
 exact XK.rX (h:=fun _ _=>⟨_,rfl,⟨_,rfl⟩⟩)
theorem aIL(A:Option Addr)(n c:Nat)(zs:List Int)(w:World)(hs:aE (all w) 1 A n (aG zs))(hn:n=zs.length)(hn2:n≤1000):Calls Tryz.prog 83 #[.slice A n c] w (fun y w'=>(∃v,y=.returned v∧aOL v w w')∧Below w.heap.size w w'):=by
 subst hn
 refine XK.en Tryz.func83 Tryz.ntmps83 ?_
 refine XK.go ?_
 refine XK.if_ rfl (fun h6=>?_) (fun h6=>?_)
 ·refine XK.go ?_
  exact XK.dG rfl rfl rfl fun w1 t=>⟨⟨_,rfl,⟨_,_,rfl⟩⟩,t.below (by simp)⟩
 ·refine XK.go ?_
  refine XK.aT [(4,iv 0),(3,iv 0),(2,.pointer none),(0,.slice A zs.length c)] ?_
  refine XK.loop (fun m e R H=>∃i:Nat,i≤zs.length∧m=zs.length - i∧e=[(4,iv i),(3,iv 0),(2,.pointer none),(0,.slice A zs.length c)]∧R=[all w]∧H=[]) zs.length ⟨0,by omega,rfl,rfl,rfl,rfl⟩ fun m e R H hI=>?_
  obtain⟨i,hi,rfl,rfl,rfl,rfl⟩:=hI
  refine XK.go ?_
  refine XK.if_ rfl (fun hlt=>?_) (fun hge=>?_)
  ·have hlt:i < zs.length:=by omega
   obtain⟨x,hx⟩:=get_some hlt
   obtain⟨b,off,rfl,hr⟩:=aE.int hs (by omega)
   have k1:=hr i x hx
   refine XK.go ?_
   refine kd (dat i (off+i)) ?_
   refine XK.go ?_
   refine aW (t:=19) rfl (fun h0=>?_) (fun h0=>?_)
   ·refine XK.go ?_
    exact XK.dG rfl rfl rfl fun w1 t=>⟨⟨_,rfl,⟨_,_,rfl⟩⟩,t.below (by simp)⟩
   ·refine XK.go ?_
    refine kd (dat i (off+i)) ?_
    refine XK.go ?_
    refine XK.if_ rfl (fun h8=>?_) (fun h8=>?_)
    ·refine XK.go ?_
     exact XK.dG rfl rfl rfl fun w1 t=>⟨⟨_,rfl,⟨_,_,rfl⟩⟩,t.below (by simp)⟩
    ·refine XK.go ?_
     exact XK.rd (zs.length - (i+1)) ⟨i+1,hlt,rfl,rfl,rfl,rfl⟩
  ·refine XK.go ?_
   refine zH (el:=3) (sz:=1) (by kernel_rfl) (by kernel_rfl) (by decide) fun g=>?_
   refine XK.wW 0 1 0 rfl rfl (by omega) ?_
   dsimp only[List.set]
   refine XK.go ?_
   refine fG 0 1 8 zs.length (n':=zs.length) (el:=3) (by kernel_rfl) (by kernel_rfl) (by decide) rfl rfl rfl (nG (by simp) hs) (fun v hv=>by simp[aG] at hv;obtain⟨_,_,rfl⟩:=hv;rfl) (by omega) (by omega) (by omega) (by decide) fun A' k'=>?_
   dsimp only[List.set,List.nil_append]
   refine kd (eM rfl) ?_
   refine aS fun g1=>?_
   refine XK.go ?_
   exact XK.dG rfl rfl rfl fun w1 t=>⟨⟨_,rfl,⟨_,_,rfl⟩⟩,t.below (by simp)⟩
end
section
set_option maxHeartbeats 4000000
set_option maxRecDepth 20000
section
variable(s:aA)(A1 A2 A3 A4:Option Addr)(n1 k1 n2 k2 n3 k3 n4 k4:Nat)(w:World)(hW:eI w s A1 n1 A2 n2 A3 n3 A4 n4)(hm:s.made)
include hW hm
theorem aIK:Calls Tryz.prog 37 #[.agg #[.slice A1 n1 k1,.slice A2 n2 k2,.slice A3 n3 k3,.slice A4 n4 k4]] w (fun y w'=>(∃v,y=.returned v∧sJ v)∧Below w.heap.size w w'):=by
 have lD:=hm.nv
 obtain rfl:=hW.lK
 refine XK.en Tryz.func37 Tryz.ntmps37 ?_
 refine XK.gw ?_
 refine aS fun g1=>?_
 refine XK.gw ?_
 refine qJ sJ (fun w1 t=>aIE s A1 A2 A3 A4 _ k1 _ k2 _ k3 _ k4 w1 (hW.le (t.started (by simp))) hm) fun v hv=>?_
 obtain⟨p6,e6,rfl⟩:=hv
 refine XK.gw ?_
 refine XK.if_ rfl (fun h6=>?_) (fun h6=>?_)
 ·refine XK.gw ?_
  exact XK.dG rfl rfl rfl fun w1 t=>⟨⟨_,rfl,⟨_,_,rfl⟩⟩,t.below (by simp)⟩
 refine XK.gw ?_
 refine qJ sJ (fun w1 t=>aID s A1 A2 A3 A4 _ k1 _ k2 _ k3 _ k4 w1 (hW.le (t.started (by simp))) hm) fun v hv=>?_
 obtain⟨p7,e7,rfl⟩:=hv
 refine XK.gw ?_
 refine qJ sJ (fun w1 t=>aIC s A1 A2 A3 A4 _ k1 _ k2 _ k3 _ k4 w1 (hW.le (t.started (by simp))) hm) fun v hv=>?_
 obtain⟨p8,e8,rfl⟩:=hv
 refine XK.gw ?_
 refine aS fun g2=>?_
 refine XK.gw ?_
 refine XK.fY 38 6 ?_
 refine XK.fY 191 1 ?_
 refine XK.fY 194 1 ?_
 refine XK.fY 3 1 ?_
 refine XK.lp (α:=((Option Addr×Nat)×List Value)×((Option Addr×Nat)×List Value)×((Option Addr×Nat)×List Value)×(Option Addr×Nat)×List Value) (fun i x=>[(12,iv i),(11,.slice x.2.2.2.1.1 i x.2.2.2.1.2),(10,pt g2),(1,pt g1)]) (fun i x=>[HP.own 38 6 (.slice x.1.1.1 i x.1.1.2) i x.1.2,HP.own 191 1 (.slice x.2.1.1.1 i x.2.1.1.2) i x.2.1.2,HP.own 194 1 (.slice x.2.2.1.1.1 i x.2.2.1.1.2) i x.2.2.1.2,HP.own 3 1 (.slice x.2.2.2.1.1 i x.2.2.2.1.2) i x.2.2.2.2,HP.aB g2 190 [.slice x.1.1.1 i x.1.1.2,.pointer p6,.pointer p7,.pointer p8,.slice x.2.1.1.1 i x.2.1.1.2,.slice x.2.2.1.1.1 i x.2.2.1.1.2,.pointer none],HP.aB g1 30 [.slice A1 n1 k1,.slice A2 n2 k2,.slice A3 n3 k3,.slice A4 s.aC.length k4]]) (fun i x=>∃zs,x.2.2.2.2=aG zs∧zs.length=i) s.aC.length (((none,0),[]),((none,0),[]),((none,0),[]),(none,0),[]) ⟨[],rfl,rfl⟩ fun i x hi hx=>?_
 obtain⟨⟨⟨L1,L2⟩,L3⟩,⟨⟨M1,M2⟩,M3⟩,⟨⟨N1,N2⟩,N3⟩,⟨O1,O2⟩,O3⟩:=x
 obtain⟨zs,rfl,hzl⟩:=hx
 dsimp only
 refine XK.gw ?_
 refine XK.if_ rfl (fun hlt=>?_) (fun hge=>?_)
 ·have hlt:i < s.aC.length:=by omega
  obtain⟨d,hd⟩:=get_some hlt
  obtain⟨b,off,_,rfl,⟨AR,_,kR,AN,_,kN,rfl,rfl,rfl,hR,hN⟩,hro⟩:=hW.dev.aAq hd
  have k4:=hro.at_ (j:=4) rfl
  have wJ:d.aI.length≤8:=by
   have:=(hm.aC i d hd).2.2.2.2.2.2.2.2.1
   omega
  refine XK.gw ?_
  refine XK.dr ?_
  refine XB.nx 10 ?_
  refine dF fun g3=>?_
  refine XB.bk ?_
  refine XB.tl [11,12,13,14] ?_
  refine XK.gw ?_
  refine oO 1 fun A' k'=>?_
  dsimp only[List.set]
  refine XK.gw ?_
  refine qJ sJ (fun w1 t=>aIA d.aI wJ AR kR w1 (hR.le (t.le (by simp)))) fun v hv=>?_
  obtain⟨p9,e9,rfl⟩:=hv
  refine XK.gw ?_
  refine dF fun g4=>?_
  refine XK.gw ?_
  refine oO 3 fun A'' k''=>?_
  dsimp only[List.set]
  refine XK.gw ?_
  refine XK.dr ?_
  refine XB.nx 5 ?_
  refine qJ (fun v=>∃p:Option Addr,v=.pointer p) (fun w1 t=>aIM w1) fun v hv=>?_
  obtain⟨p10,rfl⟩:=hv
  refine XB.bk ?_
  refine XB.nx 6 ?_
  refine dF fun g5=>?_
  refine XB.bk ?_
  refine XB.tl [7,8,9,10] ?_
  refine XK.gw ?_
  refine oO 5 fun A3' k3'=>?_
  dsimp only[List.set]
  refine XK.gw ?_
  refine dF fun g6=>?_
  refine XK.gw ?_
  refine oO 7 fun A4' k4'=>?_
  dsimp only[List.set]
  refine XK.gw ?_
  exact XK.ag (((_,_),_),((_,_),_),((_,_),_),(_,_),_) (hg:=⟨zs++[(d.aI.length:Int)],by simp[aG],by simp[hzl]⟩)
 ·obtain rfl:i=s.aC.length:=by omega
  refine XK.gw ?_
  refine qJ sJ (fun w1 t=>aIL O1 s.aC.length O2 zs w1 (t.Ov (i:=3) rfl) hzl.symm (by omega)) fun v hv=>?_
  obtain⟨p11,e11,rfl⟩:=hv
  refine XK.gw ?_
  exact XK.dG rfl rfl rfl fun w1 t=>⟨⟨_,rfl,⟨_,_,rfl⟩⟩,t.below (by simp)⟩
theorem aIF(p q:Option Addr):Calls Tryz.prog 39 #[.pointer p,.pointer q,.agg #[.slice A1 n1 k1,.slice A2 n2 k2,.slice A3 n3 k3,.slice A4 n4 k4]] w (fun y w'=>(∃v,y=.returned v∧sJ v)∧Below w.heap.size w w'):=by
 have lD:=hm.nv
 obtain rfl:=hW.kL
 obtain rfl:=hW.kY
 obtain rfl:=hW.mL
 obtain rfl:=hW.lK
 refine XK.en Tryz.func39 Tryz.ntmps39 ?_
 refine XK.gw ?_
 refine aS fun g1=>?_
 refine XK.gw ?_
 refine qJ (fun v=>∃p:Option Addr,v=.tuple #[.pointer p,iv 0]) (fun w1 t=>aIH s A1 A2 A3 A4 _ k1 _ k2 _ k3 _ k4 w1 (hW.le (t.started (by simp))) hm) fun v hv=>?_
 obtain⟨p16,rfl⟩:=hv
 refine XK.gw ?_
 cases p with
 | none=>
  refine XK.gw ?_
  exact XK.dG rfl rfl rfl fun w1 t=>⟨⟨_,rfl,⟨_,_,rfl⟩⟩,t.below (by simp)⟩
 | some a =>
  refine XK.gw ?_
  cases q with
  | none=>
   refine XK.gw ?_
   exact XK.dG rfl rfl rfl fun w1 t=>⟨⟨_,rfl,⟨_,_,rfl⟩⟩,t.below (by simp)⟩
  | some b =>
   refine XK.gw ?_
   refine XK.dr ?_
   refine XB.nx 5 ?_
   refine qJ (fun v=>∃v1 v2 v3:Value,v=.agg #[v1,v2,v3]) (fun w1 t=>aIG s A1 A2 A3 A4 _ k1 _ k2 _ k3 _ k4 w1 (hW.le (t.started (by simp))) hm) fun v hv=>?_
   obtain⟨v1,v2,v3,rfl⟩:=hv
   refine XB.bk ?_
   refine XB.tl [6,7,8] ?_
   refine XK.gw ?_
   refine aS fun g2=>?_
   refine XK.gw ?_
   refine XK.lp (α:=Value×Value×Value) (fun i _=>[(11,iv i),(10,pt g2),(5,pt g1)]) (fun i x=>[HP.aB g2 220 [.pointer (some a),.pointer (some b),.slice A1 s.aD.length k1,.slice A2 s.domains.length k2,.slice A3 s.aL.length k3,.slice A4 s.aC.length k4,iv 0,.int .u8 0,iv 0,iv 0,.int .u32 0,iv 0,.int .u32 0,x.1,iv 0,.int .u8 0,iv 0,iv 0,.int .u32 0,iv 0,.int .u32 0,x.2.1,iv 0,.int .u8 0,iv 0,iv 0,.int .u32 0,iv 0,.int .u32 0,x.2.2,.pointer p16,v1,v2,v3,sn,iv 0,.bool false,iv (-1)],HP.aB g1 30 [.slice A1 s.aD.length k1,.slice A2 s.domains.length k2,.slice A3 s.aL.length k3,.slice A4 s.aC.length k4]]) (fun _ _=>True) 3 (sn,sn,sn) trivial fun i x hi _=>?_
   obtain⟨x1,x2,x3⟩:=x
   dsimp only
   refine XK.gw ?_
   refine XK.if_ rfl (fun hlt=>?_) (fun hge=>?_)
   ·obtain rfl | rfl | rfl:i=0∨i=1∨i=2:=by omega
    all_goals
     refine XK.gw ?_
     refine XK.dr ?_
     refine XB.nx 5 ?_
     refine jG 8 (n:=s.aC.length) (el:=3) (z:=iv 0) (by kernel_rfl) (by kernel_rfl) rfl rfl rfl (by omega) (by omega) (by decide) fun g3=>?_
     refine XB.bk ?_
     refine XB.qz 8 ?_
     refine XB.qz 9 ?_
     refine XB.tl [10] ?_
     refine XK.gw ?_
     exact XK.ag (_,_,_)
   ·refine XK.gw ?_
    exact XK.dG rfl rfl rfl fun w1 t=>⟨⟨_,rfl,⟨_,_,rfl⟩⟩,t.below (by simp)⟩
end
end
section
set_option maxHeartbeats 4000000
set_option maxRecDepth 20000
def aCf(s:aA)(v:Value)(hs:List HP)(_:Piece):Prop:=∃(g f r:Nat) (hL:HL) (p:Option Addr),v=.tuple #[pt g,.bool true]∧hs=[HP.aB g 58 [.pointer (some ⟨hL.h,0,none⟩),pt f,pt r,.pointer p],fE r hL.h f s (Ee s),xG f hL.h s (pN s),cP hL s (hw0 s)]∧fF hL s
theorem aDi(s:aA)(A1 A2 A3 A4:Option Addr)(n1 k1 n2 k2 n3 k3 n4 k4:Nat)(w:World)(hW:eI w s A1 n1 A2 n2 A3 n3 A4 n4)(hm:s.made):
  Calls Tryz.prog 10 #[.agg #[.slice A1 n1 k1,.slice A2 n2 k2,.slice A3 n3 k3,.slice A4 n4 k4]] w (fun y w'=>(∃v hs q,y=.returned v∧q.w=w'∧aCf s v hs q∧iY w hs q)∧Below w.heap.size w w'):=by
 have hH:=hm.cI
 refine XK.en Tryz.func10 Tryz.ntmps10 ?_
 refine XK.gw ?_
 refine aS fun g1=>?_
 refine XK.gw ?_
 refine fB (aGh s) (fun w1 t=>aL0 s hH A1 A2 A3 A4 n1 k1 n2 k2 n3 k3 n4 k4 w1 (hW.le (t.started (by simp)))) ?_
 rintro _ _ q2 ⟨hL,rfl,rfl,gA,Cp⟩ _
 dsimp only[List.cons_append,List.nil_append]
 refine XK.gw ?_
 refine fB (aGn hL.h s) (fun w1 t=>aMi hL.h s hH A1 A2 A3 A4 n1 k1 n2 k2 n3 k3 n4 k4 w1 (hW.le (t.started (by simp)))) ?_
 rintro _ _ q3 ⟨f,rfl,rfl⟩ _
 dsimp only[List.cons_append,List.nil_append]
 refine XK.gw ?_
 refine fB (aFY hL.h f s) (fun w1 t=>aHR s A1 A2 A3 A4 n1 k1 n2 k2 n3 k3 n4 k4 w1 hL.h f hm (hW.le (t.started (by simp)))) ?_
 rintro _ _ q4 ⟨r,rfl,rfl⟩ _
 dsimp only[List.cons_append,List.nil_append]
 refine XK.gw ?_
 refine qJ sJ (fun w1 t=>aIK s A1 A2 A3 A4 n1 k1 n2 k2 n3 k3 n4 k4 w1 (hW.le (t.started (by simp))) hm) fun v hv=>?_
 obtain⟨p12,e12,rfl⟩:=hv
 refine XK.gw ?_
 refine qJ sJ (fun w1 t=>aII s A1 A2 A3 A4 n1 k1 n2 k2 n3 k3 n4 k4 w1 (hW.le (t.started (by simp))) hm p12) fun v hv=>?_
 obtain⟨p15,e15,rfl⟩:=hv
 refine XK.gw ?_
 refine qJ sJ (fun w1 t=>aIF s A1 A2 A3 A4 n1 k1 n2 k2 n3 k3 n4 k4 w1 (hW.le (t.started (by simp))) hm p12 p15) fun v hv=>?_
 obtain⟨p18,e18,rfl⟩:=hv
 refine XK.gw ?_
 refine aS fun g2=>?_
 refine XK.gw ?_
 refine XK.weak [0,1,2,3] rfl (by decide) (R':=[all w]) (by simp) ?_
 refine XK.still [] [] [0,1,2,3] (by simp) rfl (by decide) (by decide) fun q _ _ hfr=>?_
 exact XK.dG rfl rfl rfl fun w1 t=>⟨⟨_,_,⟨w1,q.Z⟩,rfl,rfl,⟨g2,f,r,hL,_,rfl,rfl,⟨gA,Cp⟩⟩,t.newR (by simp) (by simp) (hfr (by simp) (by simp))⟩,t.below (by simp)⟩
end
section
set_option maxHeartbeats 4000000
set_option maxRecDepth 20000
theorem aGW{p:HP}{F:Nat→Prop}{w w':World}{v:Value}{y:Ending}(hp:p.sat F w)(hF:∀b,F b→b < w.heap.size)(h:Rt v w y w'):y=.returned v∧∃F',p.sat F' w'∧aV w w' F F':=
 ⟨h.1,F,p.loc _ _ _ hp (fun b hb=>h.2.block b (hF b hb)),h.2.os,h.2.tape,h.2.output,h.2.size,fun b hb=>⟨.inl hb,Nat.lt_of_lt_of_le (hF b hb) h.2.size⟩,fun b hb _=>h.2.block b hb⟩
section
variable(g h f:Nat)(s:aA)(z:aU)(w:World)(F:Nat→Prop)(d:bK)(hk:z.t0.kind=114)(pL:z.t0.dev=0)(wG:z.t0.bF=0)(Fi:s.aC[0]? =some d)(wJ:1≤d.aI.length)(Mj:hG z.t0 0=0)
include hk pL wG Fi wJ Mj
theorem aIh(L:cK)(hR:Bj w g h f L s z):Calls Tryz.prog 291 #[.agg #[.bool false],pt g,.pointer (some ⟨g,10,none⟩)] w (Rt (iv 6) w):=by
 have hlt:=(List.getElem?_eq_some_iff.1 Fi).1
 have hin:bE s.aC.length 0=true:=decide_eq_true (by omega)
 have c4:cZ w g (10+1) [.int .u8 114,iv 0,iv 0,.int .u32 z.t0.val]:=by
  refine⟨hR.r0.1,fun j v hv=>?_⟩
  have h4:j < 4:=by simpa using(List.getElem?_eq_some_iff.1 hv).1
  have:=hR.r0.2 (11+j) v (by
   rw[←hk,←pL] at hv
   have h5:j=0∨j=1∨j=2∨j=3:=by omega
   rcases h5 with rfl | rfl | rfl | rfl
   ·exact hv
   ·exact hv
   ·rw[pL,←wG] at hv;exact hv
   ·exact hv)
  rwa [Nat.zero_add] at this
 have k5:=hR.r0.at_ (j:=5) rfl
 have k17:eS w g 17 (iv 0):=by
  have:=hR.r0.at_ (j:=17) rfl
  rwa [Mj] at this
 obtain⟨b,off,_,hA,⟨AR,_,kR,AN,_,kN,rfl,rfl,rfl,_,_⟩,hro⟩:=hR.so.dev.aAq Fi
 rw[hA] at k5
 have k4:=hro.at_ (j:=4) rfl
 simp only[Nat.zero_mul,Nat.add_zero] at k4
 refine XK.en Tryz.func291 Tryz.ntmps291 ?_
 refine XK.gw ?_
 refine aS fun g1=>?_
 refine XK.gw ?_
 refine bB fun g7=>?_
 refine XK.gw ?_
 refine XK.jO ?_
 refine XQ.go ?_
 refine XQ.call (fun w1 t=>aCZ g h f L s z w1 0 (hR.below (t.started (by simp)))) ?_
 rw[hin]
 refine XQ.go ?_
 refine XQ.kd (dat 0 off) ?_
 refine XQ.end_ ?_
 refine XK.gw ?_
 refine XK.if_ rfl (fun h1=>absurd h1 (by omega)) (fun _=>?_)
 refine XK.gw ?_
 refine XK.jO ?_
 refine XQ.go ?_
 refine XQ.kd (dX 0 17 (ho:=rfl)) ?_
 refine XQ.end_ ?_
 refine XK.gw ?_
 exact XK.rE
variable(hp:(fE g h f s z).sat F w)(hF:∀b,F b→b < w.heap.size)
include hp hF
theorem aIe:Calls Tryz.prog 47 #[pt g,iv 0] w (fun y w'=>y=.returned (.tuple #[])∧∃F',(fE g h f s (kC (jA z 0) 0 6 0)).sat F' w'∧aV w w' F F'):=by
 have hj:T3 0:=.inl rfl
 refine XK.bY Tryz.func47 Tryz.ntmps47 hp hF ?_
 generalize bN:(⟨w,fun b=>b < w.heap.size∧¬F b⟩:Piece)=R0
 refine XK.ox 0 fun L=>?_
 refine XK.tk 0 0 ?_
 refine XK.go ?_
 refine dL rfl rfl ?_ (hs:=dK.mk 0 rfl bL.h rfl (of_decide_eq_true rfl))
 dsimp only[List.set]
 rw[show(iQ h f L s z).set (0+49) (iv 0)=iQ h f L s {z with cH:=0} from rfl]
 refine XK.go ?_
 refine kd (dX 0 10 (ho:=rfl)) ?_
 refine XK.go ?_
 refine dL rfl rfl ?_ (hs:=dK.mk 0 rfl bL.h rfl (by rw[Vl];omega))
 dsimp only[List.set]
 rw[show(iQ h f L s {z with cH:=0}).set (10+0) (iv 2)=iQ h f L s (jA z 0) from rfl]
 refine XK.gv 0 0 ?_
 change XK _ _ _ _ _ [eC g h f L s (jA z 0)]
 refine XK.go ?_
 refine kd (aX rfl (Rd.lS 0 rfl (xT (j:=0) (k:=1) hj rfl))) ?_
 rw[show((jA z 0).tk 0).kind=114 from hk]
 refine aJ (fun w1 _=>Vk 114 w1) ?_
 rw[show Jg 114=.iface 240 (.agg #[.bool false]) from rfl]
 refine XK.go ?_
 refine aCz 0 (eC g h f L s (jA z 0)) (f:=291) (by kernel_rfl) rfl (fun w=>by kernel_rfl) rfl rfl ⟨by decide,rfl⟩ (fun w1 F1 t h1 h2 h3=>(aIh g h f s (jA z 0) w1 d hk pL wG Fi wJ Mj L (eC.reads h1 h2)).mono fun y w' hy=>aGW h1 h2 hy) ?_
 dsimp only[List.set]
 refine XK.te 0 (fun L:cK=>eC g h f L s (jA z 0)) L ?_
 refine XK.go ?_
 refine kd (eM rfl) ?_
 refine XK.go ?_
 refine cX 0 (fE g h f s (kC (jA z 0) 0 6 0)) (fun w1 F1 t h1 h2 h3=>Ef g h f s (jA z 0) w1 F1 0 rfl hj 6 0 h1 h2) ?_
 dsimp only[List.set]
 refine XK.go ?_
 subst bN
 exact XK.r0 0 hF
theorem aHU(h1:z.t0.st=1)(hh:z.cH < 0):Calls Tryz.prog 19 #[pt g,iv 0] w (fun v w'=>v=.returned (.tuple #[])∧∃F',(fE g h f s (kC (jA z 0) 0 6 0)).sat F' w'∧aV w w' F F'):=by
 refine XK.Ss (vs:=[pt g,iv 0]) (p:=fE g h f s z) Tryz.func19 rfl Tryz.ntmps19 (by simp) hp hF ?_
 generalize bN:(⟨w,fun b=>b < w.heap.size∧¬F b⟩:Piece)=R0
 refine XK.go ?_
 refine Ol (f:=46) (fi:=[]) (ca:=[]) rfl ?_
 refine XK.go ?_
 refine aJ (fun w1 _=>Pm 0 w1) ?_
 rw[show bE 3 0=true from rfl]
 refine XK.go ?_
 refine XK.ox 0 fun L=>?_
 refine XK.go ?_
 refine kd (dX 0 10 (ho:=rfl)) ?_
 refine XK.go ?_
 refine kd (aX rfl (Rd.lS 0 rfl (xT (j:=0) (k:=0) (.inl rfl) rfl))) ?_
 rw[show(z.tk 0).st=1 from h1]
 refine XK.go ?_
 refine kd (aX rfl (Rd.lS 0 rfl rfl)) ?_
 refine XK.go ?_
 refine XK.te 0 (fun L:cK=>eC g h f L s z) L ?_
 refine XK.if_ rfl (fun h2=>?_) (fun h2=>absurd hh h2)
 refine XK.go ?_
 refine cX 0 (fE g h f s (kC (jA z 0) 0 6 0)) (fun w1 F1 t Si Sh h3=>aIe g h f s z w1 F1 d hk pL wG Fi wJ Mj Si Sh) ?_
 dsimp only[List.set]
 refine XK.go ?_
 subst bN
 exact XK.wE (.inr rfl) (by kernel_rfl) Hh rfl fun w1 t=>⟨rfl,t.turns hF (by simp) (i:=0) rfl⟩
end
end
section
set_option maxHeartbeats 4000000
set_option maxRecDepth 20000
def uF:aA:=⟨[⟨111,[],1,0,0,0⟩],[⟨-1,0,false⟩],[0],[⟨0,0,0,0,[⟨0,false⟩],[]⟩]⟩
theorem aCN:uF.made:=by
 refine⟨?_,?_,by simp[uF],?_,by decide,by decide,by decide,by decide⟩
 ·exact(Fits.nil dV.fit).snoc ⟨by simp,.inl ⟨rfl,rfl,by decide,by decide,rfl,rfl,rfl⟩⟩
 ·exact(Fits.nil Dom.fit).snoc ⟨.inl rfl,by decide,by decide⟩
 ·exact(Fits.nil (bK.fit 1 1 1)).snoc ⟨by decide,by decide,by decide,by decide,by decide,by decide,by decide,by decide,by decide,by simp,by decide,by simp⟩
section
variable{N:bO}{w0 w:World}{e:Env}{R:List Piece}{H:List HP}
theorem aHs(st:St w0 R H w){i1 i2 i3 i4 i5 g1 g2 g3 g4 g5:Nat}(h1:H[i1]? =some (HP.aB g1 86 [.int .u8 111,sn,.int .u64 1,iv 0,iv 0,iv 0]))(h2:H[i2]? =some (HP.aB g2 50 [iv (-1),iv 0,.bool false]))(h3:H[i3]? =some (HP.aB g3 88 [iv 0]))(h5:H[i5]? =some (HP.aB g5 48 [.int .u32 0,.bool false]))(h4:H[i4]? =some (HP.aB g4 38 [iv 0,iv 0,iv 0,.int .u32 0,.slice (some ⟨g5,0,none⟩) 1 1,sn])):
  eI w uF (some ⟨g1,0,none⟩) 1 (some ⟨g2,0,none⟩) 1 (some ⟨g3,0,none⟩) 1 (some ⟨g4,0,none⟩) 1:=
 ⟨⟨[_],⟨rfl,⟨none,0,0,rfl,rfl,rfl,fun h=>absurd h (by omega)⟩,trivial⟩,rfl,st.nX h1 rfl⟩,⟨[_],⟨rfl,rfl,trivial⟩,rfl,st.nX h2 rfl⟩,⟨[_],⟨rfl,rfl,trivial⟩,rfl,st.nX h3 rfl⟩,⟨[_],⟨rfl,⟨some ⟨g5,0,none⟩,1,1,none,0,0,rfl,rfl,rfl,st.nX h5 rfl,rfl,fun h=>absurd h (by omega)⟩,trivial⟩,rfl,st.nX h4 rfl⟩,Qo aCN⟩
end
theorem aHv(w:World):Calls Tryz.prog 8 #[] w (Rt (.bool true) w):=by
 refine XK.en Tryz.func8 Tryz.ntmps8 ?_
 refine XK.gw ?_
 refine dF fun g1=>?_
 refine XK.gw ?_
 refine dF fun g2=>?_
 refine XK.gw ?_
 refine dF fun g3=>?_
 refine XK.gw ?_
 refine dF fun g5=>?_
 refine XK.gw ?_
 refine dF fun g4=>?_
 refine XK.gw ?_
 refine bB fun g6=>?_
 refine XK.gw ?_
 refine fB (aCf uF) (fun w1 t=>aDi uF _ _ _ _ 1 1 1 1 1 1 1 1 w1 (aHs t (i1:=5) (i2:=4) (i3:=3) (i4:=1) (i5:=2) rfl rfl rfl rfl rfl) aCN) ?_
 rintro _ _ q2 ⟨gR,f,r,hL,pX,rfl,rfl,aM⟩ _
 dsimp only[List.cons_append,List.nil_append]
 refine XK.gw ?_
 obtain⟨z1,jS,hk,pL,wG,Mj,hst,Il⟩:∃z1,sW (Ee uF) 0 114 0 0 0=(0,z1)∧z1.t0.kind=114∧z1.t0.dev=0∧z1.t0.bF=0∧hG z1.t0 0=0∧z1.t0.st=1∧z1.cH < 0:=⟨_,rfl,rfl,rfl,rfl,rfl,rfl,by decide⟩
 refine cX 1 (fE r hL.h f uF z1) (fun w1 F1 t h1 h2 h3=>by
  have:=aCX r hL.h f uF (Ee uF) w1 F1 0 114 0 0 0 h1 h2
  rw[jS] at this
  exact this) ?_
 dsimp only[List.set]
 refine XK.gw ?_
 refine cX 1 (fE r hL.h f uF (kC (jA z1 0) 0 6 0)) (fun w1 F1 t h1 h2 h3=>aHU r hL.h f uF z1 w1 F1 _ hk pL wG rfl (Nat.le_refl 1) Mj h1 h2 hst Il) ?_
 dsimp only[List.set]
 refine XK.gw ?_
 refine cX 1 (fE r hL.h f uF (mB (kC (jA z1 0) 0 6 0) 0).2) (fun w1 F1 t h1 h2 h3=>aCY r hL.h f uF (kC (jA z1 0) 0 6 0) w1 F1 0 h1 h2) ?_
 dsimp only[List.set]
 rw[show(mB (kC (jA z1 0) 0 6 0) 0).1=(6,0,true) from rfl]
 refine XK.gw ?_
 refine bB fun g7=>?_
 refine XK.gw ?_
 exact XK.rE
end
section
set_option maxHeartbeats 4000000
set_option maxRecDepth 20000
structure mG where
 op:Int
 task:Int
 kind:Int
 dev:Int
 bF:Int
 v:Int
 ag:Int
 pr:Int
 ms:Int
 id:Int
 aw:Int
 od:Int
def mG.cells(a:mG):List Value:=[iv a.op,iv a.task,iv a.kind,iv a.dev,iv a.bF,.int .u32 a.v,iv a.ag,iv a.pr,iv a.ms,iv a.id,iv a.aw,iv a.od]
def sK(a:Int):Prop:= -9223372036854775808≤a∧a≤9223372036854775807
structure mG.ok(a:mG):Prop where
 op:sK a.op
 task:sK a.task
 kind:sK a.kind
 dev:sK a.dev
 bF:sK a.bF
 v:0≤a.v∧a.v < 4294967296
 pr:sK a.pr
 ms:sK a.ms
 id:sK a.id
 aw:sK a.aw
 od:sK a.od
theorem mG.len(a:mG):a.cells.length=12:=rfl
end
section
set_option maxHeartbeats 4000000
set_option maxRecDepth 20000
def uK(c n:Int):Int:=(if c < 0 then 0 - (c+1) else c) % n
theorem aA1(c n:Int)(hn:0 < n):0≤uK c n∧uK c n < n:=⟨Int.emod_nonneg _ (by omega),Int.emod_lt_of_pos _ hn⟩
def Wj(r:Int):Int:=([103,103,103,112,112,114,119,114,119,115,109,109,120]:List Int).getD r.toNat 0
theorem aK5{r:Int}(h0:0≤r)(h1:r < 13):([.int .u8 103,.int .u8 103,.int .u8 103,.int .u8 112,.int .u8 112,.int .u8 114,.int .u8 119,.int .u8 114,.int .u8 119,.int .u8 115,.int .u8 109,.int .u8 109,.int .u8 120]:List Value)[r.toNat]? =some (.int .u8 (Wj r)):=by
 obtain⟨n,rfl⟩:∃n:Nat,r=(n:Int):=⟨r.toNat,by omega⟩
 have hn:n < 13:=by omega
 unfold Wj
 rw[Int.toNat_natCast]
 match n,hn with
 | 0,_ | 1,_ | 2,_ | 3,_ | 4,_ | 5,_ | 6,_ | 7,_ | 8,_ | 9,_ | 10,_ | 11,_ | 12,_=>rfl
 | n+13,h=>omega
def aF3(a:mG):Int:=Wj (uK a.kind 13)
def aF4(a:mG)(many:Int):Int:=uK a.dev (many+1)
def aF2(a:mG):Int:=uK a.bF 4
end
section
set_option maxHeartbeats 4000000
set_option maxRecDepth 20000
theorem Qc(c n:Int)(w:World)(hc:sK c)(hn:0 < n):Calls Tryz.prog 11 #[iv c,iv n] w (Rt (iv (uK c n)) w):=by
 unfold sK at hc
 refine XK.en Tryz.func11 Tryz.ntmps11 ?_
 refine XK.gw ?_
 refine XK.if_ rfl (fun h=>?_) (fun h=>?_)
 ·refine XK.gw ?_
  refine XK.gN (by simp) ?_
  rw[uK,if_pos h]
 ·refine XK.gw ?_
  refine XK.gN (by simp) ?_
  rw[uK,if_neg h]
theorem aOe(a:mG)(many:Int)(w:World)(ha:a.ok)(hm:0≤many∧many≤1000):Calls Tryz.prog 18 #[.agg a.cells.toArray,iv many] w (Rt (.agg #[.int .u8 (aF3 a),iv (aF4 a many),iv (aF2 a),.int .u32 a.v]) w):=by
 obtain⟨a0,a1,a2,a3,a4,a5,b0,b1,b2,b3,b4,b5⟩:=a
 have h2:sK a2:=ha.kind
 have h3:sK a3:=ha.dev
 have h4:sK a4:=ha.bF
 obtain⟨p0,p1⟩:=aA1 a2 13 (by decide)
 have hk:=aK5 p0 p1
 have q:=aA1 a3 (many+1) (by omega)
 refine XK.en Tryz.func18 Tryz.ntmps18 ?_
 refine XK.gw ?_
 refine aS fun g1=>?_
 refine XK.gw ?_
 refine bB fun g2=>?_
 refine XK.gw ?_
 refine dF fun g3=>?_
 refine XK.gw ?_
 refine XK.dz ?_
 refine XB.nx 3 ?_
 refine aJ (fun w1 t=>Qc _ 13 w1 h2 (by decide)) ?_
 refine XB.bk ?_
 refine XB.qz 4 ?_
 refine XB.qz 5 ?_ (cY:=aX rfl (Rd.aB 0 rfl (by simpa using hk)))
 refine XB.nx 10 ?_
 refine aJ (fun w1 t=>Qc _ (many+1) w1 h3 (by omega)) ?_
 refine XB.bk ?_
 refine XB.nx 13 ?_
 refine aJ (fun w1 t=>Qc _ 4 w1 h4 (by decide)) ?_
 refine XB.bk ?_
 refine XB.lo 16 ?_
 refine XB.nx 17 ?_
 refine lM 1 rfl ?_
 dsimp only[List.set]
 refine XB.bt ?_
 refine XB.fin ?_
 refine XK.gw ?_
 exact XK.By (vs:=[.int .u8 (Wj (uK a2 13)),iv (uK a3 (many+1)),iv (uK a4 4),.int .u32 a5]) rfl (by kernel_rfl) rfl rfl (aH.whole 1 rfl) fun w1 t=>⟨rfl,t.below (by simp)⟩
end
end Go.Proofs.YtdcdccmpcmjmhaaGreatDoor
