/- conf: what is right of a clock, a domain, a reset line, a device, and of how many there are. -/
import Derived.KernelRfl
import Derived.Laws.StructEq
import Derived.RegionIn
import Derived.Shelf.RegionOpen
import Derived.Test.YtmpkkaknjkffpaaGreatDoorProg
import Derived.Test.YtmpkkaknjkffpaaGreatDoorAuditSeesK2
namespace Go.Proofs.YtmpkkaknjkffpaaGreatDoor
set_option linter.all false
set_option maxHeartbeats 4000000
set_option maxRecDepth 20000
open Go.RowKit Go.Proofs.Tryz
variable{w w0:World}{A1 A2 A3 A4:Option Addr}{n1 n2 n3 n4 d m fuel:Nat}{N:cQ}{e:Env}{H H0:List HP}{Q:Exit->Act->World->Prop}{ops:Array Oper}{rest:List Oper}{ty:TypeId}{pos:String}{aN:Array Edge}{listed:Array Bool}{K:Act->World->Prop}
def nL(kind:Int)(n:Nat):Bool:=if kind=111 then decide (n=0) else if kind=112\/kind=100\/kind=103 then decide (n=1) else if kind=109 then jV n 1 4 else false
def wZ(kind c f d e:Int):Bool:=
 if kind=111 then decide (1<=c)&&decide (c<=1099511627776) else if kind=112 then jV f 1 1000&&jV d 1 1000&&jV e 0 20 else if kind=100 then jV d 1 1000 else true
def Rc(n1:Nat)(c:fK):Int:=mQ [kD (!nL c.kind c.src.length) 1,mQ (c.src.map fun f=>kD (!jV f 0 ((n1:Int) - 1)) 4),kD (!wZ c.kind c.rate c.mul c.div c.lock) 3]
def Vr(n2:Nat)(d:Dom):Int:=mQ [kD (decide (¬d.above= -1)&& !jV d.above 0 ((n2:Int) - 1)) 4,kD (!jV d.delay 0 20) 3]
def aBh(r:Int):Int:=kD (!jV r 0 20) 3
def Vu(n1 n2 n3 n4:Nat)(d:bR):Int:=
 mQ [kD (!jV d.clock 0 ((n1:Int) - 1)) 4,kD (!jV d.domain 0 ((n2:Int) - 1)) 4,kD (!jV d.reset 0 ((n3:Int) - 1)) 4,mQ (d.kJ.map fun f=>kD (!jV f 0 ((n4:Int) - 1)) 4)]
def Uj(d:bR):Int:=kD (decide ((8:Int) < d.aX.length)||decide ((6:Int) < d.kJ.length)) 8
def aJC(l:List Value):(l.map fun v=>[v]).flatten=l:=by induction l<;>simp_all
def aOb(kind d i f e:Int)(A:Option Addr)(n k:Nat)(w:World):
  Cz 153 #[.agg #[.int .u8 kind,.slice A n k,.int .u64 d,iv i,iv f,iv e]] w (Rt (.bool (nL kind n)) w):=by
 refine bQ func153 ntmps153 ?_;refine iG fun j=>?_;refine eG (fun h=>?_) (fun h=>?_)
 .
  exact bK (h:=fun _ _=>by first | (exfalso;omega) | (simp[nL, *];done) | (simp[nL, *];omega))
 .
  refine eG (fun h=>?_) (fun h=>?_)
  .
   refine eG (fun h=>?_) (fun h=>?_)
   .
    exact bK (h:=fun _ _=>by first | (exfalso;omega) | (simp[nL, *];done) | (simp[nL, *];omega))
   .
    refine eG (fun h=>?_) (fun h=>?_)
    .
     refine cR (fun c st=>xZ _ _ _ c) ?_;exact bK (h:=fun _ _=>by first | (exfalso;omega) | (simp[nL, *];done) | (simp[nL, *];omega))
    .
     exact bK (h:=fun _ _=>by first | (exfalso;omega) | (simp[nL, *];done) | (simp[nL, *];omega))
  .
   refine eG (fun h=>?_) (fun h=>?_)
   .
    refine eG (fun h=>?_) (fun h=>?_)
    .
     exact bK (h:=fun _ _=>by first | (exfalso;omega) | (simp[nL, *];done) | (simp[nL, *];omega))
    .
     refine eG (fun h=>?_) (fun h=>?_)
     .
      refine cR (fun c st=>xZ _ _ _ c) ?_;exact bK (h:=fun _ _=>by first | (exfalso;omega) | (simp[nL, *];done) | (simp[nL, *];omega))
     .
      exact bK (h:=fun _ _=>by first | (exfalso;omega) | (simp[nL, *];done) | (simp[nL, *];omega))
   .
    refine eG (fun h=>?_) (fun h=>?_)
    .
     exact bK (h:=fun _ _=>by first | (exfalso;omega) | (simp[nL, *];done) | (simp[nL, *];omega))
    .
     refine eG (fun h=>?_) (fun h=>?_)
     .
      refine cR (fun c st=>xZ _ _ _ c) ?_;exact bK (h:=fun _ _=>by first | (exfalso;omega) | (simp[nL, *];done) | (simp[nL, *];omega))
     .
      exact bK (h:=fun _ _=>by first | (exfalso;omega) | (simp[nL, *];done) | (simp[nL, *];omega))
def aQ8(kind c j f d:Int)(A:Option Addr)(n k:Nat)(w:World):
  Cz 159 #[.agg #[.int .u8 kind,.slice A n k,.int .u64 c,iv j,iv f,iv d]] w (Rt (.bool (wZ kind c j f d)) w):=by
 refine bQ func159 ntmps159 ?_;refine iG fun l=>?_;refine eG (fun h=>?_) (fun h=>?_)
 .
  refine Gx (t:=10) rfl (fun i=>?_) (fun i=>?_)
  .
   refine aF ?_;exact bK (h:=fun _ _=>by simp[wZ, *])
  .
   refine aF ?_;exact bK (h:=fun _ _=>by simp[wZ, *])
 .
  refine eG (fun h=>?_) (fun h=>?_)
  .
   refine cR (fun e st=>xZ _ _ _ e) ?_;refine Gx (t:=20) rfl (fun i=>?_) (fun i=>?_)
   .
    refine aF ?_;refine cR (fun e st=>xZ _ _ _ e) ?_;refine Gx (t:=25) rfl (fun i=>?_) (fun i=>?_)
    .
     refine aF ?_;refine cR (fun e st=>xZ _ _ _ e) ?_;exact bK (h:=fun _ _=>by simp[wZ, *])
    .
     refine aF ?_;exact bK (h:=fun _ _=>by simp[wZ, *])
   .
    refine aF ?_;exact bK (h:=fun _ _=>by simp[wZ, *])
  .
   refine eG (fun h=>?_) (fun h=>?_)
   .
    refine cR (fun e st=>xZ _ _ _ e) ?_;exact bK (h:=fun _ _=>by simp[wZ, *])
   .
    exact bK (h:=fun _ _=>by simp[wZ, *])
def aVf(kind c j i d:Int)(A:Option Addr)(n k:Nat)(gc:Nat)(w:World)(l:eL w gc 0 [.int .u8 kind,.slice A n k,.int .u64 c,iv j,iv i,iv d]):
  Cz 152 #[pt gc] w (Rt (iv (kD (!nL kind n) 1)) w):=by
 refine bQ func152 ntmps152 ?_;refine cR (fun f st=>aOb _ _ _ _ _ _ _ _ f) ?_;refine cR (fun f st=>yX _ _ f) ?_;exact bK (h:=fun _ _=>rfl)
def aVc(kind c i f d:Int)(A:Option Addr)(n k:Nat)(gc:Nat)(w:World)(l:eL w gc 0 [.int .u8 kind,.slice A n k,.int .u64 c,iv i,iv f,iv d]):
  Cz 158 #[pt gc] w (Rt (iv (kD (!wZ kind c i f d) 3)) w):=by
 refine bQ func158 ntmps158 ?_;refine cR (fun j st=>aQ8 _ _ _ _ _ _ _ _ j) ?_;refine cR (fun j st=>yX _ _ j) ?_;exact bK (h:=fun _ _=>rfl)
def aVd(f:Int)(A1 A2 A3 A4:Option Addr)(n1 k1 n2 k2 n3 k3 n4 k4:Nat)(d:Nat)(w:World)(hs:eL w d 0 [.slice A1 n1 k1,.slice A2 n2 k2,.slice A3 n3 k3,.slice A4 n4 k4])(e:(n1:Int)<=9223372036854775806):
  Cz 156 #[iv f,pt d] w (Rt (iv (kD (!jV f 0 ((n1:Int) - 1)) 4)) w):=by
 refine bQ func156 ntmps156 ?_;refine cR (fun c st=>xZ _ _ _ c) ?_;refine cR (fun c st=>yX _ _ c) ?_;exact bK (h:=fun _ _=>rfl)
def aVe(kind c l m d:Int)(A:Option Addr)(n k:Nat)(A1 A2 A3 A4:Option Addr)(n1 k1 n2 k2 n3 k3 n4 k4:Nat)(gc e:Nat)(w:World)(H:eL w gc 0 [.int .u8 kind,.slice A n k,.int .u64 c,iv l,iv m,iv d])(hs:eL w e 0 [.slice A1 n1 k1,.slice A2 n2 k2,.slice A3 n3 k3,.slice A4 n4 k4])(o:(n1:Int)<=9223372036854775806)(zs:List Int)(F:aO (all w) 1 A n (aU zs))(I:n=zs.length)(G:(n:Int)<=9223372036854775806):
  Cz 154 #[pt gc,pt e] w (Rt (iv (mQ (zs.map fun f=>kD (!jV f 0 ((n1:Int) - 1)) 4))) w):=by
 refine fP func154 ntmps154 ?_;refine aD ?_;refine lH (vf:=[]) (vc:=[pt e]) rfl rfl aE ?_
 refine gZ (fun D st=>aJT _ _ _ 156 [pt e] ((aU zs).map fun v=>[v]) (zs.map fun f=>kD (!jV f 0 ((n1:Int) - 1)) 4) D (by rw[aJC];exact F.le (nF (st.started aB))) aB (by simp[aU];omega) (by simp;omega) aA aJ (fun i r x j z C p=>by
  obtain⟨f,E,rfl⟩:∃f,zs[i]? =some f/\r=[iv f]:=by
   rw[eO,aU,eO] at j;cases y:zs[i]? with
   | none=>simp[y] at j
   | some f=>simp[y] at j;exact⟨f,rfl,j.symm⟩
  rw[eO,E] at z;cases z
  exact aVd f A1 A2 A3 A4 n1 k1 n2 k2 n3 k3 n4 k4 e C ((hs.below (st.started aB)).below p) o)) ?_
 refine aD ?_;exact bK (h:=fun _ _=>rfl)
def aVb(kind c j l d:Int)(A:Option Addr)(n k:Nat)(A1 A2 A3 A4:Option Addr)(n1 k1 n2 k2 n3 k3 n4 k4:Nat)(w:World)(G:(n1:Int)<=9223372036854775806)(zs:List Int)(K:aO (all w) 1 A n (aU zs))(H:n=zs.length)(J:(n:Int)<=9223372036854775806):
  Cz 91 #[.agg #[.slice A1 n1 k1,.slice A2 n2 k2,.slice A3 n3 k3,.slice A4 n4 k4],.agg #[.int .u8 kind,.slice A n k,.int .u64 c,iv j,iv l,iv d]] w (Rt (iv (Rc n1 ⟨kind,zs,c,j,l,d⟩)) w):=by
 refine fP func91 ntmps91 ?_;refine aD ?_;refine eI fun D=>?_;refine eI fun o=>?_;refine aD ?_;refine lH (vf:=[]) (vc:=[pt o]) rfl rfl aE ?_;refine lH (vf:=[]) (vc:=[pt o,pt D]) rfl rfl aE ?_;refine lH (vf:=[]) (vc:=[pt o]) rfl rfl aE ?_;refine eX fun L=>?_
 refine gZ (fun I st=>aBW _ _ _ [(152,[pt o]),(154,[pt o,pt D]),(158,[pt o])] [kD (!nL kind n) 1,mQ (zs.map fun f=>kD (!jV f 0 ((n1:Int) - 1)) 4),kD (!wZ kind c j l d) 3] I (st.wP (i:=0) (n:=3) (sz:=1) (cs:=[.func (.func 152) #[] #[pt o],.func (.func 154) #[] #[pt o,pt D],.func (.func 158) #[] #[pt o]]) rfl rfl) rfl rfl aE (by simp only[fT,pY,or_false];rintro f (rfl | rfl | rfl)<;>kernel_rfl) (fun i f x z C E y=>by
  have F:=(st.started aB).trans (y.mono st.size)
  match i,z,C with
  | 0,z,C=>cases z;cases C;exact aVf kind c j l d A n k o E (st.box (cs:=[.int .u8 kind,.slice A n k,.int .u64 c,.int .i64 j,.int .i64 l,.int .i64 d]) (i:=1) rfl|>.below y)
  | 1,z,C=>cases z;cases C;exact aVe kind c j l d A n k A1 A2 A3 A4 n1 k1 n2 k2 n3 k3 n4 k4 o D E (st.box (cs:=[.int .u8 kind,.slice A n k,.int .u64 c,.int .i64 j,.int .i64 l,.int .i64 d]) (i:=1) rfl|>.below y) (st.box (cs:=[.slice A1 n1 k1,.slice A2 n2 k2,.slice A3 n3 k3,.slice A4 n4 k4]) (i:=2) rfl|>.below y) G zs (K.le (nF F)) H J
  | 2,z,C=>cases z;cases C;exact aVc kind c j l d A n k o E (st.box (cs:=[.int .u8 kind,.slice A n k,.int .u64 c,.int .i64 j,.int .i64 l,.int .i64 d]) (i:=1) rfl|>.below y)
  | i+3,z,_=>simp at z)) ?_
 refine aD ?_;exact bK (h:=fun _ _=>by simp[Rc,H])
def aUb(c d:Int)(ret:Bool)(A1 A2 A3 A4:Option Addr)(n1 k1 n2 k2 n3 k3 n4 k4:Nat)(k j:Nat)(w:World)(hd:eL w k 0 [iv c,iv d,.bool ret])(hs:eL w j 0 [.slice A1 n1 k1,.slice A2 n2 k2,.slice A3 n3 k3,.slice A4 n4 k4])(l:(n2:Int)<=9223372036854775806):
  Cz 161 #[pt k,pt j] w (Rt (iv (kD (decide (¬c= -1)&& !jV c 0 ((n2:Int) - 1)) 4)) w):=by
 refine bQ func161 ntmps161 ?_;refine cH (t:=6) rfl (fun f=>?_) (fun f=>?_)
 .
  refine aF ?_;refine cR (fun e st=>xZ _ _ _ e) ?_;refine cR (fun e st=>yX _ _ e) ?_;exact bK (h:=fun _ _=>by simp[f])
 .
  refine aF ?_;refine cR (fun e st=>yX _ _ e) ?_;exact bK (h:=fun _ _=>by simp[f])
def aUa(d c:Int)(ret:Bool)(f:Nat)(w:World)(hd:eL w f 0 [iv d,iv c,.bool ret]):
  Cz 162 #[pt f] w (Rt (iv (kD (!jV c 0 20) 3)) w):=by
 refine bQ func162 ntmps162 ?_;refine cR (fun e st=>xZ _ _ _ e) ?_;refine cR (fun e st=>yX _ _ e) ?_;exact bK (h:=fun _ _=>rfl)
def aTZ(c d:Int)(ret:Bool)(A1 A2 A3 A4:Option Addr)(n1 k1 n2 k2 n3 k3 n4 k4:Nat)(w:World)(o:(n2:Int)<=9223372036854775806):
  Cz 98 #[.agg #[.slice A1 n1 k1,.slice A2 n2 k2,.slice A3 n3 k3,.slice A4 n4 k4],.agg #[iv c,iv d,.bool ret]] w (Rt (iv (Vr n2 ⟨c,d,ret⟩)) w):=by
 refine fP func98 ntmps98 ?_;refine aD ?_;refine eI fun m=>?_;refine eI fun j=>?_;refine aD ?_;refine lH (vf:=[]) (vc:=[pt j,pt m]) rfl rfl aE ?_;refine lH (vf:=[]) (vc:=[pt j]) rfl rfl aE ?_;refine eX fun z=>?_
 refine gZ (fun r st=>aBW _ _ _ [(161,[pt j,pt m]),(162,[pt j])] [kD (decide (¬c= -1)&& !jV c 0 ((n2:Int) - 1)) 4,kD (!jV d 0 20) 3] r (st.wP (i:=0) (n:=2) (sz:=1) (cs:=[.func (.func 161) #[] #[pt j,pt m],.func (.func 162) #[] #[pt j]]) rfl rfl) rfl rfl aE (by simp only[fT,pY,or_false];rintro f (rfl | rfl)<;>kernel_rfl) (fun i f x k l p e=>by
  have y:=(st.started aB).trans (e.mono st.size)
  match i,k,l with
  | 0,k,l=>cases k;cases l;exact aUb c d ret A1 A2 A3 A4 n1 k1 n2 k2 n3 k3 n4 k4 j m p (st.box (cs:=[.int .i64 c,.int .i64 d,.bool ret]) (i:=1) rfl|>.below e) (st.box (cs:=[.slice A1 n1 k1,.slice A2 n2 k2,.slice A3 n3 k3,.slice A4 n4 k4]) (i:=2) rfl|>.below e) o
  | 1,k,l=>cases k;cases l;exact aUa c d ret j p (st.box (cs:=[.int .i64 c,.int .i64 d,.bool ret]) (i:=1) rfl|>.below e)
  | i+2,k,_=>simp at k)) ?_
 refine aD ?_;exact bK (h:=fun _ _=>rfl)
def aPw(r:Int)(w:World):
  Cz 103 #[.agg #[iv r]] w (Rt (iv (aBh r)) w):=by
 refine bQ func103 ntmps103 ?_;refine iG fun d=>?_;refine cR (fun c st=>xZ _ _ _ c) ?_;refine cR (fun c st=>yX _ _ c) ?_;exact bK (h:=fun _ _=>rfl)
def aUE(c d f e:Int)(A B:Option Addr)(n k p r:Nat)(A1 A2 A3 A4:Option Addr)(n1 k1 n2 k2 n3 k3 n4 k4:Nat)(m l:Nat)(w:World)(hd:eL w m 0 [iv c,iv d,iv f,.int .u32 e,.slice B p r,.slice A n k])(hs:eL w l 0 [.slice A1 n1 k1,.slice A2 n2 k2,.slice A3 n3 k3,.slice A4 n4 k4])(o:(n1:Int)<=9223372036854775806):
  Cz 163 #[pt m,pt l] w (Rt (iv (kD (!jV c 0 ((n1:Int) - 1)) 4)) w):=by
 refine bQ func163 ntmps163 ?_;refine cR (fun j st=>xZ _ _ _ j) ?_;refine cR (fun j st=>yX _ _ j) ?_;exact bK (h:=fun _ _=>rfl)
def aUD(f c e d:Int)(A B:Option Addr)(n k p r:Nat)(A1 A2 A3 A4:Option Addr)(n1 k1 n2 k2 n3 k3 n4 k4:Nat)(m l:Nat)(w:World)(hd:eL w m 0 [iv f,iv c,iv e,.int .u32 d,.slice B p r,.slice A n k])(hs:eL w l 0 [.slice A1 n1 k1,.slice A2 n2 k2,.slice A3 n3 k3,.slice A4 n4 k4])(o:(n2:Int)<=9223372036854775806):
  Cz 164 #[pt m,pt l] w (Rt (iv (kD (!jV c 0 ((n2:Int) - 1)) 4)) w):=by
 refine bQ func164 ntmps164 ?_;refine cR (fun j st=>xZ _ _ _ j) ?_;refine cR (fun j st=>yX _ _ j) ?_;exact bK (h:=fun _ _=>rfl)
def aUC(f d c e:Int)(A B:Option Addr)(n k p r:Nat)(A1 A2 A3 A4:Option Addr)(n1 k1 n2 k2 n3 k3 n4 k4:Nat)(m l:Nat)(w:World)(hd:eL w m 0 [iv f,iv d,iv c,.int .u32 e,.slice B p r,.slice A n k])(hs:eL w l 0 [.slice A1 n1 k1,.slice A2 n2 k2,.slice A3 n3 k3,.slice A4 n4 k4])(o:(n3:Int)<=9223372036854775806):
  Cz 165 #[pt m,pt l] w (Rt (iv (kD (!jV c 0 ((n3:Int) - 1)) 4)) w):=by
 refine bQ func165 ntmps165 ?_;refine cR (fun j st=>xZ _ _ _ j) ?_;refine cR (fun j st=>yX _ _ j) ?_;exact bK (h:=fun _ _=>rfl)
def aUA(f:Int)(A1 A2 A3 A4:Option Addr)(n1 k1 n2 k2 n3 k3 n4 k4:Nat)(d:Nat)(w:World)(hs:eL w d 0 [.slice A1 n1 k1,.slice A2 n2 k2,.slice A3 n3 k3,.slice A4 n4 k4])(e:(n4:Int)<=9223372036854775806):
  Cz 167 #[iv f,pt d] w (Rt (iv (kD (!jV f 0 ((n4:Int) - 1)) 4)) w):=by
 refine bQ func167 ntmps167 ?_;refine cR (fun c st=>xZ _ _ _ c) ?_;refine cR (fun c st=>yX _ _ c) ?_;exact bK (h:=fun _ _=>rfl)
def aUB(j c e d:Int)(A B:Option Addr)(n k G H:Nat)(A1 A2 A3 A4:Option Addr)(n1 k1 n2 k2 n3 k3 n4 k4:Nat)(C l:Nat)(w:World)(hd:eL w C 0 [iv j,iv c,iv e,.int .u32 d,.slice B G H,.slice A n k])(hs:eL w l 0 [.slice A1 n1 k1,.slice A2 n2 k2,.slice A3 n3 k3,.slice A4 n4 k4])(o:(n4:Int)<=9223372036854775806)(zs:List Int)(I:aO (all w) 1 A n (aU zs))(K:n=zs.length)(J:(n:Int)<=9223372036854775806):
  Cz 166 #[pt C,pt l] w (Rt (iv (mQ (zs.map fun f=>kD (!jV f 0 ((n4:Int) - 1)) 4))) w):=by
 refine fP func166 ntmps166 ?_;refine aD ?_;refine lH (vf:=[]) (vc:=[pt l]) rfl rfl aE ?_
 refine gZ (fun E st=>aJT _ _ _ 167 [pt l] ((aU zs).map fun v=>[v]) (zs.map fun f=>kD (!jV f 0 ((n4:Int) - 1)) 4) E (by rw[aJC];exact I.le (nF (st.started aB))) aB (by simp[aU];omega) (by simp;omega) aA aJ (fun i r x m z D p=>by
  obtain⟨f,F,rfl⟩:∃f,zs[i]? =some f/\r=[iv f]:=by
   rw[eO,aU,eO] at m;cases y:zs[i]? with
   | none=>simp[y] at m
   | some f=>simp[y] at m;exact⟨f,rfl,m.symm⟩
  rw[eO,F] at z;cases z
  exact aUA f A1 A2 A3 A4 n1 k1 n2 k2 n3 k3 n4 k4 l D ((hs.below (st.started aB)).below p) o)) ?_
 refine aD ?_;exact bK (h:=fun _ _=>rfl)
def aU9(J:List Rg)(e c d j:Int)(A B:Option Addr)(n k y z:Nat)(A1 A2 A3 A4:Option Addr)(n1 k1 n2 k2 n3 k3 n4 k4:Nat)(w:World)(H:(n1:Int)<=9223372036854775806)(E:(n2:Int)<=9223372036854775806)(D:(n3:Int)<=9223372036854775806)(G:(n4:Int)<=9223372036854775806)(zs:List Int)(L:aO (all w) 1 A n (aU zs))(M:n=zs.length)(K:(n:Int)<=9223372036854775806):
  Cz 107 #[.agg #[.slice A1 n1 k1,.slice A2 n2 k2,.slice A3 n3 k3,.slice A4 n4 k4],.agg #[iv e,iv c,iv d,.int .u32 j,.slice B y z,.slice A n k]] w (Rt (iv (Vu n1 n2 n3 n4 ⟨e,c,d,j,J,zs⟩)) w):=by
 refine fP func107 ntmps107 ?_;refine aD ?_;refine eI fun o=>?_;refine eI fun m=>?_;refine aD ?_;refine lH (vf:=[]) (vc:=[pt m,pt o]) rfl rfl aE ?_;refine lH (vf:=[]) (vc:=[pt m,pt o]) rfl rfl aE ?_;refine lH (vf:=[]) (vc:=[pt m,pt o]) rfl rfl aE ?_;refine lH (vf:=[]) (vc:=[pt m,pt o]) rfl rfl aE ?_;refine eX fun N=>?_
 refine gZ (fun I st=>aBW _ _ _ [(163,[pt m,pt o]),(164,[pt m,pt o]),(165,[pt m,pt o]),(166,[pt m,pt o])] [kD (!jV e 0 ((n1:Int) - 1)) 4,kD (!jV c 0 ((n2:Int) - 1)) 4,kD (!jV d 0 ((n3:Int) - 1)) 4,mQ (zs.map fun f=>kD (!jV f 0 ((n4:Int) - 1)) 4)] I (st.wP (i:=0) (n:=4) (sz:=1) (cs:=[.func (.func 163) #[] #[pt m,pt o],.func (.func 164) #[] #[pt m,pt o],.func (.func 165) #[] #[pt m,pt o],.func (.func 166) #[] #[pt m,pt o]]) rfl rfl) rfl rfl aE (by simp only[fT,pY,or_false];rintro f (rfl | rfl | rfl | rfl)<;>kernel_rfl) (fun i f x p r C l=>by
  have F:=(st.started aB).trans (l.mono st.size)
  match i,p,r with
  | 0,p,r=>cases p;cases r;exact aUE e c d j A B n k y z A1 A2 A3 A4 n1 k1 n2 k2 n3 k3 n4 k4 m o C (st.box (cs:=[.int .i64 e,.int .i64 c,.int .i64 d,.int .u32 j,.slice B y z,.slice A n k]) (i:=1) rfl|>.below l) (st.box (cs:=[.slice A1 n1 k1,.slice A2 n2 k2,.slice A3 n3 k3,.slice A4 n4 k4]) (i:=2) rfl|>.below l) H
  | 1,p,r=>cases p;cases r;exact aUD e c d j A B n k y z A1 A2 A3 A4 n1 k1 n2 k2 n3 k3 n4 k4 m o C (st.box (cs:=[.int .i64 e,.int .i64 c,.int .i64 d,.int .u32 j,.slice B y z,.slice A n k]) (i:=1) rfl|>.below l) (st.box (cs:=[.slice A1 n1 k1,.slice A2 n2 k2,.slice A3 n3 k3,.slice A4 n4 k4]) (i:=2) rfl|>.below l) E
  | 2,p,r=>cases p;cases r;exact aUC e c d j A B n k y z A1 A2 A3 A4 n1 k1 n2 k2 n3 k3 n4 k4 m o C (st.box (cs:=[.int .i64 e,.int .i64 c,.int .i64 d,.int .u32 j,.slice B y z,.slice A n k]) (i:=1) rfl|>.below l) (st.box (cs:=[.slice A1 n1 k1,.slice A2 n2 k2,.slice A3 n3 k3,.slice A4 n4 k4]) (i:=2) rfl|>.below l) D
  | 3,p,r=>cases p;cases r;exact aUB e c d j A B n k y z A1 A2 A3 A4 n1 k1 n2 k2 n3 k3 n4 k4 m o C (st.box (cs:=[.int .i64 e,.int .i64 c,.int .i64 d,.int .u32 j,.slice B y z,.slice A n k]) (i:=1) rfl|>.below l) (st.box (cs:=[.slice A1 n1 k1,.slice A2 n2 k2,.slice A3 n3 k3,.slice A4 n4 k4]) (i:=2) rfl|>.below l) G zs (L.le (nF F)) M K
  | i+4,p,_=>simp at p)) ?_
 refine aD ?_;exact bK (h:=fun _ _=>rfl)
def aSK(l:List Rg)(zs:List Int)(f c e d:Int)(A B:Option Addr)(n k o p:Nat)(w:World)(hrg:o=l.length)(m:n=zs.length):
  Cz 150 #[.agg #[iv f,iv c,iv e,.int .u32 d,.slice B o p,.slice A n k]] w (Rt (iv (Uj ⟨f,c,e,d,l,zs⟩)) w):=by
 refine bQ func150 ntmps150 ?_;refine iG fun r=>?_;refine cH (t:=7) rfl (fun i=>?_) (fun i=>?_)
 .
  refine aF ?_;refine cR (fun j st=>yX _ _ j) ?_;exact bK (h:=fun _ _=>by subst hrg m;simp[Uj,i])
 .
  refine aF ?_;refine cR (fun j st=>yX _ _ j) ?_;exact bK (h:=fun _ _=>by subst hrg m;simp[Uj,i])
def aI.small(s:aI):Prop:=s.aL.length<=1000000/\s.domains.length<=1000000/\s.bG.length<=1000000/\s.aG.length<=1000000/\(∀c∈s.aL,c.src.length<=1000000)/\∀d∈s.aG,d.kJ.length<=1000000
structure jH(w:World)(s:aI)(A1:Option Addr)(n1:Nat)(A2:Option Addr)(n2:Nat)(A3:Option Addr)(n3:Nat)(A4:Option Addr)(n4:Nat):Prop where
 iO:kQ (gB (all w)) (vD (gB (all w))) 73 6 A1 n1 s.aL
 dom:kQ (gB (all w)) xX 75 3 A2 n2 s.domains
 Ex:kQ (gB (all w)) Ci 77 1 A3 n3 s.bG
 dev:kQ (gB (all w)) (sV (gB (all w))) 80 6 A4 n4 s.aG
 small:s.small
section
variable{w':World}{s:aI}
def jH.le(h:jH w s A1 n1 A2 n2 A3 n3 A4 n4)(c:Below w.heap.size w w'):jH w' s A1 n1 A2 n2 A3 n3 A4 n4:=
 ⟨h.iO.mono (lN (nF c)) (fun _ _=>vD.mono (lN (nF c))),h.dom.mono (lN (nF c)) (fun _ _ h=>h),h.Ex.mono (lN (nF c)) (fun _ _ h=>h),h.dev.mono (lN (nF c)) (fun _ _=>sV.mono (lN (nF c))),h.small⟩
def jH.vQ(h:jH w s A1 n1 A2 n2 A3 n3 A4 n4):n1=s.aL.length:=by obtain⟨_,_,h,_⟩:=h.iO;exact h
def jH.vP(h:jH w s A1 n1 A2 n2 A3 n3 A4 n4):n2=s.domains.length:=by obtain⟨_,_,h,_⟩:=h.dom;exact h
def jH.yJ(h:jH w s A1 n1 A2 n2 A3 n3 A4 n4):n3=s.bG.length:=by obtain⟨_,_,h,_⟩:=h.Ex;exact h
def jH.vO(h:jH w s A1 n1 A2 n2 A3 n3 A4 n4):n4=s.aG.length:=by obtain⟨_,_,h,_⟩:=h.dev;exact h
end
def kQ.row{α:Type}{w:World}{R:α->List Value->Prop}{t:TypeId}{sz n:Nat}{A:Option Addr}{es:List α}(h:kQ (gB (all w)) R t sz A n es){k:Nat}{e:α}(hk:es[k]? =some e):
  ∃b off r,A=some ⟨b,off,none⟩/\r.length=sz/\R e r/\eL w b (off+k*sz) r:=by
 obtain⟨rows,c,x,m⟩:=h
 have l:=(cE.1 hk).1
 have y:=c.len.1
 obtain⟨r,i⟩:∃r,rows[k]? =some r:=⟨_,cX aA⟩
 obtain⟨z,j,f,p⟩:=c.at_ i;rw[hk] at j;cases j;obtain⟨b,off,o,d⟩:=aO.row m c.aCz i aA;exact⟨b,off,r,o,f,p,d⟩
def lT(s:aI):List (List Int):=s.aL.map (·.src)
def lS(s:aI):List (List Int):=s.domains.map fun d=>if d.above= -1 then[] else[d.above]
def dS(s:aI):List (List Int):=s.aG.map (·.kJ)
def Ip(g:List (List Int)):Int:=kD (decide ((gY g).1=5)) 5
def aFd{vs:List Value}{v z:Value}{k n:Nat}(h:vs.length=k)(hk:k < n):(vs++List.replicate (n - k) z).set k v=(vs++[v])++List.replicate (n - (k+1)) z:=by
 rw[Yf _ _ aA,h,yC,show n - k=(n - (k+1))+1 by omega,List.replicate_succ,Pq,Mm];rfl
def aTh{vs:List Value}{z:Value}{k n:Nat}(hk:k < n):vs++List.replicate (n - k) z=(vs++[z])++List.replicate (n - (k+1)) z:=by
 rw[show n - k=(n - (k+1))+1 by omega,List.replicate_succ,Mm];rfl
def aBf{g:List (List Int)}{k:Nat}{vs:List Value}{q c:Piece}{l:List Int}{v:Value}(h:Rows (xU (gB q)) 1 (g.take k) (vs.map fun v=>[v]))(hl:q.Le c)(hg:g[k]? =some l)(d:xU (gB c) l [v]):Rows (xU (gB c)) 1 (g.take (k+1)) ((vs++[v]).map fun v=>[v]):=by
 rw[vK,hg,Jz,Jw];exact(h.mono (fun _ _=>xU.mono (lN hl))).snoc rfl d
def aGm{q d:Piece}{g:List (List Int)}{vs:List Value}{f n:Nat}{t:TypeId}(h:Rows (xU (gB q)) 1 g (vs.map fun v=>[v]))(hl:q.Le d)(i:∃F,(HP.aK f t vs).sat F d.w/\∀b,F b->d.Z b)(j:n=g.length):qK d (some ⟨f,0,none⟩) n g:=by
 obtain⟨F,e,k⟩:=i;refine⟨_,h.mono (fun _ _=>xU.mono (lN hl)),j,?_⟩;rw[show(vs.map fun v=>[v]).flatten=vs by clear h e;induction vs<;>simp_all];refine uH (c:=0) e k ?_
 have:=h.len.1
 simp at this;omega
def aGh(zs:List Int)(v:Value)(w w':World):Prop:=∃A c,v=.slice A zs.length c/\aO (fresh w w') 1 A zs.length (aU zs)
def Jc(g:List (List Int))(v:Value)(w w':World):Prop:=∃A c,v=.slice A g.length c/\qK (fresh w w') A g.length g
def aVt(A:Option Addr)(n c:Nat)(g:List (List Int))(w:World)(hg:qK (all w) A n g)(p:n=g.length)(e:(n:Int)<=9223372036854775806)(d:∀l∈g,(l.length:Int)<=9223372036854775806):
  Cz 160 #[.slice A n c] w (Rt (iv (gY g).1) w):=by
 refine bQ func160 ntmps160 ?_;refine kcV (fun v=>∃A m c,v=.tuple #[.slice A m c,iv (gY g).1]) (fun o st=>(aBt A n c g o (hg.le (nF (st.started aB))) p e d).mono fun y r h=>?_) ?_
 .obtain⟨⟨f,m,i,j,_,_⟩,k⟩:=h;exact⟨⟨_,j,f,m,i,rfl⟩,k⟩
 rintro _ ⟨f,m,i,rfl⟩;refine aF ?_;exact bK (h:=fun _ _=>rfl)
def aF0(A:Option Addr)(n c:Nat)(g:List (List Int))(w:World)(hg:qK (all w) A n g)(i:n=g.length)(f:(n:Int)<=9223372036854775806)(d:∀l∈g,(l.length:Int)<=9223372036854775806):
  Cz 93 #[.slice A n c] w (Rt (iv (Ip g)) w):=by
 refine bQ func93 ntmps93 ?_;refine cR (fun e st=>aVt A n c g e (hg.le (nF (st.started aB))) i f d) ?_;refine cR (fun e st=>yX _ _ e) ?_;exact bK (h:=fun _ _=>rfl)
def aIi(A:Option Addr)(n c:Nat)(zs:List Int)(w:World)(hs:aO (all w) 1 A n (aU zs))(i:n=zs.length)(k:n<=1000000):
  Cz 109 #[.slice A n c] w (fun y w'=>(∃v,y=.returned v/\aGh zs v w w')/\Below w.heap.size w w'):=by
 refine bQ func109 ntmps109 ?_;refine oF 3 1 ?_;refine jU 0 1 8 n (n':=n) (v:=sn) (el:=3) aJ aJ aE rfl rfl rfl (sF aB hs) (by simp[aU,Value.oneCell']) aA aA aA aE fun e j=>?_;refine aF ?_;refine dX [] [0] [] fun q f _ d=>?_;subst i;exact bK (h:=fun l st=>⟨_,rfl,e,j,rfl,(aO.own (f 0 _ aB rfl)).le (st.oA aB (d aB aB))⟩)
def aK6(s:aI)(A1 A2 A3 A4:Option Addr)(n1 k1 n2 k2 n3 k3 n4 k4:Nat)(w:World)(hW:jH w s A1 n1 A2 n2 A3 n3 A4 n4):
  Cz 94 #[.agg #[.slice A1 n1 k1,.slice A2 n2 k2,.slice A3 n3 k3,.slice A4 n4 k4]] w (fun y w'=>(∃v,y=.returned v/\Jc (lT s) v w w')/\Below w.heap.size w w'):=by
 have hn:=hW.vQ
 have o:=hW.small
 unfold aI.small at o;obtain⟨Y,yM,M,T,I,Z⟩:=o;refine bQ func94 ntmps94 ?_;refine iG fun K=>?_;refine oZ 24 (el:=22) (z:=sn) aJ aJ rfl rfl rfl aA aA aE fun t=>?_;refine aF ?_;refine cF [(13,iv 0),(12,iv n1),(11,.slice A1 n1 k1),(3,.slice (some ⟨t,0,none⟩) n1 n1),(1,pt K)] ?_;refine dX [] [] [0,1] fun q0 _ _ p=>?_;refine aF ?_;refine gA (fun m e R H=>∃(k:Nat) (l:List Value) (q:Piece),k<=n1/\m=n1 - k/\tP w q/\Rows (xU (gB q)) 1 ((lT s).take k) (l.map fun v=>[v])/\l.length=k/\e=[(13,iv k),(12,iv n1),(11,.slice A1 n1 k1),(3,.slice (some ⟨t,0,none⟩) n1 n1),(1,pt K)]/\R=[q,all w]/\H=[HP.aK t 22 (l++List.replicate (n1 - k) (sn)),HP.aK K 30 [.slice A1 n1 k1,.slice A2 n2 k2,.slice A3 n3 k3,.slice A4 n4 k4]]) n1 ⟨0,[],_,aA,rfl,p aB aB,trivial,rfl,rfl,rfl,rfl⟩ fun m e R H V=>?_;obtain⟨k,l,q,hk,rfl,n,c,i,rfl,rfl,rfl⟩:=V;refine aF ?_;refine eG (fun h=>?_) (fun h=>?_)
 .
  have C:k < s.aL.length:=by omega
  obtain⟨e,G⟩:∃e,s.aL[k]? =some e:=⟨_,cX C⟩
  obtain⟨b,off,r,rfl,hrl,hR,hro⟩:=hW.iO.row G;obtain⟨N,U,O,rfl,E,F⟩:=hR
  have B:(lT s)[k]? =some (e.src):=by simp[lT,G]
  refine aF ?_;refine eE fun g3=>?_;refine kC rfl aE ?_;refine Kj ?_;refine aF ?_;refine jL [q] (aGh e.src) (fun D st=>aIi N U O e.src D (aO.le F (nF (st.started aB))) E (by have:=I e (dJ G);omega)) ?_;rintro _ D q' ⟨X,co,rfl,J⟩ A f j;refine kd (dat (k) (k)) ?_;refine tR 1 rfl aJ rfl rfl rfl (by simp;omega) ?_;dsimp only[List.set];rw[aFd i aA];refine aF ?_;exact fX (n1 - (k+1)) ⟨k+1,l++[_],q',aA,rfl,j (by simpa using n),aBf c (f q aB) B ⟨X,_,co,rfl,rfl,aO.le J A⟩,by simp[i],rfl,rfl,rfl⟩
 .
  obtain rfl:k=n1:=by omega
  rw[yC,List.replicate_zero,nZ];rw[yE (by simp[lT];omega)] at c;refine aF ?_;refine dX [q] [0] [] fun q2 L f x=>?_
  have d:k=(lT s).length:=by simp[lT];omega
  exact bK (h:=fun D st=>⟨_,rfl,some ⟨t,0,none⟩,k,by rw[<-d],by rw[<-d];exact(aGm c (f q aB) (L 0 _ aB rfl) d).le (st.oA aB (x aB (by simpa using n)))⟩)
def aEg(s:aI)(A1 A2 A3 A4:Option Addr)(n1 k1 n2 k2 n3 k3 n4 k4:Nat)(w:World)(hW:jH w s A1 n1 A2 n2 A3 n3 A4 n4):
  Cz 55 #[.agg #[.slice A1 n1 k1,.slice A2 n2 k2,.slice A3 n3 k3,.slice A4 n4 k4]] w (fun y w'=>(∃v,y=.returned v/\Jc (dS s) v w w')/\Below w.heap.size w w'):=by
 have hn:=hW.vO
 have p:=hW.small
 unfold aI.small at p;obtain⟨T,yM,L,Z,U,C⟩:=p;refine bQ func55 ntmps55 ?_;refine iG fun K=>?_;refine oZ 24 (el:=22) (z:=sn) aJ aJ rfl rfl rfl aA aA aE fun t=>?_;refine aF ?_;refine cF [(13,iv 0),(12,iv n4),(11,.slice A4 n4 k4),(3,.slice (some ⟨t,0,none⟩) n4 n4),(1,pt K)] ?_;refine dX [] [] [0,1] fun q0 _ _ l=>?_;refine aF ?_;refine gA (fun m e R H=>∃(k:Nat) (j:List Value) (q:Piece),k<=n4/\m=n4 - k/\tP w q/\Rows (xU (gB q)) 1 ((dS s).take k) (j.map fun v=>[v])/\j.length=k/\e=[(13,iv k),(12,iv n4),(11,.slice A4 n4 k4),(3,.slice (some ⟨t,0,none⟩) n4 n4),(1,pt K)]/\R=[q,all w]/\H=[HP.aK t 22 (j++List.replicate (n4 - k) (sn)),HP.aK K 30 [.slice A1 n1 k1,.slice A2 n2 k2,.slice A3 n3 k3,.slice A4 n4 k4]]) n4 ⟨0,[],_,aA,rfl,l aB aB,trivial,rfl,rfl,rfl,rfl⟩ fun m e R H hI=>?_;obtain⟨k,j,q,hk,rfl,o,c,i,rfl,rfl,rfl⟩:=hI;refine aF ?_;refine eG (fun h=>?_) (fun h=>?_)
 .
  have B:k < s.aG.length:=by omega
  obtain⟨e,I⟩:∃e,s.aG[k]? =some e:=⟨_,cX B⟩
  obtain⟨b,off,r,rfl,V,X,hro⟩:=hW.dev.row I;obtain⟨Ar,nr,kr,M,O,N,rfl,_,D,_,G⟩:=X
  have A:(dS s)[k]? =some (e.kJ):=by simp[dS,I]
  refine aF ?_;refine eE fun g3=>?_;refine kC rfl aE ?_;refine Kj ?_;refine aF ?_;refine jL [q] (aGh e.kJ) (fun F st=>aIi M O N e.kJ F (aO.le G (nF (st.started aB))) D (by have:=C e (dJ I);omega)) ?_;rintro _ F q' ⟨Ao,Y,rfl,J⟩ x f n;refine kd (dat (k) (k)) ?_;refine tR 1 rfl aJ rfl rfl rfl (by simp;omega) ?_;dsimp only[List.set];rw[aFd i aA];refine aF ?_;exact fX (n4 - (k+1)) ⟨k+1,j++[_],q',aA,rfl,n (by simpa using o),aBf c (f q aB) A ⟨Ao,_,Y,rfl,rfl,aO.le J x⟩,by simp[i],rfl,rfl,rfl⟩
 .
  obtain rfl:k=n4:=by omega
  rw[yC,List.replicate_zero,nZ];rw[yE (by simp[dS];omega)] at c;refine aF ?_;refine dX [q] [0] [] fun q2 hq f E=>?_
  have d:k=(dS s).length:=by simp[dS];omega
  exact bK (h:=fun F st=>⟨_,rfl,some ⟨t,0,none⟩,k,by rw[<-d],by rw[<-d];exact(aGm c (f q aB) (hq 0 _ aB rfl) d).le (st.oA aB (E aB (by simpa using o)))⟩)
def aJX(s:aI)(A1 A2 A3 A4:Option Addr)(n1 k1 n2 k2 n3 k3 n4 k4:Nat)(w:World)(hW:jH w s A1 n1 A2 n2 A3 n3 A4 n4):
  Cz 100 #[.agg #[.slice A1 n1 k1,.slice A2 n2 k2,.slice A3 n3 k3,.slice A4 n4 k4]] w (fun y w'=>(∃v,y=.returned v/\Jc (lS s) v w w')/\Below w.heap.size w w'):=by
 have hn:=hW.vP
 have x:=hW.small
 unfold aI.small at x;obtain⟨T,X,M,N,U,V⟩:=x;refine bQ func100 ntmps100 ?_;refine iG fun J=>?_;refine oZ 24 (el:=22) (z:=sn) aJ aJ rfl rfl rfl aA aA aE fun B=>?_;refine aF ?_;refine cF [(13,iv 0),(12,iv n2),(11,.slice A2 n2 k2),(3,.slice (some ⟨B,0,none⟩) n2 n2),(1,pt J)] ?_;refine dX [] [] [0,1] fun q0 _ _ A=>?_;refine aF ?_;refine gA (fun m e R H=>∃(k:Nat) (o:List Value) (q:Piece),k<=n2/\m=n2 - k/\tP w q/\Rows (xU (gB q)) 1 ((lS s).take k) (o.map fun v=>[v])/\o.length=k/\e=[(13,iv k),(12,iv n2),(11,.slice A2 n2 k2),(3,.slice (some ⟨B,0,none⟩) n2 n2),(1,pt J)]/\R=[q,all w]/\H=[HP.aK B 22 (o++List.replicate (n2 - k) (sn)),HP.aK J 30 [.slice A1 n1 k1,.slice A2 n2 k2,.slice A3 n3 k3,.slice A4 n4 k4]]) n2 ⟨0,[],_,aA,rfl,A aB aB,trivial,rfl,rfl,rfl,rfl⟩ fun m e R H O=>?_;obtain⟨k,o,q,hk,rfl,l,d,i,rfl,rfl,rfl⟩:=O;refine aF ?_;refine eG (fun h=>?_) (fun h=>?_)
 .
  have F:k < s.domains.length:=by omega
  obtain⟨e,K⟩:∃e,s.domains[k]? =some e:=⟨_,cX F⟩
  obtain⟨b,off,r,rfl,hrl,hR,Z⟩:=hW.dom.row K;obtain rfl:=hR
  have p:(lS s)[k]? =some (if e.above= -1 then[] else[e.above]):=by simp[lS,K]
  refine aF ?_;refine eE fun g3=>?_;refine kC rfl aE ?_;refine Kj ?_;refine aF ?_;refine eG (fun h=>?_) (fun h=>?_)
  .
   refine eX fun g4=>?_;refine kd (dat (k) (k)) ?_;refine tR 2 rfl aJ rfl rfl rfl (by simp;omega) ?_;dsimp only[List.set];rw[aFd i aA];refine aF ?_;refine dX [q] [0] [2,3] fun q' D j t=>?_;obtain⟨Fg,C,G⟩:=D 0 _ aB rfl
   have I:=uH (n:=1) (sz:=1) (c:=0) C G rfl
   exact fX (n2 - (k+1)) ⟨k+1,o++[_],q',aA,rfl,t aB (by simpa using l),aBf d (j q aB) p (by rw[aC h];exact⟨_,1,1,rfl,rfl,I⟩),by simp[i],rfl,rfl,rfl⟩
  .
   rw[aTh (k:=k) aA];exact fX (n2 - (k+1)) ⟨k+1,o++[_],q,aA,rfl,l,aBf d (fun b Y=>⟨Y,rfl⟩) p (by rw[aH (Jy.1 h)];exact⟨_,0,0,rfl,rfl,aO.nil _ 1⟩),by simp[i],rfl,rfl,rfl⟩
 .
  obtain rfl:k=n2:=by omega
  rw[yC,List.replicate_zero,nZ];rw[yE (by simp[lS];omega)] at d;refine aF ?_;refine dX [q] [0] [] fun q2 L j E=>?_
  have f:k=(lS s).length:=by simp[lS];omega
  exact bK (h:=fun w1 st=>⟨_,rfl,some ⟨B,0,none⟩,k,by rw[<-f],by rw[<-f];exact(aGm d (j q aB) (L 0 _ aB rfl) f).le (st.oA aB (E aB (by simpa using l)))⟩)
variable{s:aI}
def Kt(s:aI):Int:=if(12:Int) < s.aL.length\/(6:Int) < s.domains.length\/(6:Int) < s.bG.length\/(6:Int) < s.aG.length then 8 else mQ (s.aG.map Uj)
def aCk(s:aI):List Int:=[Kt s,mQ (s.aL.map (Rc s.aL.length)),Ip (lT s),mQ (s.domains.map (Vr s.domains.length)),Ip (lS s),mQ (s.bG.map aBh),
 mQ (s.aG.map (Vu s.aL.length s.domains.length s.bG.length s.aG.length)),Ip (dS s)]
def Rf(s:aI):Int:=mQ (aCk s)
def kQ.rows{α:Type}{w:World}{R:α->List Value->Prop}{t:TypeId}{sz n:Nat}{A:Option Addr}{es:List α}(h:kQ (gB (all w)) R t sz A n es)(m:∀e r,R e r->∀u∈r,u.oneCell'=true):
  ∃rows:List (List Value),aO (all w) sz A n rows.flatten/\(∀r∈rows,r.length=sz)/\(∀r∈rows,∀u∈r,u.oneCell'=true)/\rows.length=n/\n=es.length/\∀(i:Nat) (r:List Value),rows[i]? =some r->∃e,es[i]? =some e/\R e r:=by
 obtain⟨rows,c,j,k⟩:=h;refine⟨rows,k,c.aCz,fun r d=>?_,by rw[c.len.1,j],j,fun i r d=>?_⟩
 .obtain⟨i,l⟩:=lA d;obtain⟨e,_,_,f⟩:=c.at_ l;exact m e r f
 .obtain⟨e,o,_,f⟩:=c.at_ d;exact⟨e,o,f⟩
def vD.one{S:xS}(e:fK)(r:List Value)(h:vD S e r):∀u∈r,u.oneCell'=true:=by obtain⟨A,n,k,rfl,_⟩:=h;simp[Value.oneCell']
def xX.one(e:Dom)(r:List Value)(h:xX e r):∀u∈r,u.oneCell'=true:=by cases h;simp[Value.oneCell']
def Ci.one(e:Int)(r:List Value)(h:Ci e r):∀u∈r,u.oneCell'=true:=by cases h;simp[Value.oneCell']
def sV.one{S:xS}(e:bR)(r:List Value)(h:sV S e r):∀u∈r,u.oneCell'=true:=by obtain⟨A,n,k,c,d,f,rfl,_⟩:=h;simp[Value.oneCell']
def aSJ(s : aI)(A1 A2 A3 A4 : Option Addr)(n1 k1 n2 k2 n3 k3 n4 k4 : Nat)(w : World)(hW : jH w s A1 n1 A2 n2 A3 n3 A4 n4) :
    Cz 87 #[.agg #[.slice A1 n1 k1,.slice A2 n2 k2,.slice A3 n3 k3,.slice A4 n4 k4]] w (Rt (iv (Kt s)) w):=by
  have Nc:=hW.vQ
  have hn2:=hW.vP
  have Zd:=hW.yJ
  have Qn:=hW.vO
  have Bw:=hW.small
  unfold aI.small at Bw;obtain⟨hs1,yM,hs3,hs4,hs5,hs6⟩:=Bw;obtain⟨rows,Nb,hr2,hr3,hr4,hr5,hr6⟩:=hW.dev.rows sV.one;refine bQ func87 ntmps87 ?_;refine iG fun g1=>?_;refine cH (t:=7) rfl (fun hg=>?_) (fun hg=>?_)
  .
    refine aF ?_;exact bK (h:=fun _ _=>by rw[Kt,aH aA])
  .
    refine aF ?_;refine cH (t:=13) rfl (fun hg=>?_) (fun hg=>?_)
    .
      refine aF ?_;exact bK (h:=fun _ _=>by rw[Kt,aH aA])
    .
      refine aF ?_;refine cH (t:=19) rfl (fun hg=>?_) (fun hg=>?_)
      .
        refine aF ?_;exact bK (h:=fun _ _=>by rw[Kt,aH aA])
      .
        refine aF ?_;refine eG (fun h=>?_) (fun h=>?_)
        .
          exact bK (h:=fun _ _=>by rw[Kt,aH aA])
        .
          refine gZ (fun w1 st=>aJU A4 n4 k4 150 [] rows (s.aG.map Uj) w1 (Nb.le (nF (st.started aB))) hr2 hr3 hr4 (by simp;omega) aA aJ (fun i r x hr hx w2 hb2=>by
    have hbb:=(st.started aB).trans (hb2.mono st.size)
    obtain⟨e,he,hR⟩:=hr6 i r hr;rw[eO,he] at hx;cases hx;obtain⟨Ar,nr,kr,Af,nf,kf,rfl,Qm,hnf,_,hsf⟩:=hR
    exact aSK e.aX e.kJ _ _ _ _ _ _ _ _ _ _ w2 Qm hnf)) ?_
          refine aF ?_;exact bK (h:=fun _ _=>by rw[Kt,aC aA])
def check_1(s:aI)(A1 A2 A3 A4:Option Addr)(n1 k1 n2 k2 n3 k3 n4 k4:Nat)(w:World)(hW:jH w s A1 n1 A2 n2 A3 n3 A4 n4)(d:Nat)(hs:eL w d 0 [.slice A1 n1 k1,.slice A2 n2 k2,.slice A3 n3 k3,.slice A4 n4 k4]):
  Cz 86 #[pt d] w (Rt (iv (Kt s)) w):=by
 have p:=hW.vQ
 have o:=hW.vP
 have n:=hW.yJ
 have m:=hW.vO
 have c:=hW.small
 unfold aI.small at c;obtain⟨e,k,i,r,f,j⟩:=c;refine bQ func86 ntmps86 ?_;refine cR (fun l st=>aSJ s A1 A2 A3 A4 n1 k1 n2 k2 n3 k3 n4 k4 l (hW.le (st.started aB))) ?_;exact bK (h:=fun _ _=>rfl)
def aV2(kind c e f d:Int)(A:Option Addr)(n k:Nat)(A1 A2 A3 A4:Option Addr)(n1 k1 n2 k2 n3 k3 n4 k4:Nat)(j:Nat)(w:World)(hs:eL w j 0 [.slice A1 n1 k1,.slice A2 n2 k2,.slice A3 n3 k3,.slice A4 n4 k4])(i:(n1:Int)<=9223372036854775806)(zs:List Int)(l:aO (all w) 1 A n (aU zs))(o:n=zs.length)(p:(n:Int)<=9223372036854775806):
  Cz 90 #[.agg #[.int .u8 kind,.slice A n k,.int .u64 c,iv e,iv f,iv d],pt j] w (Rt (iv (Rc n1 ⟨kind,zs,c,e,f,d⟩)) w):=by
 refine bQ func90 ntmps90 ?_;refine iG fun r=>?_;refine cR (fun m st=>aVb kind c e f d A n k A1 A2 A3 A4 n1 k1 n2 k2 n3 k3 n4 k4 m i zs (l.le (nF (st.started aB))) o p) ?_;exact bK (h:=fun _ _=>rfl)
def aVz(d c:Int)(ret:Bool)(A1 A2 A3 A4:Option Addr)(n1 k1 n2 k2 n3 k3 n4 k4:Nat)(f:Nat)(w:World)(hs:eL w f 0 [.slice A1 n1 k1,.slice A2 n2 k2,.slice A3 n3 k3,.slice A4 n4 k4])(e:(n2:Int)<=9223372036854775806):
  Cz 97 #[.agg #[iv d,iv c,.bool ret],pt f] w (Rt (iv (Vr n2 ⟨d,c,ret⟩)) w):=by
 refine bQ func97 ntmps97 ?_;refine iG fun j=>?_;refine cR (fun i st=>aTZ d c ret A1 A2 A3 A4 n1 k1 n2 k2 n3 k3 n4 k4 i e) ?_;exact bK (h:=fun _ _=>rfl)
def aVv(o:List Rg)(f c e d:Int)(A B:Option Addr)(n k p r:Nat)(A1 A2 A3 A4:Option Addr)(n1 k1 n2 k2 n3 k3 n4 k4:Nat)(t:Nat)(w:World)(hs:eL w t 0 [.slice A1 n1 k1,.slice A2 n2 k2,.slice A3 n3 k3,.slice A4 n4 k4])(m:(n1:Int)<=9223372036854775806)(j:(n2:Int)<=9223372036854775806)(i:(n3:Int)<=9223372036854775806)(l:(n4:Int)<=9223372036854775806)(zs:List Int)(z:aO (all w) 1 A n (aU zs))(C:n=zs.length)(y:(n:Int)<=9223372036854775806):
  Cz 106 #[.agg #[iv f,iv c,iv e,.int .u32 d,.slice B p r,.slice A n k],pt t] w (Rt (iv (Vu n1 n2 n3 n4 ⟨f,c,e,d,o,zs⟩)) w):=by
 refine bQ func106 ntmps106 ?_;refine iG fun D=>?_;refine cR (fun x st=>aU9 o f c e d A B n k p r A1 A2 A3 A4 n1 k1 n2 k2 n3 k3 n4 k4 x m j i l zs (z.le (nF (st.started aB))) C y) ?_;exact bK (h:=fun _ _=>rfl)
def aV3(s:aI)(A1 A2 A3 A4:Option Addr)(n1 k1 n2 k2 n3 k3 n4 k4:Nat)(w:World)(hW:jH w s A1 n1 A2 n2 A3 n3 A4 n4)(d:Nat)(hs:eL w d 0 [.slice A1 n1 k1,.slice A2 n2 k2,.slice A3 n3 k3,.slice A4 n4 k4]):
  Cz 88 #[pt d] w (Rt (iv (mQ (s.aL.map (Rc s.aL.length)))) w):=by
 have n:=hW.vQ
 have N:=hW.vP
 have L:=hW.yJ
 have K:=hW.vO
 have f:=hW.small
 unfold aI.small at f;obtain⟨H,J,D,O,t,I⟩:=f;obtain⟨rows,p,j,k,z,F,o⟩:=hW.iO.rows vD.one;rw[<-n];refine fP func88 ntmps88 ?_;refine aD ?_;refine lH (vf:=[]) (vc:=[pt d]) rfl rfl aE ?_
 refine gZ (fun E st=>aTG A1 n1 k1 90 [pt d] rows (s.aL.map (Rc n1)) E (p.le (nF (st.started aB))) j k z (by simp;omega) aA aJ (fun i r x G A C y=>by
  have c:=(st.started aB).trans (y.mono st.size)
  obtain⟨e,B,M⟩:=o i r G;rw[eO,B] at A;cases A;obtain⟨R,U,T,rfl,l,m⟩:=M
  exact aV2 _ _ _ _ _ _ _ _ A1 A2 A3 A4 n1 k1 n2 k2 n3 k3 n4 k4 d C (hs.below c) aA e.src (aO.le m (nF c)) l (by have:=t e (dJ B);omega))) ?_
 refine aD ?_;exact bK (h:=fun _ _=>rfl)
def aV0(s:aI)(A1 A2 A3 A4:Option Addr)(n1 k1 n2 k2 n3 k3 n4 k4:Nat)(w:World)(hW:jH w s A1 n1 A2 n2 A3 n3 A4 n4)(c:Nat)(hs:eL w c 0 [.slice A1 n1 k1,.slice A2 n2 k2,.slice A3 n3 k3,.slice A4 n4 k4]):
  Cz 95 #[pt c] w (Rt (iv (mQ (s.domains.map (Vr s.domains.length)))) w):=by
 have D:=hW.vQ
 have p:=hW.vP
 have K:=hW.yJ
 have J:=hW.vO
 have d:=hW.small
 unfold aI.small at d;obtain⟨F,I,z,M,G,H⟩:=d;obtain⟨rows,m,f,j,o,B,l⟩:=hW.dom.rows xX.one;rw[<-p];refine fP func95 ntmps95 ?_;refine aD ?_;refine lH (vf:=[]) (vc:=[pt c]) rfl rfl aE ?_
 refine gZ (fun A st=>aTF A2 n2 k2 97 [pt c] rows (s.domains.map (Vr n2)) A (m.le (nF (st.started aB))) f j o (by simp;omega) aA aJ (fun i r x E t y n=>by
  have k:=(st.started aB).trans (n.mono st.size)
  obtain⟨e,C,L⟩:=l i r E;rw[eO,C] at t;cases t;obtain rfl:=L
  exact aVz _ _ _ A1 A2 A3 A4 n1 k1 n2 k2 n3 k3 n4 k4 c y (hs.below k) aA)) ?_
 refine aD ?_;exact bK (h:=fun _ _=>rfl)
def aVx(s:aI)(A1 A2 A3 A4:Option Addr)(n1 k1 n2 k2 n3 k3 n4 k4:Nat)(w:World)(hW:jH w s A1 n1 A2 n2 A3 n3 A4 n4)(o:Nat)(hs:eL w o 0 [.slice A1 n1 k1,.slice A2 n2 k2,.slice A3 n3 k3,.slice A4 n4 k4]):
  Cz 101 #[pt o] w (Rt (iv (mQ (s.bG.map aBh))) w):=by
 have B:=hW.vQ
 have L:=hW.vP
 have J:=hW.yJ
 have I:=hW.vO
 have c:=hW.small
 unfold aI.small at c;obtain⟨E,H,t,M,F,G⟩:=c;obtain⟨rows,k,d,f,m,z,j⟩:=hW.Ex.rows Ci.one;refine bQ func101 ntmps101 ?_
 refine gZ (fun y st=>aTE A3 n3 k3 103 [] rows (s.bG.map aBh) y (k.le (nF (st.started aB))) d f m (by simp;omega) aA aJ (fun i r x D n p l=>by
  have C:=(st.started aB).trans (l.mono st.size)
  obtain⟨e,A,K⟩:=j i r D;rw[eO,A] at n;cases n;obtain rfl:=K
  exact aPw _ p)) ?_
 refine aF ?_;exact bK (h:=fun _ _=>rfl)
def aVw(s:aI)(A1 A2 A3 A4:Option Addr)(n1 k1 n2 k2 n3 k3 n4 k4:Nat)(w:World)(hW:jH w s A1 n1 A2 n2 A3 n3 A4 n4)(d:Nat)(hs:eL w d 0 [.slice A1 n1 k1,.slice A2 n2 k2,.slice A3 n3 k3,.slice A4 n4 k4]):
  Cz 104 #[pt d] w (Rt (iv (mQ (s.aG.map (Vu s.aL.length s.domains.length s.bG.length s.aG.length)))) w):=by
 have n:=hW.vQ
 have C:=hW.vP
 have B:=hW.yJ
 have z:=hW.vO
 have f:=hW.small
 unfold aI.small at f;obtain⟨L,N,G,R,M,t⟩:=f;obtain⟨rows,p,j,k,A,I,o⟩:=hW.dev.rows sV.one;rw[<-n,<-C,<-B,<-z];refine fP func104 ntmps104 ?_;refine aD ?_;refine lH (vf:=[]) (vc:=[pt d]) rfl rfl aE ?_
 refine gZ (fun H st=>aJU A4 n4 k4 106 [pt d] rows (s.aG.map (Vu n1 n2 n3 n4)) H (p.le (nF (st.started aB))) j k A (by simp;omega) aA aJ (fun i r x K D F y=>by
  have c:=(st.started aB).trans (y.mono st.size)
  obtain⟨e,E,O⟩:=o i r K;rw[eO,E] at D;cases D;obtain⟨Z,T,X,U,Y,V,rfl,J,l,_,m⟩:=O
  exact aVv e.aX _ _ _ _ _ _ _ _ _ _ A1 A2 A3 A4 n1 k1 n2 k2 n3 k3 n4 k4 d F (hs.below c) aA aA aA aA e.kJ (aO.le m (nF c)) l (by have:=t e (dJ E);omega))) ?_
 refine aD ?_;exact bK (h:=fun _ _=>rfl)
def aV1(s:aI)(A1 A2 A3 A4:Option Addr)(n1 k1 n2 k2 n3 k3 n4 k4:Nat)(w:World)(hW:jH w s A1 n1 A2 n2 A3 n3 A4 n4)(n:Nat)(hs:eL w n 0 [.slice A1 n1 k1,.slice A2 n2 k2,.slice A3 n3 k3,.slice A4 n4 k4]):
  Cz 92 #[pt n] w (Rt (iv (Ip (lT s))) w):=by
 have y:=hW.vQ
 have F:=hW.vP
 have E:=hW.yJ
 have D:=hW.vO
 have c:=hW.small
 unfold aI.small at c;obtain⟨A,C,r,G,i,B⟩:=c;refine bQ func92 ntmps92 ?_;refine jL [] (Jc (lT s)) (fun d st=>aK6 s A1 A2 A3 A4 n1 k1 n2 k2 n3 k3 n4 k4 d (hW.le (st.started aB))) ?_;rintro _ d q ⟨z,o,rfl,e⟩ f _ k
 have j:=e.le f
 have p:(lT s).length=n1:=by simp[lT];omega
 refine gZ (fun d st=>aF0 z _ o (lT s) d (j.le (st.le aB)) rfl aA (fun l m=>by
  simp only[lT,fR] at m;obtain⟨x,t,rfl⟩:=m
  have:=i x t;omega)) ?_
 refine aF ?_;exact bK (h:=fun _ _=>rfl)
def aVy(s:aI)(A1 A2 A3 A4:Option Addr)(n1 k1 n2 k2 n3 k3 n4 k4:Nat)(w:World)(hW:jH w s A1 n1 A2 n2 A3 n3 A4 n4)(m:Nat)(hs:eL w m 0 [.slice A1 n1 k1,.slice A2 n2 k2,.slice A3 n3 k3,.slice A4 n4 k4]):
  Cz 99 #[pt m] w (Rt (iv (Ip (lS s))) w):=by
 have r:=hW.vQ
 have E:=hW.vP
 have D:=hW.yJ
 have C:=hW.vO
 have c:=hW.small
 unfold aI.small at c;obtain⟨y,B,p,F,z,A⟩:=c;refine bQ func99 ntmps99 ?_;refine jL [] (Jc (lS s)) (fun d st=>aJX s A1 A2 A3 A4 n1 k1 n2 k2 n3 k3 n4 k4 d (hW.le (st.started aB))) ?_;rintro _ d q ⟨t,n,rfl,e⟩ f _ j
 have i:=e.le f
 have o:(lS s).length=n2:=by simp[lS];omega
 refine gZ (fun d st=>aF0 t _ n (lS s) d (i.le (st.le aB)) rfl aA (fun l k=>by
  simp only[lS,fR] at k;obtain⟨x,G,rfl⟩:=k
  split<;>simp)) ?_
 refine aF ?_;exact bK (h:=fun _ _=>rfl)
def aVu(s:aI)(A1 A2 A3 A4:Option Addr)(n1 k1 n2 k2 n3 k3 n4 k4:Nat)(w:World)(hW:jH w s A1 n1 A2 n2 A3 n3 A4 n4)(n:Nat)(hs:eL w n 0 [.slice A1 n1 k1,.slice A2 n2 k2,.slice A3 n3 k3,.slice A4 n4 k4]):
  Cz 108 #[pt n] w (Rt (iv (Ip (dS s))) w):=by
 have y:=hW.vQ
 have F:=hW.vP
 have E:=hW.yJ
 have D:=hW.vO
 have c:=hW.small
 unfold aI.small at c;obtain⟨A,C,r,G,B,i⟩:=c;refine bQ func108 ntmps108 ?_;refine jL [] (Jc (dS s)) (fun d st=>aEg s A1 A2 A3 A4 n1 k1 n2 k2 n3 k3 n4 k4 d (hW.le (st.started aB))) ?_;rintro _ d q ⟨z,o,rfl,e⟩ f _ k
 have j:=e.le f
 have p:(dS s).length=n4:=by simp[dS];omega
 refine gZ (fun d st=>aF0 z _ o (dS s) d (j.le (st.le aB)) rfl aA (fun l m=>by
  simp only[dS,fR] at m;obtain⟨x,t,rfl⟩:=m
  have:=i x t;omega)) ?_
 refine aF ?_;exact bK (h:=fun _ _=>rfl)
def aAd(s:aI)(A1 A2 A3 A4:Option Addr)(n1 k1 n2 k2 n3 k3 n4 k4:Nat)(w:World)(hW:jH w s A1 n1 A2 n2 A3 n3 A4 n4):
  Cz 54 #[.agg #[.slice A1 n1 k1,.slice A2 n2 k2,.slice A3 n3 k3,.slice A4 n4 k4]] w (Rt (iv (Rf s)) w):=by
 refine fP func54 ntmps54 ?_;refine aD ?_;refine eI fun c=>?_;refine aD ?_;refine lH (vf:=[]) (vc:=[pt c]) rfl rfl aE ?_;refine lH (vf:=[]) (vc:=[pt c]) rfl rfl aE ?_;refine lH (vf:=[]) (vc:=[pt c]) rfl rfl aE ?_;refine lH (vf:=[]) (vc:=[pt c]) rfl rfl aE ?_;refine lH (vf:=[]) (vc:=[pt c]) rfl rfl aE ?_;refine lH (vf:=[]) (vc:=[pt c]) rfl rfl aE ?_;refine lH (vf:=[]) (vc:=[pt c]) rfl rfl aE ?_;refine lH (vf:=[]) (vc:=[pt c]) rfl rfl aE ?_;refine eX fun o=>?_
 refine gZ (fun m st=>aBW _ _ _ [(86,[pt c]),(88,[pt c]),(92,[pt c]),(95,[pt c]),(99,[pt c]),(101,[pt c]),(104,[pt c]),(108,[pt c])] (aCk s) m (st.wP (i:=0) (n:=8) (sz:=1) (cs:=[.func (.func 86) #[] #[pt c],.func (.func 88) #[] #[pt c],.func (.func 92) #[] #[pt c],.func (.func 95) #[] #[pt c],.func (.func 99) #[] #[pt c],.func (.func 101) #[] #[pt c],.func (.func 104) #[] #[pt c],.func (.func 108) #[] #[pt c]]) rfl rfl) rfl rfl aE (by simp only[fT,pY,or_false];rintro f (rfl | rfl | rfl | rfl | rfl | rfl | rfl | rfl)<;>kernel_rfl) (fun i f x e j l d=>by
  have k:=(st.started aB).trans (d.mono st.size)
  unfold aCk at j
  match i,e,j with
  | 0,e,j=>cases e;cases j;exact check_1 s A1 A2 A3 A4 n1 k1 n2 k2 n3 k3 n4 k4 l (hW.le k) c (st.box (cs:=[.slice A1 n1 k1,.slice A2 n2 k2,.slice A3 n3 k3,.slice A4 n4 k4]) (i:=1) rfl|>.below d)
  | 1,e,j=>cases e;cases j;exact aV3 s A1 A2 A3 A4 n1 k1 n2 k2 n3 k3 n4 k4 l (hW.le k) c (st.box (cs:=[.slice A1 n1 k1,.slice A2 n2 k2,.slice A3 n3 k3,.slice A4 n4 k4]) (i:=1) rfl|>.below d)
  | 2,e,j=>cases e;cases j;exact aV1 s A1 A2 A3 A4 n1 k1 n2 k2 n3 k3 n4 k4 l (hW.le k) c (st.box (cs:=[.slice A1 n1 k1,.slice A2 n2 k2,.slice A3 n3 k3,.slice A4 n4 k4]) (i:=1) rfl|>.below d)
  | 3,e,j=>cases e;cases j;exact aV0 s A1 A2 A3 A4 n1 k1 n2 k2 n3 k3 n4 k4 l (hW.le k) c (st.box (cs:=[.slice A1 n1 k1,.slice A2 n2 k2,.slice A3 n3 k3,.slice A4 n4 k4]) (i:=1) rfl|>.below d)
  | 4,e,j=>cases e;cases j;exact aVy s A1 A2 A3 A4 n1 k1 n2 k2 n3 k3 n4 k4 l (hW.le k) c (st.box (cs:=[.slice A1 n1 k1,.slice A2 n2 k2,.slice A3 n3 k3,.slice A4 n4 k4]) (i:=1) rfl|>.below d)
  | 5,e,j=>cases e;cases j;exact aVx s A1 A2 A3 A4 n1 k1 n2 k2 n3 k3 n4 k4 l (hW.le k) c (st.box (cs:=[.slice A1 n1 k1,.slice A2 n2 k2,.slice A3 n3 k3,.slice A4 n4 k4]) (i:=1) rfl|>.below d)
  | 6,e,j=>cases e;cases j;exact aVw s A1 A2 A3 A4 n1 k1 n2 k2 n3 k3 n4 k4 l (hW.le k) c (st.box (cs:=[.slice A1 n1 k1,.slice A2 n2 k2,.slice A3 n3 k3,.slice A4 n4 k4]) (i:=1) rfl|>.below d)
  | 7,e,j=>cases e;cases j;exact aVu s A1 A2 A3 A4 n1 k1 n2 k2 n3 k3 n4 k4 l (hW.le k) c (st.box (cs:=[.slice A1 n1 k1,.slice A2 n2 k2,.slice A3 n3 k3,.slice A4 n4 k4]) (i:=1) rfl|>.below d)
  | i+8,e,_=>simp at e)) ?_
 refine aD ?_;exact bK (h:=fun _ _=>rfl)
section
attribute [local irreducible] KC KI KQ
def bO(l:List Bool):List Value:=l.map .bool
def aKM{l:List Bool}{i:Nat}{b:Bool}(h:l[i]? =some b):(bO l)[i]? =some (.bool b):=by simp[bO,h]
def hasB(l:List Bool)(i:Nat):Bool:=l[i]?.getD false
def RP(p:Piece)(g o:Nat)(v:Value):Prop:=p.Z g/\p.w.cell? ⟨g,o,none⟩=some v
def RP.le{p q:Piece}{g o:Nat}{v:Value}(h:RP p g o v)(hl:p.Le q):RP q g o v:=⟨(hl g h.1).1,(World.cell?_of_block (w:=p.w) (a:=⟨g,o,none⟩) (hl g h.1).2).trans h.2⟩
def RP.rd{w0:World}{R:List Piece}{H:List HP}{p:Piece}{g o:Nat}{v:Value}(h:RP p g o v)(hp:p∈R):Rd w0 R H g o v:=Rd.ro hp h.1 h.2
def Iter.le{P:Program}{g:FuncId}{lb:List Value}{encs:List (List Value)}{p q:Piece}(h:Iter P g lb encs p)(hl:p.Le q):Iter P g lb encs q:=fun l J e W F d hd=>h l J e W F (fun b c=>⟨(d b (hl b c).1).1,((d b (hl b c).1).2).trans (hl b c).2⟩) (fun b c=>hd b (hl b c).1)
def aFc{α:Type}{l:List α}{s:α->Bool}{k:Nat}{x:α}(hx:l[k]? =some x)(hs:s x=true):(l.filter s)[((l.take k).filter s).length]? =some x/\((l.take (k+1)).filter s).length=((l.take k).filter s).length+1:=by
 have h:l.take (k+1)=l.take k++[x]:=by rw[vK,hx];rfl
 have f:l=l.take k++x::l.drop (k+1):=by
  have c:=(cE.1 hx).1
  have e:=(cE.1 hx).2
  rw[<-e,List.getElem_cons_drop c,Ye]
 refine⟨?_,by rw[h,Pr];simp[hs]⟩
 have d:l.filter s=(l.take k).filter s++(x::l.drop (k+1)).filter s:=by rw[<-Pr,<-f]
 rw[d,nA (gE _),yC,aBl hs];rfl
def Qv{α:Type}{l:List α}{s:α->Bool}{k:Nat}{x:α}(hx:l[k]? =some x)(hs:s x=false):((l.take (k+1)).filter s).length=((l.take k).filter s).length:=by
 rw[vK,hx,Jz,Pr];simp[hs]
def uL(fr c:List Bool)(i:Nat):Bool:=hasB c i&& !hasB fr i
def fF(order:List Nat)(fr c:List Bool):List Nat:=order.filter (uL fr c)
def zQ(c:List Nat):List (List Value):=c.map fun(i:Nat)=>[iv (i:Int)]
def aEL(A:Option Addr)(n c i:Nat)(bs:List Bool)(w:World)(hs:aO (all w) 1 A n (bO bs))(l:n=bs.length)(hi:(i:Int)<=9223372036854775807):
  Cz 118 #[.slice A n c,iv i] w (Rt (.bool (hasB bs i)) w):=by
 refine bQ func118 ntmps118 ?_;refine cH (t:=9) rfl (fun k=>?_) (fun k=>?_)
 .
  refine aF ?_
  have d:i < bs.length:=by omega
  obtain⟨b,off,rfl,f,j⟩:=hs.2 aA;obtain⟨v,e⟩:∃v,bs[i]? =some v:=⟨_,cX d⟩
  have m:iD w b (off+i) (.bool v):=⟨f,j i _ (aKM e)⟩
  refine aF ?_;exact bK (h:=fun _ _=>by rw[hasB,e];rfl)
 .
  refine aF ?_;exact bK (h:=fun _ _=>by rw[hasB,eW aA];rfl)
def aQS(p:Piece)(T j r n w N c ct cf:Nat)(A Y Z:Option Addr)(order:List Nat)(fr f:List Bool)(o:RP p T 0 (.slice A n c))(x:RP p j 0 (.slice Y w ct))(h3:RP p r 0 (.slice Z N cf))
  (hs:aO p 1 A n (aU (eD order))) (hn:n=order.length) (hn2:(n:Int)<=9223372036854775806) (O:aO p 1 Y w (bO f)) (I:w=f.length) (K:aO p 1 Z N (bO fr)) (X:N=fr.length) (C:∀i∈order,(i:Int)<=9223372036854775807):
  Iter Tryz.prog 272 [pt T,pt j,pt r] (zQ (fF order fr f)) p:=by
 unfold Iter;intro l J Jx W F hp hd hJ U hY;refine Gg (vs:=[.func (.yield l) #[] #[],pt T,pt j,pt r]) func272 rfl ntmps272 aB (aA4 hp hd hJ U) ?_;refine aW ?_;refine iF (o.rd aB) ?_;refine Ou (el:=3) aJ rfl aE ?_;refine jP rfl aE ?_;refine lV ?_;refine lE ?_;refine cF [(9,iv 0),(8,iv n),(7,.slice A n c),(3,pt r),(2,pt j),(0,.func (.yield l) #[] #[])] ?_;refine aW ?_;refine aA0 (fun m L e R H=>∃k:Nat,k<=n/\m=n - k/\L=[]/\e=[(9,iv k),(8,iv n),(7,.slice A n c),(3,pt r),(2,pt j),(0,.func (.yield l) #[] #[])]/\R=[p,nt W F]/\H=[J (((order.take k).filter (uL fr f)).length),sC []]) n ⟨0,aA,rfl,rfl,rfl,rfl,rfl⟩ fun m L e R H hI=>?_;obtain⟨k,hk,rfl,rfl,rfl,rfl,rfl⟩:=hI;refine aW ?_;refine sA rfl (fun h=>?_) (fun h=>?_)
 .
  refine aW ?_
  have M:k < order.length:=by omega
  obtain⟨b,off,rfl,hz,hc⟩:=hs.2 aA;obtain⟨i,B⟩:∃i,order[k]? =some i:=⟨_,cX M⟩
  have hib:=C i (dJ B)
  refine aW ?_;refine iF (Rd.ro (p:=p) aB hz (hc k (iv (i:Int)) (by simp[aU,eD,B]))) ?_;refine aW ?_;refine iF (x.rd aB) ?_;refine aW ?_;refine gZ (fun z st=>aEL _ _ _ i f z (O.le (st.le aB)) I aA) ?_;refine aW ?_;refine Gx (t:=16) rfl (fun E=>?_) (fun E=>?_)
  .
   refine aW ?_;refine iF (h3.rd aB) ?_;refine aW ?_;refine gZ (fun z st=>aEL _ _ _ i fr z (K.le (st.le aB)) X aA) ?_;refine aW ?_;refine Gx (t:=22) rfl (fun y=>?_) (fun y=>?_)
   .
    refine aW ?_
    have d:uL fr f i=true:=by rw[uL,E,y];rfl
    obtain⟨D,V⟩:=aFc B d;refine aFU rfl rfl ?_;refine Wq 0 rfl rfl aE (by simp:nt W F∈[p,nt W F]) (yV.refl W) rfl (fun W1 F1 o x h3=>hY _ [iv i] W1 F1 (by simp[zQ,fF,D]) o x h3) ?_ ?_
    rotate_left
    .
     refine aW ?_;refine Iw (Hs:=[Jx (((order.take k).filter (uL fr f)).length+1)]) (.inl rfl) rfl fun z st=>?_;obtain⟨G,o,x⟩:=st.turns U (by simp[nt]) (i:=0) rfl;exact⟨⟨_,rfl⟩,G,x,.inr ⟨_,by simp[zQ,fF];exact(cE.1 D).1,o⟩⟩
    refine aW ?_
    .skip
     refine aW ?_;exact cF [(9,iv (k+1)),(8,iv n),(7,.slice (some ⟨b,off,none⟩) n c),(3,pt r),(2,pt j),(0,.func (.yield l) #[] #[])] (Oa (n - (k+1)) aA ⟨k+1,aA,rfl,rfl,rfl,rfl,by rw[V];rfl⟩)
   .
    refine aW ?_
    have d:uL fr f i=false:=by rw[uL,E];simpa using y
    exact cF [(9,iv (k+1)),(8,iv n),(7,.slice (some ⟨b,off,none⟩) n c),(3,pt r),(2,pt j),(0,.func (.yield l) #[] #[])] (Oa (n - (k+1)) aA ⟨k+1,aA,rfl,rfl,rfl,rfl,by rw[Qv B d]⟩)
  .
   refine aW ?_
   have d:uL fr f i=false:=by rw[uL,E];rfl
   exact cF [(9,iv (k+1)),(8,iv n),(7,.slice (some ⟨b,off,none⟩) n c),(3,pt r),(2,pt j),(0,.func (.yield l) #[] #[])] (Oa (n - (k+1)) aA ⟨k+1,aA,rfl,rfl,rfl,rfl,by rw[Qv B d]⟩)
 .
  refine aW ?_;refine Iw (Hs:=[J (((order.take k).filter (uL fr f)).length)]) (.inr rfl) rfl fun z st=>?_;obtain⟨G,o,x⟩:=st.turns U (by simp[nt]) (i:=0) rfl;rw[yE aA] at o;exact⟨⟨_,rfl⟩,G,x,.inl (by simpa[zQ,fF] using o)⟩
end
section
attribute [local irreducible] KC KI KQ
def aLR(pr msg i v:Int):Value:=.agg #[iv pr,iv msg,.int .u32 i,.int .u32 v]
def Bf(pr msg:Int)(val:Nat->Int)(c:List Nat):List (List Value):=c.map fun(i:Nat)=>[aLR pr msg i (val i)]
def Rr(p:Piece)(e:FuncId)(c:List Value)(f:List Nat)(val:Nat->Int):Prop:=∀i∈f,∀d,p.Le (all d)->Cz e (Value.int .i64 (i:Int)::c).toArray d (Rt (.int .u32 (val i)) d)
def Piece.Le.trans'{p q r:Piece}(h:p.Le q)(k:q.Le r):p.Le r:=fun b c=>⟨(k b (h b c).1).1,(k b (h b c).1).2.trans (h b c).2⟩
def Rr.le{p q:Piece}{d:FuncId}{c:List Value}{e:List Nat}{val:Nat->Int}(h:Rr p d c e val)(hl:p.Le q):Rr q d c e val:=fun i j f k=>h i j f (hl.trans' k)
def uI{q:Piece}{g o:Nat}{t:TypeId}{cs:List Value}{v:Value}(h:∃F,(HP.aK g t cs).sat F q.w/\∀b,F b->q.Z b)(e:cs[o]? =some v):RP q g o v:=by
 obtain⟨F,c,d⟩:=h;refine⟨d g c.1,?_⟩
 have:vE q.w g t cs.toArray:=c.2
 rw[this.cell]
 simpa using e
def aWq(i v:Int)(g:Nat)(w:World)(h:iD w g 0 (.int .u32 v)):Cz 273 #[iv i,pt g] w (Rt (.int .u32 v) w):=by
 refine fP func273 ntmps273 ?_;refine aF ?_;exact bK (h:=fun _ _=>rfl)
def Xf(v:Int)(y:Value)(w w':World):Prop:=∃g,y=.func (.func 273) #[] #[pt g]/\∀q,(fresh w w').Le q->∀c,Rr q 273 [pt g] c fun _=>v
def aAl(v:Int)(w:World):Cz 268 #[.int .u32 v] w (fun y w'=>(∃x,y=.returned x/\Xf v x w w')/\Below w.heap.size w w'):=by
 refine fP func268 ntmps268 ?_;refine aD ?_;refine eI fun e=>?_;refine aD ?_;refine lH (vf:=[]) (vc:=[pt e]) rfl rfl aE ?_;refine aD ?_;refine dX [] [0] [] fun q h _ c=>?_;refine Ai fun l st=>⟨⟨_,rfl,e,rfl,fun n j k i m=>?_⟩,st.below aB⟩
 have f:=(uI (o:=0) (v:=.int .u32 v) (h 0 _ aB rfl) rfl).le ((st.oA aB (c aB aB)).trans' j)
 intro w' d
 have:=f.le d
 exact aWq _ v e w' this
def Sc(p0:Piece)(c:List Nat)(y:Value)(w w':World):Prop:=∃f d e,y=.func (.func 272) #[] #[pt f,pt d,pt e]/\∀q,p0.Le q->(fresh w w').Le q->Iter Tryz.prog 272 [pt f,pt d,pt e] (zQ c) q
def Ud(p0:Piece)(n d j c ct G:Nat)(A p l:Option Addr)(order:List Nat)(fr k:List Bool)(w:World)
  (hs:aO p0 1 A n (aU (eD order))) (J:n=order.length) (F:(n:Int)<=9223372036854775806) (m:aO p0 1 p d (bO k)) (B:d=k.length) (C:aO p0 1 l j (bO fr)) (o:j=fr.length) (h:∀i∈order,(i:Int)<=9223372036854775807):
  Cz 267 #[.slice A n c,.slice l j G,.slice p d ct] w (fun y w'=>(∃x,y=.returned x/\Sc p0 (fF order fr k) x w w')/\Below w.heap.size w w'):=by
 refine fP func267 ntmps267 ?_;refine aD ?_;refine eI fun E=>?_;refine eI fun z=>?_;refine eI fun D=>?_;refine aD ?_;refine lH (vf:=[]) (vc:=[pt E,pt D,pt z]) rfl rfl aE ?_;refine aD ?_;refine dX [] [0,1,2] [] fun q t _ r=>?_;refine Ai fun K st=>⟨⟨_,rfl,E,D,z,rfl,fun I f H=>?_⟩,st.below aB⟩
 have e:=(st.oA aB (r aB aB)).trans' H
 exact aQS I E D z n d j c ct G A p l order fr k ((uI (t 2 _ aB rfl) rfl).le e) ((uI (t 0 _ aB rfl) rfl).le e) ((uI (t 1 _ aB rfl) rfl).le e) (hs.le f) J F (m.le f) B (C.le f) o h
def aNS(p:Piece)(N x y w:Nat)(gf m:FuncId)(lb j:List Value)(pr msg:Int)(val:Nat->Int)(c:List Nat)(r:RP p N 0 (.func (.func gf) #[] lb.toArray))(o:RP p x 0 (iv pr))(h3:RP p y 0 (iv msg))(U:RP p w 0 (.func (.func m) #[] j.toArray))
  (M:Iter Tryz.prog gf lb (zQ c) p) (I:fW Tryz.prog gf=true) (K:fW Tryz.prog m=true) (A:Rr p m j c val) (z:∀i∈c,i < 4294967296):
  Iter Tryz.prog 271 [pt N,pt x,pt y,pt w] (Bf pr msg val c) p:=by
 unfold Iter;intro l J R W F hp hd Y O Z;refine Gg (vs:=[.func (.yield l) #[] #[],pt N,pt x,pt y,pt w]) func271 rfl ntmps271 aB (aA4 hp hd Y O) ?_;refine aW ?_;refine eI fun n=>?_;refine aW ?_;refine iF (r.rd aB) ?_;refine lV ?_;refine lE ?_;refine cF [(7,.func (.func gf) #[] lb.toArray),(5,pt n),(4,pt w),(3,pt y),(2,pt x)] ?_;refine aW ?_
 refine Ln (gf:=gf) (lb:=lb) (encs:=zQ c) (p:=p) rfl I M aB (fun t d=>?_) aE (fun k=>[HP.aK n 369 [.func (.yield l) #[] #[]],J k]) (fun k=>[HP.aK n 369 [.func (.yield l) #[] #[]],R k])
  (fun k t e1 V=>e1=[(6,t.headD (.tuple #[])),(5,pt n),(4,pt w),(3,pt y),(2,pt x)]/\V=[HP.aK n 369 [.func (.yield l) #[] #[]],J k]) rfl ?_ ?_ ?_ ?_
 .simp only[zQ,fR] at d;obtain⟨i,_,rfl⟩:=d;rfl
 .
  intro l2 k t W1 q X d C
  obtain⟨i,H,rfl⟩:∃i,c[k]? =some i/\t=[iv (i:Int)]:=by
   simp only[zQ,eO,kS] at d;obtain⟨i,h,e⟩:=d;exact⟨i,h,e.symm⟩
  refine rL aJ ?_;refine kC rfl aE ?_;refine lV ?_;refine cF [(6,iv (i:Int)),(5,pt n),(4,pt w),(3,pt y),(2,pt x)] ?_;exact Lp ⟨rfl,rfl⟩
 .
  rintro l2 k t W1 q X _ _ d C ⟨rfl,rfl⟩
  obtain⟨i,B,rfl⟩:∃i,c[k]? =some i/\t=[iv (i:Int)]:=by
   simp only[zQ,eO,kS] at d;obtain⟨i,h,e⟩:=d;exact⟨i,h,e.symm⟩
  have H:=dJ B
  have hib:=z i H
  dsimp only[dW,dG,List.headD_cons];refine Lo ?_;refine qX ?_;refine aFX 9 aJ aJ ?_;simp only[Fe,Po,Mn,List.drop_zero];refine iQ 0 rfl rfl rfl (vW aJ rfl (Rd.aK 0 rfl rfl)) ?_;refine iQ 1 rfl rfl rfl (vW aJ rfl (o.rd aB)) ?_;refine iQ 2 rfl rfl rfl (vW aJ rfl (h3.rd aB)) ?_;refine iQ 3 rfl rfl rfl (rI rfl) ?_;refine iQ 4 rfl rfl rfl (Nt (ds:=.int .i64) aJ aJ rfl (wrap_u32 aA)) ?_;refine iQ 5 rfl rfl rfl (vW aJ rfl (U.rd aB)) ?_;refine iQ 6 rfl rfl rfl (rI rfl) ?_;refine dB 7 ?_;refine Ct (f:=m) (fi:=[]) (ca:=j) K rfl rfl aE (fun G st=>A i H G (st.le aB)) ?_;refine qH ?_;refine iQ 8 rfl rfl rfl (Im (zs:=[iv 0,iv 0,.int .u32 0,.int .u32 0]) (L:=[(0,1),(1,1),(2,1),(3,1)]) (sD aJ) aJ rfl (by simp[mR,qQ,Value.cells];rfl)) ?_;refine kV ?_;refine aW ?_;refine Wq 1 rfl rfl aE (by simp:nt W F∈[p,nt W F,q]) C rfl (fun W2 F2 r o h3=>Z k _ W2 F2 (by simp[Bf,B];rfl) r o h3) ?_ ?_
  .refine aW ?_;exact oX
  .refine aW ?_;exact Iy
 .
  intro D;refine aW ?_;refine Iw (Hs:=[HP.aK n 369 [.func (.yield l) #[] #[]],J (zQ c).length]) (.inr rfl) rfl fun G st=>?_;obtain⟨E,r,o⟩:=st.turns O (by simp[nt]) (i:=1) rfl;exact⟨⟨_,rfl⟩,E,o,.inl (by simpa[zQ,Bf] using r)⟩
 .intro D k T;refine aW ?_;refine Iw (Hs:=[HP.aK n 369 [.func (.yield l) #[] #[]],R (k+1)]) (.inl rfl) rfl fun G st=>?_;obtain⟨E,r,o⟩:=st.turns O (by simp[nt]) (i:=1) rfl;exact⟨⟨_,rfl⟩,E,o,.inr ⟨k,by simpa[zQ,Bf] using T,r⟩⟩
def Rv(p0:Piece)(encs:List (List Value))(y:Value)(w w':World):Prop:=∃f c d e,y=.func (.func 271) #[] #[pt f,pt c,pt d,pt e]/\∀q,p0.Le q->(fresh w w').Le q->Iter Tryz.prog 271 [pt f,pt c,pt d,pt e] encs q
def Sw(p0:Piece)(gf e:FuncId)(lb c:List Value)(pr msg:Int)(val:Nat->Int)(d:List Nat)(w:World)(p:Iter Tryz.prog gf lb (zQ d) p0)(t:fW Tryz.prog gf=true)(A:fW Tryz.prog e=true)(j:Rr p0 e c d val)(h:∀i∈d,i < 4294967296):
  Cz 266 #[.func (.func gf) #[] lb.toArray,iv pr,iv msg,.func (.func e) #[] c.toArray] w (fun y w'=>(∃x,y=.returned x/\Rv p0 (Bf pr msg val d) x w w')/\Below w.heap.size w w'):=by
 refine fP func266 ntmps266 ?_;refine aD ?_;refine eI fun z=>?_;refine eI fun o=>?_;refine eI fun r=>?_;refine eI fun n=>?_;refine aD ?_;refine lH (vf:=[]) (vc:=[pt z,pt o,pt r,pt n]) rfl rfl aE ?_;refine aD ?_;refine dX [] [0,1,2,3] [] fun q l _ m=>?_;refine Ai fun D st=>⟨⟨_,rfl,z,o,r,n,rfl,fun B k C=>?_⟩,st.below aB⟩
 have f:=(st.oA aB (m aB aB)).trans' C
 exact aNS B z o r n gf e lb c pr msg val d ((uI (l 3 _ aB rfl) rfl).le f) ((uI (l 2 _ aB rfl) rfl).le f) ((uI (l 1 _ aB rfl) rfl).le f) ((uI (l 0 _ aB rfl) rfl).le f) (p.le k) t A (j.le k) h
end
variable{R R0:List Piece}
section
attribute [local irreducible] KC KI KQ
structure eJ where
 pr:Int
 msg:Int
 id:Int
 v:Int
def eJ.cells(s:eJ):List Value:=[iv s.pr,iv s.msg,.int .u32 s.id,.int .u32 s.v]
def vH(s:eJ):Value:=.agg s.cells.toArray
def rP(l:List eJ):List (List Value):=l.map fun s=>[vH s]
def kY(pr msg:Int)(val:Nat->Int)(c:List Nat):List eJ:=c.map fun(i:Nat)=>⟨pr,msg,i,val i⟩
def Sz(pr msg:Int)(val:Nat->Int)(c:List Nat):Bf pr msg val c=rP (kY pr msg val c):=by
 simp[Bf,rP,kY,vH,aLR,eJ.cells]
structure Ck where
 gf:FuncId
 lb:List Value
 Mg:List eJ
def Ck.fn(r:Ck):Value:=.func (.func r.gf) #[] r.lb.toArray
def Ho(rows:List Ck):List eJ:=rows.flatMap (·.Mg)
def wY(rows:List Ck)(i:Nat):Nat:=(Ho (rows.take i)).length
def aQ6{rows:List Ck}{i:Nat}{r:Ck}(h:rows[i]? =some r):wY rows (i+1)=wY rows i+r.Mg.length:=by
 simp[wY,Ho,vK,h]
def aIu{rows:List Ck}{i k:Nat}{r:Ck}{s:eJ}(h:rows[i]? =some r)(hs:r.Mg[k]? =some s):(Ho rows)[wY rows i+k]? =some s:=by
 have c:=(cE.1 h).1
 have f:=(cE.1 h).2
 have j:rows=rows.take i++r::rows.drop (i+1):=by
  rw[<-f,List.getElem_cons_drop c,Ye]
 have e:Ho rows=Ho (rows.take i)++(r.Mg++Ho (rows.drop (i+1))):=by
  conv=>lhs;rw[j]
  simp[Ho]
 have d:=(cE.1 hs).1
 rw[e,wY,nA aA,Pm,pL d];exact hs
def aQ7{rows:List Ck}{i:Nat}(h:rows.length<=i):wY rows i=(Ho rows).length:=by rw[wY,yE h]
def aW1(p:Piece)(N n c:Nat)(A:Option Addr)(rows:List Ck)(j:RP p N 0 (.slice A n c))(hs:aO p 1 A n (rows.map Ck.fn))(hn:n=rows.length)(hn2:(n:Int)<=1000000)
  (o:∀r∈rows,fW Tryz.prog r.gf=true/\Iter Tryz.prog r.gf r.lb (rP r.Mg) p):
  Iter Tryz.prog 270 [pt N] (rP (Ho rows)) p:=by
 unfold Iter;intro l J U W F hp hd hJ O hY;refine Gg (vs:=[.func (.yield l) #[] #[],pt N]) func270 rfl ntmps270 aB (aA4 hp hd hJ O) ?_;refine aW ?_;refine eI fun f=>?_;refine aW ?_;refine iF (j.rd aB) ?_;refine Ou (el:=359) aJ rfl aE ?_;refine jP rfl aE ?_;refine lV ?_;refine lE ?_;refine cF [(8,iv 0),(7,iv n),(6,.slice A n c),(2,pt f)] ?_;refine aW ?_;refine aA0 (fun m L e R H=>∃i:Nat,i<=n/\m=n - i/\e=[(8,iv i),(7,iv n),(6,.slice A n c),(2,pt f)]/\R=[p,nt W F]/\H=[HP.aK f 369 [.func (.yield l) #[] #[]],J (wY rows i),sC L]) n ⟨0,aA,rfl,rfl,rfl,rfl⟩ fun m L e R H hI=>?_;obtain⟨i,hi,rfl,rfl,rfl,rfl⟩:=hI;refine aW ?_;refine sA rfl (fun h=>?_) (fun h=>?_)
 .
  refine aW ?_
  have G:i < rows.length:=by omega
  obtain⟨b,off,rfl,hz,hc⟩:=hs.2 aA;obtain⟨r,B⟩:∃r,rows[i]? =some r:=⟨_,cX G⟩
  obtain⟨T,M⟩:=o r (dJ B)
  have z:=aQ6 B
  refine aW ?_;refine iF (Rd.ro (p:=p) aB hz (hc i (Ck.fn r) (by simp[B]))) ?_;refine kC rfl aE ?_;refine lV ?_;refine lE ?_;refine qX ?_;refine rL aJ ?_;refine jP rfl aE ?_;refine lV ?_;refine lE ?_;refine Lo ?_;refine cF [(12,Ck.fn r),(8,iv i),(7,iv n),(6,.slice (some ⟨b,off,none⟩) n c),(2,pt f)] ?_
  refine Ln (gf:=r.gf) (lb:=r.lb) (encs:=rP r.Mg) (p:=p) rfl T M aB (fun w d=>?_) aE (fun k=>[HP.aK f 369 [.func (.yield l) #[] #[]],J (wY rows i+k)]) (fun k=>[HP.aK f 369 [.func (.yield l) #[] #[]],U (wY rows i+k)])
   (fun k w e1 V=>∃(t:Nat) (s:eJ),w=[vH s]/\e1=[(5,pt t),(2,pt f)]/\V=[HP.aK t 283 s.cells,HP.aK f 369 [.func (.yield l) #[] #[]],J (wY rows i+k)]) rfl ?_ ?_ ?_ ?_
  .simp only[rP,fR] at d;obtain⟨s,_,rfl⟩:=d;rfl
  .
   intro l2 k w W1 q X d C
   obtain⟨s,rfl⟩:∃s,w=[vH s]:=by
    simp only[rP,eO,kS] at d;obtain⟨s,_,e⟩:=d;exact⟨s,e.symm⟩
   refine aW ?_;refine eE fun t=>?_;refine uJ 0 rfl rfl rfl aJ (by simp[vH,eJ.cells,Value.cells,Value.oneCell']) (by simp[vH,eJ.cells,Value.cells]) ?_;rw[show jR [Value.int .i64 0,iv 0,.int .u32 0,.int .u32 0] 0 (vH s).cells.toList=s.cells by simp[jR,vH,eJ.cells,Value.cells]];dsimp only[List.set];refine lV ?_;refine cF [(5,pt t),(2,pt f)] ?_;exact Lp (H1:=[HP.aK t 283 s.cells,HP.aK f 369 [.func (.yield l) #[] #[]],J (wY rows i+k)]) ⟨t,s,rfl,rfl,rfl⟩
  .
   rintro l2 k w W1 q X _ _ d C ⟨t,s,rfl,rfl,rfl⟩
   have I:r.Mg[k]? =some s:=by
    simp only[rP,eO,kS] at d;obtain⟨Y,h,e⟩:=d
    have:Y=s:=by
     cases s;cases Y;simp[vH,eJ.cells] at e;simp[e]
    exact this▸h
   have x:=aIu B I
   refine aW ?_;refine Wq 2 rfl rfl aE (by simp:nt W F∈[p,nt W F,q]) C rfl (fun W2 F2 j y h3=>hY (wY rows i+k) [vH s] W2 F2 (by simp[rP,x]) j y h3) ?_ ?_
   .refine aW ?_;refine aZ [1,2,3] ?_;exact oX
   .refine aW ?_;refine aZ [1,2,3] ?_;exact Iy
  rotate_left
  .
   intro D k Z;refine aW ?_;refine Iw (Hs:=[HP.aK f 369 [.func (.yield l) #[] #[]],U (wY rows i+(k+1))]) (.inl rfl) rfl fun w1 st=>?_;obtain⟨E,j,y⟩:=st.turns O (by simp[nt]) (i:=1) rfl;obtain⟨s,K⟩:∃s,r.Mg[k]? =some s:=⟨_,cX (by simpa[rP] using Z)⟩
   have:=(cE.1 (aIu B K)).1
   exact⟨⟨_,rfl⟩,E,y,.inr ⟨wY rows i+k,by simpa[rP] using this,j⟩⟩
  intro D;refine aW ?_;exact cF [(8,iv (i+1)),(7,iv n),(6,.slice (some ⟨b,off,none⟩) n c),(2,pt f)] (Oa (n - (i+1)) aA ⟨i+1,aA,rfl,rfl,rfl,by rw[z];simp[rP]⟩)
 .
  refine aW ?_;refine Iw (Hs:=[HP.aK f 369 [.func (.yield l) #[] #[]],J (wY rows i)]) (.inr rfl) rfl fun w1 st=>?_;obtain⟨E,j,y⟩:=st.turns O (by simp[nt]) (i:=1) rfl;rw[aQ7 aA] at j;exact⟨⟨_,rfl⟩,E,y,.inl (by simpa[rP] using j)⟩
def rQ(s:aI)(d:Nat):Int:=if(s.domains[d]?.map (·.ret)).getD false then 2 else 0
def aW3(d i n2 k2:Nat)(s:aI)(A2:Option Addr)(w:World)(k:iD w i 1 (.slice A2 n2 k2))(c:kQ (gB (all w)) xX 75 3 A2 n2 s.domains)(m:(n2:Int)<=1000000)(hd:d < n2):
  Cz 269 #[iv d,pt i] w (Rt (.int .u32 (rQ s d)) w):=by
 have n:n2=s.domains.length:=by obtain⟨_,_,h,_⟩:=c;exact h
 obtain⟨x,e⟩:∃x,s.domains[d]? =some x:=⟨_,cX aA⟩
 obtain⟨b,off,r,rfl,l,rfl,f⟩:=c.row e;refine fP func269 ntmps269 ?_;refine fO ?_;refine jS ?_;refine kC rfl aE ?_;refine iJ ?_;refine fO ?_;refine fO ?_;refine jS ?_;refine Ma (off:=1) aJ rfl aE ?_;refine iF (aGg aB k) ?_;refine jP rfl aE ?_;refine kd (dat (d) (off+d*3)) ?_;refine Ma (off:=2) aJ rfl aE ?_;refine iF (aGg aB (f.at_ (j:=2) (v:=.bool x.ret) rfl)) ?_;refine iJ ?_;refine tI rfl (fun h=>?_) (fun h=>?_)
 .
  refine aF ?_;exact bK (h:=fun _ _=>by rw[rQ,e];simp[h])
 .
  refine aF ?_;exact bK (h:=fun _ _=>by rw[rQ,e];simp[h])
def aW2(p:Piece)(j n2 k2:Nat)(s:aI)(A2:Option Addr)(n:RP p j 1 (.slice A2 n2 k2))(d:kQ (gB p) xX 75 3 A2 n2 s.domains)(k:(n2:Int)<=1000000)(f:List Nat)(c:∀i∈f,i < n2):Rr p 269 [pt j] f (rQ s):=fun i m l e=>
 aW3 i j n2 k2 s A2 l (n.le e) (d.mono (lN e) (fun _ _ h=>h)) k (c i m)
end
section
open Go.RowKit Go.Shelf
attribute [local go_sem] Oper.semAt_some
structure Ev where
 kind:Int
 task:Int
 ck:Int
 dev:Int
 bF:Int
 cv:Int
 err:Int
 rv:Int
 Wg:Int
 aC1:Int
 Cg:Bool
 av:Int
 alive:Bool
 wA:Option Addr
 wc:Nat
 ws:List Int
def Ev.cells(e:Ev):List Value:=
 [.int .u8 e.kind,iv e.task,.int .u8 e.ck,iv e.dev,iv e.bF,.int .u32 e.cv,iv e.err,.int .u32 e.rv,iv e.Wg,iv e.aC1,.bool e.Cg,.int .u32 e.av,.bool e.alive,.slice e.wA e.ws.length e.wc]
theorem Xd(e:Ev):e.cells.length=14:=rfl
def aX8(w:World)(b o:Nat)(e:Ev):Prop:=∀f u,e.cells[f]? =some u->w.cell? ⟨b,o+f,none⟩=some u
def mB(e:Ev):Bool:=e.kind==100&&(e.Cg|| !e.alive)
set_option maxHeartbeats 400000 in
def aUU(b o:Nat)(e:Ev)(w:World)(h:aX8 w b o e):
    Cz 34 #[.pointer (some ⟨b,o,none⟩)] w fun x w'=>x=.returned (.bool (mB e))/\w=w':=by
  have h0:=h 0 _ rfl
  have h10:=h 10 _ rfl
  have h12:=h 12 _ rfl
  simp only[Ms] at h0;unfold mB
  by_cases hk:e.kind=100
  · have hk':(e.kind==100)=true:=by simpa using hk
    clear hk
    by_cases hd:e.Cg=true
    · go_enter func34,ntmps34
      go_wp2
      go_ret
      simp[*]
    · go_enter func34,ntmps34
      go_wp2
      go_ret
      simp[*]
  · have hk':(e.kind==100)=false:=by simpa using hk
    clear hk
    go_enter func34,ntmps34
    go_wp2
    go_ret
    simp[*]
def eB(zs:List Int):List Value:=zs.map (Value.int .u32)
def aM3(w:World)(B:Nat)(e:Ev):Prop:=Sl w B 1 e.wA e.ws.length (eB e.ws)
def Gs(w:World)(B:Nat)(A:Option Addr)(aM:List Ev):Prop:=Sl w B 14 A aM.length (aM.flatMap Ev.cells)/\∀e∈aM,aM3 w B e
end
section
variable{P:Program}
def aAW{t el:TypeId}(c:P.underlying t=some (.slice el)):P.underlying t=some (.slice (P.elem t)):=by
 unfold Program.elem;rw[c]
def elem_eq{t el:TypeId}(c:P.underlying t=some (.slice el)):P.elem t=el:=by unfold Program.elem;rw[c]
def aOE{t el:TypeId}{sz n c k:Nat}{A:Option Addr}{kd:IntKind}(e:P.underlying t=some (.slice el))(d:(P.info? el).map (·.size)=some sz)(hk:k<=c)(w:World):
  ∃A',(0 < k->(∃b off,A=some ⟨b,off,none⟩)->A'=A)/\(Instr.sliceAt t (.slice A n c) none (some (.int kd (k:Int))) none).run P w=.ok (.slice A' k c) w:=by
 obtain⟨i,h,j⟩:=kS.1 d
 have f:=elem_eq e
 refine⟨_,?_,by rw[run_sliceAt_slice w t _ _ _ _ (aAW e),run_slice_h w t A n c (aAW e) kd k aA aA,f];simp[sizeOf,typeInfo,h,sliced];rfl⟩;rintro l ⟨b,off,rfl⟩;split
 .rfl
 .simp[Addr.add]
def aOD{t el:TypeId}{sz n c k:Nat}{A:Option Addr}{kd:IntKind}(e:P.underlying t=some (.slice el))(d:(P.info? el).map (·.size)=some sz)(hk:k<=n)(l:n<=c)(w:World):
  ∃A',(k < n->∀b off,A=some ⟨b,off,none⟩->A'=some ⟨b,off+k*sz,none⟩)/\(Instr.sliceAt t (.slice A n c) (some (.int kd (k:Int))) none none).run P w=.ok (.slice A' (n - k) (c - k)) w:=by
 obtain⟨i,j,h⟩:=kS.1 d
 have f:=elem_eq e
 refine⟨_,?_,by rw[run_sliceAt_slice w t _ _ _ _ (aAW e),run_slice_l w t A n c (aAW e) kd k aA aA,f];simp[sizeOf,typeInfo,j,sliced];rfl⟩;rintro m b off rfl;rw[aC aA];simp[Addr.add,h]
def aCY(k:Nat){x hi:Operand}{t el:TypeId}{sz n c:Nat}{A:Option Addr}{kd:IntKind}{j:Int}(p:P.underlying t=some (.slice el))(h:(P.info? el).map (·.size)=some sz)(hx:e.ev x=some (.slice A n c))(i:e.ev hi=some (.int kd j))(hj:j=(k:Int))(hk:k<=c)(hd:d < N.n)
  (o:∀A',(0 < k->(∃b off,A=some ⟨b,off,none⟩)->A'=A)->XK N w0 (wpList P ops Q rest) ((d,.slice A' k c)::e) R H):XK N w0 (wpList P ops Q (⟨some d,.slice t x none (some hi) none,ty,pos,aN,none⟩::rest)) e R H:=
 vF rfl fun a w f st=>by
  subst hj;obtain⟨A',m,l⟩:=aOE (P:=P) (kd:=kd) p h hk w (n:=n) (A:=A);exact⟨_,w,by simp only[execOp,f.ev hx,lO,Option.map_none,f.ev i,Sem.run_bind,l,Result.andThen_ok,Sem.run_pure],o A' m _ _ (f.put hd _) st⟩
def aCX(k:Nat){x lo:Operand}{t el:TypeId}{sz n c:Nat}{A:Option Addr}{kd:IntKind}{j:Int}(r:P.underlying t=some (.slice el))(h:(P.info? el).map (·.size)=some sz)(hx:e.ev x=some (.slice A n c))(l:e.ev lo=some (.int kd j))(hj:j=(k:Int))(hk:k<=n)(i:n<=c)(hd:d < N.n)
  (p:∀A',(k < n->∀b off,A=some ⟨b,off,none⟩->A'=some ⟨b,off+k*sz,none⟩)->XK N w0 (wpList P ops Q rest) ((d,.slice A' (n - k) (c - k))::e) R H):XK N w0 (wpList P ops Q (⟨some d,.slice t x (some lo) none none,ty,pos,aN,none⟩::rest)) e R H:=
 vF rfl fun a w f st=>by
  subst hj;obtain⟨A',o,m⟩:=aOD (P:=P) (kd:=kd) r h hk i w (A:=A);exact⟨_,w,by simp only[execOp,f.ev hx,lO,Option.map_none,f.ev l,Sem.run_bind,m,Result.andThen_ok,Sem.run_pure],p A' o _ _ (f.put hd _) st⟩
end
def aO.aAU{p:Piece}{sz n k:Nat}{A A':Option Addr}{xs:List Value}(h:aO p sz A n xs)(hk:k<=n)(f:0 < k->(∃b off,A=some ⟨b,off,none⟩)->A'=A):aO p sz A' k (xs.take (k*sz)):=by
 refine⟨by rw[pX,h.1];exact Tm (Mo _ hk),fun l=>?_⟩;obtain⟨b,off,c,i,e⟩:=h.2 aA;refine⟨b,off,by rw[f l ⟨b,off,c⟩,c],i,fun j u d=>e j u ?_⟩;rw[Ka] at d;split at d
 .exact d
 .cases d
def Er(p:Piece)(A:Option Addr)(aM:List Ev):Prop:=aO p 14 A aM.length (aM.flatMap Ev.cells)
def Er.le{p q:Piece}{A:Option Addr}{aM:List Ev}(h:Er p A aM)(hl:p.Le q):Er q A aM:=aO.le h hl
def Er.ev{p:Piece}{b off:Nat}{aM:List Ev}(h:Er p (some ⟨b,off,none⟩) aM){k:Nat}{x:Ev}(hk:aM[k]? =some x):p.Z b/\∀f u,x.cells[f]? =some u->p.w.cell? ⟨b,off+k*14+f,none⟩=some u:=by
 have c:=(cE.1 hk).1
 obtain⟨n,e,l,m,j⟩:=aO.at_ h c;cases l;refine⟨m,fun f u d=>j f u ?_⟩
 have i:f < 14:=by
  rw[<-Xd x];rcases dI f x.cells.length with h | h
  .exact h
  .rw[eW h] at d;cases d
 rw[Nh Ev.cells 14 aM (fun _ _=>Xd _) k f x hk i,d]
def gO(l:List (Int×Int))(k:Int):Int:=((l.find? fun p=>decide (p.1=k)).map (·.2)).getD 0
def Db:List (Int×Int)->Int->Int->List (Int×Int)
 | [],k,v=>[(k,v)]
 | (a,b)::r,k,v=>if a=k then(k,v)::r else(a,b)::Db r k v
def zW(l:List (Int×Int)):List (Int×Value):=l.map fun p=>(p.1,iv p.2)
def aIC:∀(l:List (Int×Int)) (k:Int),(pM (zW l) k).getD (iv 0)=iv (gO l k)
 | [],k=>rfl
 | (a, b) :: l, k => by
  have ih:=aIC l k
  show(pM ((a,iv b)::zW l) k).getD _=_
  rw[Ue];unfold gO;rw[List.find?_cons]
  by_cases h:a=k
  .simp[h]
  .simp only[h,if_false,decide_false,Pt];exact ih
def aI5:∀(l:List (Int×Int)) (k v:Int),rH (zW l) k (iv v)=zW (Db l k v)
 | [],k,v=>rfl
 | (a,b)::l,k,v=>by
  show rH ((a,iv b)::zW l) k _=zW (if a=k then _ else _)
  unfold rH
  by_cases h:a=k
  .rw[aH h,aH h];rfl
  .rw[aC h,aC h,aI5 l k v];rfl
section
open Go.RowKit Go.Shelf
attribute [local go_sem] Oper.semAt_some
structure Rp where
 begun:Int
 ended:Int
 errs:Int
 zV:Int
 dead:Int
 sent:Int
 Hp:Int
def Rp.cells(r:Rp):Array Value:=#[iv r.begun,iv r.ended,iv r.errs,iv r.zV,iv r.dead,iv r.sent,iv r.Hp]
def Rp.zero:Rp:=⟨0,0,0,0,0,0,0⟩
def Rp.step(r:Rp)(e:Ev):Rp:=
 if e.kind=98 then {r with begun:=r.begun+1}
 else if e.kind=101 then(if e.err=0 then {r with ended:=r.ended+1} else {r with ended:=r.ended+1,errs:=r.errs+1})
 else if e.kind=100 then(if mB e then {r with zV:=r.zV+1,dead:=r.dead+1} else {r with zV:=r.zV+1})
 else if e.kind=115 then {r with sent:=r.sent+1}
 else if e.kind=114 then {r with Hp:=r.Hp+1}
 else r
def gG(l:List Ev):Rp:=l.foldl Rp.step Rp.zero
def aR6(l:List Ev)(e:Ev):gG (l++[e])=(gG l).step e:=by simp[gG]
def Rp.le(r:Rp)(n:Int):Prop:=(0<=r.begun/\r.begun<=n)/\(0<=r.ended/\r.ended<=n)/\(0<=r.errs/\r.errs<=n)/\(0<=r.zV/\r.zV<=n)/\(0<=r.dead/\r.dead<=n)/\(0<=r.sent/\r.sent<=n)/\(0<=r.Hp/\r.Hp<=n)
def aXx{r:Rp}{n:Int}(h:r.le n)(e:Ev):(r.step e).le (n+1):=by
 unfold Rp.le at *;unfold Rp.step
 repeat' split
 all_goals((try dsimp only);omega)
def Yy(l:List Ev):(gG l).le l.length:=by
 have:∀(l:List Ev) (r:Rp) (n:Nat),r.le n->(l.foldl Rp.step r).le ((l.length+n:Nat)):=by
  intro l
  induction l with
  | nil=>intro r n h;simpa using h
  | cons e l ih=>
   intro r n h
   have:=ih (r.step e) (n+1) (by simpa using aXx h e)
   rw[pW,mK,show l.length+1+n=l.length+(n+1) by omega];exact this
 simpa[gG] using this l Rp.zero 0 (by unfold Rp.le Rp.zero;simp)
def wQ(aM:List Ev):Int:=match aM.findIdx? mB with | some k=>(k:Int) | none=> -1
def aH1{aM:List Ev}(h:∀e∈aM,mB e=false):wQ aM= -1:=by
 unfold wQ;rw[List.findIdx?_eq_none_iff.2 h]
def aH0{aM:List Ev}{k:Nat}(hk:k < aM.length)(hd:mB aM[k]=true)(h:∀j,(hj:j < k)->mB aM[j]=false):wQ aM=k:=by
 unfold wQ;rw[List.findIdx?_eq_some_iff_getElem.2 ⟨hk,hd,fun j hj=>by simp[h j hj]⟩]
end
section
open Go.RowKit Go.Shelf
attribute [local go_sem] Oper.semAt_some
def gD(e:Ev):Bool:=(e.kind==98||e.kind==101)&&decide (0<=e.task/\e.task < 3)
end
section
attribute [local irreducible] KC KI KQ
def rT(b off i:Nat):Value:=.pointer (some ⟨b,off+i*14,none⟩)
def jZ(b off:Nat)(c:List Nat):List (List Value):=c.map fun(i:Nat)=>[iv (i:Int),rT b off i]
def Ut{b off k:Nat}{c:List Nat}{vs:List Value}(h:(jZ b off c)[k]? =some vs):∃i,c[k]? =some i/\vs=[iv (i:Int),rT b off i]:=by
 simp only[jZ,eO,kS] at h;obtain⟨i,h,e⟩:=h;exact⟨i,h,e.symm⟩
def mH(aM:List Ev)(i:Nat):Bool:=(aM[i]?.map gD).getD false
def jK(aM:List Ev):List Nat:=(List.range aM.length).filter (mH aM)
def aTH(p:Piece)(j b off n c:Nat)(A:Option Addr)(I:0 < n->A=some ⟨b,off,none⟩)(f:RP p j 0 (.slice A n c))(K:(n:Int)<=9223372036854775807):
  Iter Tryz.prog 53 [pt j] (jZ b off (List.range n)) p:=by
 unfold Iter;intro l J w W F D hd y t z;refine Gg (vs:=[.func (.yield l) #[] #[],pt j]) func53 rfl ntmps53 aB (aA4 D hd y t) ?_;refine aW ?_;refine iF (f.rd aB) ?_;refine Ou (el:=52) aJ rfl aE ?_;refine jP rfl aE ?_;refine lV ?_;refine lE ?_;refine cF [(6,iv 0),(5,iv n),(1,pt j),(0,.func (.yield l) #[] #[])] ?_;refine aW ?_;refine aA0 (fun m L e R H=>∃k:Nat,k<=n/\m=n - k/\L=[]/\e=[(6,iv k),(5,iv n),(1,pt j),(0,.func (.yield l) #[] #[])]/\R=[p,nt W F]/\H=[J k,sC []]) n ⟨0,aA,rfl,rfl,rfl,rfl,rfl⟩ fun m L e R H C=>?_;obtain⟨k,M,rfl,rfl,rfl,rfl,rfl⟩:=C;refine aW ?_;refine sA rfl (fun h=>?_) (fun h=>?_)
 .
  refine aW ?_
  have d:k < n:=by omega
  obtain rfl:=I aA;refine aW ?_;refine iF (f.rd aB) ?_;refine aW ?_;refine Wq 0 rfl rfl aE (by simp:nt W F∈[p,nt W F]) (yV.refl W) rfl (fun B E f o G=>z k _ B E (by simp[jZ,d];rfl) f o G) ?_ ?_
  rotate_left
  .
   refine aW ?_;refine Iw (Hs:=[w (k+1)]) (.inl rfl) rfl fun x st=>?_;obtain⟨r,f,o⟩:=st.turns t (by simp[nt]) (i:=0) rfl;exact⟨⟨_,rfl⟩,r,o,.inr ⟨k,by simpa[jZ] using d,f⟩⟩
  refine aW ?_
  .skip
   refine aW ?_;exact cF [(6,iv (k+1)),(5,iv n),(1,pt j),(0,.func (.yield l) #[] #[])] (Oa (n - (k+1)) aA ⟨k+1,aA,rfl,rfl,rfl,rfl,rfl⟩)
 .
  refine aW ?_
  have d:k=n:=by omega
  subst d;refine Iw (Hs:=[J k]) (.inr rfl) rfl fun x st=>?_;obtain⟨r,f,o⟩:=st.turns t (by simp[nt]) (i:=0) rfl;exact⟨⟨_,rfl⟩,r,o,.inl (by simpa[jZ] using f)⟩
def aA9(A:Option Addr)(n:Nat)(y:Value)(w w':World):Prop:=∃g,y=.func (.func 53) #[] #[pt g]/\∀q,(fresh w w').Le q->∀b off,(0 < n->A=some ⟨b,off,none⟩)->Iter Tryz.prog 53 [pt g] (jZ b off (List.range n)) q
def aCa(A:Option Addr)(n c:Nat)(w:World)(f:(n:Int)<=9223372036854775807):Cz 33 #[.slice A n c] w (fun y w'=>(∃x,y=.returned x/\aA9 A n x w w')/\Below w.heap.size w w'):=by
 refine fP func33 ntmps33 ?_;refine aD ?_;refine eI fun e=>?_;refine aD ?_;refine lH (vf:=[]) (vc:=[pt e]) rfl rfl aE ?_;refine aD ?_;refine dX [] [0] [] fun q h _ d=>?_;refine Ai fun l st=>⟨⟨_,rfl,e,rfl,fun j k b off i=>?_⟩,st.below aB⟩
 exact aTH j e b off n c A i ((uI (o:=0) (v:=.slice A n c) (h 0 _ aB rfl) rfl).le ((st.oA aB (d aB aB)).trans' k)) f
def aVB(p:Piece)(Y b off n c:Nat)(A:Option Addr)(aM:List Ev)(I:n=aM.length)(hA:0 < n->A=some ⟨b,off,none⟩)(y:RP p Y 0 (.slice A n c))(hs:Er p A aM)(hn2:(n:Int)<=9223372036854775807):
  Iter Tryz.prog 56 [pt Y] (jZ b off (jK aM)) p:=by
 unfold Iter;intro l J K W F hp hd hJ Z hY;refine Gg (vs:=[.func (.yield l) #[] #[],pt Y]) func56 rfl ntmps56 aB (aA4 hp hd hJ Z) ?_;refine aW ?_;refine eI fun z=>?_;refine aW ?_;refine iF (y.rd aB) ?_;refine jL [] (aA9 A n) (fun L st=>aCa A n c L hn2) ?_;rintro _ L M ⟨g3,rfl,C⟩ hf _ _
 have U:=C M hf b off hA
 clear C hf;refine lV ?_;refine lE ?_;refine Lo ?_;refine cF [(6,.func (.func 53) #[] #[pt g3]),(2,pt z)] ?_
 refine Ln (gf:=53) (lb:=[pt g3]) (encs:=jZ b off (List.range n)) (p:=M) rfl aJ U aB (fun N r=>?_) aE (fun k=>[HP.aK z 153 [.func (.yield l) #[] #[]],J (((List.range n).take k).filter (mH aM)).length]) (fun _=>[HP.aK z 153 [.func (.yield l) #[] #[]],HP.ex fun i:Fin (jK aM).length=>K (i.1+1)])
  (fun k N e1 H1=>∃i:Nat,(List.range n)[k]? =some i/\e1=[(4,rT b off i),(3,iv (i:Int)),(2,pt z)]/\H1=[HP.aK z 153 [.func (.yield l) #[] #[]],J (((List.range n).take k).filter (mH aM)).length]) rfl ?_ ?_ ?_ ?_
 .simp only[jZ,fR] at r;obtain⟨i,_,rfl⟩:=r;rfl
 .
  intro l2 k N W1 q X r G;obtain⟨i,j,rfl⟩:=Ut r;dsimp only[It,dW,dG];refine qX ?_;refine rL aJ ?_;refine kC rfl aE ?_;refine lV ?_;refine lE ?_;refine rL aJ ?_;refine kC rfl aE ?_;refine lV ?_;refine lE ?_;refine cF [(4,rT b off i),(3,iv (i:Int)),(2,pt z)] ?_;exact Lp (H1:=[HP.aK z 153 [.func (.yield l) #[] #[]],J (((List.range n).take k).filter (mH aM)).length]) ⟨i,j,rfl,rfl⟩
 .
  rintro l2 k N W1 q X _ _ r G ⟨i,j,rfl,rfl⟩
  have hin:i < n:=mI.1 (dJ j)
  obtain rfl:=hA aA;obtain⟨x,m⟩:∃x,aM[i]? =some x:=⟨_,cX aA⟩
  obtain⟨H,o⟩:=hs.ev m;dsimp only[dW,dG,rT];refine aW ?_;refine iF (Rd.ro (p:=p) aB H (o 0 _ rfl)) ?_;refine aW ?_;refine cH (t:=14) rfl (fun B=>?_) (fun B=>?_)
  .
   refine aW ?_;refine iF (Rd.ro (p:=p) aB H (o 0 _ rfl)) ?_;refine aW ?_;refine sA rfl (fun h=>?_) (fun h=>?_)
   .
    refine aW ?_
    have d:mH aM i=false:=by simp only[mH,m,lO,tV,gD];simp_all;try (intros;omega)
    have e:=Qv j d
    refine aZ [0,1,2] ?_;rw[<-e];exact oX
   .
    refine aW ?_;refine iF (Rd.ro (p:=p) aB H (o 1 _ rfl)) ?_;refine aW ?_;refine cH (t:=26) rfl (fun B=>?_) (fun B=>?_)
    .
     refine aW ?_;refine iF (Rd.ro (p:=p) aB H (o 1 _ rfl)) ?_;refine aW ?_;refine cH (t:=33) rfl (fun B=>?_) (fun B=>?_)
     .
      refine aW ?_
      have d:mH aM i=true:=by simp only[mH,m,lO,tV,gD,jY,yD,beq_iff_eq,decide_eq_true_eq];simp_all
      obtain⟨w,e⟩:=aFc j d;refine aFU rfl rfl ?_;refine Wq 1 rfl rfl aE (by simp:nt W F∈[M,p,nt W F,q]) G rfl (fun V T y E R=>hY _ [iv (i:Int),rT b off i] V T (by rw[jZ,eO,jK,<-I,w];rfl) y E R) ?_ ?_
      .refine aW ?_;rw[<-e];exact oX
      .refine aW ?_;rw[<-e];refine wB 1 (f:=fun i:Fin (jK aM).length=>K (i.1+1)) ⟨_,by rw[jK,<-I];exact(cE.1 w).1⟩ (by rw[e];rfl) ?_;refine aW ?_;exact Iy
     .
      refine aW ?_
      have d:mH aM i=false:=by simp only[mH,m,lO,tV,gD];simp_all;try (intros;omega)
      have e:=Qv j d
      refine aZ [0,1,2] ?_;rw[<-e];exact oX
    .
     refine aW ?_
     have d:mH aM i=false:=by simp only[mH,m,lO,tV,gD];simp_all;try (intros;omega)
     have e:=Qv j d
     refine aZ [0,1,2] ?_;rw[<-e];exact oX
  .
   refine aW ?_;refine iF (Rd.ro (p:=p) aB H (o 1 _ rfl)) ?_;refine aW ?_;refine cH (t:=26) rfl (fun B=>?_) (fun B=>?_)
   .
    refine aW ?_;refine iF (Rd.ro (p:=p) aB H (o 1 _ rfl)) ?_;refine aW ?_;refine cH (t:=33) rfl (fun B=>?_) (fun B=>?_)
    .
     refine aW ?_
     have d:mH aM i=true:=by simp only[mH,m,lO,tV,gD,jY,yD,beq_iff_eq,decide_eq_true_eq];simp_all
     obtain⟨w,e⟩:=aFc j d;refine aFU rfl rfl ?_;refine Wq 1 rfl rfl aE (by simp:nt W F∈[M,p,nt W F,q]) G rfl (fun V T y E R=>hY _ [iv (i:Int),rT b off i] V T (by rw[jZ,eO,jK,<-I,w];rfl) y E R) ?_ ?_
     .refine aW ?_;rw[<-e];exact oX
     .refine aW ?_;rw[<-e];refine wB 1 (f:=fun i:Fin (jK aM).length=>K (i.1+1)) ⟨_,by rw[jK,<-I];exact(cE.1 w).1⟩ (by rw[e];rfl) ?_;refine aW ?_;exact Iy
    .
     refine aW ?_
     have d:mH aM i=false:=by simp only[mH,m,lO,tV,gD];simp_all;try (intros;omega)
     have e:=Qv j d
     refine aZ [0,1,2] ?_;rw[<-e];exact oX
   .
    refine aW ?_
    have d:mH aM i=false:=by simp only[mH,m,lO,tV,gD];simp_all;try (intros;omega)
    have e:=Qv j d
    refine aZ [0,1,2] ?_;rw[<-e];exact oX
 rotate_left
 .
  intro D k hk;refine aW ?_;refine kF 1 fun i=>?_;refine Iw (Hs:=[HP.aK z 153 [.func (.yield l) #[] #[]],K (i.1+1)]) (.inl rfl) rfl fun L st=>?_;obtain⟨O,y,E⟩:=st.turns Z (by simp[nt]) (i:=1) rfl;exact⟨⟨_,rfl⟩,O,E,.inr ⟨i.1,by simpa[jZ] using i.2,y⟩⟩
 intro D;refine aW ?_;refine Iw (Hs:=[HP.aK z 153 [.func (.yield l) #[] #[]],J (((List.range n).take (jZ b off (List.range n)).length).filter (mH aM)).length]) (.inr rfl) rfl fun L st=>?_;obtain⟨O,y,E⟩:=st.turns Z (by simp[nt]) (i:=1) rfl;rw[yE (by simp[jZ])] at y;exact⟨⟨_,rfl⟩,O,E,.inl (by simpa[jZ,jK,<-I] using y)⟩
end
section
attribute [local irreducible] KC KI KQ
def Gs.eS{w:World}{A:Option Addr}{aM:List Ev}(h:Gs w w.heap.size A aM):Er (all w) A aM:=⟨h.1.1,fun d=>by
 obtain⟨b,off,e,f,c⟩:=h.1.2 d
 exact⟨b,off,e,f,c⟩⟩
def Er.base{p:Piece}{A:Option Addr}{aM:List Ev}(h:Er p A aM):∃b off,0 < aM.length->A=some ⟨b,off,none⟩:=by
 rcases zI aM.length with d | d
 .exact⟨0,0,fun h=>by omega⟩
 .obtain⟨b,off,c,_⟩:=h.2 aA;exact⟨b,off,fun _=>c⟩
def aXd{nn:Nat}{w0:World}{P:Program}{L:List Nat}{e:Env}{R:List Piece}{fn:Func}{c:Ending->World->Prop}{Hs:List HP}{t b n:Nat}{s:TypeId}{vs:List Value}(j:fn.results=#[.cell t s])(hs:Fa P s n=true)(k:vs.length=n)(l:e.get t=some (.pointer (some ⟨b,0,none⟩)))
  (f:cI w0 R Hs b 0 vs) (h:∀w,St w0 R Hs w->c (.returned (.agg vs.toArray)) w):XK ⟨nn,[]⟩ w0 (KQ L (bodyPostM Fence.wide 9 P fn c) .ret) e R (Hs++[sC L]):=fun a w d st=>by
 have:=Uo (P:=P) (fn:=fn) (tmps:=a.tmps) (v:=.agg vs.toArray) L Hs w st (fun w st=>⟨by
  have i:=Te (P:=P) hs k (f w st)
  have m:=d.get t _ l
  simp only[Instr.loadAt,Instr.sureAddr,Sem.run_bind,Sem.run_pure,Result.andThen_ok] at i;simp only[results,j]
  simp[m,asAddr,i],h w st⟩)
 unfold KQ mk;rw[d.defers];exact this
def aCJ{nn:Nat}{w0:World}{P:Program}{L:List Nat}{e:Env}{R:List Piece}{fn:Func}{c:Ending->World->Prop}{Hs:List HP}{t b:Nat}{s:TypeId}{v:Value}(j:fn.results=#[.cell t s])(hs:tC P s=true)(k:e.get t=some (.pointer (some ⟨b,0,none⟩)))
  (f:Rd w0 R Hs b 0 v) (h:∀w,St w0 R Hs w->c (.returned v) w):XK ⟨nn,[]⟩ w0 (KQ L (bodyPostM Fence.wide 9 P fn c) .ret) e R (Hs++[sC L]):=fun a w d st=>by
 have:=Uo (P:=P) (fn:=fn) (tmps:=a.tmps) (v:=v) L Hs w st (fun w st=>⟨by
  have i:=Xv (P:=P) hs (f w st)
  have l:=d.get t _ k
  simp only[Instr.loadAt,Instr.sureAddr,Sem.run_bind,Sem.run_pure,Result.andThen_ok] at i;simp only[results,j]
  simp[l,asAddr,i],h w st⟩)
 unfold KQ mk;rw[d.defers];exact this
def Gi(r:Rp):List Value:=[iv r.begun,iv r.ended,iv r.errs,iv r.zV,iv r.dead,iv r.sent,iv r.Hp]
def aR7{aM:List Ev}{k:Nat}{x:Ev}(h:aM[k]? =some x):gG (aM.take (k+1))=(gG (aM.take k)).step x:=by
 rw[vK,h,Jz,aR6]
def aKt{w0 w:World}{c:Piece}{R:List Piece}{H:List HP}{b o:Nat}{x:Ev}(hp:c∈R)(i:c.Z b)(d:∀f u,x.cells[f]? =some u->c.w.cell? ⟨b,o+f,none⟩=some u)(st:St w0 R H w):Cz 34 #[.pointer (some ⟨b,o,none⟩)] w (Rt (.bool (mB x)) w):=
 (aUU b o x w fun f u e=>Rd.ro hp i (d f u e) w st).mono fun _ _ h=>⟨h.1,by rw[h.2];exact Below.refl _ _⟩
def aDL{n k i:Nat}(h:(List.range n)[k]? =some i):i=k/\k < n:=by
 have c:=(cE.1 h).1
 rw[List.length_range] at c;rw[Hr c] at h;cases h;exact⟨rfl,c⟩
def aB9(A:Option Addr)(n c:Nat)(aM:List Ev)(w:World)(h:Gs w w.heap.size A aM)(hn:n=aM.length)(hb:n<=9223372036854775807):
  Cz 18 #[.slice A n c] w fun x w'=>x=.returned (.agg (gG aM).cells)/\Below w.heap.size w w':=by
 subst hn
 have T:=h.eS
 obtain⟨b,off,U⟩:=T.base;refine Gg (vs:=[.slice A aM.length c]) func18 rfl ntmps18 aB (St.start w) ?_;refine aW ?_;refine eE fun t=>?_;refine aW ?_;refine eE fun l=>?_;refine aW ?_;refine jL [all w] (aA9 A aM.length) (fun C st=>aCa A aM.length c C aA) ?_;rintro _ C E ⟨R,rfl,j⟩ O Lc _
 have J:=T.le (Lc (all w) aB)
 have L:=j E O b off U
 clear j O;refine aW ?_;refine cF [(7,.func (.func 53) #[] #[pt R]),(3,pt l),(2,pt t)] ?_
 refine Ln (gf:=53) (lb:=[pt R]) (encs:=jZ b off (List.range aM.length)) (p:=E) rfl aJ L aB (fun B e=>?_) aE (fun k=>[HP.aK l 55 (Gi (gG (aM.take k))),HP.aK t 55 (Gi Rp.zero)]) (fun _=>[qJ False])
  (fun k B e1 N=>∃x,aM[k]? =some x/\e1=[(5,rT b off k),(3,pt l),(2,pt t)]/\N=[HP.aK l 55 (Gi (gG (aM.take k))),HP.aK t 55 (Gi Rp.zero)]) rfl ?_ ?_ ?_ ?_
 .simp only[jZ,fR] at e;obtain⟨i,_,rfl⟩:=e;rfl
 .intro l2 k B Z q X e K;obtain⟨i,I,rfl⟩:=Ut e;obtain⟨rfl,M⟩:=aDL I;dsimp only[It,dW,dG];refine aW ?_;refine cF [(5,rT b off i),(3,pt l),(2,pt t)] ?_;exact Lp (H1:=[HP.aK l 55 (Gi (gG (aM.take i))),HP.aK t 55 (Gi Rp.zero)]) ⟨aM[i],cX M,rfl,rfl⟩
 .rintro l2 k B Z q X _ _ e K ⟨x,m,rfl,rfl⟩
  have M:=(cE.1 m).1
  obtain rfl:=U aA;obtain⟨H,o⟩:=J.ev m
  have z:=Yy (aM.take k)
  have Y:(aM.take k).length=k:=by rw[pX];omega
  rw[aR7 m];generalize gG (aM.take k)=r at z|-;obtain⟨l0,l1,V,l3,l4,l5,l6⟩:=z;dsimp only[dW,dG,rT,Gi];refine aW ?_;refine iF (Rd.ro (p:=E) aB H (o 0 _ rfl)) ?_;refine aW ?_;refine sA rfl (fun h=>?_) (fun h=>?_)
  .refine aW ?_;rw[show r.step x={r with begun:=r.begun+1} from aH h];exact oX
  refine aW ?_;refine sA rfl (fun y=>?_) (fun y=>?_)
  .refine aW ?_;refine iF (Rd.ro (p:=E) aB H (o 6 _ rfl)) ?_;refine aW ?_
   have d:r.step x=if x.err=0 then {r with ended:=r.ended+1} else {r with ended:=r.ended+1,errs:=r.errs+1}:=(aC h).trans (aH y)
   refine sA rfl (fun f=>?_) (fun f=>?_)
   .refine aW ?_;rw[d,aC f];exact oX
   .refine aW ?_;rw[d,aH (nO f)];exact oX
  refine aW ?_;refine sA rfl (fun f=>?_) (fun f=>?_)
  .refine aW ?_
   have d:r.step x=if mB x=true then {r with zV:=r.zV+1,dead:=r.dead+1} else {r with zV:=r.zV+1}:=(aC h).trans ((aC y).trans (aH f))
   refine gZ (fun C st=>aKt aB H o st) ?_;cases hd:mB x with
   | true=>
    refine aW ?_;rw[d,aH hd];exact oX
   | false=>
    refine aW ?_;rw[d,aC (by simp[hd])];exact oX
  refine aW ?_;refine sA rfl (fun F=>?_) (fun F=>?_)
  .refine aW ?_;rw[show r.step x={r with sent:=r.sent+1} from(aC h).trans ((aC y).trans ((aC f).trans (aH F)))];exact oX
  refine aW ?_;refine sA rfl (fun G=>?_) (fun G=>?_)
  .refine aW ?_;rw[show r.step x={r with Hp:=r.Hp+1} from(aC h).trans ((aC y).trans ((aC f).trans ((aC F).trans (aH G))))];exact oX
  refine aW ?_;rw[show r.step x=r from(aC h).trans ((aC y).trans ((aC f).trans ((aC F).trans (aC G))))];exact oX
 .intro D;rw[show(jZ b off (List.range aM.length)).length=aM.length by simp[jZ],Bn];dsimp only[dW,dG,Gi];refine aW ?_;exact aXd (Hs:=[HP.aK l 55 (Gi (gG aM)),HP.aK t 55 (Gi (gG aM))]) rfl (n:=7) (vs:=Gi (gG aM)) aJ rfl rfl (cI.whole 1 rfl) fun C st=>⟨rfl,st.below aB⟩
 .intro D k _;exact Eh 0 rfl fun h=>h.elim
def aD8(A:Option Addr)(n c:Nat)(aM:List Ev)(w:World)(h:Gs w w.heap.size A aM)(Z:n=aM.length)(hb:n<=9223372036854775807):
  Cz 17 #[.slice A n c] w fun x w'=>x=.returned (iv (wQ aM))/\Below w.heap.size w w':=by
 subst Z
 have N:=h.eS
 obtain⟨b,off,O⟩:=N.base;refine Gg (vs:=[.slice A aM.length c]) func17 rfl ntmps17 aB (St.start w) ?_;refine aW ?_;refine eE fun l=>?_;refine aW ?_;refine jL [all w] (aA9 A aM.length) (fun r st=>aCa A aM.length c r aA) ?_;rintro _ r M ⟨L,rfl,o⟩ m Lc _
 have F:=N.le (Lc (all w) aB)
 have I:=o M m b off O
 clear o m;refine aW ?_;refine cF [(6,.func (.func 53) #[] #[pt L]),(2,pt l)] ?_;refine aFR (q:=∀j x,j < 0->aM[j]? =some x->mB x=false) (fun _ _ h=>absurd h (Ju _)) ?_
 refine Ln (gf:=53) (lb:=[pt L]) (encs:=jZ b off (List.range aM.length)) (p:=M) rfl aJ I aB (fun z d=>?_) aE (fun k=>[qJ (∀j x,j < k->aM[j]? =some x->mB x=false),HP.aK l 3 [iv 0]]) (fun _=>[HP.aK l 3 [iv (wQ aM)]])
  (fun k z V J=>∃x,aM[k]? =some x/\V=[(4,rT b off k),(3,iv (k:Int)),(2,pt l)]/\J=[qJ (∀j x,j < k->aM[j]? =some x->mB x=false),HP.aK l 3 [iv 0]]) rfl ?_ ?_ ?_ ?_
 .simp only[jZ,fR] at d;obtain⟨i,_,rfl⟩:=d;rfl
 .intro Y k z T q X d H;obtain⟨i,E,rfl⟩:=Ut d;obtain⟨rfl,C⟩:=aDL E;dsimp only[It,dW,dG];refine aW ?_;refine cF [(4,rT b off i),(3,iv (i:Int)),(2,pt l)] ?_;exact Lp (H1:=[qJ (∀j x,j < i->aM[j]? =some x->mB x=false),HP.aK l 3 [iv 0]]) ⟨aM[i],cX C,rfl,rfl⟩
 .rintro Y k z T q X _ _ d H ⟨x,f,rfl,rfl⟩
  have C:=(cE.1 f).1
  obtain rfl:=O aA;obtain⟨U,G⟩:=F.ev f;dsimp only[dW,dG,rT];refine aW ?_;refine gZ (fun r st=>aKt aB U G st) ?_;cases hd:mB x with
  | true=>
   refine aW ?_;refine Eh 0 rfl fun m=>?_;refine aZ [1,2] ?_;rw[show wQ aM=(k:Int) from aH0 C (by rw[(cE.1 f).2];exact hd) fun j t=>m j _ t (cX aA)];exact Iy
  | false =>
   refine aW ?_;refine Eh 0 rfl fun m=>?_
   refine Wi 0 (q:=∀j x,j < k+1->aM[j]? =some x->mB x=false) rfl (fun j y t B=>by
    rcases dI j k with K | K
    .exact m j y K B
    .obtain rfl:j=k:=by omega
     rw[f] at B;cases B
     exact hd) ?_
   exact oX
 .intro D;rw[show(jZ b off (List.range aM.length)).length=aM.length by simp[jZ]];dsimp only[dW,dG];refine Eh 0 rfl fun m=>?_
  have:wQ aM= -1:=aH1 fun e R=>by
   obtain⟨j,t,rfl⟩:=List.getElem_of_mem R;exact m j _ t (cX t)
  rw[this];refine aW ?_;exact aCJ (Hs:=[qJ _,HP.aK l 3 [iv (-1)]]) rfl aJ rfl (Rd.aK 1 rfl rfl) fun r st=>⟨rfl,st.below aB⟩
 .intro D k _;refine aW ?_;exact aCJ (Hs:=[HP.aK l 3 [iv (wQ aM)]]) rfl aJ rfl (Rd.aK 0 rfl rfl) fun r st=>⟨rfl,st.below aB⟩
end
section
open Go.RowKit Go.Shelf
attribute [local go_sem] Oper.semAt_some
def sH(st:Bool×Int)(e:Ev):Option (Bool×Int):=
 if e.kind=115 then(if st.1 then none else some (true,e.ws.headD 0))
 else if e.kind=114 then(if st.1=true/\e.ws.length≠0/\e.ws.headD 0=st.2 then some (false,st.2) else none)
 else some st
def Pf(st:Bool×Int):List Ev->Nat->Int
 | [],_=> -1
 | e::r,k=>match sH st e with
  | none=>k
  | some st'=>Pf st' r (k+1)
def wR(aM:List Ev):Int:=Pf (false,0) aM 0
def vI(st:Bool×Int):List Ev->Option (Bool×Int)
 | []=>some st
 | e::r=>match sH st e with
  | none=>none
  | some st'=>vI st' r
def aHN(st:Bool×Int)(l:List Ev)(e:Ev):vI st (l++[e])=(vI st l).bind (sH · e):=by
 induction l generalizing st with
 | nil=>simp only[sI,vI];cases h:sH st e<;>simp[vI,h]
 | cons x l ih=>
  simp only[sZ,vI];cases h:sH st x with
  | none=>simp
  | some st'=>simpa using ih st'
def aPx{st c:Bool×Int}{l:List Ev}{k:Nat}(h:vI st l=some c):Pf st l k= -1:=by
 induction l generalizing st k with
 | nil=>rfl
 | cons x l ih=>
  simp only[vI] at h;simp only[Pf];cases d:sH st x with
  | none=>rw[d] at h;cases h
  | some Ew=>rw[d] at h;exact ih h
def aDK{st c:Bool×Int}{l r:List Ev}{e:Ev}{k:Nat}(h:vI st l=some c)(f:sH c e=none):Pf st (l++e::r) k=((k+l.length:Nat):Int):=by
 induction l generalizing st k with
 | nil=>
  simp only[vI,tW] at h;subst h;simp only[sI,Pf,f];simp
 | cons x l ih =>
  simp only[vI] at h;simp only[sZ,Pf];cases d:sH st x with
  | none=>rw[d] at h;cases h
  | some Ew=>
   rw[d] at h;simp only;rw[ih h,mK]
   congr 1
   omega
end
section
attribute [local irreducible] KC KI KQ
def Bj(aM:List Ev)(k:Nat):Bool×Int:=(vI (false,0) (aM.take k)).getD (false,0)
def zE(aM:List Ev)(k:Nat):Prop:=vI (false,0) (aM.take k)=some (Bj aM k)
def zE.next{aM:List Ev}{k:Nat}{x:Ev}{s:Bool×Int}(hx:aM[k]? =some x)(h:zE aM k)(hs:sH (Bj aM k) x=some s):Bj aM (k+1)=s/\zE aM (k+1):=by
 have:vI (false,0) (aM.take (k+1))=some s:=by rw[vK,hx,Jz,aHN,h];exact hs
 have e:Bj aM (k+1)=s:=by rw[Bj,this];rfl
 exact⟨e,by rw[zE,this,e]⟩
def zE.bad{aM:List Ev}{k:Nat}{x:Ev}(hx:aM[k]? =some x)(h:zE aM k)(hs:sH (Bj aM k) x=none):wR aM=k:=by
 obtain⟨c,rfl⟩:=cE.1 hx
 have e:aM=aM.take k++aM[k]::aM.drop (k+1):=by rw[<-Ya c,Ye]
 rw[wR]
 conv=>lhs;rw[e]
 rw[aDK h hs,pX];omega
def aBi(A:Option Addr)(n c:Nat)(aM:List Ev)(w:World)(h:Gs w w.heap.size A aM)(hn:n=aM.length)(hb:n<=9223372036854775807):
  Cz 20 #[.slice A n c] w fun x w'=>x=.returned (iv (wR aM))/\Below w.heap.size w w':=by
 subst hn
 have hs:=h.eS
 obtain⟨b,off,hA⟩:=hs.base;refine Gg (vs:=[.slice A aM.length c]) func20 rfl ntmps20 aB (St.start w) ?_;refine aW ?_;refine eE fun r=>?_;refine aW ?_;refine eE fun E=>?_;refine aW ?_;refine eE fun F=>?_;refine aW ?_;refine jL [all w] (aA9 A aM.length) (fun Z st=>aCa A aM.length c Z aA) ?_;rintro _ Z y ⟨g6,rfl,z⟩ R Lc _
 have yM:=hs.le (Lc (all w) aB)
 have hit:=z y R b off hA
 clear z R;refine aW ?_;refine cF [(8,.func (.func 53) #[] #[pt g6]),(4,pt F),(3,pt E),(2,pt r)] ?_;refine aFR (q:=zE aM 0) rfl ?_
 refine Ln (gf:=53) (lb:=[pt g6]) (encs:=jZ b off (List.range aM.length)) (p:=y) rfl aJ hit aB (fun vs m=>?_) aE (fun k=>[qJ (zE aM k),HP.aK F 36 [.int .u32 (Bj aM k).2],HP.aK E 4 [.bool (Bj aM k).1],HP.aK r 3 [iv 0]]) (fun _=>[HP.aK r 3 [iv (wR aM)]])
  (fun k vs G H1=>∃x,aM[k]? =some x/\G=[(6,rT b off k),(5,iv (k:Int)),(4,pt F),(3,pt E),(2,pt r)]/\H1=[qJ (zE aM k),HP.aK F 36 [.int .u32 (Bj aM k).2],HP.aK E 4 [.bool (Bj aM k).1],HP.aK r 3 [iv 0]]) rfl ?_ ?_ ?_ ?_
 .simp only[jZ,fR] at m;obtain⟨i,_,rfl⟩:=m;rfl
 .intro l2 k vs W1 q X m Bw;obtain⟨i,hik,rfl⟩:=Ut m;obtain⟨rfl,hk⟩:=aDL hik;dsimp only[It,dW,dG];refine aW ?_;refine cF [(6,rT b off i),(5,iv (i:Int)),(4,pt F),(3,pt E),(2,pt r)] ?_;exact Lp (H1:=[qJ (zE aM i),HP.aK F 36 [.int .u32 (Bj aM i).2],HP.aK E 4 [.bool (Bj aM i).1],HP.aK r 3 [iv 0]]) ⟨aM[i],cX hk,rfl,rfl⟩
 .rintro l2 k vs W1 q X _ _ m Bw ⟨x,l,rfl,rfl⟩
  have hk:=(cE.1 l).1
  obtain rfl:=hA aA;obtain⟨J,U⟩:=yM.ev l
  have d:=U 13 _ rfl
  have Y:∀v tl,x.ws=v::tl->∃C K,x.wA=some ⟨C,K,none⟩/\C < w.heap.size/\w.cell? ⟨C,K,none⟩=some (.int .u32 v):=fun v tl e=>by
   obtain⟨C,K,O,N,h3⟩:=(h.2 x (dJ l)).2 (by rw[e];simp);exact⟨C,K,O,N,by simpa using h3 0 (.int .u32 v) (by rw[e];rfl)⟩
  dsimp only[dW,dG,rT];refine Eh 0 rfl fun hP=>?_
  have o:=fun s=>hP.next (s:=s) l
  have j:=hP.bad l
  generalize hS:Bj aM k=s at o j|-;obtain⟨V,T⟩:=s;refine aW ?_;refine iF (Rd.ro (p:=y) aB J (U 0 _ rfl)) ?_;refine aW ?_;refine sA rfl (fun h=>?_) (fun h=>?_)
  .cases V with
   | true=>
    refine aW ?_;refine aZ [3,4] ?_;rw[j (by rw[sH,aH h];rfl)];exact Iy
   | false =>
    obtain⟨G,M⟩:=o (true,x.ws.headD 0) (by rw[sH,aH h];rfl);rw[G];refine Wi 0 (q:=zE aM (k+1)) rfl M ?_;refine aW ?_;refine iF (Rd.ro (p:=y) aB J d) ?_;refine aW ?_;rcases hw:x.ws with _ | ⟨v,tl⟩
    .refine sA rfl (fun L=>absurd L aE) (fun _=>?_);refine aW ?_;exact oX
    .obtain⟨C,K,I,B,H⟩:=Y v tl hw;rw[I,hw] at d;refine sA rfl (fun L=>?_) (fun L=>absurd (show(0:Int) < ((v::tl).length:Int) by simp) L);refine aW ?_;refine iF (Rd.ro (p:=y) aB J d) ?_;refine aW ?_;refine iF (Rd.ro (p:=all w) aB B H) ?_;refine aW ?_;exact oX
  refine aW ?_;refine sA rfl (fun O=>?_) (fun O=>?_)
  .have f:sH (V,T) x=if V=true/\x.ws.length≠0/\x.ws.headD 0=T then some (false,T) else none:=(aC h).trans (aH O)
   cases V with
   | false=>
    refine aW ?_;refine aFY 18 ?_;refine kV ?_;refine aW ?_;refine aZ [3,4] ?_;rw[j (by rw[f];rfl)];exact Iy
   | true =>
    rcases hw:x.ws with _ | ⟨v,tl⟩
    .rw[hw] at d f;refine aW ?_;refine aFY 18 ?_;refine aCI 6 ?_ (bL:=by exact vW aJ rfl (Rd.ro (p:=y) aB J d));refine XD.lo 7 ?_;refine kV ?_;refine aW ?_;refine aZ [3,4] ?_;rw[j (by rw[f];rfl)];exact Iy
    .obtain⟨C,K,I,B,H⟩:=Y v tl hw;rw[I,hw] at d;rw[hw] at f;refine aW ?_;refine aFY 18 ?_;refine aCI 6 ?_ (bL:=by exact vW aJ rfl (Rd.ro (p:=y) aB J d));refine XD.lo 7 ?_;refine aXq (t:=43) rfl (fun L=>absurd (show((v::tl).length:Int)=0 from L) (by simp;omega)) (fun _=>?_);refine XD.lo 11 ?_;refine aCI 14 ?_ (bL:=by exact vW aJ rfl (Rd.ro (p:=y) aB J d));refine XD.lo 15 ?_;refine aCI 16 ?_ (bL:=by exact vW aJ rfl (Rd.ro (p:=all w) aB B H));refine kV ?_;refine aW ?_;refine sA rfl (fun N=>?_) (fun N=>?_)
     .refine aW ?_;refine aZ [3,4] ?_;rw[j (by rw[f];exact aC fun h=>N h.2.2)];exact Iy
     .obtain⟨G,M⟩:=o (false,T) (by rw[f];exact aH ⟨rfl,aB,nO N⟩);rw[G];refine Wi 0 (q:=zE aM (k+1)) rfl M ?_;refine aW ?_;exact oX
  .refine aW ?_;obtain⟨G,M⟩:=o (V,T) (by rw[sH,aC h,aC O]);rw[G];refine Wi 0 (q:=zE aM (k+1)) rfl M ?_;exact oX
 .intro D;rw[show(jZ b off (List.range aM.length)).length=aM.length by simp[jZ]];dsimp only[dW,dG];refine Eh 0 rfl fun R=>?_;rw[show wR aM= -1 from aPx (by rw[zE,Bn] at R;exact R)];refine aW ?_;exact aCJ (Hs:=[qJ _,HP.aK F 36 _,HP.aK E 4 _,HP.aK r 3 [iv (-1)]]) rfl aJ rfl (Rd.aK 3 rfl rfl) fun Z st=>⟨rfl,st.below aB⟩
 .intro D k _;refine aW ?_;exact aCJ (Hs:=[HP.aK r 3 [iv (wR aM)]]) rfl aJ rfl (Rd.aK 0 rfl rfl) fun Z st=>⟨rfl,st.below aB⟩
end
def aGr(n:Nat)(xs:List Value)(v:Value)(hs:List HP)(_:Piece):Prop:=∃A c,v=.slice A n c/\hs=[HP.own 3 1 (.slice A n c) n xs]
def aK5(A:Option Addr)(n c:Nat)(xs:List Value)(w:World)(hs:aO (all w) 1 A n xs)(j:∀u∈xs,u.oneCell'=true)(m:n<=1000000):
  Cz 264 #[.slice A n c] w (fun y w'=>(∃v hs q,y=.returned v/\q.w=w'/\aGr n xs v hs q/\iV w hs q)/\Below w.heap.size w w'):=by
 refine bQ func264 ntmps264 ?_;refine Xk (el:=3) aJ rfl aE ?_;refine aF ?_;refine tI rfl (fun i=>?_) (fun i=>?_)
 .
  refine aF ?_
  have f:n=0:=by
   rcases zI n with h | h
   .exact h
   .obtain⟨b,off,rfl,_⟩:=hs.2 h;cases i
  subst f
  have k:xs=[]:=Fh (by simpa using hs.1)
  subst k;refine oF 3 1 ?_;refine dX [] [] [0] fun q _ _ d=>?_;exact bK (h:=fun e st=>⟨_,_,⟨e,q.Z⟩,rfl,rfl,⟨_,_,rfl,rfl⟩,st.newR aB aB (d aB aB)⟩)
 .
  refine aF ?_;refine Ot (el:=3) (sz:=1) aJ aJ aE fun g=>?_;refine Rq 0 1 0 rfl rfl aA ?_;dsimp only[List.set];refine aF ?_;refine jU 0 1 8 n (n':=n) (el:=3) aJ aJ aE rfl rfl rfl (sF aB hs) j aA aA aA aE fun l o=>?_;dsimp only[List.set,dG];refine aF ?_;refine dX [] [] [0] fun q _ _ d=>?_;exact bK (h:=fun e st=>⟨_,_,⟨e,q.Z⟩,rfl,rfl,⟨_,_,rfl,rfl⟩,st.newR aB aB (d aB aB)⟩)
def Se(n:Nat)(xs:List Value)(v:Value)(hs:List HP)(_:Piece):Prop:=∃A c,v=.slice A n c/\hs=[HP.own 4 1 (.slice A n c) n xs]
def Vx(A:Option Addr)(n c:Nat)(xs:List Value)(w:World)(hs:aO (all w) 1 A n xs)(j:∀u∈xs,u.oneCell'=true)(m:n<=1000000):
  Cz 179 #[.slice A n c] w (fun y w'=>(∃v hs q,y=.returned v/\q.w=w'/\Se n xs v hs q/\iV w hs q)/\Below w.heap.size w w'):=by
 refine bQ func179 ntmps179 ?_;refine Xk (el:=4) aJ rfl aE ?_;refine aF ?_;refine tI rfl (fun i=>?_) (fun i=>?_)
 .
  refine aF ?_
  have f:n=0:=by
   rcases zI n with h | h
   .exact h
   .obtain⟨b,off,rfl,_⟩:=hs.2 h;cases i
  subst f
  have k:xs=[]:=Fh (by simpa using hs.1)
  subst k;refine oF 4 1 ?_;refine dX [] [] [0] fun q _ _ d=>?_;exact bK (h:=fun e st=>⟨_,_,⟨e,q.Z⟩,rfl,rfl,⟨_,_,rfl,rfl⟩,st.newR aB aB (d aB aB)⟩)
 .
  refine aF ?_;refine Ot (el:=4) (sz:=1) aJ aJ aE fun g=>?_;refine Rq 0 1 0 rfl rfl aA ?_;dsimp only[List.set];refine aF ?_;refine jU 0 1 1 n (n':=n) (el:=4) aJ aJ aE rfl rfl rfl (sF aB hs) j aA aA aA aE fun l o=>?_;dsimp only[List.set,dG];refine aF ?_;refine dX [] [] [0] fun q _ _ d=>?_;exact bK (h:=fun e st=>⟨_,_,⟨e,q.Z⟩,rfl,rfl,⟨_,_,rfl,rfl⟩,st.newR aB aB (d aB aB)⟩)
def aHI(A:Option Addr)(n c:Nat)(xs:List Value)(w:World)(F:Nat->Prop)(hp:(HP.own 3 1 (.slice A n c) n xs).sat F w)(hF:∀b,F b->b < w.heap.size)(C:∀u∈xs,u.oneCell'=true)(z:xs.length=n)(I:n<=1000000)(D:0 < n->∃g,A=some ⟨g,0,none⟩):
  Cz 265 #[.slice A n c] w (Wr (.tuple #[]) (HP.own 3 1 (.slice A n c) n xs.reverse) w F):=by
 refine fS func265 ntmps265 hp hF ?_;refine aF ?_;refine cF [(3,iv ((n:Int) - 1)),(2,iv 0),(0,.slice A n c)] ?_;refine aF ?_;refine gA (fun m e R H=>∃(k:Nat) (l:List Value),m=n - k/\2*k<=n/\Og xs k l/\e=[(3,iv ((n:Int) - 1 - k)),(2,iv k),(0,.slice A n c)]/\R=[⟨w,fun b=>b < w.heap.size/\¬F b⟩]/\H=[HP.own 3 1 (.slice A n c) n l]) n ⟨0,xs,aA,aA,.zero xs,aB,rfl,rfl⟩ fun m e R H G=>?_;obtain⟨k,l,rfl,K,f,rfl,rfl,rfl⟩:=G;refine aF ?_;refine dD rfl (fun h=>?_) (fun h=>?_)
 .
  refine sQ ?_;refine eR ?_;refine fO ?_
  have E:(k:Int) < (n:Int) - 1 - k:=h
  have J:=f.1
  obtain⟨g,rfl⟩:∃g,A=some ⟨g,0,none⟩:=D aA;obtain⟨u,y⟩:∃u,l[xs.length - 1 - k]? =some u:=⟨_,cX aA⟩
  obtain⟨v,x⟩:∃u,l[k]? =some u:=⟨_,cX aA⟩
  have i:u.oneCell'=true:=by
   have:=f.2 _ (by omega:xs.length - 1 - k < xs.length);rw[y] at this
   split at this<;>exact C _ (dJ this.symm)
  have p:v.oneCell'=true:=by
   have:=f.2 _ (by omega:k < xs.length);rw[x] at this
   split at this<;>exact C _ (dJ this.symm)
  refine Iv 0 rfl fun L B d j t=>?_;dsimp only[List.set];rw[zG] at B d
  have r:=aGZ d y
  have o:=aGZ d x
  refine Gf ?_;refine aWU 16 aJ aJ ?_;refine nG 0 rfl rfl rfl aE (rI rfl) aJ (fun _ _ _ h=>h) (fun _ h=>h.bare) ?_;refine nG 1 rfl rfl rfl aE (rI rfl) aJ (fun _ _ _ h=>h) (fun _ h=>h.bare) ?_;refine nG 2 rfl rfl rfl aE (rI rfl) aJ (fun _ _ _ h=>h) (fun _ h=>h.bare) ?_;refine nG 3 rfl rfl rfl aE (rI rfl) aJ (fun _ _ _ h=>h) (fun _ h=>h.bare) ?_;refine nG 4 rfl rfl rfl aE (rI rfl) aJ (fun _ _ _ h=>h) (fun _ h=>h.bare) ?_;refine nG 5 rfl rfl rfl aE (rI rfl) aJ (fun _ _ _ h=>h) (fun _ h=>h.bare) ?_;refine nG 8 rfl rfl rfl aE (rI rfl) aJ (fun _ _ _ h=>h) (fun _ h=>h.bare) ?_;refine nG 9 rfl rfl rfl aE (rI rfl) aJ (fun _ _ _ h=>h) (fun _ h=>h.bare) ?_;refine nG 6 rfl rfl rfl aE (aFr (n - 1 - k) (n - 1 - k) (el:=3) (sz:=1) aJ aJ rfl rfl aA aA aA) aJ (fun _ _ _ h=>h) (fun _ h=>h.bare) ?_;refine nG 10 rfl rfl rfl aE (aFr (k) (k) (el:=3) (sz:=1) aJ aJ rfl rfl aA aA aA) aJ (fun _ _ _ h=>h) (fun _ h=>h.bare) ?_;refine Od 7 11 rfl rfl aJ ?_ ?_
  .refine Jh aJ rfl (Rd.aK 0 rfl (by rw[<-z];exact r)) aE ?_;refine jA ?_;refine iU ?_;refine mF (fun _ h=>h.bare) ?_;refine dB 11 ?_;refine Jh aJ rfl (Rd.aK 0 rfl o) aE ?_;refine jA ?_;refine iU ?_;refine mF (fun _ h=>h.bare) ?_;refine dB 12 ?_;refine kd (dat (k) (k)) ?_;refine jA ?_;refine iU ?_;refine mF (fun _ h=>h.bare) ?_;refine dB 13 ?_;refine tR 0 rfl aJ rfl rfl i aA ?_;dsimp only[List.set];refine jA ?_;refine iU ?_;refine mF (fun _ h=>h.bare) ?_;refine dB 14 ?_;refine kd (dat (n - 1 - k) (n - 1 - k)) ?_;refine jA ?_;refine iU ?_;refine mF (fun _ h=>h.bare) ?_;refine dB 15 ?_;refine tR 0 rfl aJ rfl rfl p (by simp;omega) ?_;dsimp only[List.set];refine jA ?_;refine iU ?_;refine mF (fun _ h=>h.bare) ?_;refine kV ?_;refine eR ?_;refine jS ?_;refine jP rfl aE ?_;refine aAH rfl rfl (qM aA) aE ?_;refine jP rfl aE ?_;refine aCW rfl rfl (qM aA) aE ?_;refine kC rfl aE ?_;refine kC rfl aE ?_;refine iJ ?_;refine Aj 0 (n:=n) (c:=c) (sz:=1) (xs:=(l.set k u).set (xs.length - 1 - k) v) rfl (by simp;omega) (by rw[zG,z];exact take_set (take_set d)) j t ?_;dsimp only[List.set];exact cF [(3,iv ((n:Int) - 1 - k - 1)),(2,iv ((k:Int)+1)),(0,.slice (some ⟨g,0,none⟩) n c)] (iZ (n - (k+1)) aA ⟨k+1,_,rfl,aA,f.next aA y x,(by rw[show(n:Int) - 1 - k - 1=(n:Int) - 1 - ((k+1:Nat):Int) by omega];rfl),rfl,rfl⟩)
  .refine Jh aJ rfl (Rd.aK 0 rfl o) aE ?_;refine jA ?_;refine iU ?_;refine mF (fun _ h=>h.bare) ?_;refine dB 7 ?_;refine Jh aJ rfl (Rd.aK 0 rfl (by rw[<-z];exact r)) aE ?_;refine jA ?_;refine iU ?_;refine mF (fun _ h=>h.bare) ?_;refine dB 12 ?_;refine kd (dat (k) (k)) ?_;refine jA ?_;refine iU ?_;refine mF (fun _ h=>h.bare) ?_;refine dB 13 ?_;refine tR 0 rfl aJ rfl rfl i aA ?_;dsimp only[List.set];refine jA ?_;refine iU ?_;refine mF (fun _ h=>h.bare) ?_;refine dB 14 ?_;refine kd (dat (n - 1 - k) (n - 1 - k)) ?_;refine jA ?_;refine iU ?_;refine mF (fun _ h=>h.bare) ?_;refine dB 15 ?_;refine tR 0 rfl aJ rfl rfl p (by simp;omega) ?_;dsimp only[List.set];refine jA ?_;refine iU ?_;refine mF (fun _ h=>h.bare) ?_;refine kV ?_;refine eR ?_;refine jS ?_;refine jP rfl aE ?_;refine aAH rfl rfl (qM aA) aE ?_;refine jP rfl aE ?_;refine aCW rfl rfl (qM aA) aE ?_;refine kC rfl aE ?_;refine kC rfl aE ?_;refine iJ ?_;refine Aj 0 (n:=n) (c:=c) (sz:=1) (xs:=(l.set k u).set (xs.length - 1 - k) v) rfl (by simp;omega) (by rw[zG,z];exact take_set (take_set d)) j t ?_;dsimp only[List.set];exact cF [(3,iv ((n:Int) - 1 - k - 1)),(2,iv ((k:Int)+1)),(0,.slice (some ⟨g,0,none⟩) n c)] (iZ (n - (k+1)) aA ⟨k+1,_,rfl,aA,f.next aA y x,(by rw[show(n:Int) - 1 - k - 1=(n:Int) - 1 - ((k+1:Nat):Int) by omega];rfl),rfl,rfl⟩)
 .
  refine aF ?_
  have E:¬(k:Int) < (n:Int) - 1 - k:=h
  have:=f.all aA
  subst this;exact gF 0 hF
def Us(l:List Int):∀u∈aU l,u.oneCell'=true:=by
 intro u c;simp only[aU,fR] at c;obtain⟨x,_,rfl⟩:=c;rfl
def aIh{F:Nat->Prop}{w:World}{el:TypeId}{sz n c:Nat}{A:Option Addr}{xs:List Value}(h:(HP.own el sz (.slice A n c) n xs).sat F w)(j:0 < n):∃g,A=some ⟨g,0,none⟩:=by
 rcases h.2.2 with⟨_,i⟩ | ⟨g,d,e,f,_⟩
 .omega
 .injection f with hA
  exact⟨g,hA⟩
def aHJ(l:List Nat):(aU (eD l)).reverse=aU (eD l.reverse):=by simp[aU,eD]
section
variable{P:Program}{R':List Piece}{dA:Nat}{t:TypeId}{cs:List Value}{v:Value}
def Dw{x:Operand}{g o:Nat}{p:Piece}(h:RP p g o v)(hp:p∈R:=by simp)(c:tC P t=true:=by kernel_rfl)(hx:e.ev x=some (.pointer (some ⟨g,o,none⟩)):=by rfl):bY P N w0 e R H ⟨some d,.load t x,ty,pos,aN,none⟩ v:=vW c hx (h.rd hp)
def wE{i j:Nat}{M:Option Nat}(c:Nat)(R':List Piece){o:Oper}(step:∀M,XK N w0 (wpList P ops (Exit.then (wG P w0 ops Q R0 H0 m (Ie M fuel) (Dm M j (listed.setIfInBounds i true)) c) Q) [o]) (yP M dA ((d,v)::e)) R' (Bx M t cs H))(hi:ops[c]? =some o:=by rfl)(hj:ops[j]? =some ⟨some dA,.alloc t,ty,pos,aN,none⟩:=by rfl)(x:Gw P t cs:=by exact sD aJ)(hd:dA < N.n:=by decide)
  (l:Region.ready .any ops (listed.setIfInBounds i true)=[c,j]:=by kernel_rfl) (k:Region.ready .any ops ((listed.setIfInBounds i true).setIfInBounds j true)=[c]:=by kernel_rfl) (hS:∀w,St w0 R' H w->St w0 R0 H0 w:=by exact fun _ h=>h.cN) (y:∀p∈R',p∈R:=by simp) (f:i≠j:=by decide) (r:Nat.beq d dA=false:=by rfl):
  XK N w0 (wpList P ops (Exit.then (wG P w0 ops Q R0 H0 m (Ie M (fuel+1)) (Dm M j listed) i) Q) []) ((d,v)::yP M dA e) R (Bx M t cs H):=Ee y (jA (iU (aA1 f r hS (Wt c j hi hj x hd l k hS step))))
end
def xJ(s:aI)(d cl h:List Nat)(f c i j e tl:List Bool):List eJ:=
 kY 17 4 (fun _=>1) (fF (d) f j)++(kY 20 7 (fun _=>1) (fF (cl) c e)++(kY 22 4 (fun _=>0) (fF (h) i tl)++(kY 22 4 (fun _=>1) (fF (h) tl i)++(kY 20 7 (fun _=>0) (fF (cl.reverse) e c)++(kY 17 4 (rQ s) (fF (d.reverse) j f))))))
def aMB(p0:Piece)(c:List eJ)(y:Value)(w w':World):Prop:=∃g,y=.func (.func 270) #[] #[pt g]/\∀q,p0.Le q->(fresh w w').Le q->Iter Tryz.prog 270 [pt g] (rP c) q in
def aWw(p0:Piece)(s:aI)(A1 A2 A3 A4 Ad Ac Al Fd Fc Fl Td Tc Tl:Option Addr)(n1 k1 n2 k2 n3 k3 n4 k4 X cd Z cc nl kl N Kv I Kw J Ku V Jo T mG R Jm:Nat)(B cl G:List Nat)(E K L H U tl:List Bool)(w:World)
  (hp0:p0.Le (all w)) (aSg:kQ (gB p0) xX 75 3 A2 n2 s.domains) (hn2:(n2:Int)<=1000000)
  (rR:aO p0 1 Ad X (aU (eD B))) (hnd:X=B.length) (aJe:X<=1000000) (A:∀i∈B,i < n2)
  (vU:aO p0 1 Ac Z (aU (eD cl))) (hnc:Z=cl.length) (aJf:Z<=1000000) (D:∀i∈cl,i < 1000000)
  (Qo:aO p0 1 Al nl (aU (eD G))) (vT:nl=G.length) (aXJ:nl<=1000000) (C:∀i∈G,i < 1000000)
  (Ux:aO p0 1 Fd N (bO E)) (aBO:N=E.length) (Uu:aO p0 1 Td V (bO H)) (aBL:V=H.length) (Uy:aO p0 1 Fc I (bO K)) (aBP:I=K.length) (Uv:aO p0 1 Tc T (bO U)) (aBM:T=U.length) (hfl:aO p0 1 Fl J (bO L)) (aBN:J=L.length) (Qj:aO p0 1 Tl R (bO tl)) (aBK:R=tl.length):
  Cz 261 #[.agg #[.slice A1 n1 k1,.slice A2 n2 k2,.slice A3 n3 k3,.slice A4 n4 k4],.slice Ad X cd,.slice Ac Z cc,.slice Al nl kl,.agg #[.slice Fd N Kv,.slice Fc I Kw,.slice Fl J Ku],.agg #[.slice Td V Jo,.slice Tc T mG,.slice Tl R Jm]] w (fun y w'=>(∃x,y=.returned x/\aMB p0 (xJ s B cl G E K L H U tl) x w w')/\Below w.heap.size w w'):=by
 have aXK:=hnd
 refine fP func261 ntmps261 ?_;refine Eg p0 aB hp0 ?_;refine aF ?_;refine eI fun g1=>?_;refine eI fun g2=>?_;refine iG fun g3=>?_;refine gN (aGr Z (aU (eD cl))) (fun d st=>aK5 Ac Z cc _ d (vU.le (st.le aB)) (Us _) aJf) ?_;rintro _ _ q13 ⟨A13,c13,rfl,rfl⟩ _;refine aF ?_;refine Xm (f:=265) (fi:=[]) (ca:=[]) 0 (HP.own 3 1 (.slice A13 Z c13) Z (aU (eD cl)).reverse) aJ rfl rfl rfl ⟨aE,rfl⟩ (fun d F st hp hF=>aHI A13 Z c13 _ d F hp hF (Us _) (by simp[aU,eD,hnc]) aJf (aIh hp)) ?_;dsimp only[List.set,dW,dG];rw[aHJ];refine aF ?_;refine gN (aGr X (aU (eD B))) (fun d st=>aK5 Ad X cd _ d (rR.le (st.le aB)) (Us _) aJe) ?_;rintro _ _ O ⟨A14,c14,rfl,rfl⟩ _;refine aF ?_;refine Xm (f:=265) (fi:=[]) (ca:=[]) 0 (HP.own 3 1 (.slice A14 X c14) X (aU (eD B)).reverse) aJ rfl rfl rfl ⟨aE,rfl⟩ (fun d F st hp hF=>aHI A14 X c14 _ d F hp hF (Us _) (by simp[aU,eD,hnd]) aJe (aIh hp)) ?_;dsimp only[List.set,dW,dG];rw[aHJ];refine iJ ?_;refine aZ [0,1,2,3,4] ?_ (R':=[p0,all w]);refine aLr p0 p0 [0,1,2,3,4] [] aB aB (fun b h=>.inl h) rfl aE aE fun l hq m N0=>?_
 have f14:=aO.own (hq 0 _ aB rfl)
 have f13:=aO.own (hq 1 _ aB rfl)
 have t_d:RP l g3 0 (.slice Td V Jo):=uI (hq 2 _ aB rfl) rfl
 have f_d:RP l g2 0 (.slice Fd N Kv):=uI (hq 3 _ aB rfl) rfl
 have t_c:RP l g3 1 (.slice Tc T mG):=uI (hq 2 _ aB rfl) rfl
 have f_c:RP l g2 1 (.slice Fc I Kw):=uI (hq 3 _ aB rfl) rfl
 have t_l:RP l g3 2 (.slice Tl R Jm):=uI (hq 2 _ aB rfl) rfl
 have f_l:RP l g2 2 (.slice Fl J Ku):=uI (hq 3 _ aB rfl) rfl
 have b1:RP l g1 1 (.slice A2 n2 k2):=uI (hq 4 _ aB rfl) rfl
 have E0:l.Le l:=fun b hb=>⟨hb,rfl⟩
 have aNv:=aW2 l g1 n2 k2 s A2 b1 (aSg.mono (lN m) (fun _ _ h=>h)) hn2
 have rR:=rR.le m
 have vU:=vU.le m
 have Qo:=Qo.le m
 have Ux:=Ux.le m
 have Uy:=Uy.le m
 have hfl:=hfl.le m
 have Uu:=Uu.le m
 have Uv:=Uv.le m
 have Qj:=Qj.le m
 refine fO ?_;refine vA 50 aJ aJ ?_;refine bE 0 ?_;refine bE 1 ?_;refine bE 2 ?_ (bL:=Dw f_d);refine bE 3 ?_;refine bE 4 ?_ (bL:=Dw t_d);refine bE 8 ?_;refine bE 9 ?_;refine bE 10 ?_ (bL:=Dw f_c);refine bE 11 ?_;refine bE 12 ?_ (bL:=Dw t_c);refine bE 16 ?_;refine bE 17 ?_;refine bE 18 ?_ (bL:=Dw f_l);refine bE 19 ?_;refine bE 20 ?_ (bL:=Dw t_l);refine bE 24 ?_;refine bE 25 ?_;refine bE 26 ?_ (bL:=Dw t_l);refine bE 27 ?_;refine bE 28 ?_ (bL:=Dw f_l);refine bE 32 ?_;refine bE 33 ?_;refine bE 34 ?_ (bL:=Dw t_c);refine bE 35 ?_;refine bE 36 ?_ (bL:=Dw f_c);refine bE 40 ?_;refine bE 41 ?_;refine bE 42 ?_ (bL:=Dw t_d);refine bE 43 ?_;refine bE 44 ?_ (bL:=Dw f_d);refine iQ 46 rfl rfl rfl (aKi (vf:=[]) (vc:=[pt g1]) rfl rfl) ?_;refine aLG (j:=49) 15 368 [sn] fun M=>?_;refine Wt 5 49 rfl rfl (sD aJ) aE aJ aJ (fun _ h=>h) (fun M=>?_);refine vS p0 l (Sc l (fF (B) E H)) (fun d st=>Ud l X V N cd Jo Kv Ad Td Fd (B) E H d (rR.le E0) hnd aA (Uu.le E0) aBL (Ux.le E0) aBO (fun i e=>by have:=A i e;omega)) ?_;rintro _ d q1 ⟨x0,y0,z0,rfl,t⟩ k L1 N1
 have it0:=t q1 L1 k
 have E1:=E0.trans' L1
 refine wE 6 [q1,l,p0,all w] fun M=>?_;refine vS p0 q1 (Xf 1) (fun d st=>aAl 1 d) ?_;rintro _ d q2 ⟨u0,rfl,z⟩ k L2 N2
 have va0:=z q2 k
 have E2:=E1.trans' L2
 refine wE 7 [q2,l,p0,all w] fun M=>?_;refine vS p0 q2 (Rv q2 (Bf 17 4 (fun _=>1) (fF (B) E H))) (fun d st=>Sw q2 272 273 [pt x0,pt y0,pt z0] [pt u0] 17 4 (fun _=>1) (fF (B) E H) d (it0.le L2) aJ aJ (va0 _) (fun i e=>by have:=A i (sY.1 e).1;omega)) ?_;rintro _ d q3 ⟨c0,d0,e0,f0,rfl,p⟩ k L3 N3
 have st0:=p q3 L3 k
 have E3:=E2.trans' L3
 refine wE 13 [q3,l,p0,all w] fun M=>?_;refine vS p0 q3 (Sc q3 (fF (cl) K U)) (fun d st=>Ud q3 Z T I cc mG Kw Ac Tc Fc (cl) K U d (vU.le E3) hnc aA (Uv.le E3) aBM (Uy.le E3) aBP (fun i e=>by have:=D i e;omega)) ?_;rintro _ d q4 ⟨x1,y1,z1,rfl,t⟩ k L4 N4
 have it1:=t q4 L4 k
 have E4:=E3.trans' L4
 refine wE 14 [q4,l,p0,all w] fun M=>?_;refine vS p0 q4 (Xf 1) (fun d st=>aAl 1 d) ?_;rintro _ d q5 ⟨u1,rfl,z⟩ k L5 N5
 have va1:=z q5 k
 have E5:=E4.trans' L5
 refine wE 15 [q5,l,p0,all w] fun M=>?_;refine vS p0 q5 (Rv q5 (Bf 20 7 (fun _=>1) (fF (cl) K U))) (fun d st=>Sw q5 272 273 [pt x1,pt y1,pt z1] [pt u1] 20 7 (fun _=>1) (fF (cl) K U) d (it1.le L5) aJ aJ (va1 _) (fun i e=>by have:=D i (sY.1 e).1;omega)) ?_;rintro _ d q6 ⟨c1,d1,e1,f1,rfl,p⟩ k L6 N6
 have st1:=p q6 L6 k
 have E6:=E5.trans' L6
 refine wE 21 [q6,l,p0,all w] fun M=>?_;refine vS p0 q6 (Sc q6 (fF (G) L tl)) (fun d st=>Ud q6 nl R J kl Jm Ku Al Tl Fl (G) L tl d (Qo.le E6) vT aA (Qj.le E6) aBK (hfl.le E6) aBN (fun i e=>by have:=C i e;omega)) ?_;rintro _ d q7 ⟨x2,y2,z2,rfl,t⟩ k L7 N7
 have it2:=t q7 L7 k
 have E7:=E6.trans' L7
 refine wE 22 [q7,l,p0,all w] fun M=>?_;refine vS p0 q7 (Xf 0) (fun d st=>aAl 0 d) ?_;rintro _ d q8 ⟨u2,rfl,z⟩ k L8 N8
 have va2:=z q8 k
 have E8:=E7.trans' L8
 refine wE 23 [q8,l,p0,all w] fun M=>?_;refine vS p0 q8 (Rv q8 (Bf 22 4 (fun _=>0) (fF (G) L tl))) (fun d st=>Sw q8 272 273 [pt x2,pt y2,pt z2] [pt u2] 22 4 (fun _=>0) (fF (G) L tl) d (it2.le L8) aJ aJ (va2 _) (fun i e=>by have:=C i (sY.1 e).1;omega)) ?_;rintro _ d q9 ⟨c2,d2,e2,f2,rfl,p⟩ k L9 N9
 have Ew:=p q9 L9 k
 have E9:=E8.trans' L9
 refine wE 29 [q9,l,p0,all w] fun M=>?_;refine vS p0 q9 (Sc q9 (fF (G) tl L)) (fun d st=>Ud q9 nl J R kl Ku Jm Al Fl Tl (G) tl L d (Qo.le E9) vT aA (hfl.le E9) aBN (Qj.le E9) aBK (fun i e=>by have:=C i e;omega)) ?_;rintro _ d q10 ⟨x3,y3,z3,rfl,t⟩ k L10 N10
 have it3:=t q10 L10 k
 have E10:=E9.trans' L10
 refine wE 30 [q10,l,p0,all w] fun M=>?_;refine vS p0 q10 (Xf 1) (fun d st=>aAl 1 d) ?_;rintro _ d Y ⟨u3,rfl,z⟩ k L11 N11
 have va3:=z Y k
 have E11:=E10.trans' L11
 refine wE 31 [Y,l,p0,all w] fun M=>?_;refine vS p0 Y (Rv Y (Bf 22 4 (fun _=>1) (fF (G) tl L))) (fun d st=>Sw Y 272 273 [pt x3,pt y3,pt z3] [pt u3] 22 4 (fun _=>1) (fF (G) tl L) d (it3.le L11) aJ aJ (va3 _) (fun i e=>by have:=C i (sY.1 e).1;omega)) ?_;rintro _ d Yj ⟨c3,d3,e3,f3,rfl,p⟩ k L12 N12
 have st3:=p Yj L12 k
 have E12:=E11.trans' L12
 refine wE 37 [Yj,l,p0,all w] fun M=>?_;refine vS p0 Yj (Sc Yj (fF (cl.reverse) U K)) (fun d st=>Ud Yj Z I T c13 Kw mG A13 Fc Tc (cl.reverse) U K d (f13.le E12) (by simpa using hnc) aA (Uy.le E12) aBP (Uv.le E12) aBM (fun i e=>by have:=(fun i e=>D i (by simpa using e)) i e;omega)) ?_;rintro _ d q13 ⟨x4,y4,z4,rfl,t⟩ k L13 N13
 have it4:=t q13 L13 k
 have E13:=E12.trans' L13
 refine wE 38 [q13,l,p0,all w] fun M=>?_;refine vS p0 q13 (Xf 0) (fun d st=>aAl 0 d) ?_;rintro _ d O ⟨u4,rfl,z⟩ k L14 N14
 have va4:=z O k
 have E14:=E13.trans' L14
 refine wE 39 [O,l,p0,all w] fun M=>?_;refine vS p0 O (Rv O (Bf 20 7 (fun _=>0) (fF (cl.reverse) U K))) (fun d st=>Sw O 272 273 [pt x4,pt y4,pt z4] [pt u4] 20 7 (fun _=>0) (fF (cl.reverse) U K) d (it4.le L14) aJ aJ (va4 _) (fun i e=>by have:=(fun i e=>D i (by simpa using e)) i (sY.1 e).1;omega)) ?_;rintro _ d Yi ⟨c4,d4,e4,f4,rfl,p⟩ k L15 N15
 have st4:=p Yi L15 k
 have E15:=E14.trans' L15
 refine wE 45 [Yi,l,p0,all w] fun M=>?_;refine vS p0 Yi (Sc Yi (fF (B.reverse) H E)) (fun d st=>Ud Yi X N V c14 Kv Jo A14 Fd Td (B.reverse) H E d (f14.le E15) (by simpa using hnd) aA (Ux.le E15) aBO (Uu.le E15) aBL (fun i e=>by have:=(fun i e=>A i (by simpa using e)) i e;omega)) ?_;rintro _ d Yh ⟨x5,y5,z5,rfl,t⟩ k L16 N16
 have it5:=t Yh L16 k
 have E16:=E15.trans' L16
 refine wE 47 [Yh,l,p0,all w] fun M=>?_;refine vS p0 Yh (Rv Yh (Bf 17 4 (rQ s) (fF (B.reverse) H E))) (fun d st=>Sw Yh 272 269 [pt x5,pt y5,pt z5] [pt g1] 17 4 (rQ s) (fF (B.reverse) H E) d (it5.le (Piece.Le.refl _)) aJ aJ ((aNv (fF (B.reverse) H E) (fun i e=>by have:=(fun i e=>A i (by simpa using e)) i (sY.1 e).1;omega)).le E16) (fun i e=>by have:=(fun i e=>A i (by simpa using e)) i (sY.1 e).1;omega)) ?_;rintro _ d q17 ⟨c5,d5,e5,f5,rfl,p⟩ k L17 N17
 have Pa:=p q17 L17 k
 have E17:=E16.trans' L17
 refine wE 48 [q17,l,p0,all w] fun M=>?_;rcases M with _ | g15
 all_goals
  dsimp only[yP,Bx,Dm,Ie];refine eX fun gS=>?_;refine jA ?_;refine iU ?_
 refine mF (fun _ h=>h.tail.cN) ?_;refine dB 49 ?_;refine eE fun g15=>?_;refine jA ?_;refine iU ?_
 rotate_left
 refine aZ [1,0] ?_
 all_goals
  refine mF (fun _ h=>h.tail.tail.cN) ?_;refine dB 50 ?_;refine aGz rfl rfl ?_;dsimp only[List.set];refine fY ?_;refine kV ?_;refine eR ?_;refine fO ?_;refine jS ?_;refine lH (vf:=[]) (vc:=[pt g15]) rfl rfl aE ?_;refine aF ?_;refine aLr p0 q17 [0,1] [] aB aB N17 rfl aE aE fun qs hqs Ls Ns=>?_
  have r15:=uI (o:=0) (hqs 0 _ aB rfl) rfl
  obtain⟨FS,sS,zS⟩:=hqs 1 _ aB rfl
  have rS:=uH (n:=6) (sz:=1) (c:=6) sS zS rfl
  refine Ai fun d st=>⟨⟨_,rfl,g15,rfl,fun q2 hp2 Ko=>?_⟩,st.below aB⟩
  have Lq:=aQK (p0:=p0) st (by simp:qs∈_) Ns (((m.trans' E17).trans' Ls)) hp2 Ko
  have T17:=Ls.trans' Lq
  have T16:=L17.trans' T17
  have T15:=L16.trans' T16
  have T14:=L15.trans' T15
  have T13:=L14.trans' T14
  have T12:=L13.trans' T13
  have T11:=L12.trans' T12
  have T10:=L11.trans' T11
  have T9:=L10.trans' T10
  have T8:=L9.trans' T9
  have T7:=L8.trans' T8
  have T6:=L7.trans' T7
  have T5:=L6.trans' T6
  have T4:=L5.trans' T5
  have T3:=L4.trans' T4
  have hall:=aW1 q2 g15 6 6 _ [⟨271,[pt c0,pt d0,pt e0,pt f0],kY 17 4 (fun _=>1) (fF (B) E H)⟩,⟨271,[pt c1,pt d1,pt e1,pt f1],kY 20 7 (fun _=>1) (fF (cl) K U)⟩,⟨271,[pt c2,pt d2,pt e2,pt f2],kY 22 4 (fun _=>0) (fF (G) L tl)⟩,⟨271,[pt c3,pt d3,pt e3,pt f3],kY 22 4 (fun _=>1) (fF (G) tl L)⟩,⟨271,[pt c4,pt d4,pt e4,pt f4],kY 20 7 (fun _=>0) (fF (cl.reverse) U K)⟩,⟨271,[pt c5,pt d5,pt e5,pt f5],kY 17 4 (rQ s) (fF (B.reverse) H E)⟩] (r15.le Lq) (rS.le Lq) rfl aA (fun r hr=>by
   simp only[fT,pY,or_false] at hr;rcases hr with rfl | rfl | rfl | rfl | rfl | rfl
   .exact⟨aJ,by have h:=st0.le T3;rw[Sz] at h;exact h⟩
   .exact⟨aJ,by have h:=st1.le T6;rw[Sz] at h;exact h⟩
   .exact⟨aJ,by have h:=Ew.le T9;rw[Sz] at h;exact h⟩
   .exact⟨aJ,by have h:=st3.le T12;rw[Sz] at h;exact h⟩
   .exact⟨aJ,by have h:=st4.le T15;rw[Sz] at h;exact h⟩
   .exact⟨aJ,by have h:=Pa.le T17;rw[Sz] at h;exact h⟩)
  simpa[Ho,xJ] using hall
def Eo(g:List (List Int)):Prop:=∀(k:Nat) (l:List Int),g[k]? =some l->∀u∈l,0<=u/\u < (k:Int)
def Eo.in{g:List (List Int)}(h:Eo g):Cm g:=by
 intro l d u e;obtain⟨k,c⟩:=lA d
 have:=h k l c u e
 have:=(cE.1 c).1
 omega
def Eo.next{g:List (List Int)}(h:Eo g){k:Nat}(hk:k < g.length):Mx g (List.range k)=some k:=by
 refine aI1 hk (fun j e=>aEa (by simpa using e)) ?_;unfold yG;obtain⟨l,c⟩:∃l,g[k]? =some l:=⟨_,cX hk⟩
 rw[c];simp only[tV,jY,Ml,mJ];refine⟨aB,fun u d=>?_⟩
 have:=h k l c u d
 simp;omega
def Eo.order{g:List (List Int)}(h:Eo g):∀(m k:Nat),k+m=g.length->wX g m (List.range k)=some (List.range g.length)
 | 0,k,hk=>by rw[wX];simp at hk;rw[hk]
 | m+1,k,hk=>by
  rw[wX,h.next aA]
  have:=Eo.order h m (k+1) aA
  rw[zH] at this;exact this
def Eo.gY{g:List (List Int)}(h:Eo g)(hl:g.length<=100):gY g=(0,List.range g.length):=by
 have e:Iu g=false:=aKO fun k l f j u i=>by
  have:=h.in l (dJ f) u (dJ i)
  exact this
 have d:uA g=0:=by unfold uA;rw[aC aA,e];rfl
 have c:=h.order g.length 0 aA
 unfold Go.Proofs.YtmpkkaknjkffpaaGreatDoor.gY;rw[aC (by simp[d])];simp only[List.range_zero] at c;rw[c]
def Ft{es:List Int}(h:∀e∈es,e=0):mQ es=0:=Nj fun j c=>by rw[cX c,h _ (Mu c)]
def Mc{n lo hi:Int}(c:lo<=n)(d:n<=hi):jV n lo hi=true:=by simp[jV,c,d]
def Et{b:Bool}{e:Int}(h:b=false):kD b e=0:=by rw[h];rfl
section
variable(h:s.made)
include h
def aRx:Eo (lT s):=by
 intro k l d u f;simp only[lT,eO,kS] at d;obtain⟨c,e,rfl⟩:=d;exact(h.aL k c e).1 u f
def aRv:Eo (lS s):=by
 intro k l f u c;simp only[lS,eO,kS] at f;obtain⟨d,hd,rfl⟩:=f
 have:=(h.domains k d hd).1
 split at c
 .cases c
 .rename_i e
  simp at c;subst c;exact this.resolve_left e
def aRu:Eo (dS s):=by
 intro k l c u f;simp only[dS,eO,kS] at c;obtain⟨d,hd,rfl⟩:=c;obtain⟨_,_,_,_,_,_,_,_,_,_,_,e⟩:=h.aG k d hd;exact e u f
def Yw:s.small:=by
 refine⟨by have:=h.nc;omega,by have:=h.nd;omega,by have:=h.nr;omega,by have:=h.nv;omega,fun c i=>?_,fun d hd=>?_⟩
 .obtain⟨k,f⟩:=lA i;rcases(h.aL k c f).2 with e | e | e | e | e
  .rw[e.2.1];simp
  all_goals(have:=e.2.1;omega)
 .obtain⟨k,f⟩:=lA hd;obtain⟨_,_,_,_,_,_,_,_,_,_,e,_⟩:=h.aG k d f;omega
def aEs:gY (lT s)=(0,List.range s.aL.length)/\gY (lS s)=(0,List.range s.domains.length)/\gY (dS s)=(0,List.range s.aG.length):=by
 refine⟨?_,?_,?_⟩
 .have:=(aRx h).gY (by simp[lT];have:=h.nc;omega)
  simpa[lT] using this
 .have:=(aRv h).gY (by simp[lS];have:=h.nd;omega)
  simpa[lS] using this
 .have:=(aRu h).gY (by simp[dS];have:=h.nv;omega)
  simpa[dS] using this
def aRy{k:Nat}{c:fK}(l:s.aL[k]? =some c):Rc s.aL.length c=0:=by
 have r:=(cE.1 l).1
 obtain⟨o,d⟩:=h.aL k c l;refine Ft fun e j=>?_;simp only[fT,pY,or_false] at j;rcases j with rfl | rfl | rfl
 .refine Et ?_;rcases d with d | d | d | d | d
  .simp[nL,d.1,d.2.1]
  .simp[nL,d.1,d.2.1]
  .simp[nL,d.1,d.2.1]
  .simp[nL,d.1,d.2.1]
  .simp[nL,d.1,d.2.1,jV]
 .refine Ft fun e j=>?_;simp only[fR] at j;obtain⟨f,p,rfl⟩:=j
  have:=o f p
  exact Et (by rw[Mc aA aA];rfl)
 .refine Et ?_;rcases d with d | d | d | d | d
  .obtain⟨i,_,n,m,_⟩:=d;simp[wZ,i];omega
  .obtain⟨i,_,_,n,m,x,h7,w,t⟩:=d;simp[wZ,i,jV];omega
  .obtain⟨i,_,_,_,n,m,_⟩:=d;simp[wZ,i,jV];omega
  .simp[wZ,d.1]
  .simp[wZ,d.1]
def aRw{k:Nat}{d:Dom}(hd:s.domains[k]? =some d):Vr s.domains.length d=0:=by
 have i:=(cE.1 hd).1
 obtain⟨c,l,j⟩:=h.domains k d hd;refine Ft fun e f=>?_;simp only[fT,pY,or_false] at f;rcases f with rfl | rfl
 .refine Et ?_;rcases c with c | c
  .simp[c]
  .rw[Mc aA aA];simp
 .exact Et (by rw[Mc aA aA];rfl)
def aIF{k:Nat}{d:bR}(hd:s.aG[k]? =some d):Vu s.aL.length s.domains.length s.bG.length s.aG.length d=0/\Uj d=0:=by
 have o:=(cE.1 hd).1
 obtain⟨w,p,t,m,x,l,_,_,n,_,r,i⟩:=h.aG k d hd;refine⟨Ft fun e c=>?_,?_⟩
 .simp only[fT,pY,or_false] at c;rcases c with rfl | rfl | rfl | rfl
  .exact Et (by rw[Mc aA aA];rfl)
  .exact Et (by rw[Mc aA aA];rfl)
  .exact Et (by rw[Mc aA aA];rfl)
  .refine Ft fun e c=>?_;simp only[fR] at c;obtain⟨f,j,rfl⟩:=c
   have:=i f j
   exact Et (by rw[Mc aA aA];rfl)
 .refine Et ?_;simp;omega
def Yx:Rf s=0:=by
 obtain⟨i,j,l⟩:=aEs h;refine Ft fun e c=>?_;simp only[aCk,fT,pY,or_false] at c
 have n:=h.nc
 have m:=h.nd
 have o:=h.nr
 have p:=h.nv
 rcases c with rfl | rfl | rfl | rfl | rfl | rfl | rfl | rfl
 .rw[Kt,aC aA];refine Ft fun e c=>?_;obtain⟨d,hd,rfl⟩:=fR.1 c;obtain⟨k,f⟩:=lA hd;exact(aIF h f).2
 .refine Ft fun e c=>?_;obtain⟨d,hd,rfl⟩:=fR.1 c;obtain⟨k,f⟩:=lA hd;exact aRy h f
 .rw[Ip,i];rfl
 .refine Ft fun e c=>?_;obtain⟨d,hd,rfl⟩:=fR.1 c;obtain⟨k,f⟩:=lA hd;exact aRw h f
 .rw[Ip,j];rfl
 .refine Ft fun e c=>?_;obtain⟨d,hd,rfl⟩:=fR.1 c
  have:=h.bG d hd
  exact Et (by rw[Mc aA aA];rfl)
 .refine Ft fun e c=>?_;obtain⟨d,hd,rfl⟩:=fR.1 c;obtain⟨k,f⟩:=lA hd;exact(aIF h f).1
 .rw[Ip,l];rfl
end
structure aI.Bv(s:aI):Prop where
 aL:Fits fK.fit s.aL
 aG:Fits (bR.fit s.aL.length s.domains.length s.bG.length) s.aG
 nc:s.aL.length<=9
 nd:s.domains.length<=4
 nr:s.bG.length<=3
 nv:s.aG.length<=4
 Wa:Rf s=0
 small:s.small
def aI.made.Bv{s:aI}(h:s.made):s.Bv:=⟨h.aL,h.aG,h.nc.2,h.nd.2,h.nr.2,h.nv.2,Yx h,Yw h⟩
section
attribute [local irreducible] KC KI KQ
def Wy(g:List (List Int))(v:Value)(w w':World):Prop:=∃A m c,v=.tuple #[.slice A m c,iv (gY g).1]/\m=(gY g).2.length/\aO (fresh w w') 1 A m (aU (eD (gY g).2))
def Rz.aDV{w w':World}{g:List (List Int)}{y:Ending}(h:Rz w (gY g).2 (gY g).1 y w'):(∃v,y=.returned v/\Wy g v w w')/\Below w.heap.size w w':=by
 obtain⟨⟨A,m,c,d,e,f⟩,i⟩:=h;exact⟨⟨_,d,A,m,c,rfl,e,f⟩,i⟩
def aR9{k n:Nat}(h:k < n):(aU ((eD (List.range k))++List.replicate (n - k) 0)).set k (iv (k:Int))=aU ((eD (List.range (k+1)))++List.replicate (n - (k+1)) 0):=by
 rw[aBH,Yf _ _ (by simp[eD])];rw[show k - (eD (List.range k)).length=0 by simp[eD],show n - k=(n - (k+1))+1 by omega,List.replicate_succ,Pq,zH,aEh,Mm];rfl
def aW0(s:aI)(c cl d:List Nat)(k f i e j tl:List Bool):(xJ s c cl d k f i e j tl).length<=2*(c.length+cl.length+d.length):=by
 have h:=fun(a:List Nat) (x y:List Bool)=>Pj (uL x y) a
 have p:=h c k e;have o:=h cl f j;have r:=h d i tl;have n:=h d tl i;have l:=h cl.reverse j f;have m:=h c.reverse e k
 rw[List.length_reverse] at l m;simp only[xJ,kY,fF,rF,Jv];omega
def aXw{Y:Nat->Prop}{w:World}{F:Nat->Prop}{e:TypeId}{sz n:Nat}{v:Value}{xs:List Value}(h:(HP.own e sz v n xs).sat F w)(hF:∀b,F b->Y b):∃A c,v=.slice A n c/\aO ⟨w,Y⟩ sz A n xs/\n<=c:=by
 obtain⟨A,c,d,j⟩:=Em (Y:=Y) h hF;refine⟨A,c,d,j,?_⟩;obtain⟨_,k⟩:=h;rcases k.2 with⟨rfl,m⟩ | ⟨g,f,l,rfl,_,_,i,_⟩
 .omega
 .cases d;exact i
set_option maxHeartbeats 1000000 in
def aNQ(s:aI)(A1 A2 A3 A4 Fd Fc Fl Td Tc Tl:Option Addr)(n1 k1 n2 k2 n3 k3 n4 k4 Vg Kv Vi Kw Vd Ku Ss Jo Su mG Sr Jm:Nat)(fd fc fl td tc tl:List Bool)(w:World)(hW:jH w s A1 n1 A2 n2 A3 n3 A4 n4)(aEJ:Rf s=0)(hD3:(gY (lS s)).2.length<=1000000)(hC3:(gY (lT s)).2.length<=1000000)(hDb:∀i∈(gY (lS s)).2,i < n2)(hCb:∀i∈(gY (lT s)).2,i < 1000000)
    (Ux:aO (all w) 1 Fd Vg (bO fd)) (aBO:Vg=fd.length) (Uu:aO (all w) 1 Td Ss (bO td)) (aBL:Ss=td.length) (Uy:aO (all w) 1 Fc Vi (bO fc)) (aBP:Vi=fc.length) (Uv:aO (all w) 1 Tc Su (bO tc)) (aBM:Su=tc.length) (hfl:aO (all w) 1 Fl Vd (bO fl)) (aBN:Vd=fl.length) (Qj:aO (all w) 1 Tl Sr (bO tl)) (aBK:Sr=tl.length):
    Cz 259 #[.agg #[.slice A1 n1 k1,.slice A2 n2 k2,.slice A3 n3 k3,.slice A4 n4 k4],.agg #[.slice Fd Vg Kv,.slice Fc Vi Kw,.slice Fl Vd Ku],.agg #[.slice Td Ss Jo,.slice Tc Su mG,.slice Tl Sr Jm]] w (fun y w'=>(∃A c,y=.returned (.slice A (xJ s (gY (lS s)).2 (gY (lT s)).2 (List.range n3) fd fc fl td tc tl).length c)/\aO (fresh w w') 4 A (xJ s (gY (lS s)).2 (gY (lT s)).2 (List.range n3) fd fc fl td tc tl).length ((xJ s (gY (lS s)).2 (gY (lT s)).2 (List.range n3) fd fc fl td tc tl).flatMap eJ.cells)/\(xJ s (gY (lS s)).2 (gY (lT s)).2 (List.range n3) fd fc fl td tc tl).length<=c)/\Below w.heap.size w w'):=by
  have Nc:=hW.vQ
  have hn2:=hW.vP
  have Zd:=hW.yJ
  have Bw:=hW.small
  unfold aI.small at Bw;obtain⟨hs1,yM,hs3,hs4,hs5,hs6⟩:=Bw;refine Gg (vs:=[.agg #[.slice A1 n1 k1,.slice A2 n2 k2,.slice A3 n3 k3,.slice A4 n4 k4],.agg #[.slice Fd Vg Kv,.slice Fc Vi Kw,.slice Fl Vd Ku],.agg #[.slice Td Ss Jo,.slice Tc Su mG,.slice Tl Sr Jm]]) func259 rfl ntmps259 (by simp) (St.start w) ?_;dsimp only[dW,dG];refine qX ?_;refine rL (by kernel_rfl) ?_;refine eI fun g1=>?_;refine eI fun g2=>?_;refine eI fun g3=>?_;refine bN ?_;refine lV ?_;refine lE ?_;refine qX ?_;refine qX ?_;refine rL (by kernel_rfl) ?_;refine bN ?_;refine gZ (fun w1 st=>aAd s A1 A2 A3 A4 n1 k1 n2 k2 n3 k3 n4 k4 w1 (hW.le (st.started (by simp)))) ?_;refine bN ?_;refine lV ?_;refine lE ?_;refine sA rfl (fun h=>?_) (fun h=>?_)
  .
    refine qX ?_;refine rL (by kernel_rfl) ?_;refine bN ?_;refine lV ?_;refine lE ?_;refine aFW ?_;refine lE ?_;exact absurd aEJ h
  .
    refine aFV ?_;refine lE ?_;refine qX ?_;refine rL (by kernel_rfl) ?_;refine bN ?_;refine jL [(all w)] (Jc (lS s)) (fun w1 st=>aJX s A1 A2 A3 A4 n1 k1 n2 k2 n3 k3 n4 k4 w1 (hW.le (st.started (by simp)))) ?_;rintro _ w1 qda ⟨Ag,cg,rfl,Kn⟩ hf Lq _
    have Kn:=Kn.le hf
    have aX6:=Lq (all w) (by simp)
    clear hf Lq
    refine jL [qda] (Wy (lS s)) (fun w1 st=>(aBt Ag _ cg (lS s) w1 (Kn.le (st.le (by simp))) rfl (by simp[lS];omega) (fun l hl=>by
        simp only[lS,fR] at hl;obtain⟨x,_,rfl⟩:=hl
        split<;>simp)).mono fun y w2 h=>h.aDV) ?_
    rintro _ w1 qd ⟨AD,mD,cD,rfl,hmD,hsD⟩ hf Lq _
    have hsD:=hsD.le hf
    have Lqd:=Lq qda (by simp)
    clear hf Lq Kn;refine bN ?_;refine bN ?_;refine bN ?_;refine bN ?_;refine bN ?_;refine lV ?_;refine lE ?_;refine qX ?_;refine rL (by kernel_rfl) ?_;refine bN ?_;refine jL [qd] (Jc (lT s)) (fun w1 st=>aK6 s A1 A2 A3 A4 n1 k1 n2 k2 n3 k3 n4 k4 w1 (hW.le (st.started (by simp)))) ?_;rintro _ w1 qca ⟨Ag,cg,rfl,Kn⟩ hf Lq _
    have Kn:=Kn.le hf
    have aMl:=Lq qd (by simp)
    clear hf Lq
    refine jL [qca] (Wy (lT s)) (fun w1 st=>(aBt Ag _ cg (lT s) w1 (Kn.le (st.le (by simp))) rfl (by simp[lT];omega) (fun l hl=>by
        simp only[lT,fR] at hl;obtain⟨x,hx,rfl⟩:=hl
        have:=hs5 x hx;omega)).mono fun y w2 h=>h.aDV) ?_
    rintro _ w1 qc ⟨AC,mC,cC,rfl,hmC,hsC⟩ hf Lq _
    have hsC:=hsC.le hf
    have Lqc:=Lq qca (by simp)
    clear hf Lq Kn;refine bN ?_;refine bN ?_;refine bN ?_;refine bN ?_;refine bN ?_;refine lV ?_;refine lE ?_;refine qX ?_;refine rL (by kernel_rfl) ?_;refine bN ?_;refine bN ?_;refine bN ?_;refine oZ 8 (el:=3) (z:=iv 0) (by kernel_rfl) (by kernel_rfl) rfl rfl rfl (by omega) (by omega) (by decide) fun g4=>?_;refine bN ?_;refine lV ?_;refine lE ?_;refine qX ?_;refine qX ?_;refine rL (by kernel_rfl) ?_;refine bN ?_;refine bN ?_;refine bN ?_;refine lV ?_;refine lE ?_;refine cF [(36,iv 0),(35,iv n3),(11,.slice (some ⟨g4,0,none⟩) n3 n3),(9,.slice AC mC cC),(7,.slice AD mD cD),(5,pt g3),(4,pt g2),(3,pt g1)] ?_;refine aZ [0,1,2,3,4] ?_ (R':=[qc,all w]);refine Lo ?_;refine aA0 (fun m L e R H=>∃k:Nat,k<=n3/\m=n3 - k/\L=[]/\e=[(36,iv k),(35,iv n3),(11,.slice (some ⟨g4,0,none⟩) n3 n3),(9,.slice AC mC cC),(7,.slice AD mD cD),(5,pt g3),(4,pt g2),(3,pt g1)]/\R=[qc,all w]/\H=[HP.aK g4 3 (aU ((eD (List.range k))++List.replicate (n3 - k) 0)),HP.aK g3 138 [.slice Td Ss Jo,.slice Tc Su mG,.slice Tl Sr Jm],HP.aK g2 138 [.slice Fd Vg Kv,.slice Fc Vi Kw,.slice Fl Vd Ku],HP.aK g1 30 [.slice A1 n1 k1,.slice A2 n2 k2,.slice A3 n3 k3,.slice A4 n4 k4],sC []]) n3 ⟨0,by omega,rfl,rfl,rfl,rfl,by simp[aU,eD,Value.cells]⟩ fun m L e R H hI=>?_;obtain⟨k,hk,rfl,rfl,rfl,rfl,rfl⟩:=hI;refine qX ?_;refine rL (by kernel_rfl) ?_;refine bN ?_;refine lV ?_;refine lE ?_;refine qX ?_;refine sA rfl (fun h=>?_) (fun h=>?_)
    .
      refine aFV ?_;refine lE ?_;refine qX ?_;refine Lo ?_;refine qX ?_;refine rL (by kernel_rfl) ?_;refine bN ?_;refine bN ?_;refine lV ?_;refine lE ?_;refine rL (by kernel_rfl) ?_;refine bN ?_;refine bN ?_;refine bN ?_;refine aF ?_;refine tR 0 rfl (by kernel_rfl) rfl rfl rfl (by simp[aU,eD];omega) ?_;dsimp only[List.set];rw[aR9 (by omega)];refine lV ?_;refine lE ?_;refine rL (by kernel_rfl) ?_;refine bN ?_;refine bN ?_;refine lV ?_;refine lE ?_;exact cF [(36,iv (k+1)),(35,iv n3),(11,.slice (some ⟨g4,0,none⟩) n3 n3),(9,.slice AC mC cC),(7,.slice AD mD cD),(5,pt g3),(4,pt g2),(3,pt g1)] (Oa (n3 - (k+1)) (by omega) ⟨k+1,by omega,rfl,rfl,rfl,rfl,rfl⟩)
    .
      refine aLC ?_;refine lE ?_;refine qX ?_;refine rL (by kernel_rfl) ?_;refine eE fun g5=>?_;refine lV ?_;refine lE ?_;refine qX ?_;refine qX ?_;refine dX [qc] [1] [0,2,3,4,5] fun q5 hq5 L5 _=>?_
      have L5:=L5 qc (by simp)
      have hk3:k=n3:=by omega
      have aJh:=uH (n:=n3) (sz:=1) (c:=n3) (hq5 1 _ (by simp) rfl).choose_spec.1 (hq5 1 _ (by simp) rfl).choose_spec.2 (by simp[aU,eD];omega)
      rw[hk3,yC,List.replicate_zero,nZ] at aJh
      have L0:(all w).Le q5:=(((aX6.trans' Lqd).trans' aMl).trans' Lqc).trans' L5
      refine aZ [0,1,2,3,4] ?_ (R':=[q5,all w]);refine rL (by kernel_rfl) ?_;refine bN ?_;refine bN ?_;refine bN ?_;refine bN ?_;refine bN ?_;refine bN ?_;refine jL [q5] (aMB q5 (xJ s (gY (lS s)).2 (gY (lT s)).2 (List.range n3) fd fc fl td tc tl)) (fun w1 st=>aWw q5 s A1 A2 A3 A4 AD AC (some ⟨g4,0,none⟩) Fd Fc Fl Td Tc Tl n1 k1 n2 k2 n3 k3 n4 k4 mD cD mC cC n3 n3 Vg Kv Vi Kw Vd Ku Ss Jo Su mG Sr Jm (gY (lS s)).2 (gY (lT s)).2 (List.range n3) fd fc fl td tc tl w1 (st.le (by simp)) (hW.dom.mono (lN L0) (fun _ _ h=>h)) (by omega) (hsD.le ((aMl.trans' Lqc).trans' L5)) hmD (by omega) hDb (hsC.le L5) hmC (by omega) hCb aJh (by simp) (by omega) (fun i hi=>by have:=mI.1 hi;omega) (Ux.le L0) aBO (Uu.le L0) aBL (Uy.le L0) aBP (Uv.le L0) aBM (hfl.le L0) aBN (Qj.le L0) aBK) ?_;rintro _ w1 q6 ⟨g6,rfl,hall⟩ hf L6 _
      have hit:=hall q6 (L6 q5 (by simp)) hf
      refine lV ?_;refine lE ?_;refine Lo ?_;refine oF 283 4 ?_;refine oP ?_;generalize hSL:xJ s (gY (lS s)).2 (gY (lT s)).2 (List.range n3) fd fc fl td tc tl=SL at hit;refine wB 0 (f:=fun v=>HP.many [HP.own 283 4 v 0 ((SL.take 0).flatMap eJ.cells),HP.aK g5 140 [v]]) (sn) rfl ?_;dsimp only[List.set];refine aZ [0,4] ?_ (R':=[q6,all w]);refine cF [(50,.func (.func 270) #[] #[pt g6]),(13,pt g5)] ?_
      refine Ln (gf:=270) (lb:=[pt g6]) (encs:=rP SL) (p:=q6) rfl (by kernel_rfl) hit (by simp) (fun vs hvs=>?_) (by decide) (fun k=>[(HP.ex fun v=>HP.many [HP.own 283 4 v k ((SL.take k).flatMap eJ.cells),HP.aK g5 140 [v]])]) (fun _=>[HP.ex fun(_:Empty)=>cS])
        (fun k vs e1 H1=>∃(g7:Nat) (s:eJ),vs=[vH s]/\e1=[(14,pt g7),(13,pt g5)]/\H1=[HP.aK g7 283 s.cells,(HP.ex fun v=>HP.many [HP.own 283 4 v k ((SL.take k).flatMap eJ.cells),HP.aK g5 140 [v]])]) rfl ?_ ?_ ?_ ?_
      · simp only[rP,fR] at hvs
        obtain⟨s,_,rfl⟩:=hvs;rfl
      · intro l2 k vs W1 q X hvs Bw
        obtain⟨s,rfl⟩:∃s,vs=[vH s]:=by
          simp only[rP,eO,kS] at hvs;obtain⟨s,_,e⟩:=hvs;exact⟨s,e.symm⟩
        dsimp only[dW,dG];refine rL (by kernel_rfl) ?_;refine eE fun g7=>?_;refine uJ 0 rfl rfl rfl (by kernel_rfl) (by simp[vH,eJ.cells,Value.cells,Value.oneCell']) (by simp[vH,eJ.cells,Value.cells]) ?_;rw[show jR [Value.int .i64 0,iv 0,.int .u32 0,.int .u32 0] 0 (vH s).cells.toList=s.cells by simp[jR,vH,eJ.cells,Value.cells]];dsimp only[List.set];refine lV ?_;refine cF [(14,pt g7),(13,pt g5)] ?_;exact Lp (H1:=[HP.aK g7 283 s.cells,(HP.ex fun v=>HP.many [HP.own 283 4 v k ((SL.take k).flatMap eJ.cells),HP.aK g5 140 [v]])]) ⟨g7,s,rfl,rfl,rfl⟩
      · rintro l2 k vs W1 q X _ _ hvs Bw ⟨g7,s,rfl,rfl,rfl⟩
        have hsk:SL[k]? =some s:=by
          simp only[rP,eO,kS] at hvs;obtain⟨s',h,e⟩:=hvs
          have:s'=s:=by
            cases s;cases s';simp[vH,eJ.cells] at e;simp[e]
          exact this▸h
        have hkl:=(cE.1 hsk).1
        have aXZ:SL.length<=6000000:=by rw[<-hSL];refine oL (aW0 _ _ _ _ _ _ _ _ _ _) ?_;simp only[List.length_range];omega
        have Qk:((SL.take (k+1)).flatMap eJ.cells)=((SL.take k).flatMap eJ.cells)++s.cells:=by
          rw[vK,hsk];simp
        dsimp only[dW,dG];refine Lo ?_;refine kF 1 fun v=>?_;refine bB 1 0 ?_;refine bB 2 1 ?_;refine rL (by kernel_rfl) ?_;refine iF (Rd.aK 0 rfl rfl) ?_;refine aF ?_;refine aG0 (cs:=s.cells) (el:=283) (sz:=4) (zs:=[iv 0,iv 0,.int .u32 0,.int .u32 0]) (by kernel_rfl) (sD (by kernel_rfl)) (by kernel_rfl) rfl (by decide) (by decide) rfl (by simp[mR,qQ,Value.cells,zH,List.set,eJ.cells]) (by decide) fun g8=>?_;refine jU 2 4 24 1 (n':=k+1) (el:=283) (by kernel_rfl) (by kernel_rfl) (by decide) rfl rfl rfl (tU 0 rfl rfl) (by simp[eJ.cells,Value.oneCell']) rfl (by omega) (by omega) (by decide) fun A' k'=>?_;dsimp only[List.set];refine tR 1 rfl (by kernel_rfl) rfl rfl rfl (by simp) ?_;dsimp only[List.set];refine lV ?_;refine aZ [2,1,4,5] ?_;refine aP 1 0 ?_;refine aP 0 1 ?_;refine wB 0 (f:=fun v=>HP.many [HP.own 283 4 v (k+1) ((SL.take (k+1)).flatMap eJ.cells),HP.aK g5 140 [v]]) (.slice A' (k+1) k') (by rw[Qk];rfl) ?_;dsimp only[List.set];refine lE ?_;exact oX
      rotate_left
      · intro D k hk
        exact aCA 0 rfl fun a=>a.elim
      intro D;dsimp only[dW,dG];refine kF 0 fun v=>?_;refine bB 0 0 ?_;refine bB 1 1 ?_;refine lE ?_;refine qX ?_;refine rL (by kernel_rfl) ?_;refine bN ?_;refine bN ?_;refine lV ?_;refine lE ?_;refine aFW ?_;refine lE ?_;refine dX [] [1] [3] fun qf hqf _ hfr=>?_;obtain⟨Ff,sf,zf⟩:=hqf 1 _ (by simp) rfl;obtain⟨Av,cv,rfl,hsv,hcv⟩:=aXw (Y:=qf.Z) sf zf;refine aL8 (Hs:=[]) rfl rfl fun w1 st=>⟨⟨Av,cv,by simp[rP],?_,by simpa[rP] using hcv⟩,st.below (by simp)⟩
      have hlen:(rP SL).length=SL.length:=by simp[rP]
      rw[hlen,Bn] at hsv;exact aO.le hsv (st.oA (by simp) (hfr (by simp) (by simp)))
end
def eqV:Value->Value->Bool
 | .int _ a,.int _ b=>a==b
 | .bool a,.bool b=>a==b
 | _,_=>false
def Vl:List Value->List Value->Bool
 | [],[]=>true
 | x::xs,y::ys=>eqV x y&&Vl xs ys
 | _,_=>false
def Ni(P:Program):List Field->Nat->List Value->List Value->Bool
 | [],_,[],[]=>true
 | f :: fs, i, x :: xs, y :: ys => f.name != "_" && f.offset == i && (match P.underlying f.type, x, y with
   | some (.int _),.int kx _,.int ky _=>decide (kx=ky)
   | some .bool,.bool _,.bool _=>true
   | _,_,_=>false)&&Ni P fs (i+1) xs ys
 | _,_,_,_=>false
section
variable{P:Program}
def aBc{t:TypeId}{cs:Array Value}{i:Nat}{v:Value}{d:TypeDesc}(c:P.underlying t=some d)(hd:(∃k,d=.int k)\/d=.bool)(hx:cs[i]? =some v):(part t cs i).run P w=.ok v w:=by
 rcases hd with⟨k,rfl⟩ | rfl<;>simp[part,isAgg,run_underlying c,hx]
def aH6(d:Nat)(xs c:Array Value):∀(j:List Field) (i:Nat),Ni P j i (xs.toList.drop i) (c.toList.drop i)=true->(Op.eqFields (d+1) xs c j).run P w=.ok (Vl (xs.toList.drop i) (c.toList.drop i)) w
 | [], i, h => by
  cases hx:xs.toList.drop i with
  | nil=>cases hy:c.toList.drop i with
   | nil=>simp[Op.eqFields,Vl]
   | cons y yr=>rw[hx,hy] at h;simp[Ni] at h
  | cons x xr=>rw[hx] at h;simp[Ni] at h
 | f :: j, i, h => by
  cases hx:xs.toList.drop i with
  | nil=>rw[hx] at h;simp[Ni] at h
  | cons x xr =>
   cases hy:c.toList.drop i with
   | nil=>rw[hx,hy] at h;simp[Ni] at h
   | cons y yr =>
    rw[hx,hy] at h;simp only[Ni,jY,bne_iff_ne,beq_iff_eq] at h;obtain⟨⟨⟨t,r⟩,h3⟩,p⟩:=h
    have ex:xs[i]? =some x:=by
     have:(xs.toList.drop i)[0]? =some x:=by rw[hx];rfl
     simpa using this
    have A:c[i]? =some y:=by
     have:(c.toList.drop i)[0]? =some y:=by rw[hy];rfl
     simpa using this
    have n:xr=xs.toList.drop (i+1):=by rw[<-List.tail_drop,hx];rfl
    have dy:yr=c.toList.drop (i+1):=by rw[<-List.tail_drop,hy];rfl
    subst n;subst dy
    have ih:=aH6 d xs c j (i+1) p
    have l:∃u,P.underlying f.type=some u/\((∃k,u=.int k)\/u=.bool)/\(Op.equalIn (d+1) f.type x y).run P w=.ok (eqV x y) w:=by
     split at h3
     .rename_i k o a B b e
      have:=eV h3
      subst this;exact⟨_,e,.inl ⟨_,rfl⟩,run_equalIn_int w d f.type o _ a b e⟩
     .rename_i a b e
      exact⟨_,e,.inr rfl,run_equalIn_bool' w d f.type a b e⟩
     .cases h3
    obtain⟨u,e,m,z⟩:=l;simp only[Op.eqFields,aH t,Sem.run_bind,r,aBc e m ex,aBc e m A,Result.andThen_ok,z,Sem.run_ite,Sem.run_pure,ih,Vl];cases eqV x y<;>simp
def Vf(P:Program)(t:TypeId)(xs c:List Value):Bool:=(match P.underlying t with
 | some (.struct fs)=>Ni P fs.toList 0 xs c
 | _=>false)&& !P.stoodInHeld t&& !P.eqGuardType P.depth t
def aOO{t:TypeId}{xs c:List Value}(h:Vf P t xs c=true):(Op.equal t (.agg xs.toArray) (.agg c.toArray)).run P w=.ok (Vl xs c) w/\∀op x y,(eqGuard op t x y (.agg xs.toArray) (.agg c.toArray)).run P w=.ok () w:=by
 unfold Vf at h;simp only[jY,Ml] at h;obtain⟨⟨d,j⟩,k⟩:=h;refine⟨?_,fun op x y=>run_eqGuard_agg w op t x y _ _ k⟩;split at d
 .rename_i i f
  have e:P.fieldsOf t=i:=by unfold Program.fieldsOf;rw[f]
  have:=run_equalIn_struct (P:=P) w 9999 t xs.toArray c.toArray (by rw[e];exact f) j
  unfold Op.equal Op.maxDepth;rw[this,e]
  have:=aH6 (P:=P) (w:=w) 9998 xs.toArray c.toArray i.toList 0 (by simpa using d)
  simpa using this
 .cases d
end
structure bM where
 d:List Bool
 c:List Bool
 l:List Bool
def Ek(p:Piece)(x:bM)(v:Value):Prop:=∃h i e k f j,v=.agg #[.slice h x.d.length i,.slice e x.c.length k,.slice f x.l.length j]/\
 aO p 1 h x.d.length (bO x.d)/\aO p 1 e x.c.length (bO x.c)/\aO p 1 f x.l.length (bO x.l)
def Ek.le{p q:Piece}{x:bM}{v:Value}(h:Ek p x v)(hl:p.Le q):Ek q x v:=by
 obtain⟨n,c,m,f,e,d,k,l,j,i⟩:=h;exact⟨n,c,m,f,e,d,k,l.le hl,j.le hl,i.le hl⟩
def Wv(d:Value->World->World->Prop)(w:World):Ending->World->Prop:=fun y c=>(∃v,y=.returned v/\d v w c)/\Below w.heap.size w c
def iY(l:List Bool)(id:Int)(b:Bool):List Bool:=l.set id.toNat b
def Pu(l:List Bool)(id:Int)(b:Bool):(iY l id b).length=l.length:=by simp[iY]
def iB(x:bM)(p:eJ):bM:=
 if p.pr=17/\p.msg=4/\p.v<=2 then⟨iY x.d p.id (decide (p.v=1)),x.c,x.l⟩
 else if p.pr=20/\p.msg=7/\p.v<=1 then⟨x.d,iY x.c p.id (decide (p.v=1)),x.l⟩
 else if p.pr=22/\p.msg=4/\p.v<=1 then⟨x.d,x.c,iY x.l p.id (decide (p.v=0))⟩ else x
structure bM.sm(x:bM):Prop where
 d:x.d.length<=1000000
 c:x.c.length<=1000000
 l:x.l.length<=1000000
def aKS(x:bM)(p:eJ):(iB x p).d.length=x.d.length/\(iB x p).c.length=x.c.length/\(iB x p).l.length=x.l.length:=by
 unfold iB;split
 .simp[Pu]
 .split
  .simp[Pu]
  .split<;>simp[Pu]
def aFA(l:List Bool)(k:Nat)(b:Bool):(bO l).set k (.bool b)=bO (l.set k b):=by simp[bO,Fi]
def aFB(l:List Bool):(bO l).length=l.length:=by simp[bO]
def Wd(l:List Bool):∀u∈bO l,u.oneCell'=true:=by
 intro u c;simp only[bO,fR] at c;obtain⟨x,_,rfl⟩:=c;rfl
structure eJ.ok(p:eJ):Prop where
 pr: -9223372036854775808<=p.pr/\p.pr<=9223372036854775807
 msg: -9223372036854775808<=p.msg/\p.msg<=9223372036854775807
 id:0<=p.id/\p.id < 4294967296
 v:0<=p.v/\p.v < 4294967296
structure vB(p:Piece)(s:aI)(A1:Option Addr)(n1:Nat)(A2:Option Addr)(n2:Nat)(A3:Option Addr)(n3:Nat)(A4:Option Addr)(n4:Nat):Prop where
 iO:kQ (gB p) (vD (gB p)) 73 6 A1 n1 s.aL
 dom:kQ (gB p) xX 75 3 A2 n2 s.domains
 Ex:kQ (gB p) Ci 77 1 A3 n3 s.bG
 dev:kQ (gB p) (sV (gB p)) 80 6 A4 n4 s.aG
section
variable{p q:Piece}
def vB.le(h:vB p s A1 n1 A2 n2 A3 n3 A4 n4)(hl:p.Le q):vB q s A1 n1 A2 n2 A3 n3 A4 n4:=
 ⟨h.iO.mono (lN hl) (fun _ _=>vD.mono (lN hl)),h.dom.mono (lN hl) (fun _ _ h=>h),h.Ex.mono (lN hl) (fun _ _ h=>h),h.dev.mono (lN hl) (fun _ _=>sV.mono (lN hl))⟩
def vB.W(h:vB p s A1 n1 A2 n2 A3 n3 A4 n4)(hl:p.Le (all w))(hs:s.small):jH w s A1 n1 A2 n2 A3 n3 A4 n4:=⟨(h.le hl).iO,(h.le hl).dom,(h.le hl).Ex,(h.le hl).dev,hs⟩
def vB.len(h:vB p s A1 n1 A2 n2 A3 n3 A4 n4):n1=s.aL.length/\n2=s.domains.length/\n3=s.bG.length/\n4=s.aG.length:=by
 obtain⟨⟨_,_,d,_⟩,⟨_,_,f,_⟩,⟨_,_,c,_⟩,⟨_,_,e,_⟩⟩:=h;exact⟨d,f,c,e⟩
def yT.P{cs:Array Value}(h:yT (gB p) s cs):∃A1 n1 k1 A2 n2 k2 A3 n3 k3 A4 n4 k4,cs=#[.slice A1 n1 k1,.slice A2 n2 k2,.slice A3 n3 k3,.slice A4 n4 k4]/\vB p s A1 n1 A2 n2 A3 n3 A4 n4:=by
 obtain⟨A1,n1,k1,A2,n2,k2,A3,n3,k3,A4,n4,k4,f,i,e,c,d⟩:=h;exact⟨A1,n1,k1,A2,n2,k2,A3,n3,k3,A4,n4,k4,f,i,e,c,d⟩
end
def allM(s:aI)(x y:bM):List eJ:=xJ s (List.range s.domains.length) (List.range s.aL.length) (List.range s.bG.length) x.d x.c x.l y.d y.c y.l
def aLQ(l:List eJ)(v:Value)(w w':World):Prop:=∃A c,v=.slice A l.length c/\aO (fresh w w') 4 A l.length (l.flatMap eJ.cells)/\l.length<=c
def aNR{q qx qy:Piece}{s:aI}{A1 A2 A3 A4:Option Addr}{n1 k1 n2 k2 n3 k3 n4 k4:Nat}{x y:bM}{C D:Value}{w:World}(hS:vB q s A1 n1 A2 n2 A3 n3 A4 n4)(hm:s.made)(H:q.Le (all w))(hx:Ek qx x C)(e:qx.Le (all w))(hy:Ek qy y D)(f:qy.Le (all w)):
  Cz 259 #[.agg #[.slice A1 n1 k1,.slice A2 n2 k2,.slice A3 n3 k3,.slice A4 n4 k4],C,D] w (Wv (aLQ (allM s x y)) w):=by
 obtain⟨p,k,o3⟩:=aEs hm;obtain⟨rfl,rfl,rfl,rfl⟩:=hS.len;obtain⟨V,I,K,Y,J,U,rfl,r,m,n⟩:=hx;obtain⟨X,F,G,c2,Z,R,rfl,t,B,o⟩:=hy
 have h1:=hm.nc
 have h2:=hm.nd
 have h:=aNQ s A1 A2 A3 A4 V K J X G Z _ k1 _ k2 _ k3 _ k4 _ I _ Y _ U _ F _ c2 _ R x.d x.c x.l y.d y.c y.l w (hS.W H (Yw hm)) (Yx hm) (by rw[k];simp;omega) (by rw[p];simp;omega)
  (fun i j=>by rw[k] at j;have:=mI.1 j;omega) (fun i j=>by rw[p] at j;have:=mI.1 j;omega)
  (r.le e) rfl (t.le f) rfl (m.le e) rfl (B.le f) rfl (n.le e) rfl (o.le f) rfl
 rw[p,k] at h
 have E:xJ s ((0:Int),List.range s.domains.length).2 ((0:Int),List.range s.aL.length).2 (List.range s.bG.length) x.d x.c x.l y.d y.c y.l=allM s x y:=rfl
 rw[E] at h;clear E;generalize allM s x y=L at h|-;refine Calls.mono h ?_;rintro z w' ⟨⟨A,c,M,O,N⟩,T⟩;exact⟨⟨_,M,⟨A,c,rfl,O,N⟩⟩,T⟩
def kQ.Dd{α:Type}{p:Piece}{R:α->List Value->Prop}{t:TypeId}{sz n:Nat}{A:Option Addr}{es:List α}(h:kQ (gB p) R t sz A n es){k:Nat}{e:α}(hk:es[k]? =some e):
  ∃b off r,A=some ⟨b,off,none⟩/\p.Z b/\r.length=sz/\R e r/\∀f u,r[f]? =some u->p.w.cell? ⟨b,off+k*sz+f,none⟩=some u:=by
 obtain⟨rows,z,x,l⟩:=h
 have c:k < n:=by
  rw[x];rcases dI k es.length with h | h
  .exact h
  .rw[eW h] at hk;cases hk
 obtain⟨b,off,m,y,j⟩:=aO.at_ l c;obtain⟨r,i,o,C⟩:=z.get hk;refine⟨b,off,r,m,y,i,o,fun f u d=>j f u ?_⟩
 have B:f < sz:=by
  rw[<-i];rcases dI f r.length with h | h
  .exact h
  .rw[eW h] at d;cases d
 rw[C f B,d]
def aRf{p:eJ}{pr msg:Int}{val:Nat->Int}{c:List Nat}(h:p∈kY pr msg val c):∃i∈c,p=⟨pr,msg,i,val i⟩:=by
 simp only[kY,fR] at h;obtain⟨i,d,rfl⟩:=h;exact⟨i,d,rfl⟩
def aDI(s:aI)(k:Nat):rQ s k=0\/rQ s k=2:=by unfold rQ;split<;>simp
def Sx{pr msg:Int}{val:Nat->Int}{c:List Nat}(h:pr=17\/pr=20\/pr=22)(m:msg=4\/msg=7)(f:∀k,val k=0\/val k=1\/val k=2)(hi:∀i∈c,i < 1000):∀p∈kY pr msg val c,p.ok:=by
 intro p e;obtain⟨i,d,rfl⟩:=aRf e
 have j:=hi i d
 have l:=f i
 exact⟨by dsimp only;omega,by dsimp only;omega,by dsimp only;omega,by dsimp only;omega⟩
def aWy{s:aI}(hm:s.made)(x y:bM):∀p∈allM s x y,p.ok:=by
 have l:=hm.nc
 have j:=hm.nd
 have m:=hm.nr
 have e:∀(n:Nat) (fr d:List Bool),n<=9->∀i∈fF (List.range n) fr d,i < 1000:=fun n fr d h i f=>by have:=mI.1 (sY.1 f).1;omega
 have mv:∀(n:Nat) (fr d:List Bool),n<=9->∀i∈fF (List.range n).reverse fr d,i < 1000:=fun n fr d h i f=>by have:=mI.1 (List.mem_reverse.1 (sY.1 f).1);omega
 intro p c;simp only[allM,xJ,oM] at c;rcases c with c | c | c | c | c | c
 .exact Sx aA aA (fun _=>by omega) (e _ _ _ aA) p c
 .exact Sx aA aA (fun _=>by omega) (e _ _ _ aA) p c
 .exact Sx aA aA (fun _=>by omega) (e _ _ _ aA) p c
 .exact Sx aA aA (fun _=>by omega) (e _ _ _ aA) p c
 .exact Sx aA aA (fun _=>by omega) (mv _ _ _ aA) p c
 .exact Sx aA aA (fun k=>by have:=aDI s k;omega) (mv _ _ _ aA) p c
def aHW(l:List Bool)(i j:Nat)(b:Bool):(iY l (i:Int) b)[j]? =if i=j then(l[j]?).map (fun _=>b) else l[j]? :=by
 unfold iY;rw[dL,gX]
 by_cases h:i=j
 .subst h;rw[aH rfl,aH rfl]
  by_cases c:i < l.length
  .rw[aH c,cX c];rfl
  .rw[aC c,eW aA];rfl
 .rw[aC h,aC h]
def Yl(b:Bool):∀(c:List Nat) (l:List Bool) (j:Nat),(c.foldl (fun d (i:Nat)=>iY d (i:Int) b) l)[j]? =if j∈c then(l[j]?).map (fun _=>b) else l[j]?
 | [],l,j=>by simp
 | i :: c, l, j => by
  rw[pW,Yl b c,aHW]
  by_cases f:i=j
  .subst f
   by_cases h:i∈c<;>simp[h]<;>(cases l[i]? <;>rfl)
  .have h3:¬j=i:=fun e=>f e.symm
   by_cases h:j∈c<;>simp[h,f,h3]
def Zv{val:Nat->Int}{b:Bool}(h:∀k,val k<=2/\decide (val k=1)=b):∀(f:List Nat) (x:bM),(kY 17 4 val f).foldl iB x=⟨f.foldl (fun d (i:Nat)=>iY d (i:Int) b) x.d,x.c,x.l⟩
 | [],x=>rfl
 | i :: f, x => by
  have j:=h i
  have e:iB x ⟨17,4,(i:Int),val i⟩=⟨iY x.d (i:Int) b,x.c,x.l⟩:=by
   unfold iB;dsimp only;rw[aH ⟨rfl,rfl,j.1⟩,j.2]
  show(kY 17 4 val f).foldl iB (iB x ⟨17,4,(i:Int),val i⟩)=_
  rw[e,Zv h f];rfl
def Zw{val:Nat->Int}{b:Bool}(h:∀k,val k<=1/\decide (val k=1)=b):∀(f:List Nat) (x:bM),(kY 20 7 val f).foldl iB x=⟨x.d,f.foldl (fun d (i:Nat)=>iY d (i:Int) b) x.c,x.l⟩
 | [],x=>rfl
 | i :: f, x => by
  have j:=h i
  have e:iB x ⟨20,7,(i:Int),val i⟩=⟨x.d,iY x.c (i:Int) b,x.l⟩:=by
   unfold iB;dsimp only;rw[aC aA,aH ⟨rfl,rfl,j.1⟩,j.2]
  show(kY 20 7 val f).foldl iB (iB x ⟨20,7,(i:Int),val i⟩)=_
  rw[e,Zw h f];rfl
def Zu{val:Nat->Int}{b:Bool}(h:∀k,val k<=1/\decide (val k=0)=b):∀(f:List Nat) (x:bM),(kY 22 4 val f).foldl iB x=⟨x.d,x.c,f.foldl (fun d (i:Nat)=>iY d (i:Int) b) x.l⟩
 | [],x=>rfl
 | i :: f, x => by
  have j:=h i
  have e:iB x ⟨22,4,(i:Int),val i⟩=⟨x.d,x.c,iY x.l (i:Int) b⟩:=by
   unfold iB;dsimp only;rw[aC aA,aC aA,aH ⟨rfl,rfl,j.1⟩,j.2]
  show(kY 22 4 val f).foldl iB (iB x ⟨22,4,(i:Int),val i⟩)=_
  rw[e,Zu h f];rfl
def Dl{n i:Nat}{a b:List Bool}:i∈fF (List.range n) a b↔i < n/\uL a b i=true:=by simp[fF]
def Uf{n i:Nat}{a b:List Bool}:i∈fF (List.range n).reverse a b↔i < n/\uL a b i=true:=by simp[fF]
def aDs{n:Nat}{a b:List Bool}{up l:List Nat}(t:a.length=n)(r:b.length=n)(o:∀i,i∈up↔i < n/\uL a b i=true)(hd:∀i,i∈l↔i < n/\uL b a i=true):
  l.foldl (fun d (i:Nat)=>iY d (i:Int) false) (up.foldl (fun d (i:Nat)=>iY d (i:Int) true) a)=b:=by
 apply qR;intro j;rw[Yl,Yl];rcases dI j n with h | h
 .have e:=o j
  have c:=hd j
  have p:a[j]? =some (a[j]' aA):=cX _
  have m:b[j]? =some (b[j]' aA):=cX _
  simp only[uL,hasB,p,m,tV] at e c|-;cases f:a[j]' aA<;>cases k:b[j]' aA<;>simp[f,k,h,e,c] at e c|- <;>simp[e,c]
 .rw[eW aA,eW aA];simp
structure bM.of(x:bM)(s:aI):Prop where
 d:x.d.length=s.domains.length
 c:x.c.length=s.aL.length
 l:x.l.length=s.bG.length
def aSQ{s:aI}{x y:bM}(hx:x.of s)(hy:y.of s):(allM s x y).foldl iB x=y:=by
 unfold allM xJ;simp only[pK]
 rw[Zv (val:=fun _=>1) (b:=true) (fun _=>⟨aE,rfl⟩),Zw (val:=fun _=>1) (b:=true) (fun _=>⟨aE,rfl⟩),Zu (val:=fun _=>0) (b:=true) (fun _=>⟨aE,rfl⟩),Zu (val:=fun _=>1) (b:=false) (fun _=>⟨aE,rfl⟩),Zw (val:=fun _=>0) (b:=false) (fun _=>⟨aE,rfl⟩),
  Zv (val:=rQ s) (b:=false) (fun k=>by have:=aDI s k;exact⟨aA,gW aA⟩)]
 dsimp only;rw[aDs hx.d hy.d (fun i=>Dl) (fun i=>Uf),aDs hx.c hy.c (fun i=>Dl) (fun i=>Uf),aDs hx.l hy.l (fun i=>Dl) (fun i=>Dl)]
structure AL where
 d:Nat
 t:TypeId
 cs:List Value
 val:Nat->Value
def vV(al:Nat->AL)(g:Nat->Nat)(ds:List Nat)(e:Env):Env:=ds.map (fun i=>((al i).d,(al i).val (g i)))++e
def zR(al:Nat->AL)(g:Nat->Nat)(ds:List Nat)(H:List HP):List HP:=ds.map (fun i=>HP.aK (g i) (al i).t (al i).cs)++H
def nP(ds:List Nat)(l:Array Bool):Array Bool:=ds.foldr (fun i a=>a.setIfInBounds i true) l
def Oz:List Nat->List (List Nat)
 | []=>[[]]
 | i::l=>(Oz l).map (i:: ·)++Oz l
def Sv(p:Nat->Bool):∀l:List Nat,l.filter p∈Oz l
 | []=>by simp[Oz]
 | i::l=>by
  unfold Oz;rw[To];split
  .exact List.mem_append_left _ (List.mem_map_of_mem (Sv p l))
  .exact List.mem_append_right _ (Sv p l)
def aP8(ops:Array Oper)(c:List Nat)(ex:List (List Nat))(listed:Array Bool):Bool:=
 (Oz c).all fun sub=>ex.contains sub||(!(Region.ready .any ops (nP sub listed)).isEmpty&&(Region.ready .any ops (nP sub listed)).all fun j=>c.contains j&& !sub.contains j)
def aB7{e d:List Nat}(h:e.Perm d)(l:Array Bool):nP e l=nP d l:=by
 induction h with
 | nil=>rfl
 | cons x _ ih=>show(nP _ l).setIfInBounds x true=_;rw[ih];rfl
 | swap x y s=>
  show((nP s l).setIfInBounds x true).setIfInBounds y true=((nP s l).setIfInBounds y true).setIfInBounds x true
  by_cases c:x=y
  .rw[c]
  .exact Yg _ _ c
 | trans _ _ h1 h2=>exact h1.trans h2
section
variable{P:Program}
variable{al:Nat->AL}{g g':Nat->Nat}
def aBR(k:Nat)(v:Value)(e:Env)(t:Nat):Env.get ((k,v)::e) t=if k=t then some v else e.get t:=by
 show(match Nat.beq k t with | true=>some v | false=>Env.get e t)=_
 by_cases h:k=t
 .subst h;rw[aH rfl,Nat.beq_refl]
 .rw[aC h];cases c:Nat.beq k t with
  | true=>exact absurd (Kb c) h
  | false=>rfl
def aJO{j l:List Nat}(h:j.Perm l)(f:(j.map fun i=>(al i).d).Nodup)(t:Nat):(vV al g j e).get t=(vV al g l e).get t:=by
 induction h with
 | nil=>rfl
 | cons x _ ih=>
  show Env.get ((_,_)::vV al g _ e) t=Env.get ((_,_)::vV al g _ e) t
  rw[aBR,aBR,ih (Bm.1 (show((al x).d::List.map (fun i=>(al i).d) _).Nodup from f)).2]
 | swap x y s=>
  show Env.get ((_,_)::(_,_)::vV al g s e) t=Env.get ((_,_)::(_,_)::vV al g s e) t
  have k:(al y).d≠(al x).d:=fun n=>(Bm.1 (show((al y).d::(al x).d::List.map (fun i=>(al i).d) s).Nodup from f)).1 (by rw[n];exact List.mem_cons_self)
  simp only[aBR]
  by_cases c:(al x).d=t
  .rw[aH c,aC (fun m=>k (m.trans c.symm)),aH c]
  .rw[aC c,aC c]
 | trans c m i1 i2=>exact(i1 f).trans (i2 ((c.map _).nodup_iff.1 f))
def aJc{l f:List Nat}(h:l.Perm f):∀c:List HP,St w0 R (c++zR al g l H) w->St w0 R (c++zR al g f H) w:=by
 induction h with
 | nil=>exact fun _ h=>h
 | cons x _ ih=>
  intro c st
  have:=ih (c++[HP.aK (g x) (al x).t (al x).cs]) (by rw[Mm];exact st)
  rw[Mm] at this;exact this
 | swap x y s =>
  intro c st;refine st.weak (fun _ m=>m) (fun i=>if i=c.length then c.length+1 else if i=c.length+1 then c.length else i) (fun i j _ _ e=>?_) (fun i p d=>?_)
  .split at e<;>split at e<;>(try split at e)<;>(try split at e)<;>omega
  .change (c++HP.aK (g x) (al x).t (al x).cs::HP.aK (g y) (al y).t (al y).cs::zR al g s H)[i]? =some p at d
   show(c++HP.aK (g y) (al y).t (al y).cs::HP.aK (g x) (al x).t (al x).cs::zR al g s H)[_]? =some p
   rcases dI i c.length with h | h
   .rw[aC aA,aC aA,pL h]
    rwa [pL h] at d
   .obtain⟨k,rfl⟩:∃k,i=c.length+k:=⟨i - c.length,aA⟩
    rw[nA aA,Pm] at d
    match k,d with
    | 0,d=>
     rw[aH aA,nA aA,Pm];exact d
    | 1,d=>
     rw[aC aA,aH rfl,nA aA,yC];exact d
    | k+2,d=>
     rw[aC aA,aC aA,nA aA,Pm];exact d
 | trans _ _ i1 i2=>exact fun c st=>i2 c (i1 c st)
def aCP(P:Program)(N:cQ)(e:Env)(o:Oper)(x:AL):Prop:=∀a w,eT N e a->(execOp a.eval o).run P w=.ok (.value (x.val w.heap.size)) (w.alloc (.cells x.cs.toArray x.t))
def aRs{t ty:TypeId}{d:Nat}{pos:String}{aN:Array Edge}{cs:List Value}(f:Gw P t cs):aCP P N e ⟨some d,.alloc t,ty,pos,aN,none⟩ ⟨d,t,cs,fun g=>.pointer (some ⟨g,0,none⟩)⟩:=fun a w j=>by
 obtain⟨i,z,c,h,rfl⟩:=f;simp[execOp,Instr.alloc,zeroValue,typeInfo,c,h,newVar,newRow]
def Uk(c:Nat){x y:Operand}{t el ty:TypeId}{d n:Nat}{z:Value}{pos:String}{aN:Array Edge}{kd tD:IntKind}(B:P.underlying t=some (.slice el))(r:(P.info? el).map (fun i=>(i.zero,i.size,i.bytes))=some (some z,1,c))(f:z.cells=#[z])(hx:e.ev x=some (.int kd (n:Int)))(hy:e.ev y=some (.int tD (n:Int)))
  (C:c*n<=281474976710656) (A:(n:Int)<=9223372036854775807):aCP P N e ⟨some d,.makeSlice t x y,ty,pos,aN,none⟩ ⟨d,el,List.replicate n z,fun g=>.slice (some ⟨g,0,none⟩) n n⟩:=fun a w h=>by
 obtain⟨i,p,m⟩:=kS.1 r;simp only[Ke] at m;obtain⟨l,k,rfl⟩:=m
 have:=run_make (P:=P) w t el i z B p l kd tD n n aA (Br _) (by rw[<-Int.natCast_mul];omega) A
 have o:madeCells z.cells (n*i.size)=(List.replicate n z).toArray:=by
  rw[k,zG,f];unfold madeCells;apply Array.ext
  .simp
  .intro j l k;simp;rw[Nat.mod_one];rfl
 simp only[dL,o] at this;simp only[execOp,h.ev hx,h.ev hy,Sem.run_bind,this,Result.andThen_ok,Sem.run_pure]
structure Jf(P:Program)(N:cQ)(ops:Array Oper)(e:Env)(x:AL)(i:Nat):Prop where
 ok:∃o,ops[i]? =some o/\o.guard=none/\o.dst=some x.d/\aCP P N e o x
 lt:x.d < N.n
 new:e.get x.d=none
def Jf.of{o:Oper}{x:AL}{i:Nat}(c:ops[i]? =some o)(k:o.guard=none)(h3:o.dst=some x.d)(j:aCP P N e o x)(h:x.d < N.n)(f:e.get x.d=none):Jf P N ops e x i:=⟨⟨o,c,k,h3,j⟩,h,f⟩
def aTu{ds:List Nat}(c:∀i∈ds,e.get (al i).d=none){t:Nat}{v:Value}(h:e.get t=some v):(vV al g ds e).get t=some v:=by
 induction ds with
 | nil=>exact h
 | cons i ds ih=>
  show Env.get ((_,_)::vV al g ds e) t=some v
  rw[aBR,aC (fun k=>by have:=c i aB;rw[k,h] at this;cases this)];exact ih fun j f=>c j (by simp[f])
def eT.aTv{a:Act}{ds:List Nat}(f:∀i∈ds,e.get (al i).d=none)(h:eT N (vV al g ds e) a):eT N e a:=⟨h.size,h.defers,fun t v c=>h.get t v (aTu f c)⟩
def St.unA{ds:List Nat}(h:St w0 R (zR al g ds H) w):St w0 R H w:=h.weak (fun _ d=>d) (fun i=>i+ds.length) (fun i j _ _ e=>by omega) (fun i p c=>by
 show(ds.map _++H)[i+ds.length]? =some p
 rw[nA aB]
 simpa using c)
def aLI(c:List Nat)(ex:List (List Nat))(al:Nat->AL)(F:∀i∈c,Jf P N ops e (al i) i)(hd:(c.map fun i=>(al i).d).Nodup)(hr:aP8 ops c ex listed=true)(hS:∀w,St w0 R H w->St w0 R0 H0 w)
  (k:∀sub∈Oz c,ex.contains sub=true->∀g:Nat->Nat,XA P N w0 ops Q R0 H0 m (fuel+(c.length - sub.length)) (nP sub listed) (vV al g sub e) R (zR al g sub H)):XA P N w0 ops Q R0 H0 m (fuel+c.length) listed e R H:=by
 have O:c.Nodup:=(List.pairwise_map.1 hd).imp fun h e=>h (by rw[e])
 have key:∀(n:Nat) (l:List Nat) (g:Nat->Nat),l.Nodup->(∀i∈l,i∈c)->l.length+n=c.length->XA P N w0 ops Q R0 H0 m (fuel+n) (nP l listed) (vV al g l e) R (zR al g l H):=by
  intro n
  induction n with
  | zero =>
   intro l g U x hl
   have f:(c.filter fun i=>l.contains i).Perm l:=by
    rw[List.perm_iff_count];intro a;rw[(O.sublist Tu).count,U.count]
    by_cases z:a∈l
    .rw[aH z,aH (by simp[z,x a z])]
    .rw[aC z,aC (by simp[z])]
   have L:=f.length_eq
   have M:(c.filter fun i=>l.contains i)=c:=Tu.eq_of_length aA
   have A:=mJ.1 hr _ (Sv (fun i=>l.contains i) c)
   rw[yD] at A;rcases A with C | C
   .have h:=k _ (Sv _ c) C g
    rw[aB7 f,show fuel+(c.length - (c.filter fun i=>l.contains i).length)=fuel+0 by omega] at h;exact fun up a w p st=>h up a w ⟨p.size,p.defers,fun t v ht=>p.get t v (by rw[<-aJO f (by rw[M];exact hd)];exact ht)⟩ (aJc f.symm [] st)
   .exfalso;rw[jY,mJ] at C;obtain⟨E,J⟩:=C;rw[M] at E J;cases T:Region.ready .any ops (nP c listed) with
    | nil=>rw[T] at E;cases E
    | cons j js=>
     rw[T] at J
     have:=J j aB
     simp at this
  | succ n ih =>
   intro l g U x hl
   have f:(c.filter fun i=>l.contains i).Perm l:=by
    rw[List.perm_iff_count];intro a;rw[(O.sublist Tu).count,U.count]
    by_cases z:a∈l
    .rw[aH z,aH (by simp[z,x a z])]
    .rw[aC z,aC (by simp[z])]
   have L:=f.length_eq
   have A:=mJ.1 hr _ (Sv (fun i=>l.contains i) c)
   rw[yD] at A;rcases A with C | C
   .have h:=k _ (Sv _ c) C g
    rw[aB7 f,show fuel+(c.length - (c.filter fun i=>l.contains i).length)=fuel+(n+1) by omega] at h
    have hnd:((c.filter fun i=>l.contains i).map fun i=>(al i).d).Nodup:=hd.sublist (Tu.map _)
    exact fun up a w p st=>h up a w ⟨p.size,p.defers,fun t v ht=>p.get t v (by rw[<-aJO f hnd];exact ht)⟩ (aJc f.symm [] st)
   .rw[jY,mJ,aB7 f] at C;obtain⟨E,J⟩:=C;intro up a w p st
    show Ov P ops Q (St w0 R0 H0) m ((fuel+n)+1) (nP l listed) a w
    refine⟨(fun h=>by rw[h] at E;exact absurd E aE),fun j hj=>?_⟩
    have y:=J j hj
    simp only[jY,Ml,List.contains_eq_mem,decide_eq_true_eq,decide_eq_false_iff_not,sY,not_and] at y
    have D:j∉l:=y.2 y.1
    obtain⟨⟨o,ho,Y,hod,Z⟩,V,hnew⟩:=F j y.1
    have I:=Z a w (p.aTv fun i r=>(F i (x i r)).new)
    let B:Nat->Nat:=fun i=>if i=j then w.heap.size else g i
    have X:vV al B (j::l) e=((al j).d,(al j).val w.heap.size)::vV al g l e:=by
     show((al j).d,(al j).val (B j))::(l.map _++e)=_
     rw[show B j=w.heap.size from aH rfl]
     congr 1
     unfold vV
     congr 1
     refine Tt fun i r=>?_;rw[show B i=g i from aC (fun he:i=j=>D (he▸r))]
    have hg2:zR al B (j::l) H=HP.aK w.heap.size (al j).t (al j).cs::zR al g l H:=by
     show HP.aK (B j) _ _::(l.map _++H)=_
     rw[show B j=w.heap.size from aH rfl]
     congr 1
     unfold zR
     congr 1
     refine Tt fun i r=>?_;rw[show B i=g i from aC (fun he:i=j=>D (he▸r))]
    have G:St w0 R (zR al B (j::l) H) (w.alloc (.cells (al j).cs.toArray (al j).t)):=by
     rw[hg2];exact st.new (Wf w _) (aJy w _ _)
    have h:=ih (j::l) B (Bm.2 ⟨D,U⟩) (fun i r=>by
     rcases fT.1 r with rfl | r
     .exact y.1
     .exact x i r) (by simp only[mK];omega)
    rw[X] at h
    have K:=h (up.lZ hj) (a.put (some (al j).d) ((al j).val w.heap.size)) _ (p.put V _) G
    unfold wpOp;simp only[ho]
    have hw:Region.wanted o (yielded ops a.tmps)=true:=by simp[Region.wanted,Y]
    simp only[hw,if_true,Oper.wp,I,Oper.upon,hod];exact .inl ⟨fun _=>hS _ G.unA,K⟩
 have:=key c.length [] (fun _=>0) List.nodup_nil (fun i r=>by cases r) aB
 exact this
end
def mT(s:aI):Nat->Nat->List Nat
 | 0,_=>[]
 | k + 1, c => match s.aL[c]? with
  | some x=>c::(match x.src with
   | []=>[]
   | f::_=>mT s k f.toNat)
  | none=>[]
def fV(s:aI)(c:Nat):List Nat:=mT s s.aL.length c
def aF5(s:aI):∀(k c:Nat),∀i∈mT s k c,i < s.aL.length
 | 0,c,i,h=>by simp[mT] at h
 | k + 1, c, i, h => by
  unfold mT at h;cases d:s.aL[c]? with
  | none=>rw[d] at h;simp at h
  | some x =>
   rw[d] at h;dsimp only at h
   have hlt:=(cE.1 d).1
   cases e:x.src with
   | nil=>rw[e] at h;simp at h;omega
   | cons f fs=>
    rw[e] at h;rcases fT.1 h with rfl | h
    .exact hlt
    .exact aF5 s k _ i h
def aCm(s:aI):∀(k c:Nat),(mT s k c).length<=k
 | 0,c=>by simp[mT]
 | k + 1, c => by
  unfold mT;split
  .rename_i x hx
   split
   .simp
   .rename_i f d hs
    have:=aCm s k f.toNat
    simp only[mK];omega
  .simp
def aKD{s:aI}{k c:Nat}{x:fK}(h:s.aL[c]? =some x):mT s (k+1) c=c::(match x.src with
      | []=>[]
      | f::_=>mT s k f.toNat):=by
  show(match s.aL[c]? with | some x=>_ | none=>_)=_
  rw[h]
def aAO(s:aI):Nat->Nat->List Nat
 | 0,_=>[]
 | k+1,d=>match s.domains[d]? with
  | some x=>d::(if x.above= -1 then[] else aAO s k x.above.toNat)
  | none=>[]
def Hh(s:aI)(d:Nat):List Nat:=aAO s (d+1) d
def El(s:aI):Int->List Nat->Prop
 | d,[]=>d= -1
 | d,i::r=>d=(i:Int)/\∃x,s.domains[i]? =some x/\El s x.above r
def aGO{s:aI}(hm:s.made):∀(k d:Nat),d < k->d < s.domains.length->El s d (aAO s k d)
 | k + 1, d, hk, hd => by
  have hx:s.domains[d]? =some (s.domains[d]'hd):=cX _
  have f:=(hm.domains d _ hx).1
  show El s d (match s.domains[d]? with | some x=>d::(if x.above= -1 then[] else aAO s k x.above.toNat) | none=>[])
  rw[hx];refine⟨rfl,_,hx,?_⟩
  by_cases c:(s.domains[d]'hd).above= -1
  .rw[aH c];exact c
  .rw[aC c]
   have e:((s.domains[d]'hd).above.toNat:Int)=(s.domains[d]'hd).above:=by omega
   have:=aGO hm k (s.domains[d]'hd).above.toNat aA aA
   rwa [e] at this
def aAN{s:aI}(hm:s.made){d:Nat}(hd:d < s.domains.length):El s d (Hh s d):=aGO hm _ _ aA hd
def El.in_{s:aI}:∀{l:List Nat} {d:Int},El s d l->∀i∈l,i < s.domains.length
 | [],_,_,i,h=>by cases h
 | j::l,_,⟨_,x,hx,hr⟩,i,h=>by
  rcases fT.1 h with rfl | h
  .exact(cE.1 hx).1
  .exact hr.in_ i h
def El.up{s:aI}:∀{l:List Nat} {d:Int},El s d l->∀i∈l,∀x,s.domains[i]? =some x->0<=x.above->x.above.toNat∈l
 | [],_,_,i,h,_,_,_=>by cases h
 | j :: l, _, ⟨_, y, hy, hr⟩, i, h, x, hx, h0 => by
  rcases fT.1 h with rfl | h
  .rw[hy] at hx;cases hx;cases l with
   | nil=>have c:y.above= -1:=hr;omega
   | cons k l=>
    have c:y.above=(k:Int):=hr.1
    rw[c];simp
  .exact vL _ (hr.up i h x hx h0)
def El.head{s:aI}{d:Nat}{l:List Nat}(h:El s (d:Int) l):d∈l:=by
 cases l with
 | nil=>have c:(d:Int)= -1:=h;omega
 | cons i r=>have c:(d:Int)=(i:Int):=h.1;rw[show d=i by omega];simp
def uO(c:List Nat)(l:List Bool):List Bool:=c.foldl (fun d (i:Nat)=>iY d (i:Int) true) l
def aDP(c:List Nat)(l:List Bool):(uO c l).length=l.length:=by
 unfold uO
 induction c generalizing l with
 | nil=>rfl
 | cons i c ih=>rw[pW,ih,Pu]
def aHX(c:List Nat)(l:List Bool)(j:Nat)(hj:j < l.length):(uO c l)[j]?.getD false=(decide (j∈c)||l[j]?.getD false):=by
 unfold uO;rw[Yl,cX hj]
 by_cases h:j∈c<;>simp[h]
def pH(s:aI)(i:Nat):Bool:=match s.aL[i]? with
 | some c=>decide (c.kind=112\/c.kind=103)
 | none=>false
def dV(s:aI):bM:=⟨List.replicate s.domains.length false,List.replicate s.aL.length false,List.replicate s.bG.length false⟩
def Sj(s:aI)(w:bM)(x:bR):bM:=⟨uO (Hh s x.domain.toNat) w.d,uO ((fV s x.clock.toNat).filter (pH s)) w.c,iY w.l x.reset true⟩
def jI(s:aI)(act:List Bool):Nat->bM
 | 0=>dV s
 | j+1=>if hasB act j then(match s.aG[j]? with
  | some x=>Sj s (jI s act j) x
  | none=>jI s act j) else jI s act j
def fL(s:aI)(act:List Bool):bM:=jI s act s.aG.length
def Hg(s:aI)(act:List Bool):∀j,(jI s act j).of s
 | 0=>⟨by simp[jI,dV],by simp[jI,dV],by simp[jI,dV]⟩
 | j + 1 => by
  have ih:=Hg s act j
  unfold jI;split
  .split
   .exact⟨by rw[Sj,aDP];exact ih.d,by rw[Sj,aDP];exact ih.c,by rw[Sj,Pu];exact ih.l⟩
   .exact ih
  .exact ih
def Xq{s:aI}{act:List Bool}{j:Nat}{x:bR}(hx:s.aG[j]? =some x)(c:hasB act j=true):jI s act (j+1)=Sj s (jI s act j) x:=by
 show(if hasB act j then _ else _)=_
 rw[aH c,hx]
def Sk{s:aI}{act:List Bool}{j:Nat}(c:hasB act j=false):jI s act (j+1)=jI s act j:=by
 show(if hasB act j then _ else _)=_
 rw[aC (by rw[c];decide)]
structure aI.dM(s:aI):Prop where
 t:s.Bv
 domains:Fits Dom.fit s.domains
 bG:∀r∈s.bG,0<=r/\r<=3
def aI.made.dM{s:aI}(h:s.made):s.dM:=⟨h.Bv,h.domains,h.bG⟩
structure fE where
 on:Bool
 left:Int
def Ce(c:fK):fE:=⟨false,if c.kind=112 then c.lock else 0⟩
def byF(c:fK):Int:=if c.kind=100 then c.div else 0
def uK(c:fK)(x:fE):Bool:=if c.kind=112 then x.on&&decide (x.left=0) else if c.kind=103 then x.on else true
def So(s:aI)(st:List fE)(i:Nat):Bool:=match s.aL[i]?,st[i]? with
 | some c,some x=>uK c x
 | _,_=>false
def runs(s:aI)(st:List fE)(i:Nat):Bool:=(fV s i).all (So s st)
def aF6{s:aI}(hf:Fits fK.fit s.aL):∀(c k:Nat),c < k->mT s k c=mT s (c+1) c:=by
 intro c
 induction c using Nat.strongRecOn with
 | _ c ih =>
  intro k i;obtain⟨k,rfl⟩:=Nat.exists_eq_add_of_lt i;rw[show c+k+1=(c+k)+1 from rfl];unfold mT;cases h:s.aL[c]? with
  | none=>rfl
  | some x =>
   dsimp only;cases j:x.src with
   | nil=>rfl
   | cons f fs=>
    have e:=(hf c x h).1 f (by rw[j];simp)
    have d:f.toNat < c:=by omega
    dsimp only;rw[ih f.toNat d (c+k) aA,ih f.toNat d c d]
def aAe{s:aI}(hf:Fits fK.fit s.aL){i:Nat}{c:fK}(d:s.aL[i]? =some c):fV s i=i::(match c.src with
  | []=>[]
  | f::_=>fV s f.toNat):=by
 have e:i < s.aL.length:=(cE.1 d).1
 unfold fV;rw[aF6 hf i _ e];rw[mT,d];dsimp only;cases j:c.src with
 | nil=>rfl
 | cons f fs=>
  have h:=(hf i c d).1 f (by rw[j];simp)
  dsimp only;rw[aF6 hf f.toNat i aA,aF6 hf f.toNat s.aL.length aA]
def aH3{s:aI}(hf:Fits fK.fit s.aL){st:List fE}{i:Nat}{c:fK}{x:fE}(d:s.aL[i]? =some c)(hx:st[i]? =some x):runs s st i=(uK c x&&(match c.src with
  | []=>true
  | f::_=>runs s st f.toNat)):=by
 unfold runs;rw[aAe hf d,List.all_cons]
 have:So s st i=uK c x:=by unfold So;rw[d,hx]
 rw[this];cases c.src<;>rfl
def bJ(n:Nat)(i:Int):Bool:=decide (0<=i/\i < (n:Int))
def sG(s:aI)(st:List fE)(i:Int):Bool:=bJ s.aL.length i&&runs s st i.toNat
def Py(c:fK)(x:fE)(b:Bool):fE:=⟨b,if c.kind=112/\b=false then c.lock else x.left⟩
def lI(s:aI)(st:List fE)(i:Int)(b:Bool):Int×List fE:=
 if bJ s.aL.length i=false then(4,st) else match s.aL[i.toNat]?,st[i.toNat]? with
 | some c,some x=>if c.kind≠112/\c.kind≠103 then(1,st) else(0,st.set i.toNat (Py c x b))
 | _,_=>(4,st)
def aAV(c:fK):Nat:=(c.src.headD 0).toNat
def Be(s:aI)(st:List fE)(c:fK)(x:fE):fE:=
 if c.kind=112/\x.on=true then(if runs s st (aAV c)=false then⟨true,c.lock⟩ else if 0 < x.left then⟨true,x.left - 1⟩ else x) else x
def oJ(s:aI)(st:List fE):List fE:=List.zipWith (Be s st) s.aL st
structure tQ(s:aI)(st:List fE):Prop where
 len:st.length=s.aL.length
 left:∀x∈st,0<=x.left/\x.left<=3
structure gK where
 phase:Int
 left:Int
 kept:Bool
 keep:Bool
def Ca:gK:=⟨48,0,false,false⟩
def Np(x:gK):Bool:=decide (x.phase=48\/x.phase=116)
def tY(st:List gK)(d:Int):Int:=if bJ st.length d then(st[d.toNat]?.map (·.phase)).getD 0 else 0
def Ri(st:List gK)(a:Int):Bool:=decide (a= -1)||decide ((st[a.toNat]?.map (·.phase)).getD 0=49)
def wM(s:aI)(st:List gK)(d:Int):Int×List gK:=
 if bJ st.length d=false then(4,st) else match s.domains[d.toNat]?,st[d.toNat]? with
 | some c,some x=>if Np x=false\/Ri st c.above=false then(6,st) else(0,st.set d.toNat ⟨114,c.delay,decide (x.phase=116),x.keep⟩)
 | _,_=>(4,st)
def Ks(d:Int)(c:Dom)(x:gK):Bool:=decide (c.above=d)&& !Np x
def Hy(s:aI)(st:List gK)(d:Int):Bool:=(List.zipWith (Ks d) s.domains st).any id
def yQ(s:aI)(st:List gK)(d:Int)(keep:Bool):Int×List gK:=
 if bJ st.length d=false then(4,st) else match s.domains[d.toNat]?,st[d.toNat]? with
 | some c,some x=>if x.phase≠49 then(6,st) else if keep=true/\c.ret=false then(1,st) else if Hy s st d then(7,st) else(0,st.set d.toNat ⟨99,x.left,x.kept,keep⟩)
 | _,_=>(4,st)
def jQ(x:gK):Int×gK:=
 if x.phase=114 then(if 0 < x.left then(0,⟨114,x.left - 1,x.kept,x.keep⟩) else(if x.kept then 114 else 110,⟨104,x.left,x.kept,x.keep⟩))
 else if x.phase=104 then(111,⟨49,x.left,x.kept,x.keep⟩)
 else if x.phase=99 then(if x.keep then(115,⟨116,x.left,x.kept,x.keep⟩) else(108,⟨48,x.left,x.kept,x.keep⟩))
 else(0,x)
def nD(st:List gK)(n:Nat):List (Int×Nat):=(List.range n).filterMap fun i=>(st[i]?).bind fun x=>if(jQ x).1=0 then none else some ((jQ x).1,i)
def sE(st:List gK):List gK:=st.map fun x=>(jQ x).2
structure xY(s:aI)(st:List gK):Prop where
 len:st.length=s.domains.length
 left:∀x∈st,0<=x.left/\x.left<=3
 phase:∀x∈st,0<=x.phase/\x.phase < 256
structure lK where
 left:Int
 held:Bool
 wanted:Bool
def uS:lK:=⟨0,true,false⟩
def Fo(st:List lK)(i:Int):Bool:= !bJ st.length i||(st[i.toNat]?.map (·.held)).getD true
def uV(s:aI)(st:List lK)(i:Int):Int×List lK:=
 if bJ st.length i=false then(4,st) else(0,st.set i.toNat ⟨(s.bG[i.toNat]?).getD 0,true,false⟩)
def yB(st:List lK)(i:Int):Int×List lK:=
 if bJ st.length i=false then(4,st) else match st[i.toNat]? with
 | some x=>if x.held=false then(6,st) else(0,st.set i.toNat ⟨x.left,x.held,true⟩)
 | none=>(4,st)
def pV(x:lK):lK:=if x.held=false then x else if 0 < x.left then⟨x.left - 1,x.held,x.wanted⟩ else if x.wanted then⟨x.left,false,false⟩ else x
def Jn(st:List lK):List lK:=st.map pV
structure Jb(s:aI)(st:List lK):Prop where
 len:st.length=s.bG.length
 left:∀x∈st,0<=x.left/\x.left<=3
structure dO where
 now:List Int
 saved:List Int
 kept:Bool
def Ih(d:bR):dO:=⟨d.aX.map (·.reset),d.aX.map fun _=>0,false⟩
def Ir(d:bR)(x:dO):dO:=⟨d.aX.map (·.reset),x.saved,false⟩
def Pb(r:Rg)(p:Int×Int):Int:=if r.kept then p.1 else p.2
def zC(d:bR)(x:dO):dO:=⟨x.now,List.zipWith Pb d.aX (x.now.zip x.saved),true⟩
def aBg(k:Bool)(r:Rg)(v:Int):Int:=if k&&r.kept then v else r.reset
def Mj(d:bR)(x:dO):dO:=⟨List.zipWith (aBg x.kept) d.aX x.saved,x.saved,x.kept⟩
structure Co(d:bR)(x:dO):Prop where
 now:x.now.length=d.aX.length
 saved:x.saved.length=d.aX.length
 u:(∀v∈x.now,0<=v/\v < 4294967296)/\∀v∈x.saved,0<=v/\v < 4294967296
structure eK where
 at_:Int
 denied:Int
def Tx:eK:=⟨0,0⟩
def sO(a:Int):Int:=if a=0 then 114 else if a=1 then 97 else if a=2 then 115 else 100
def vY(x:eK):Int×eK:=if x.at_≠0 then(6,x) else(0,⟨1,x.denied⟩)
def qD(x:eK):Int×eK:=if x.at_≠2/\x.at_≠3 then(6,x) else(0,⟨0,x.denied⟩)
def yA(x:eK)(c d:Bool):eK:=if x.at_≠1 then x else if d then⟨3,IntKind.i64.wrap (x.denied+1)⟩ else if c then x else⟨2,0⟩
def En(x:eK):Prop:=0<=x.at_/\x.at_<=3
def Xe(n:Nat)(xs:List Value)(v:Value)(hs:List HP)(_:Piece):Prop:=∃A c,v=.slice A n c/\hs=[HP.own 82 2 (.slice A n c) n xs]
def aAb(A:Option Addr)(n c:Nat)(xs:List Value)(w:World)(hs:aO (all w) 2 A n xs)(j:∀u∈xs,u.oneCell'=true)(m:n<=1000000):
  Cz 111 #[.slice A n c] w (fun y w'=>(∃v hs q,y=.returned v/\q.w=w'/\Xe n xs v hs q/\iV w hs q)/\Below w.heap.size w w'):=by
 refine bQ func111 ntmps111 ?_;refine Xk (el:=82) aJ rfl aE ?_;refine iJ ?_;refine tI rfl (fun i=>?_) (fun i=>?_)
 .refine aD ?_
  have f:n=0:=by
   rcases zI n with h | h
   .exact h
   .obtain⟨b,off,rfl,_⟩:=hs.2 h;cases i
  subst f
  have k:xs=[]:=Fh (by simpa using hs.1)
  subst k;refine oF 82 2 ?_;refine dX [] [] [0] fun q _ _ d=>?_;exact bK (h:=fun e st=>⟨_,_,⟨e,q.Z⟩,rfl,rfl,⟨_,_,rfl,rfl⟩,st.newR aB aB (d aB aB)⟩)
 .refine aD ?_;refine Ot (el:=82) (sz:=2) aJ aJ aE fun g=>?_;refine Rq 0 2 0 rfl rfl aA ?_;dsimp only[List.set];refine aD ?_;refine jU 0 2 8 n (n':=n) (el:=82) aJ aJ aE rfl rfl rfl (sF aB hs) j aA aA aA aE fun l o=>?_;dsimp only[List.set,dG];refine aD ?_;refine dX [] [] [0] fun q _ _ d=>?_;exact bK (h:=fun e st=>⟨_,_,⟨e,q.Z⟩,rfl,rfl,⟨_,_,rfl,rfl⟩,st.newR aB aB (d aB aB)⟩)
def aAA(n:Nat)(xs:List Value)(v:Value)(hs:List HP)(_:Piece):Prop:=∃A c,v=.slice A n c/\hs=[HP.own 36 1 (.slice A n c) n xs]
def aCj(A:Option Addr)(n c:Nat)(xs:List Value)(w:World)(hs:aO (all w) 1 A n xs)(j:∀u∈xs,u.oneCell'=true)(m:n<=1000000):
  Cz 32 #[.slice A n c] w (fun y w'=>(∃v hs q,y=.returned v/\q.w=w'/\aAA n xs v hs q/\iV w hs q)/\Below w.heap.size w w'):=by
 refine bQ func32 ntmps32 ?_;refine Xk (el:=36) aJ rfl aE ?_;refine iJ ?_;refine tI rfl (fun i=>?_) (fun i=>?_)
 .refine aD ?_
  have f:n=0:=by
   rcases zI n with h | h
   .exact h
   .obtain⟨b,off,rfl,_⟩:=hs.2 h;cases i
  subst f
  have k:xs=[]:=Fh (by simpa using hs.1)
  subst k;refine oF 36 1 ?_;refine dX [] [] [0] fun q _ _ d=>?_;exact bK (h:=fun e st=>⟨_,_,⟨e,q.Z⟩,rfl,rfl,⟨_,_,rfl,rfl⟩,st.newR aB aB (d aB aB)⟩)
 .refine aD ?_;refine Ot (el:=36) (sz:=1) aJ aJ aE fun g=>?_;refine Rq 0 1 0 rfl rfl aA ?_;dsimp only[List.set];refine aD ?_;refine jU 0 1 4 n (n':=n) (el:=36) aJ aJ aE rfl rfl rfl (sF aB hs) j aA aA aA aE fun l o=>?_;dsimp only[List.set,dG];refine aD ?_;refine dX [] [] [0] fun q _ _ d=>?_;exact bK (h:=fun e st=>⟨_,_,⟨e,q.Z⟩,rfl,rfl,⟨_,_,rfl,rfl⟩,st.newR aB aB (d aB aB)⟩)
def pU(l:List Int):List Value:=l.map (Value.int .u32)
def aAP(l:List Int):(pU l).length=l.length:=by simp[pU]
def aDr{l:List Int}{i:Nat}{v:Int}(h:l[i]? =some v):(pU l)[i]? =some (.int .u32 v):=by simp[pU,h]
def aDq(l:List Int)(i:Nat)(v:Int):(pU l).set i (.int .u32 v)=pU (l.set i v):=by simp[pU,Fi]
structure FL where
 f:Nat
 gn:Nat
 gs:Nat
 A:Option Addr
 c:Nat
def wI(d:bR)(A:Option Addr)(p:Piece):Prop:=aO p 2 A d.aX.length (d.aX.flatMap Rg.cells)
def wI.le{d:bR}{A:Option Addr}(p q:Piece)(hl:p.Le q)(h:wI d A p):wI d A q:=aO.le h hl
def Nk(L:FL)(d:bR)(k:Bool):List Value:=[.slice L.A d.aX.length L.c,.slice (some ⟨L.gn,0,none⟩) d.aX.length d.aX.length,.slice (some ⟨L.gs,0,none⟩) d.aX.length d.aX.length,.bool k]
def jB(L:FL)(d:bR)(x:dO):HP:=HP.many [HP.aK L.f 227 (Nk L d x.kept),HP.aK L.gn 36 (pU x.now),HP.aK L.gs 36 (pU x.saved),HP.cO (wI d L.A) (wI.le (d:=d) (A:=L.A))]
structure Gr(w:World)(L:FL)(d:bR)(x:dO):Prop where
 r0:eL w L.f 0 (Nk L d x.kept)
 now:eL w L.gn 0 (pU x.now)
 saved:eL w L.gs 0 (pU x.saved)
 made:aO (all w) 2 L.A d.aX.length (d.aX.flatMap Rg.cells)
def Gr.below{w w':World}{L:FL}{d:bR}{x:dO}(h:Gr w L d x)(c:Below w.heap.size w w'):Gr w' L d x:=⟨h.r0.below c,h.now.below c,h.saved.below c,h.made.le (nF c)⟩
def yR{w:World}{g:Nat}{t:TypeId}{cs:List Value}(h:vE w g t cs.toArray):eL w g 0 cs:=⟨h.lt,fun j v c=>by rw[h.cell,mA];simpa using c⟩
def aA8{L:FL}{d:bR}{x:dO}{F:Nat->Prop}{w:World}(h:(jB L d x).sat F w)(hF:∀b,F b->b < w.heap.size):Gr w L d x:=by
 obtain⟨G,c,e,_⟩:=h;exact⟨yR (c 0 _ rfl).2,yR (c 1 _ rfl).2,yR (c 2 _ rfl).2,aO.le (c 3 _ rfl) (fun b f=>⟨hF b (e 3 b f),rfl⟩)⟩
section
variable{L:FL}{d:bR}{x:dO}
def St.aFe(t:St w0 R H w)(i:Nat)(hi:H[i]? =some (jB L d x)):Gr w L d x:=by
 obtain⟨F,c,e,_⟩:=t.chunk hi;exact aA8 c e
def aAx(i:Nat)(hi:H[i]? =some (jB L d x))(h:XK N w0 K e R (HP.aK L.gs 36 (pU x.saved)::HP.aK L.gn 36 (pU x.now)::HP.aK L.f 227 (Nk L d x.kept)::H.set i (HP.many [cS,cS,cS,HP.cO (wI d L.A) (wI.le (d:=d) (A:=L.A))]))):XK N w0 K e R H:=by
 have c:=By hi
 refine uX i 0 hi rfl ?_;refine uX (i+1) 1 (by rw[tX,kR c]) rfl ?_;refine uX (i+2) 2 (by simp[c];rfl) rfl ?_
 simpa[Tq,sX] using h
def aAz(i:Nat)(hi:H[i]? =some (HP.many [cS,cS,cS,HP.cO (wI d L.A) (wI.le (d:=d) (A:=L.A))]))(h:XK N w0 K e R (H.set i (jB L d x))):XK N w0 K e R (HP.aK L.gs 36 (pU x.saved)::HP.aK L.gn 36 (pU x.now)::HP.aK L.f 227 (Nk L d x.kept)::H):=by
 have c:=By hi
 refine uZ (i+2) 2 (by simpa using hi) rfl ?_;dsimp only[List.set];refine uZ (i+1) 1 (by simp[c];rfl) rfl ?_;dsimp only[List.set];refine uZ i 0 (by simp[c];rfl) rfl ?_
 simpa[sX,jB] using h
end
def Xz(L:FL)(d:bR)(x:dO)(w:World)(c:Gr w L d x):
  Cz 66 #[.pointer (some ⟨L.f,0,none⟩)] w (Rt (iv d.aX.length) w):=by
 have e:=c.r0.at_ (j:=0) rfl
 refine bQ func66 ntmps66 ?_;exact dP
def aHP(p:Piece)(S:Nat->HP)(L:FL)(d:bR)(Z:d.aX.length<=100)(f:FuncId)(hf:fW Tryz.prog f=true)(ca:List Value)
  (k:∀i,i<=d.aX.length->∀w F,(S i).sat F w->(∀b,F b->b < w.heap.size)->∃x,Gr w L d x)
  (hstep:∀i r,d.aX[i]? =some r->∀w F,(S i).sat F w->(∀b,F b->b < w.heap.size)->p.Le ⟨w,fun b=>b < w.heap.size/\¬F b⟩->
   Cz f (([iv (i:Int),.agg r.cells.toArray]:List Value)++ca).toArray w (Wr (.tuple #[]) (S (i+1)) w F))
  (w:World) (F:Nat->Prop) (hp:(S 0).sat F w) (hF:∀b,F b->b < w.heap.size) (E:p.Le ⟨w,fun b=>b < w.heap.size/\¬F b⟩):
  Cz 208 #[.pointer (some ⟨L.f,0,none⟩),.func (.func f) #[] ca.toArray] w (Wr (.tuple #[]) (S d.aX.length) w F):=by
 have o:∀{i:Nat} {R:List Piece} {H:List HP} {n:World},i<=d.aX.length->St w R (S i::H) n->∃x,Gr n L d x:=fun C t=>by
  obtain⟨G,g1,V,_⟩:=t.chunk (i:=0) rfl;exact k _ C _ G g1 V
 refine oQ func208 ntmps208 hp hF ?_
 refine cM (v:=iv d.aX.length) (fun n t=>by
  obtain⟨x,y⟩:=o (rE _) t
  exact Xz L d x n y) ?_
 refine aD ?_;refine cF [(7,iv 0),(6,iv d.aX.length),(1,.func (.func f) #[] ca.toArray),(0,.pointer (some ⟨L.f,0,none⟩))] ?_;refine gA (fun m e R H=>∃i:Nat,i<=d.aX.length/\m=d.aX.length - i/\e=[(7,iv i),(6,iv d.aX.length),(1,.func (.func f) #[] ca.toArray),(0,.pointer (some ⟨L.f,0,none⟩))]/\R=[⟨w,fun b=>b < w.heap.size/\¬F b⟩]/\H=[S i]) d.aX.length ⟨0,aA,rfl,rfl,rfl,rfl⟩ fun m e R H Y=>?_;obtain⟨i,C,rfl,rfl,rfl,rfl⟩:=Y;refine aD ?_;refine dD rfl (fun l=>?_) (fun X=>?_)
 .have l:i < d.aX.length:=aA
  obtain⟨r,D⟩:=get_some l
  have K:∃b off,L.A=some ⟨b,off,none⟩:=by
   obtain⟨x,y⟩:=k 0 (rE _) w F hp hF;obtain⟨b,off,h,_⟩:=y.made.2 aA;exact⟨b,off,h⟩
  obtain⟨b,off,U⟩:=K
  have T:Rd w [⟨w,fun b=>b < w.heap.size/\¬F b⟩] [S i] L.f 0 (.slice (some ⟨b,off,none⟩) d.aX.length L.c):=fun n t=>by
   obtain⟨x,y⟩:=o C t;rw[<-U];exact(y.r0.at_ (j:=0) rfl).2
  have O:cI w [⟨w,fun b=>b < w.heap.size/\¬F b⟩] [S i] b (off+i*2) r.cells:=fun n t=>by
   obtain⟨x,y⟩:=o C t;obtain⟨b',N,z,M⟩:=aO.row (rows:=d.aX.map Rg.cells) (by rw[<-List.flatMap_def];exact y.made) (fun r D=>by obtain⟨q,_,rfl⟩:=fR.1 D;rfl) (by rw[eO,D];rfl) l;rw[U] at z;cases z;exact M.2
  refine aD ?_;refine cG (dat i (off+i*2)) ?_
  refine aDe 0 (fi:=[]) (ca:=ca) (vs:=[iv (i:Int),.agg r.cells.toArray]) (p:=S i) (S (i+1)) hf rfl rfl rfl ⟨aE,rfl⟩ (fun n G t hG B J=>by
   have I:=Piece.Le.trans E (J _ aB)
   simpa using hstep i r D n G hG B I) ?_
  dsimp only[List.set];refine aD ?_;exact fX (d.aX.length - (i+1)) ⟨i+1,l,rfl,rfl,rfl,rfl⟩
 .obtain rfl:i=d.aX.length:=by omega
  refine aD ?_;exact gF 0 hF
def mN(vs old:List Int)(i:Nat):List Int:=vs.take i++old.drop i
def Yr(vs old:List Int):mN vs old 0=old:=by simp[mN]
def Yu{vs old:List Int}{n:Nat}(c:vs.length=n)(d:old.length=n):mN vs old n=vs:=by
 rw[mN,Ti aA,nZ,yE aA]
def Yt{vs old:List Int}{i n:Nat}(c:vs.length=n)(d:old.length=n)(hi:i<=n):(mN vs old i).length=n:=by simp[mN];omega
def Ys{vs old:List Int}{i:Nat}{v:Int}(h:vs.length=old.length)(c:vs[i]? =some v):(mN vs old i).set i v=mN vs old (i+1):=by
 have f:=(cE.1 c).1
 refine qR fun j=>?_;rw[gX];unfold mN
 by_cases e:i=j
 .subst e;rw[aH rfl,aH (by simp;omega),pL (by simp;omega),wV aA,c]
 .rw[aC e];rcases dI j i with d | d
  .rw[pL (by simp;omega),pL (by simp;omega),wV d,wV aA]
  .rw[nA (by simp;omega),nA (by simp;omega),Bp,Bp]
   congr 1
   simp;omega
def aQV{vs old:List Int}{i:Nat}{v:Int}(d:vs.length=old.length)(hi:i < old.length)(c:old[i]? =some v):(mN vs old i)[i]? =some v:=by
 rw[mN,nA (by simp;omega),Bp];simp only[pX];rw[show i+(i - min i vs.length)=i by omega];exact c
def aP5(p:Piece)(L:FL)(d:bR)(x:dO)(f:FuncId)(hf:fW Tryz.prog f=true)(ca:List Value)(e h i:Nat)(r:Rg)(v:Int)(H:d.aX[i]? =some r)(O:x.now.length=d.aX.length)
  (z:p.Z e/\p.w.cell? ⟨e,0,none⟩=some (.pointer (some ⟨L.f,0,none⟩))) (h3:p.Z h/\p.w.cell? ⟨h,0,none⟩=some (.func (.func f) #[] ca.toArray))
  (hw:∀w F,(jB L d x).sat F w->(∀b,F b->b < w.heap.size)->p.Le (all w)->Cz f (([iv (i:Int),.agg r.cells.toArray]:List Value)++ca).toArray w (Rt (.int .u32 v) w))
  (w:World) (F:Nat->Prop) (hp:(jB L d x).sat F w) (hF:∀b,F b->b < w.heap.size) (c:p.Le ⟨w,fun b=>b < w.heap.size/\¬F b⟩):
  Cz 209 #[iv (i:Int),.agg r.cells.toArray,pt h,pt e] w (Wr (.tuple #[]) (jB L d ⟨x.now.set i v,x.saved,x.kept⟩) w F):=by
 have A:=(cE.1 H).1
 obtain⟨c2,D⟩:=c e z.1;obtain⟨K,N⟩:=c h h3.1
 have E:w.cell? ⟨e,0,none⟩=some (.pointer (some ⟨L.f,0,none⟩)):=(World.cell?_of_block (w:=p.w) D).trans z.2
 have B:w.cell? ⟨h,0,none⟩=some (.func (.func f) #[] ca.toArray):=(World.cell?_of_block (w:=p.w) N).trans h3.2
 refine oQ func209 ntmps209 hp hF ?_;refine iG fun y=>?_
 have r2:Rd w [⟨w,fun b=>b < w.heap.size/\¬F b⟩] [HP.aK y 82 r.cells,jB L d x] e 0 (.pointer (some ⟨L.f,0,none⟩)):=Rd.ro (mL.2 rfl) c2 E
 have T:Rd w [⟨w,fun b=>b < w.heap.size/\¬F b⟩] [HP.aK y 82 r.cells,jB L d x] h 0 (.func (.func f) #[] ca.toArray):=Rd.ro (mL.2 rfl) K B
 have R:Rd w [⟨w,fun b=>b < w.heap.size/\¬F b⟩] [HP.aK y 82 r.cells,jB L d x] L.f 1 (.slice (some ⟨L.gn,0,none⟩) d.aX.length d.aX.length):=fun l t=>((t.aFe 1 rfl).r0.at_ (j:=1) rfl).2
 refine vA 9 aJ aJ ?_;refine bE 0 ?_;refine bE 1 ?_;refine bE 2 ?_;refine bE 3 ?_;refine bE 4 ?_;refine bE 5 ?_;refine bE 6 ?_;refine bE 7 ?_;refine dB 8 ?_
 refine aBG (fi:=[]) (ca:=ca) (vs:=[iv (i:Int),.agg r.cells.toArray]) (v:=.int .u32 v) (hf:=hf) (fun l t=>by
  obtain⟨G,n,o,k,_⟩:=t.chunk (i:=1) rfl
  have m:p.Le (all l):=fun b M=>by
   obtain⟨I,C⟩:=(Piece.Le.trans c (k _ (mL.2 rfl))) b M;exact⟨I.1,C⟩
  simpa using hw l G n o m) ?_
 refine qH ?_;refine dB 9 ?_;refine kd (dat i i) ?_;refine fY ?_;refine dB 10 ?_;refine aAx 1 rfl ?_;dsimp only[List.set]
 have J:=aAP x.now
 refine vR ?_;rw[aDq];refine aAz (x:=⟨x.now.set i v,x.saved,x.kept⟩) 1 rfl ?_;refine fY ?_;refine kV ?_;refine aD ?_;exact gF 1 hF
def aHQ(L:FL)(d:bR)(x:dO)(E:d.aX.length<=100)(f:FuncId)(hf:fW Tryz.prog f=true)(ca:List Value)(p:Piece)(vs:List Int)(e:vs.length=d.aX.length)(j:x.now.length=d.aX.length)
  (hw:∀(i:Nat) (r:Rg) (v:Int),d.aX[i]? =some r->vs[i]? =some v->∀(A:List Int) w F,(jB L d ⟨A,x.saved,x.kept⟩).sat F w->(∀b,F b->b < w.heap.size)->p.Le (all w)->Cz f (([iv (i:Int),.agg r.cells.toArray]:List Value)++ca).toArray w (Rt (.int .u32 v) w))
  (w:World) (F:Nat->Prop) (hp:(jB L d x).sat F w) (hF:∀b,F b->b < w.heap.size) (k:p.Le ⟨w,fun b=>b < w.heap.size/\¬F b⟩):
  Cz 168 #[.pointer (some ⟨L.f,0,none⟩),.func (.func f) #[] ca.toArray] w (Wr (.tuple #[]) (jB L d ⟨vs,x.saved,x.kept⟩) w F):=by
 refine fS func168 ntmps168 hp hF ?_;refine aD ?_;refine eI fun o=>?_;refine eI fun z=>?_;refine aD ?_;refine lH (vf:=[]) (vc:=[pt z,pt o]) rfl rfl aE ?_;refine dX [⟨w,fun b=>b < w.heap.size/\¬F b⟩] [0,1] [2] fun q I H _=>?_;obtain⟨O,M,z3⟩:=I 0 _ aB rfl;obtain⟨F2,N,X⟩:=I 1 _ aB rfl
 have m:p.Le q:=Piece.Le.trans k (H _ aB)
 refine gM 0 (jB L d ⟨vs,x.saved,x.kept⟩) (fun K G t hG h B=>by
  have c:=aHP q (fun i=>jB L d ⟨mN vs x.now i,x.saved,x.kept⟩) L d E 209 aJ [pt z,pt o]
   (fun i _ w F y n=>⟨_,aA8 y n⟩) (fun i r C T D y n Z=>by
    have R:=(cE.1 C).1
    obtain⟨v,J⟩:=get_some (l:=vs) (i:=i) aA
    have:=aP5 q L d ⟨mN vs x.now i,x.saved,x.kept⟩ f hf ca o z i r v C (Yt e j aA)
     ⟨X _ N.1,by rw[N.2.cell];rfl⟩ ⟨z3 _ M.1,by rw[M.2.cell];rfl⟩ (fun V O Y U a3=>hw i r v C J _ V O Y U (Piece.Le.trans m a3)) T D y n Z
    try dsimp only at this
    rw[Ys aA J] at this
    exact this) K G (by show(jB L d ⟨mN vs x.now 0,x.saved,x.kept⟩).sat G K;rw[Yr];exact hG) h (B q aB)
  try dsimp only at c
  rw[Yu e j] at c
  exact c) ?_
 refine aD ?_;exact gF 0 hF
end Go.Proofs.YtmpkkaknjkffpaaGreatDoor
