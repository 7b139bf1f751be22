/- conf: what is right of a clock, a domain, a reset line, a device, and of how many there are. -/
import Derived.KernelRfl
import Derived.Laws.StructEq
import Derived.Test.YtmpkkaknjkffpaaGreatDoorProg
import Derived.Test.YtmpkkaknjkffpaaGreatDoorWorldEndsK2
namespace Go.Proofs.YtmpkkaknjkffpaaGreatDoor
set_option linter.all false
set_option maxHeartbeats 4000000
set_option maxRecDepth 20000
open Go.RowKit Go.Proofs.Tryz
variable{w w0:World}{A1 A2 A3 A4:Option Addr}{n1 n2 n3 n4 m fuel d:Nat}{N:cO}{e:Env}{H H0:List HP}{Q:Exit→Act→World→Prop}{ops:Array Oper}{listed:Array Bool}{ty:TypeId}{pos:String}{aL:Array Edge}{K:Act→World→Prop}
def lR(kind:Int)(n:Nat):Bool:=if kind=111 then decide (n=0) else if kind=112∨kind=100∨kind=103 then decide (n=1) else if kind=109 then iO n 1 4 else false
def tF(kind a d b c:Int):Bool:=
 if kind=111 then decide (1≤a)&&decide (a≤1099511627776) else if kind=112 then iO d 1 1000&&iO b 1 1000&&iO c 0 20 else if kind=100 then iO b 1 1000 else true
def Jd(n1:Nat)(c:eN):Int:=kW [iS (!lR c.kind c.src.length) 1,kW (c.src.map fun f=>iS (!iO f 0 ((n1:Int) - 1)) 4),iS (!tF c.kind c.rate c.mul c.div c.lock) 3]
def Mq(n2:Nat)(d:Dom):Int:=kW [iS (decide (¬d.above= -1)&& !iO d.above 0 ((n2:Int) - 1)) 4,iS (!iO d.delay 0 20) 3]
def Vb(r:Int):Int:=iS (!iO r 0 20) 3
def Mu(n1 n2 n3 n4:Nat)(d:cH):Int:=
 kW [iS (!iO d.clock 0 ((n1:Int) - 1)) 4,iS (!iO d.domain 0 ((n2:Int) - 1)) 4,iS (!iO d.reset 0 ((n3:Int) - 1)) 4,kW (d.jD.map fun f=>iS (!iO f 0 ((n4:Int) - 1)) 4)]
def Ll(d:cH):Int:=iS (decide ((8:Int) < d.aX.length)||decide ((6:Int) < d.jD.length)) 8
theorem aFS(l:List Value):(l.map fun v=>[v]).flatten=l:=by induction l<;>simp_all
theorem aJM(kind b e d c:Int)(A:Option Addr)(n k:Nat)(w:World):
  Cz 153 #[.agg #[.int .u8 kind,.slice A n k,.int .u64 b,iv e,iv d,iv c]] w (Rt (.bool (lR kind n)) w):=by
 refine aT func153 ntmps153 ?_;refine aE ?_;refine bY fun f=>?_;refine aE ?_;refine aK rfl (fun h=>?_) (fun h=>?_)
 ·
  refine aE ?_;exact aW (h:=fun _ _=>by first | (exfalso;omega) | (simp[lR, *];done) | (simp[lR, *];omega))
 ·
  refine aE ?_;refine aK rfl (fun h=>?_) (fun h=>?_)
  ·
   refine aE ?_;refine aK rfl (fun h=>?_) (fun h=>?_)
   ·
    refine aE ?_;exact aW (h:=fun _ _=>by first | (exfalso;omega) | (simp[lR, *];done) | (simp[lR, *];omega))
   ·
    refine aE ?_;refine aK rfl (fun h=>?_) (fun h=>?_)
    ·
     refine aE ?_;refine dJ (fun a st=>uA _ _ _ a) ?_;refine aE ?_;exact aW (h:=fun _ _=>by first | (exfalso;omega) | (simp[lR, *];done) | (simp[lR, *];omega))
    ·
     refine aE ?_;exact aW (h:=fun _ _=>by first | (exfalso;omega) | (simp[lR, *];done) | (simp[lR, *];omega))
  ·
   refine aE ?_;refine aK rfl (fun h=>?_) (fun h=>?_)
   ·
    refine aE ?_;refine aK rfl (fun h=>?_) (fun h=>?_)
    ·
     refine aE ?_;exact aW (h:=fun _ _=>by first | (exfalso;omega) | (simp[lR, *];done) | (simp[lR, *];omega))
    ·
     refine aE ?_;refine aK rfl (fun h=>?_) (fun h=>?_)
     ·
      refine aE ?_;refine dJ (fun a st=>uA _ _ _ a) ?_;refine aE ?_;exact aW (h:=fun _ _=>by first | (exfalso;omega) | (simp[lR, *];done) | (simp[lR, *];omega))
     ·
      refine aE ?_;exact aW (h:=fun _ _=>by first | (exfalso;omega) | (simp[lR, *];done) | (simp[lR, *];omega))
   ·
    refine aE ?_;refine aK rfl (fun h=>?_) (fun h=>?_)
    ·
     refine aE ?_;exact aW (h:=fun _ _=>by first | (exfalso;omega) | (simp[lR, *];done) | (simp[lR, *];omega))
    ·
     refine aE ?_;refine aK rfl (fun h=>?_) (fun h=>?_)
     ·
      refine aE ?_;refine dJ (fun a st=>uA _ _ _ a) ?_;refine aE ?_;exact aW (h:=fun _ _=>by first | (exfalso;omega) | (simp[lR, *];done) | (simp[lR, *];omega))
     ·
      refine aE ?_;exact aW (h:=fun _ _=>by first | (exfalso;omega) | (simp[lR, *];done) | (simp[lR, *];omega))
theorem aLY(kind a f e b:Int)(A:Option Addr)(n k:Nat)(w:World):
  Cz 159 #[.agg #[.int .u8 kind,.slice A n k,.int .u64 a,iv f,iv e,iv b]] w (Rt (.bool (tF kind a f e b)) w):=by
 refine aT func159 ntmps159 ?_;refine aE ?_;refine bY fun i=>?_;refine aE ?_;refine aK rfl (fun h=>?_) (fun h=>?_)
 ·
  refine aE ?_;refine qQ (t:=10) rfl (fun d=>?_) (fun d=>?_)
  ·
   refine aE ?_;exact aW (h:=fun _ _=>by simp[tF, *])
  ·
   refine aE ?_;exact aW (h:=fun _ _=>by simp[tF, *])
 ·
  refine aE ?_;refine aK rfl (fun h=>?_) (fun h=>?_)
  ·
   refine aE ?_;refine dJ (fun c st=>uA _ _ _ c) ?_;refine aE ?_;refine qQ (t:=20) rfl (fun d=>?_) (fun d=>?_)
   ·
    refine aE ?_;refine dJ (fun c st=>uA _ _ _ c) ?_;refine aE ?_;refine qQ (t:=25) rfl (fun d=>?_) (fun d=>?_)
    ·
     refine aE ?_;refine dJ (fun c st=>uA _ _ _ c) ?_;refine aE ?_;exact aW (h:=fun _ _=>by simp[tF, *])
    ·
     refine aE ?_;exact aW (h:=fun _ _=>by simp[tF, *])
   ·
    refine aE ?_;exact aW (h:=fun _ _=>by simp[tF, *])
  ·
   refine aE ?_;refine aK rfl (fun h=>?_) (fun h=>?_)
   ·
    refine aE ?_;refine dJ (fun c st=>uA _ _ _ c) ?_;refine aE ?_;exact aW (h:=fun _ _=>by simp[tF, *])
   ·
    refine aE ?_;exact aW (h:=fun _ _=>by simp[tF, *])
theorem aQn(kind b i f c:Int)(A:Option Addr)(n k:Nat)(gc:Nat)(w:World)(j:eA w gc 0 [.int .u8 kind,.slice A n k,.int .u64 b,iv i,iv f,iv c]):
  Cz 152 #[pt gc] w (Rt (iv (iS (!lR kind n) 1)) w):=by
 refine aT func152 ntmps152 ?_;refine aE ?_;refine dJ (fun d st=>aJM _ _ _ _ _ _ _ _ d) ?_;refine aE ?_;refine dJ (fun d st=>uY _ _ d) ?_;refine aE ?_;exact aW (h:=fun _ _=>rfl)
theorem aQk(kind a f d c:Int)(A:Option Addr)(n k:Nat)(gc:Nat)(w:World)(j:eA w gc 0 [.int .u8 kind,.slice A n k,.int .u64 a,iv f,iv d,iv c]):
  Cz 158 #[pt gc] w (Rt (iv (iS (!tF kind a f d c) 3)) w):=by
 refine aT func158 ntmps158 ?_;refine aE ?_;refine dJ (fun i st=>aLY _ _ _ _ _ _ _ _ i) ?_;refine aE ?_;refine dJ (fun i st=>uY _ _ i) ?_;refine aE ?_;exact aW (h:=fun _ _=>rfl)
theorem aQl(f:Int)(A1 A2 A3 A4:Option Addr)(n1 k1 n2 k2 n3 k3 n4 k4:Nat)(b:Nat)(w:World)(hs:eA w b 0 [.slice A1 n1 k1,.slice A2 n2 k2,.slice A3 n3 k3,.slice A4 n4 k4])(c:(n1:Int)≤9223372036854775806):
  Cz 156 #[iv f,pt b] w (Rt (iv (iS (!iO f 0 ((n1:Int) - 1)) 4)) w):=by
 refine aT func156 ntmps156 ?_;refine aE ?_;refine dJ (fun a st=>uA _ _ _ a) ?_;refine aE ?_;refine dJ (fun a st=>uY _ _ a) ?_;refine aE ?_;exact aW (h:=fun _ _=>rfl)
theorem aQm(kind c e m b:Int)(A:Option Addr)(n k:Nat)(A1 A2 A3 A4:Option Addr)(n1 k1 n2 k2 n3 k3 n4 k4:Nat)(gc a:Nat)(w:World)(D:eA w gc 0 [.int .u8 kind,.slice A n k,.int .u64 c,iv e,iv m,iv b])(hs:eA w a 0 [.slice A1 n1 k1,.slice A2 n2 k2,.slice A3 n3 k3,.slice A4 n4 k4])(j:(n1:Int)≤9223372036854775806)(zs:List Int)(z:aM (all w) 1 A n (aR zs))(F:n=zs.length)(E:(n:Int)≤9223372036854775806):
  Cz 154 #[pt gc,pt a] w (Rt (iv (kW (zs.map fun f=>iS (!iO f 0 ((n1:Int) - 1)) 4))) w):=by
 refine aT func154 ntmps154 ?_;refine aB ?_;refine kK (vf:=[]) (vc:=[pt a]) rfl rfl aC ?_
 refine dJ (fun C st=>aGi _ _ _ 156 [pt a] ((aR zs).map fun v=>[v]) (zs.map fun f=>iS (!iO f 0 ((n1:Int) - 1)) 4) C (by rw[aFS];exact z.le (lK (st.started aD))) aD (by simp[aR];omega) (by simp;omega) aA aF (fun i r x d p u l=>by
  obtain⟨f,y,rfl⟩:∃f,zs[i]? =some f∧r=[iv f]:=by
   rw[List.getElem?_map,aR,List.getElem?_map] at d;cases o:zs[i]? with
   | none=>simp[o] at d
   | some f=>simp[o] at d;exact⟨f,rfl,d.symm⟩
  rw[List.getElem?_map,y] at p;cases p
  exact aQl f A1 A2 A3 A4 n1 k1 n2 k2 n3 k3 n4 k4 a u ((hs.below (st.started aD)).below l) j)) ?_
 refine aB ?_;exact aW (h:=fun _ _=>rfl)
theorem aQj(kind d j l c:Int)(A:Option Addr)(n k:Nat)(A1 A2 A3 A4:Option Addr)(n1 k1 n2 k2 n3 k3 n4 k4:Nat)(w:World)(F:(n1:Int)≤9223372036854775806)(zs:List Int)(J:aM (all w) 1 A n (aR zs))(H:n=zs.length)(I:(n:Int)≤9223372036854775806):
  Cz 91 #[.agg #[.slice A1 n1 k1,.slice A2 n2 k2,.slice A3 n3 k3,.slice A4 n4 k4],.agg #[.int .u8 kind,.slice A n k,.int .u64 d,iv j,iv l,iv c]] w (Rt (iv (Jd n1 ⟨kind,zs,d,j,l,c⟩)) w):=by
 refine aT func91 ntmps91 ?_;refine aB ?_;refine bY fun D=>?_;refine bY fun o=>?_;refine aB ?_;refine kK (vf:=[]) (vc:=[pt o]) rfl rfl aC ?_;refine kK (vf:=[]) (vc:=[pt o,pt D]) rfl rfl aC ?_;refine kK (vf:=[]) (vc:=[pt o]) rfl rfl aC ?_;refine eT fun L=>?_
 refine dJ (fun K st=>Xh _ _ _ [(152,[pt o]),(154,[pt o,pt D]),(158,[pt o])] [iS (!lR kind n) 1,kW (zs.map fun f=>iS (!iO f 0 ((n1:Int) - 1)) 4),iS (!tF kind d j l c) 3] K (st.vA (i:=0) (n:=3) (sz:=1) (cs:=[.func (.func 152) #[] #[pt o],.func (.func 154) #[] #[pt o,pt D],.func (.func 158) #[] #[pt o]]) rfl rfl) rfl rfl aC (by simp only[List.mem_cons,List.not_mem_nil,or_false];rintro f (rfl | rfl | rfl)<;>kernel_rfl) (fun i f x z C E y=>by
  have G:=(st.started aD).trans (y.mono st.size)
  match i,z,C with
  | 0,z,C=>cases z;cases C;exact aQn kind d j l c A n k o E (st.box (cs:=[.int .u8 kind,.slice A n k,.int .u64 d,.int .i64 j,.int .i64 l,.int .i64 c]) (i:=1) rfl|>.below y)
  | 1,z,C=>cases z;cases C;exact aQm kind d j l c A n k A1 A2 A3 A4 n1 k1 n2 k2 n3 k3 n4 k4 o D E (st.box (cs:=[.int .u8 kind,.slice A n k,.int .u64 d,.int .i64 j,.int .i64 l,.int .i64 c]) (i:=1) rfl|>.below y) (st.box (cs:=[.slice A1 n1 k1,.slice A2 n2 k2,.slice A3 n3 k3,.slice A4 n4 k4]) (i:=2) rfl|>.below y) F zs (J.le (lK G)) H I
  | 2,z,C=>cases z;cases C;exact aQk kind d j l c A n k o E (st.box (cs:=[.int .u8 kind,.slice A n k,.int .u64 d,.int .i64 j,.int .i64 l,.int .i64 c]) (i:=1) rfl|>.below y)
  | i+3,z,_=>simp at z)) ?_
 refine aB ?_;exact aW (h:=fun _ _=>by simp[Jd,H])
theorem aPt(a b:Int)(ret:Bool)(A1 A2 A3 A4:Option Addr)(n1 k1 n2 k2 n3 k3 n4 k4:Nat)(e f:Nat)(w:World)(hd:eA w e 0 [iv a,iv b,.bool ret])(hs:eA w f 0 [.slice A1 n1 k1,.slice A2 n2 k2,.slice A3 n3 k3,.slice A4 n4 k4])(j:(n2:Int)≤9223372036854775806):
  Cz 161 #[pt e,pt f] w (Rt (iv (iS (decide (¬a= -1)&& !iO a 0 ((n2:Int) - 1)) 4)) w):=by
 refine aT func161 ntmps161 ?_;refine aE ?_;refine cN (t:=6) rfl (fun d=>?_) (fun d=>?_)
 ·
  refine aE ?_;refine dJ (fun c st=>uA _ _ _ c) ?_;refine aE ?_;refine dJ (fun c st=>uY _ _ c) ?_;refine aE ?_;exact aW (h:=fun _ _=>by simp[d])
 ·
  refine aE ?_;refine dJ (fun c st=>uY _ _ c) ?_;refine aE ?_;exact aW (h:=fun _ _=>by simp[d])
theorem aPs(b a:Int)(ret:Bool)(d:Nat)(w:World)(hd:eA w d 0 [iv b,iv a,.bool ret]):
  Cz 162 #[pt d] w (Rt (iv (iS (!iO a 0 20) 3)) w):=by
 refine aT func162 ntmps162 ?_;refine aE ?_;refine dJ (fun c st=>uA _ _ _ c) ?_;refine aE ?_;refine dJ (fun c st=>uY _ _ c) ?_;refine aE ?_;exact aW (h:=fun _ _=>rfl)
theorem aPr(a b:Int)(ret:Bool)(A1 A2 A3 A4:Option Addr)(n1 k1 n2 k2 n3 k3 n4 k4:Nat)(w:World)(l:(n2:Int)≤9223372036854775806):
  Cz 98 #[.agg #[.slice A1 n1 k1,.slice A2 n2 k2,.slice A3 n3 k3,.slice A4 n4 k4],.agg #[iv a,iv b,.bool ret]] w (Rt (iv (Mq n2 ⟨a,b,ret⟩)) w):=by
 refine aT func98 ntmps98 ?_;refine aB ?_;refine bY fun k=>?_;refine bY fun d=>?_;refine aB ?_;refine kK (vf:=[]) (vc:=[pt d,pt k]) rfl rfl aC ?_;refine kK (vf:=[]) (vc:=[pt d]) rfl rfl aC ?_;refine eT fun r=>?_
 refine dJ (fun o st=>Xh _ _ _ [(161,[pt d,pt k]),(162,[pt d])] [iS (decide (¬a= -1)&& !iO a 0 ((n2:Int) - 1)) 4,iS (!iO b 0 20) 3] o (st.vA (i:=0) (n:=2) (sz:=1) (cs:=[.func (.func 161) #[] #[pt d,pt k],.func (.func 162) #[] #[pt d]]) rfl rfl) rfl rfl aC (by simp only[List.mem_cons,List.not_mem_nil,or_false];rintro f (rfl | rfl)<;>kernel_rfl) (fun i f x e j m c=>by
  have p:=(st.started aD).trans (c.mono st.size)
  match i,e,j with
  | 0,e,j=>cases e;cases j;exact aPt a b ret A1 A2 A3 A4 n1 k1 n2 k2 n3 k3 n4 k4 d k m (st.box (cs:=[.int .i64 a,.int .i64 b,.bool ret]) (i:=1) rfl|>.below c) (st.box (cs:=[.slice A1 n1 k1,.slice A2 n2 k2,.slice A3 n3 k3,.slice A4 n4 k4]) (i:=2) rfl|>.below c) l
  | 1,e,j=>cases e;cases j;exact aPs a b ret d m (st.box (cs:=[.int .i64 a,.int .i64 b,.bool ret]) (i:=1) rfl|>.below c)
  | i+2,e,_=>simp at e)) ?_
 refine aB ?_;exact aW (h:=fun _ _=>rfl)
theorem aKP(r:Int)(w:World):
  Cz 103 #[.agg #[iv r]] w (Rt (iv (Vb r)) w):=by
 refine aT func103 ntmps103 ?_;refine aE ?_;refine bY fun b=>?_;refine aE ?_;refine dJ (fun a st=>uA _ _ _ a) ?_;refine aE ?_;refine dJ (fun a st=>uY _ _ a) ?_;refine aE ?_;exact aW (h:=fun _ _=>rfl)
theorem aPJ(a b c d:Int)(A B:Option Addr)(n k m l:Nat)(A1 A2 A3 A4:Option Addr)(n1 k1 n2 k2 n3 k3 n4 k4:Nat)(f j:Nat)(w:World)(hd:eA w f 0 [iv a,iv b,iv c,.int .u32 d,.slice B m l,.slice A n k])(hs:eA w j 0 [.slice A1 n1 k1,.slice A2 n2 k2,.slice A3 n3 k3,.slice A4 n4 k4])(o:(n1:Int)≤9223372036854775806):
  Cz 163 #[pt f,pt j] w (Rt (iv (iS (!iO a 0 ((n1:Int) - 1)) 4)) w):=by
 refine aT func163 ntmps163 ?_;refine aE ?_;refine dJ (fun e st=>uA _ _ _ e) ?_;refine aE ?_;refine dJ (fun e st=>uY _ _ e) ?_;refine aE ?_;exact aW (h:=fun _ _=>rfl)
theorem aPI(d a b c:Int)(A B:Option Addr)(n k o l:Nat)(A1 A2 A3 A4:Option Addr)(n1 k1 n2 k2 n3 k3 n4 k4:Nat)(f j:Nat)(w:World)(hd:eA w f 0 [iv d,iv a,iv b,.int .u32 c,.slice B o l,.slice A n k])(hs:eA w j 0 [.slice A1 n1 k1,.slice A2 n2 k2,.slice A3 n3 k3,.slice A4 n4 k4])(m:(n2:Int)≤9223372036854775806):
  Cz 164 #[pt f,pt j] w (Rt (iv (iS (!iO a 0 ((n2:Int) - 1)) 4)) w):=by
 refine aT func164 ntmps164 ?_;refine aE ?_;refine dJ (fun e st=>uA _ _ _ e) ?_;refine aE ?_;refine dJ (fun e st=>uY _ _ e) ?_;refine aE ?_;exact aW (h:=fun _ _=>rfl)
theorem aPH(d b a c:Int)(A B:Option Addr)(n k o l:Nat)(A1 A2 A3 A4:Option Addr)(n1 k1 n2 k2 n3 k3 n4 k4:Nat)(f j:Nat)(w:World)(hd:eA w f 0 [iv d,iv b,iv a,.int .u32 c,.slice B o l,.slice A n k])(hs:eA w j 0 [.slice A1 n1 k1,.slice A2 n2 k2,.slice A3 n3 k3,.slice A4 n4 k4])(m:(n3:Int)≤9223372036854775806):
  Cz 165 #[pt f,pt j] w (Rt (iv (iS (!iO a 0 ((n3:Int) - 1)) 4)) w):=by
 refine aT func165 ntmps165 ?_;refine aE ?_;refine dJ (fun e st=>uA _ _ _ e) ?_;refine aE ?_;refine dJ (fun e st=>uY _ _ e) ?_;refine aE ?_;exact aW (h:=fun _ _=>rfl)
theorem aPF(f:Int)(A1 A2 A3 A4:Option Addr)(n1 k1 n2 k2 n3 k3 n4 k4:Nat)(b:Nat)(w:World)(hs:eA w b 0 [.slice A1 n1 k1,.slice A2 n2 k2,.slice A3 n3 k3,.slice A4 n4 k4])(c:(n4:Int)≤9223372036854775806):
  Cz 167 #[iv f,pt b] w (Rt (iv (iS (!iO f 0 ((n4:Int) - 1)) 4)) w):=by
 refine aT func167 ntmps167 ?_;refine aE ?_;refine dJ (fun a st=>uA _ _ _ a) ?_;refine aE ?_;refine dJ (fun a st=>uY _ _ a) ?_;refine aE ?_;exact aW (h:=fun _ _=>rfl)
theorem aPG(d a c b:Int)(A B:Option Addr)(n k C E:Nat)(A1 A2 A3 A4:Option Addr)(n1 k1 n2 k2 n3 k3 n4 k4:Nat)(p e:Nat)(w:World)(hd:eA w p 0 [iv d,iv a,iv c,.int .u32 b,.slice B C E,.slice A n k])(hs:eA w e 0 [.slice A1 n1 k1,.slice A2 n2 k2,.slice A3 n3 k3,.slice A4 n4 k4])(l:(n4:Int)≤9223372036854775806)(zs:List Int)(D:aM (all w) 1 A n (aR zs))(H:n=zs.length)(G:(n:Int)≤9223372036854775806):
  Cz 166 #[pt p,pt e] w (Rt (iv (kW (zs.map fun f=>iS (!iO f 0 ((n4:Int) - 1)) 4))) w):=by
 refine aT func166 ntmps166 ?_;refine aB ?_;refine kK (vf:=[]) (vc:=[pt e]) rfl rfl aC ?_
 refine dJ (fun F st=>aGi _ _ _ 167 [pt e] ((aR zs).map fun v=>[v]) (zs.map fun f=>iS (!iO f 0 ((n4:Int) - 1)) 4) F (by rw[aFS];exact D.le (lK (st.started aD))) aD (by simp[aR];omega) (by simp;omega) aA aF (fun i r x j u y m=>by
  obtain⟨f,z,rfl⟩:∃f,zs[i]? =some f∧r=[iv f]:=by
   rw[List.getElem?_map,aR,List.getElem?_map] at j;cases o:zs[i]? with
   | none=>simp[o] at j
   | some f=>simp[o] at j;exact⟨f,rfl,j.symm⟩
  rw[List.getElem?_map,z] at u;cases u
  exact aPF f A1 A2 A3 A4 n1 k1 n2 k2 n3 k3 n4 k4 e y ((hs.below (st.started aD)).below m) l)) ?_
 refine aB ?_;exact aW (h:=fun _ _=>rfl)
theorem aPE(J:List Rg)(c a b d:Int)(A B:Option Addr)(n k o p:Nat)(A1 A2 A3 A4:Option Addr)(n1 k1 n2 k2 n3 k3 n4 k4:Nat)(w:World)(C:(n1:Int)≤9223372036854775806)(D:(n2:Int)≤9223372036854775806)(y:(n3:Int)≤9223372036854775806)(z:(n4:Int)≤9223372036854775806)(zs:List Int)(G:aM (all w) 1 A n (aR zs))(H:n=zs.length)(F:(n:Int)≤9223372036854775806):
  Cz 107 #[.agg #[.slice A1 n1 k1,.slice A2 n2 k2,.slice A3 n3 k3,.slice A4 n4 k4],.agg #[iv c,iv a,iv b,.int .u32 d,.slice B o p,.slice A n k]] w (Rt (iv (Mu n1 n2 n3 n4 ⟨c,a,b,d,J,zs⟩)) w):=by
 refine aT func107 ntmps107 ?_;refine aB ?_;refine bY fun l=>?_;refine bY fun j=>?_;refine aB ?_;refine kK (vf:=[]) (vc:=[pt j,pt l]) rfl rfl aC ?_;refine kK (vf:=[]) (vc:=[pt j,pt l]) rfl rfl aC ?_;refine kK (vf:=[]) (vc:=[pt j,pt l]) rfl rfl aC ?_;refine kK (vf:=[]) (vc:=[pt j,pt l]) rfl rfl aC ?_;refine eT fun K=>?_
 refine dJ (fun I st=>Xh _ _ _ [(163,[pt j,pt l]),(164,[pt j,pt l]),(165,[pt j,pt l]),(166,[pt j,pt l])] [iS (!iO c 0 ((n1:Int) - 1)) 4,iS (!iO a 0 ((n2:Int) - 1)) 4,iS (!iO b 0 ((n3:Int) - 1)) 4,kW (zs.map fun f=>iS (!iO f 0 ((n4:Int) - 1)) 4)] I (st.vA (i:=0) (n:=4) (sz:=1) (cs:=[.func (.func 163) #[] #[pt j,pt l],.func (.func 164) #[] #[pt j,pt l],.func (.func 165) #[] #[pt j,pt l],.func (.func 166) #[] #[pt j,pt l]]) rfl rfl) rfl rfl aC (by simp only[List.mem_cons,List.not_mem_nil,or_false];rintro f (rfl | rfl | rfl | rfl)<;>kernel_rfl) (fun i f x m r u e=>by
  have E:=(st.started aD).trans (e.mono st.size)
  match i,m,r with
  | 0,m,r=>cases m;cases r;exact aPJ c a b d A B n k o p A1 A2 A3 A4 n1 k1 n2 k2 n3 k3 n4 k4 j l u (st.box (cs:=[.int .i64 c,.int .i64 a,.int .i64 b,.int .u32 d,.slice B o p,.slice A n k]) (i:=1) rfl|>.below e) (st.box (cs:=[.slice A1 n1 k1,.slice A2 n2 k2,.slice A3 n3 k3,.slice A4 n4 k4]) (i:=2) rfl|>.below e) C
  | 1,m,r=>cases m;cases r;exact aPI c a b d A B n k o p A1 A2 A3 A4 n1 k1 n2 k2 n3 k3 n4 k4 j l u (st.box (cs:=[.int .i64 c,.int .i64 a,.int .i64 b,.int .u32 d,.slice B o p,.slice A n k]) (i:=1) rfl|>.below e) (st.box (cs:=[.slice A1 n1 k1,.slice A2 n2 k2,.slice A3 n3 k3,.slice A4 n4 k4]) (i:=2) rfl|>.below e) D
  | 2,m,r=>cases m;cases r;exact aPH c a b d A B n k o p A1 A2 A3 A4 n1 k1 n2 k2 n3 k3 n4 k4 j l u (st.box (cs:=[.int .i64 c,.int .i64 a,.int .i64 b,.int .u32 d,.slice B o p,.slice A n k]) (i:=1) rfl|>.below e) (st.box (cs:=[.slice A1 n1 k1,.slice A2 n2 k2,.slice A3 n3 k3,.slice A4 n4 k4]) (i:=2) rfl|>.below e) y
  | 3,m,r=>cases m;cases r;exact aPG c a b d A B n k o p A1 A2 A3 A4 n1 k1 n2 k2 n3 k3 n4 k4 j l u (st.box (cs:=[.int .i64 c,.int .i64 a,.int .i64 b,.int .u32 d,.slice B o p,.slice A n k]) (i:=1) rfl|>.below e) (st.box (cs:=[.slice A1 n1 k1,.slice A2 n2 k2,.slice A3 n3 k3,.slice A4 n4 k4]) (i:=2) rfl|>.below e) z zs (G.le (lK E)) H F
  | i+4,m,_=>simp at m)) ?_
 refine aB ?_;exact aW (h:=fun _ _=>rfl)
theorem aOk(l:List Rg)(zs:List Int)(d a b c:Int)(A B:Option Addr)(n k j m:Nat)(w:World)(hrg:j=l.length)(i:n=zs.length):
  Cz 150 #[.agg #[iv d,iv a,iv b,.int .u32 c,.slice B j m,.slice A n k]] w (Rt (iv (Ll ⟨d,a,b,c,l,zs⟩)) w):=by
 refine aT func150 ntmps150 ?_;refine aE ?_;refine bY fun o=>?_;refine aE ?_;refine cN (t:=7) rfl (fun e=>?_) (fun e=>?_)
 ·
  refine aE ?_;refine dJ (fun f st=>uY _ _ f) ?_;refine aE ?_;exact aW (h:=fun _ _=>by subst hrg i;simp[Ll,e])
 ·
  refine aE ?_;refine dJ (fun f st=>uY _ _ f) ?_;refine aE ?_;exact aW (h:=fun _ _=>by subst hrg i;simp[Ll,e])
def aG.small(s:aG):Prop:=s.aJ.length≤1000000∧s.domains.length≤1000000∧s.bA.length≤1000000∧s.aH.length≤1000000∧(∀c∈s.aJ,c.src.length≤1000000)∧∀d∈s.aH,d.jD.length≤1000000
structure iJ(w:World)(s:aG)(A1:Option Addr)(n1:Nat)(A2:Option Addr)(n2:Nat)(A3:Option Addr)(n3:Nat)(A4:Option Addr)(n4:Nat):Prop where
 iA:kJ (fT (all w)) (rQ (fT (all w))) 73 6 A1 n1 s.aJ
 dom:kJ (fT (all w)) tX 75 3 A2 n2 s.domains
 zC:kJ (fT (all w)) wY 77 1 A3 n3 s.bA
 dev:kJ (fT (all w)) (qO (fT (all w))) 80 6 A4 n4 s.aH
 small:s.small
section
variable{w':World}{s:aG}
theorem iJ.le(h:iJ w s A1 n1 A2 n2 A3 n3 A4 n4)(a:Below w.heap.size w w'):iJ w' s A1 n1 A2 n2 A3 n3 A4 n4:=
 ⟨h.iA.mono (kU (lK a)) (fun _ _=>rQ.mono (kU (lK a))),h.dom.mono (kU (lK a)) (fun _ _ h=>h),h.zC.mono (kU (lK a)) (fun _ _ h=>h),h.dev.mono (kU (lK a)) (fun _ _=>qO.mono (kU (lK a))),h.small⟩
theorem iJ.rY(h:iJ w s A1 n1 A2 n2 A3 n3 A4 n4):n1=s.aJ.length:=by obtain⟨_,_,h,_⟩:=h.iA;exact h
theorem iJ.rX(h:iJ w s A1 n1 A2 n2 A3 n3 A4 n4):n2=s.domains.length:=by obtain⟨_,_,h,_⟩:=h.dom;exact h
theorem iJ.uI(h:iJ w s A1 n1 A2 n2 A3 n3 A4 n4):n3=s.bA.length:=by obtain⟨_,_,h,_⟩:=h.zC;exact h
theorem iJ.tH(h:iJ w s A1 n1 A2 n2 A3 n3 A4 n4):n4=s.aH.length:=by obtain⟨_,_,h,_⟩:=h.dev;exact h
end
theorem kJ.row{α:Type}{w:World}{R:α→List Value→Prop}{t:TypeId}{sz n:Nat}{A:Option Addr}{es:List α}(h:kJ (fT (all w)) R t sz A n es){k:Nat}{e:α}(hk:es[k]? =some e):
  ∃b off r,A=some ⟨b,off,none⟩∧r.length=sz∧R e r∧eA w b (off+k*sz) r:=by
 obtain⟨rows,d,u,j⟩:=h
 have l:=(List.getElem?_eq_some_iff.1 hk).1
 have p:=d.len.1
 obtain⟨r,i⟩:∃r,rows[k]? =some r:=⟨_,List.getElem?_eq_getElem aA⟩
 obtain⟨x,f,c,m⟩:=d.at_ i;rw[hk] at f;cases f;obtain⟨b,off,o,a⟩:=aM.row j d.Eg i aA;exact⟨b,off,r,o,c,m,a⟩
def kH(s:aG):List (List Int):=s.aJ.map (·.src)
def kG(s:aG):List (List Int):=s.domains.map fun d=>if d.above= -1 then[] else[d.above]
def dQ(s:aG):List (List Int):=s.aH.map (·.jD)
def By(g:List (List Int)):Int:=iS (decide ((fY g).1=5)) 5
theorem aBN{vs:List Value}{v z:Value}{k n:Nat}(h:vs.length=k)(hk:k < n):(vs++List.replicate (n - k) z).set k v=(vs++[v])++List.replicate (n - (k+1)) z:=by
 rw[List.set_append_right _ _ aA,h,Nat.sub_self,show n - k=(n - (k+1))+1 by omega,List.replicate_succ,List.set_cons_zero,List.append_assoc];rfl
theorem aOA{vs:List Value}{z:Value}{k n:Nat}(hk:k < n):vs++List.replicate (n - k) z=(vs++[z])++List.replicate (n - (k+1)) z:=by
 rw[show n - k=(n - (k+1))+1 by omega,List.replicate_succ,List.append_assoc];rfl
theorem Uz{g:List (List Int)}{k:Nat}{vs:List Value}{q a:Piece}{l:List Int}{v:Value}(h:Rows (tU (fT q)) 1 (g.take k) (vs.map fun v=>[v]))(hl:q.Le a)(hg:g[k]? =some l)(b:tU (fT a) l [v]):Rows (tU (fT a)) 1 (g.take (k+1)) ((vs++[v]).map fun v=>[v]):=by
 rw[List.take_add_one,hg,Option.toList_some,List.map_append];exact(h.mono (fun _ _=>tU.mono (kU hl))).snoc rfl b
theorem aCS{q a:Piece}{g:List (List Int)}{vs:List Value}{e n:Nat}{t:TypeId}(h:Rows (tU (fT q)) 1 g (vs.map fun v=>[v]))(hl:q.Le a)(j:∃F,(HP.aI e t vs).sat F a.w∧∀b,F b→a.Z b)(f:n=g.length):oF a (some ⟨e,0,none⟩) n g:=by
 obtain⟨F,d,i⟩:=j;refine⟨_,h.mono (fun _ _=>tU.mono (kU hl)),f,?_⟩;rw[show(vs.map fun v=>[v]).flatten=vs by clear h d;induction vs<;>simp_all];refine rN (c:=0) d i ?_
 have:=h.len.1
 simp at this;omega
def aCO(zs:List Int)(v:Value)(w w':World):Prop:=∃A c,v=.slice A zs.length c∧aM (fresh w w') 1 A zs.length (aR zs)
def Ev(g:List (List Int))(v:Value)(w w':World):Prop:=∃A c,v=.slice A g.length c∧oF (fresh w w') A g.length g
theorem aQ2(A:Option Addr)(n c:Nat)(g:List (List Int))(w:World)(hg:oF (all w) A n g)(f:n=g.length)(b:(n:Int)≤9223372036854775806)(a:∀l∈g,(l.length:Int)≤9223372036854775806):
  Cz 160 #[.slice A n c] w (Rt (iv (fY g).1) w):=by
 refine aT func160 ntmps160 ?_;refine aE ?_;refine kcV (fun v=>∃A m c,v=.tuple #[.slice A m c,iv (fY g).1]) (fun k st=>(Vm A n c g k (hg.le (lK (st.started aD))) f b a).mono fun y o h=>?_) ?_
 ·obtain⟨⟨d,m,e,j,_,_⟩,i⟩:=h;exact⟨⟨_,j,d,m,e,rfl⟩,i⟩
 rintro _ ⟨d,m,e,rfl⟩;refine aE ?_;exact aW (h:=fun _ _=>rfl)
theorem aCe(A:Option Addr)(n c:Nat)(g:List (List Int))(w:World)(hg:oF (all w) A n g)(e:n=g.length)(d:(n:Int)≤9223372036854775806)(a:∀l∈g,(l.length:Int)≤9223372036854775806):
  Cz 93 #[.slice A n c] w (Rt (iv (By g)) w):=by
 refine aT func93 ntmps93 ?_;refine aE ?_;refine dJ (fun b st=>aQ2 A n c g b (hg.le (lK (st.started aD))) e d a) ?_;refine aE ?_;refine dJ (fun b st=>uY _ _ b) ?_;refine aE ?_;exact aW (h:=fun _ _=>rfl)
theorem aEA(A:Option Addr)(n c:Nat)(zs:List Int)(w:World)(hs:aM (all w) 1 A n (aR zs))(b:n=zs.length)(f:n≤1000000):
  Cz 109 #[.slice A n c] w (fun y w'=>(∃v,y=.returned v∧aCO zs v w w')∧Below w.heap.size w w'):=by
 refine aT func109 ntmps109 ?_;refine aE ?_;refine mH 3 1 ?_;refine iL 0 1 8 n (n':=n) (v:=sn) (el:=3) aF aF aC rfl rfl rfl (tA aD hs) (by simp[aR,Value.oneCell']) aA aA aA aC fun i e=>?_;refine aE ?_;refine dK [] [0] [] aD rfl aC aC fun q d _ a=>?_;subst b;exact aW (h:=fun j st=>⟨_,rfl,i,e,rfl,(aM.own (d 0 _ aD rfl)).le (st.nL aD (a aD aD))⟩)
theorem aG9(s:aG)(A1 A2 A3 A4:Option Addr)(n1 k1 n2 k2 n3 k3 n4 k4:Nat)(w:World)(hW:iJ w s A1 n1 A2 n2 A3 n3 A4 n4):
  Cz 94 #[.agg #[.slice A1 n1 k1,.slice A2 n2 k2,.slice A3 n3 k3,.slice A4 n4 k4]] w (fun y w'=>(∃v,y=.returned v∧Ev (kH s) v w w')∧Below w.heap.size w w'):=by
 have hn:=hW.rY
 have i:=hW.small
 unfold aG.small at i;obtain⟨X,Y,hs3,L,B,Z⟩:=i;refine aT func94 ntmps94 ?_;refine aE ?_;refine bY fun F=>?_;refine aE ?_;refine mN 24 (el:=22) (z:=sn) aF aF rfl rfl rfl aA aA aC fun p=>?_;refine aE ?_;refine bT [(13,iv 0),(12,iv n1),(11,.slice A1 n1 k1),(3,.slice (some ⟨p,0,none⟩) n1 n1),(1,pt F)] ?_;refine dK [] [] [0,1] aD rfl aC aC fun q0 _ _ o=>?_;refine aE ?_;refine fG (fun m e R H=>∃(k:Nat) (n:List Value) (q:Piece),k≤n1∧m=n1 - k∧rO w q∧Rows (tU (fT q)) 1 ((kH s).take k) (n.map fun v=>[v])∧n.length=k∧e=[(13,iv k),(12,iv n1),(11,.slice A1 n1 k1),(3,.slice (some ⟨p,0,none⟩) n1 n1),(1,pt F)]∧R=[q,all w]∧H=[HP.aI p 22 (n++List.replicate (n1 - k) (sn)),HP.aI F 30 [.slice A1 n1 k1,.slice A2 n2 k2,.slice A3 n3 k3,.slice A4 n4 k4]]) n1 ⟨0,[],_,aA,rfl,o aD aD,trivial,rfl,rfl,rfl,rfl⟩ fun m e R H M=>?_;obtain⟨k,n,q,hk,rfl,j,a,f,rfl,rfl,rfl⟩:=M;refine aE ?_;refine aK rfl (fun h=>?_) (fun h=>?_)
 ·
  refine aE ?_
  have x:k < s.aJ.length:=by omega
  obtain⟨e,u⟩:∃e,s.aJ[k]? =some e:=⟨_,List.getElem?_eq_getElem x⟩
  obtain⟨b,off,r,rfl,V,T,N⟩:=hW.iA.row u;obtain⟨Af,J,O,rfl,D,t⟩:=T
  have G:(kH s)[k]? =some (e.src):=by simp[kH,u]
  refine aE ?_;refine cQ fun g3=>?_;refine jZ rfl aC ?_;refine sU rfl rfl ?_;simp only[gD,Value.cells,List.set,List.take,List.drop,List.nil_append,List.append_nil,List.length_cons,List.length_nil,List.cons_append,Nat.reduceAdd];refine aE ?_;refine kN [q] (aCO e.src) (fun E st=>aEA Af J O e.src E (aM.le t (lK (st.started aD))) D (by have:=B e (List.mem_of_getElem? u);omega)) ?_;rintro _ E q' ⟨U,co,rfl,C⟩ I d l;refine kd (dat (k) (k)) ?_;refine sQ 1 rfl aF rfl rfl rfl (by simp;omega) ?_;dsimp only[List.set];rw[aBN f aA];refine aE ?_;exact fA (n1 - (k+1)) ⟨k+1,n++[_],q',aA,rfl,l (by simpa using j),Uz a (d q aD) G ⟨U,_,co,rfl,rfl,aM.le C I⟩,by simp[f],rfl,rfl,rfl⟩
 ·
  refine aE ?_;obtain rfl:k=n1:=by omega
  rw[Nat.sub_self,List.replicate_zero,List.append_nil];rw[List.take_of_length_le (by simp[kH];omega)] at a;refine aE ?_;refine dK [q] [0] [] aD rfl aC aC fun q2 K d A=>?_
  have c:k=(kH s).length:=by simp[kH];omega
  exact aW (h:=fun E st=>⟨_,rfl,some ⟨p,0,none⟩,k,by rw[←c],by rw[←c];exact(aCS a (d q aD) (K 0 _ aD rfl) c).le (st.nL aD (A aD (by simpa using j)))⟩)
theorem aEN(s:aG)(A1 A2 A3 A4:Option Addr)(n1 k1 n2 k2 n3 k3 n4 k4:Nat)(w:World)(hW:iJ w s A1 n1 A2 n2 A3 n3 A4 n4):
  Cz 55 #[.agg #[.slice A1 n1 k1,.slice A2 n2 k2,.slice A3 n3 k3,.slice A4 n4 k4]] w (fun y w'=>(∃v,y=.returned v∧Ev (dQ s) v w w')∧Below w.heap.size w w'):=by
 have hn:=hW.tH
 have l:=hW.small
 unfold aG.small at l;obtain⟨hs1,T,V,L,hs5,C⟩:=l;refine aT func55 ntmps55 ?_;refine aE ?_;refine bY fun F=>?_;refine aE ?_;refine mN 24 (el:=22) (z:=sn) aF aF rfl rfl rfl aA aA aC fun p=>?_;refine aE ?_;refine bT [(13,iv 0),(12,iv n4),(11,.slice A4 n4 k4),(3,.slice (some ⟨p,0,none⟩) n4 n4),(1,pt F)] ?_;refine dK [] [] [0,1] aD rfl aC aC fun q0 _ _ o=>?_;refine aE ?_;refine fG (fun m e R H=>∃(k:Nat) (j:List Value) (q:Piece),k≤n4∧m=n4 - k∧rO w q∧Rows (tU (fT q)) 1 ((dQ s).take k) (j.map fun v=>[v])∧j.length=k∧e=[(13,iv k),(12,iv n4),(11,.slice A4 n4 k4),(3,.slice (some ⟨p,0,none⟩) n4 n4),(1,pt F)]∧R=[q,all w]∧H=[HP.aI p 22 (j++List.replicate (n4 - k) (sn)),HP.aI F 30 [.slice A1 n1 k1,.slice A2 n2 k2,.slice A3 n3 k3,.slice A4 n4 k4]]) n4 ⟨0,[],_,aA,rfl,o aD aD,trivial,rfl,rfl,rfl,rfl⟩ fun m e R H M=>?_;obtain⟨k,j,q,hk,rfl,n,a,f,rfl,rfl,rfl⟩:=M;refine aE ?_;refine aK rfl (fun h=>?_) (fun h=>?_)
 ·
  refine aE ?_
  have x:k < s.aH.length:=by omega
  obtain⟨e,u⟩:∃e,s.aH[k]? =some e:=⟨_,List.getElem?_eq_getElem x⟩
  obtain⟨b,off,r,rfl,O,N,X⟩:=hW.dev.row u;obtain⟨Ar,nr,kr,Af,J,Y,rfl,_,B,_,t⟩:=N
  have G:(dQ s)[k]? =some (e.jD):=by simp[dQ,u]
  refine aE ?_;refine cQ fun g3=>?_;refine jZ rfl aC ?_;refine sU rfl rfl ?_;simp only[gD,Value.cells,List.set,List.take,List.drop,List.nil_append,List.append_nil,List.length_cons,List.length_nil,List.cons_append,Nat.reduceAdd];refine aE ?_;refine kN [q] (aCO e.jD) (fun E st=>aEA Af J Y e.jD E (aM.le t (lK (st.started aD))) B (by have:=C e (List.mem_of_getElem? u);omega)) ?_;rintro _ E q' ⟨Z,U,rfl,A⟩ I c i;refine kd (dat (k) (k)) ?_;refine sQ 1 rfl aF rfl rfl rfl (by simp;omega) ?_;dsimp only[List.set];rw[aBN f aA];refine aE ?_;exact fA (n4 - (k+1)) ⟨k+1,j++[_],q',aA,rfl,i (by simpa using n),Uz a (c q aD) G ⟨Z,_,U,rfl,rfl,aM.le A I⟩,by simp[f],rfl,rfl,rfl⟩
 ·
  refine aE ?_;obtain rfl:k=n4:=by omega
  rw[Nat.sub_self,List.replicate_zero,List.append_nil];rw[List.take_of_length_le (by simp[dQ];omega)] at a;refine aE ?_;refine dK [q] [0] [] aD rfl aC aC fun q2 K c D=>?_
  have d:k=(dQ s).length:=by simp[dQ];omega
  exact aW (h:=fun E st=>⟨_,rfl,some ⟨p,0,none⟩,k,by rw[←d],by rw[←d];exact(aCS a (c q aD) (K 0 _ aD rfl) d).le (st.nL aD (D aD (by simpa using n)))⟩)
theorem aGm(s:aG)(A1 A2 A3 A4:Option Addr)(n1 k1 n2 k2 n3 k3 n4 k4:Nat)(w:World)(hW:iJ w s A1 n1 A2 n2 A3 n3 A4 n4):
  Cz 100 #[.agg #[.slice A1 n1 k1,.slice A2 n2 k2,.slice A3 n3 k3,.slice A4 n4 k4]] w (fun y w'=>(∃v,y=.returned v∧Ev (kG s) v w w')∧Below w.heap.size w w'):=by
 have hn:=hW.rX
 have p:=hW.small
 unfold aG.small at p;obtain⟨U,V,Z,L,X,Y⟩:=p;refine aT func100 ntmps100 ?_;refine aE ?_;refine bY fun G=>?_;refine aE ?_;refine mN 24 (el:=22) (z:=sn) aF aF rfl rfl rfl aA aA aC fun x=>?_;refine aE ?_;refine bT [(13,iv 0),(12,iv n2),(11,.slice A2 n2 k2),(3,.slice (some ⟨x,0,none⟩) n2 n2),(1,pt G)] ?_;refine dK [] [] [0,1] aD rfl aC aC fun q0 _ _ u=>?_;refine aE ?_;refine fG (fun m e R H=>∃(k:Nat) (l:List Value) (q:Piece),k≤n2∧m=n2 - k∧rO w q∧Rows (tU (fT q)) 1 ((kG s).take k) (l.map fun v=>[v])∧l.length=k∧e=[(13,iv k),(12,iv n2),(11,.slice A2 n2 k2),(3,.slice (some ⟨x,0,none⟩) n2 n2),(1,pt G)]∧R=[q,all w]∧H=[HP.aI x 22 (l++List.replicate (n2 - k) (sn)),HP.aI G 30 [.slice A1 n1 k1,.slice A2 n2 k2,.slice A3 n3 k3,.slice A4 n4 k4]]) n2 ⟨0,[],_,aA,rfl,u aD aD,trivial,rfl,rfl,rfl,rfl⟩ fun m e R H M=>?_;obtain⟨k,l,q,hk,rfl,i,a,f,rfl,rfl,rfl⟩:=M;refine aE ?_;refine aK rfl (fun h=>?_) (fun h=>?_)
 ·
  refine aE ?_
  have B:k < s.domains.length:=by omega
  obtain⟨e,I⟩:∃e,s.domains[k]? =some e:=⟨_,List.getElem?_eq_getElem B⟩
  obtain⟨b,off,r,rfl,T,O,N⟩:=hW.dom.row I;obtain rfl:=O
  have t:(kG s)[k]? =some (if e.above= -1 then[] else[e.above]):=by simp[kG,I]
  refine aE ?_;refine cQ fun g3=>?_;refine jZ rfl aC ?_;refine sU rfl rfl ?_;simp only[gD,Value.cells,List.set,List.take,List.drop,List.nil_append,List.append_nil,List.length_cons,List.length_nil,List.cons_append,Nat.reduceAdd];refine aE ?_;refine aK rfl (fun h=>?_) (fun h=>?_)
  ·
   refine aE ?_;refine eT fun g4=>?_;refine kd (dat (k) (k)) ?_;refine sQ 2 rfl aF rfl rfl rfl (by simp;omega) ?_;dsimp only[List.set];rw[aBN f aA];refine aE ?_;refine dK [q] [0] [2,3] aD rfl aC aC fun q' F j o=>?_;obtain⟨Fg,A,C⟩:=F 0 _ aD rfl
   have E:=rN (n:=1) (sz:=1) (c:=0) A C rfl
   exact fA (n2 - (k+1)) ⟨k+1,l++[_],q',aA,rfl,o aD (by simpa using i),Uz a (j q aD) t (by rw[if_neg h];exact⟨_,1,1,rfl,rfl,E⟩),by simp[f],rfl,rfl,rfl⟩
  ·
   refine aE ?_;rw[aOA (k:=k) aA];exact fA (n2 - (k+1)) ⟨k+1,l++[_],q,aA,rfl,i,Uz a (fun b J=>⟨J,rfl⟩) t (by rw[if_pos (Classical.not_not.1 h)];exact⟨_,0,0,rfl,rfl,aM.nil _ 1⟩),by simp[f],rfl,rfl,rfl⟩
 ·
  refine aE ?_;obtain rfl:k=n2:=by omega
  rw[Nat.sub_self,List.replicate_zero,List.append_nil];rw[List.take_of_length_le (by simp[kG];omega)] at a;refine aE ?_;refine dK [q] [0] [] aD rfl aC aC fun q2 K j D=>?_
  have d:k=(kG s).length:=by simp[kG];omega
  exact aW (h:=fun w1 st=>⟨_,rfl,some ⟨x,0,none⟩,k,by rw[←d],by rw[←d];exact(aCS a (j q aD) (K 0 _ aD rfl) d).le (st.nL aD (D aD (by simpa using i)))⟩)
variable{s:aG}
def Dr(s:aG):Int:=if(12:Int) < s.aJ.length∨(6:Int) < s.domains.length∨(6:Int) < s.bA.length∨(6:Int) < s.aH.length then 8 else kW (s.aH.map Ll)
def Xu(s:aG):List Int:=[Dr s,kW (s.aJ.map (Jd s.aJ.length)),By (kH s),kW (s.domains.map (Mq s.domains.length)),By (kG s),kW (s.bA.map Vb),
 kW (s.aH.map (Mu s.aJ.length s.domains.length s.bA.length s.aH.length)),By (dQ s)]
def Se(s:aG):Int:=kW (Xu s)
theorem kJ.rows{α:Type}{w:World}{R:α→List Value→Prop}{t:TypeId}{sz n:Nat}{A:Option Addr}{es:List α}(h:kJ (fT (all w)) R t sz A n es)(l:∀e r,R e r→∀u∈r,u.oneCell'=true):
  ∃rows:List (List Value),aM (all w) sz A n rows.flatten∧(∀r∈rows,r.length=sz)∧(∀r∈rows,∀u∈r,u.oneCell'=true)∧rows.length=n∧n=es.length∧∀(i:Nat) (r:List Value),rows[i]? =some r→∃e,es[i]? =some e∧R e r:=by
 obtain⟨rows,a,d,k⟩:=h;refine⟨rows,k,a.Eg,fun r c=>?_,by rw[a.len.1,d],d,fun i r c=>?_⟩
 ·obtain⟨i,f⟩:=List.getElem?_of_mem c;obtain⟨e,_,_,b⟩:=a.at_ f;exact l e r b
 ·obtain⟨e,j,_,b⟩:=a.at_ c;exact⟨e,j,b⟩
theorem rQ.one{S:tS}(e:eN)(r:List Value)(h:rQ S e r):∀u∈r,u.oneCell'=true:=by obtain⟨A,n,k,rfl,_⟩:=h;simp[Value.oneCell']
theorem tX.one(e:Dom)(r:List Value)(h:tX e r):∀u∈r,u.oneCell'=true:=by cases h;simp[Value.oneCell']
theorem wY.one(e:Int)(r:List Value)(h:wY e r):∀u∈r,u.oneCell'=true:=by cases h;simp[Value.oneCell']
theorem qO.one{S:tS}(e:cH)(r:List Value)(h:qO S e r):∀u∈r,u.oneCell'=true:=by obtain⟨A,n,k,b,a,c,rfl,_⟩:=h;simp[Value.oneCell']
theorem aOj(s : aG)(A1 A2 A3 A4 : Option Addr)(n1 k1 n2 k2 n3 k3 n4 k4 : Nat)(w : World)(hW : iJ w s A1 n1 A2 n2 A3 n3 A4 n4) :
    Cz 87 #[.agg #[.slice A1 n1 k1,.slice A2 n2 k2,.slice A3 n3 k3,.slice A4 n4 k4]] w (Rt (iv (Dr s)) w):=by
  have Ga:=hW.rY
  have hn2:=hW.rX
  have Qp:=hW.uI
  have Wt:=hW.tH
  have Iq:=hW.small
  unfold aG.small at Iq;obtain⟨hs1,Ir,hs3,hs4,hs5,hs6⟩:=Iq;obtain⟨rows,Fz,hr2,hr3,hr4,hr5,hr6⟩:=hW.dev.rows qO.one;refine aT func87 ntmps87 ?_;refine aE ?_;refine bY fun g1=>?_;refine aE ?_;refine cN (t:=7) rfl (fun hg=>?_) (fun hg=>?_)
  ·
    refine aE ?_;exact aW (h:=fun _ _=>by rw[Dr,if_pos aA])
  ·
    refine aE ?_;refine cN (t:=13) rfl (fun hg=>?_) (fun hg=>?_)
    ·
      refine aE ?_;exact aW (h:=fun _ _=>by rw[Dr,if_pos aA])
    ·
      refine aE ?_;refine cN (t:=19) rfl (fun hg=>?_) (fun hg=>?_)
      ·
        refine aE ?_;exact aW (h:=fun _ _=>by rw[Dr,if_pos aA])
      ·
        refine aE ?_;refine aK rfl (fun h=>?_) (fun h=>?_)
        ·
          refine aE ?_;exact aW (h:=fun _ _=>by rw[Dr,if_pos aA])
        ·
          refine aE ?_
          refine dJ (fun w1 st=>aGj A4 n4 k4 150 [] rows (s.aH.map Ll) w1 (Fz.le (lK (st.started aD))) hr2 hr3 hr4 (by simp;omega) aA aF (fun i r x hr hx w2 hb2=>by
    have hbb:=(st.started aD).trans (hb2.mono st.size)
    obtain⟨e,he,hR⟩:=hr6 i r hr;rw[List.getElem?_map,he] at hx;cases hx;obtain⟨Ar,nr,kr,Af,nf,kf,rfl,hnr,hnf,_,hsf⟩:=hR
    exact aOk e.aX e.jD _ _ _ _ _ _ _ _ _ _ w2 hnr hnf)) ?_
          refine aE ?_;exact aW (h:=fun _ _=>by rw[Dr,if_neg aA])
theorem check_1(s:aG)(A1 A2 A3 A4:Option Addr)(n1 k1 n2 k2 n3 k3 n4 k4:Nat)(w:World)(hW:iJ w s A1 n1 A2 n2 A3 n3 A4 n4)(b:Nat)(hs:eA w b 0 [.slice A1 n1 k1,.slice A2 n2 k2,.slice A3 n3 k3,.slice A4 n4 k4]):
  Cz 86 #[pt b] w (Rt (iv (Dr s)) w):=by
 have o:=hW.rY
 have k:=hW.rX
 have c:=hW.uI
 have d:=hW.tH
 have a:=hW.small
 unfold aG.small at a;obtain⟨l,n,m,e,f,i⟩:=a;refine aT func86 ntmps86 ?_;refine aE ?_;refine dJ (fun j st=>aOj s A1 A2 A3 A4 n1 k1 n2 k2 n3 k3 n4 k4 j (hW.le (st.started aD))) ?_;refine aE ?_;exact aW (h:=fun _ _=>rfl)
theorem aQB(kind a d c b:Int)(A:Option Addr)(n k:Nat)(A1 A2 A3 A4:Option Addr)(n1 k1 n2 k2 n3 k3 n4 k4:Nat)(f:Nat)(w:World)(hs:eA w f 0 [.slice A1 n1 k1,.slice A2 n2 k2,.slice A3 n3 k3,.slice A4 n4 k4])(e:(n1:Int)≤9223372036854775806)(zs:List Int)(m:aM (all w) 1 A n (aR zs))(i:n=zs.length)(j:(n:Int)≤9223372036854775806):
  Cz 90 #[.agg #[.int .u8 kind,.slice A n k,.int .u64 a,iv d,iv c,iv b],pt f] w (Rt (iv (Jd n1 ⟨kind,zs,a,d,c,b⟩)) w):=by
 refine aT func90 ntmps90 ?_;refine aE ?_;refine bY fun o=>?_;refine aE ?_;refine dJ (fun l st=>aQj kind a d c b A n k A1 A2 A3 A4 n1 k1 n2 k2 n3 k3 n4 k4 l e zs (m.le (lK (st.started aD))) i j) ?_;refine aE ?_;exact aW (h:=fun _ _=>rfl)
theorem aQ8(b a:Int)(ret:Bool)(A1 A2 A3 A4:Option Addr)(n1 k1 n2 k2 n3 k3 n4 k4:Nat)(d:Nat)(w:World)(hs:eA w d 0 [.slice A1 n1 k1,.slice A2 n2 k2,.slice A3 n3 k3,.slice A4 n4 k4])(c:(n2:Int)≤9223372036854775806):
  Cz 97 #[.agg #[iv b,iv a,.bool ret],pt d] w (Rt (iv (Mq n2 ⟨b,a,ret⟩)) w):=by
 refine aT func97 ntmps97 ?_;refine aE ?_;refine bY fun f=>?_;refine aE ?_;refine dJ (fun e st=>aPr b a ret A1 A2 A3 A4 n1 k1 n2 k2 n3 k3 n4 k4 e c) ?_;refine aE ?_;exact aW (h:=fun _ _=>rfl)
theorem aQ4(p:List Rg)(d a c b:Int)(A B:Option Addr)(n k l o:Nat)(A1 A2 A3 A4:Option Addr)(n1 k1 n2 k2 n3 k3 n4 k4:Nat)(m:Nat)(w:World)(hs:eA w m 0 [.slice A1 n1 k1,.slice A2 n2 k2,.slice A3 n3 k3,.slice A4 n4 k4])(i:(n1:Int)≤9223372036854775806)(j:(n2:Int)≤9223372036854775806)(e:(n3:Int)≤9223372036854775806)(f:(n4:Int)≤9223372036854775806)(zs:List Int)(t:aM (all w) 1 A n (aR zs))(u:n=zs.length)(r:(n:Int)≤9223372036854775806):
  Cz 106 #[.agg #[iv d,iv a,iv c,.int .u32 b,.slice B l o,.slice A n k],pt m] w (Rt (iv (Mu n1 n2 n3 n4 ⟨d,a,c,b,p,zs⟩)) w):=by
 refine aT func106 ntmps106 ?_;refine aE ?_;refine bY fun y=>?_;refine aE ?_;refine dJ (fun x st=>aPE p d a c b A B n k l o A1 A2 A3 A4 n1 k1 n2 k2 n3 k3 n4 k4 x i j e f zs (t.le (lK (st.started aD))) u r) ?_;refine aE ?_;exact aW (h:=fun _ _=>rfl)
theorem aQC(s:aG)(A1 A2 A3 A4:Option Addr)(n1 k1 n2 k2 n3 k3 n4 k4:Nat)(w:World)(hW:iJ w s A1 n1 A2 n2 A3 n3 A4 n4)(a:Nat)(hs:eA w a 0 [.slice A1 n1 k1,.slice A2 n2 k2,.slice A3 n3 k3,.slice A4 n4 k4]):
  Cz 88 #[pt a] w (Rt (iv (kW (s.aJ.map (Jd s.aJ.length)))) w):=by
 have t:=hW.rY
 have E:=hW.rX
 have z:=hW.uI
 have H:=hW.tH
 have b:=hW.small
 unfold aG.small at b;obtain⟨D,F,L,B,m,J⟩:=b;obtain⟨rows,f,o,p,k,I,j⟩:=hW.iA.rows rQ.one;rw[←t];refine aT func88 ntmps88 ?_;refine aB ?_;refine kK (vf:=[]) (vc:=[pt a]) rfl rfl aC ?_
 refine dJ (fun K st=>aPb A1 n1 k1 90 [pt a] rows (s.aJ.map (Jd n1)) K (f.le (lK (st.started aD))) o p k (by simp;omega) aA aF (fun i r x G y A l=>by
  have c:=(st.started aD).trans (l.mono st.size)
  obtain⟨e,u,C⟩:=j i r G;rw[List.getElem?_map,u] at y;cases y;obtain⟨O,M,N,rfl,n,d⟩:=C
  exact aQB _ _ _ _ _ _ _ _ A1 A2 A3 A4 n1 k1 n2 k2 n3 k3 n4 k4 a A (hs.below c) aA e.src (aM.le d (lK c)) n (by have:=m e (List.mem_of_getElem? u);omega))) ?_
 refine aB ?_;exact aW (h:=fun _ _=>rfl)
theorem aQ9(s:aG)(A1 A2 A3 A4:Option Addr)(n1 k1 n2 k2 n3 k3 n4 k4:Nat)(w:World)(hW:iJ w s A1 n1 A2 n2 A3 n3 A4 n4)(a:Nat)(hs:eA w a 0 [.slice A1 n1 k1,.slice A2 n2 k2,.slice A3 n3 k3,.slice A4 n4 k4]):
  Cz 95 #[pt a] w (Rt (iv (kW (s.domains.map (Mq s.domains.length)))) w):=by
 have J:=hW.rY
 have d:=hW.rX
 have p:=hW.uI
 have D:=hW.tH
 have b:=hW.small
 unfold aG.small at b;obtain⟨A,B,I,u,E,G⟩:=b;obtain⟨rows,c,l,m,j,F,f⟩:=hW.dom.rows tX.one;rw[←d];refine aT func95 ntmps95 ?_;refine aB ?_;refine kK (vf:=[]) (vc:=[pt a]) rfl rfl aC ?_
 refine dJ (fun H st=>aPa A2 n2 k2 97 [pt a] rows (s.domains.map (Mq n2)) H (c.le (lK (st.started aD))) l m j (by simp;omega) aA aF (fun i r x C o t k=>by
  have n:=(st.started aD).trans (k.mono st.size)
  obtain⟨e,y,z⟩:=f i r C;rw[List.getElem?_map,y] at o;cases o;obtain rfl:=z
  exact aQ8 _ _ _ A1 A2 A3 A4 n1 k1 n2 k2 n3 k3 n4 k4 a t (hs.below n) aA)) ?_
 refine aB ?_;exact aW (h:=fun _ _=>rfl)
theorem aQ6(s:aG)(A1 A2 A3 A4:Option Addr)(n1 k1 n2 k2 n3 k3 n4 k4:Nat)(w:World)(hW:iJ w s A1 n1 A2 n2 A3 n3 A4 n4)(l:Nat)(hs:eA w l 0 [.slice A1 n1 k1,.slice A2 n2 k2,.slice A3 n3 k3,.slice A4 n4 k4]):
  Cz 101 #[pt l] w (Rt (iv (kW (s.bA.map Vb))) w):=by
 have J:=hW.rY
 have z:=hW.rX
 have n:=hW.uI
 have C:=hW.tH
 have a:=hW.small
 unfold aG.small at a;obtain⟨y,A,H,p,D,F⟩:=a;obtain⟨rows,b,j,k,d,E,c⟩:=hW.zC.rows wY.one;refine aT func101 ntmps101 ?_;refine aE ?_
 refine dJ (fun G st=>aOZ A3 n3 k3 103 [] rows (s.bA.map Vb) G (b.le (lK (st.started aD))) j k d (by simp;omega) aA aF (fun i r x B m o f=>by
  have I:=(st.started aD).trans (f.mono st.size)
  obtain⟨e,t,u⟩:=c i r B;rw[List.getElem?_map,t] at m;cases m;obtain rfl:=u
  exact aKP _ o)) ?_
 refine aE ?_;exact aW (h:=fun _ _=>rfl)
theorem aQ5(s:aG)(A1 A2 A3 A4:Option Addr)(n1 k1 n2 k2 n3 k3 n4 k4:Nat)(w:World)(hW:iJ w s A1 n1 A2 n2 A3 n3 A4 n4)(a:Nat)(hs:eA w a 0 [.slice A1 n1 k1,.slice A2 n2 k2,.slice A3 n3 k3,.slice A4 n4 k4]):
  Cz 104 #[pt a] w (Rt (iv (kW (s.aH.map (Mu s.aJ.length s.domains.length s.bA.length s.aH.length)))) w):=by
 have z:=hW.rY
 have k:=hW.rX
 have f:=hW.uI
 have o:=hW.tH
 have b:=hW.small
 unfold aG.small at b;obtain⟨F,G,M,D,J,t⟩:=b;obtain⟨rows,j,u,y,m,K,l⟩:=hW.dev.rows qO.one;rw[←z,←k,←f,←o];refine aT func104 ntmps104 ?_;refine aB ?_;refine kK (vf:=[]) (vc:=[pt a]) rfl rfl aC ?_
 refine dJ (fun L st=>aGj A4 n4 k4 106 [pt a] rows (s.aH.map (Mu n1 n2 n3 n4)) L (j.le (lK (st.started aD))) u y m (by simp;omega) aA aF (fun i r x H B C n=>by
  have c:=(st.started aD).trans (n.mono st.size)
  obtain⟨e,A,E⟩:=l i r H;rw[List.getElem?_map,A] at B;cases B;obtain⟨O,U,R,V,N,T,rfl,I,p,_,d⟩:=E
  exact aQ4 e.aX _ _ _ _ _ _ _ _ _ _ A1 A2 A3 A4 n1 k1 n2 k2 n3 k3 n4 k4 a C (hs.below c) aA aA aA aA e.jD (aM.le d (lK c)) p (by have:=t e (List.mem_of_getElem? A);omega))) ?_
 refine aB ?_;exact aW (h:=fun _ _=>rfl)
theorem aQA(s:aG)(A1 A2 A3 A4:Option Addr)(n1 k1 n2 k2 n3 k3 n4 k4:Nat)(w:World)(hW:iJ w s A1 n1 A2 n2 A3 n3 A4 n4)(j:Nat)(hs:eA w j 0 [.slice A1 n1 k1,.slice A2 n2 k2,.slice A3 n3 k3,.slice A4 n4 k4]):
  Cz 92 #[pt j] w (Rt (iv (By (kH s))) w):=by
 have D:=hW.rY
 have t:=hW.rX
 have n:=hW.uI
 have z:=hW.tH
 have a:=hW.small
 unfold aG.small at a;obtain⟨r,y,C,p,d,A⟩:=a;refine aT func92 ntmps92 ?_;refine aE ?_;refine kN [] (Ev (kH s)) (fun b st=>aG9 s A1 A2 A3 A4 n1 k1 n2 k2 n3 k3 n4 k4 b (hW.le (st.started aD))) ?_;rintro _ b q ⟨o,u,rfl,f⟩ e _ i
 have c:=f.le e
 have m:(kH s).length=n1:=by simp[kH];omega
 refine dJ (fun b st=>aCe o _ u (kH s) b (c.le (st.le aD)) rfl aA (fun l k=>by
  simp only[kH,List.mem_map] at k;obtain⟨x,B,rfl⟩:=k
  have:=d x B;omega)) ?_
 refine aE ?_;exact aW (h:=fun _ _=>rfl)
theorem aQ7(s:aG)(A1 A2 A3 A4:Option Addr)(n1 k1 n2 k2 n3 k3 n4 k4:Nat)(w:World)(hW:iJ w s A1 n1 A2 n2 A3 n3 A4 n4)(i:Nat)(hs:eA w i 0 [.slice A1 n1 k1,.slice A2 n2 k2,.slice A3 n3 k3,.slice A4 n4 k4]):
  Cz 99 #[pt i] w (Rt (iv (By (kG s))) w):=by
 have C:=hW.rY
 have r:=hW.rX
 have m:=hW.uI
 have y:=hW.tH
 have a:=hW.small
 unfold aG.small at a;obtain⟨p,u,B,o,z,A⟩:=a;refine aT func99 ntmps99 ?_;refine aE ?_;refine kN [] (Ev (kG s)) (fun b st=>aGm s A1 A2 A3 A4 n1 k1 n2 k2 n3 k3 n4 k4 b (hW.le (st.started aD))) ?_;rintro _ b q ⟨n,t,rfl,e⟩ d _ f
 have c:=e.le d
 have k:(kG s).length=n2:=by simp[kG];omega
 refine dJ (fun b st=>aCe n _ t (kG s) b (c.le (st.le aD)) rfl aA (fun l j=>by
  simp only[kG,List.mem_map] at j;obtain⟨x,D,rfl⟩:=j
  split<;>simp)) ?_
 refine aE ?_;exact aW (h:=fun _ _=>rfl)
theorem aQ3(s:aG)(A1 A2 A3 A4:Option Addr)(n1 k1 n2 k2 n3 k3 n4 k4:Nat)(w:World)(hW:iJ w s A1 n1 A2 n2 A3 n3 A4 n4)(j:Nat)(hs:eA w j 0 [.slice A1 n1 k1,.slice A2 n2 k2,.slice A3 n3 k3,.slice A4 n4 k4]):
  Cz 108 #[pt j] w (Rt (iv (By (dQ s))) w):=by
 have D:=hW.rY
 have t:=hW.rX
 have n:=hW.uI
 have z:=hW.tH
 have a:=hW.small
 unfold aG.small at a;obtain⟨r,y,C,p,A,d⟩:=a;refine aT func108 ntmps108 ?_;refine aE ?_;refine kN [] (Ev (dQ s)) (fun b st=>aEN s A1 A2 A3 A4 n1 k1 n2 k2 n3 k3 n4 k4 b (hW.le (st.started aD))) ?_;rintro _ b q ⟨o,u,rfl,f⟩ e _ i
 have c:=f.le e
 have m:(dQ s).length=n4:=by simp[dQ];omega
 refine dJ (fun b st=>aCe o _ u (dQ s) b (c.le (st.le aD)) rfl aA (fun l k=>by
  simp only[dQ,List.mem_map] at k;obtain⟨x,B,rfl⟩:=k
  have:=d x B;omega)) ?_
 refine aE ?_;exact aW (h:=fun _ _=>rfl)
theorem Xt(s:aG)(A1 A2 A3 A4:Option Addr)(n1 k1 n2 k2 n3 k3 n4 k4:Nat)(w:World)(hW:iJ w s A1 n1 A2 n2 A3 n3 A4 n4):
  Cz 54 #[.agg #[.slice A1 n1 k1,.slice A2 n2 k2,.slice A3 n3 k3,.slice A4 n4 k4]] w (Rt (iv (Se s)) w):=by
 refine aT func54 ntmps54 ?_;refine aB ?_;refine bY fun a=>?_;refine aB ?_;refine kK (vf:=[]) (vc:=[pt a]) rfl rfl aC ?_;refine kK (vf:=[]) (vc:=[pt a]) rfl rfl aC ?_;refine kK (vf:=[]) (vc:=[pt a]) rfl rfl aC ?_;refine kK (vf:=[]) (vc:=[pt a]) rfl rfl aC ?_;refine kK (vf:=[]) (vc:=[pt a]) rfl rfl aC ?_;refine kK (vf:=[]) (vc:=[pt a]) rfl rfl aC ?_;refine kK (vf:=[]) (vc:=[pt a]) rfl rfl aC ?_;refine kK (vf:=[]) (vc:=[pt a]) rfl rfl aC ?_;refine eT fun l=>?_
 refine dJ (fun k st=>Xh _ _ _ [(86,[pt a]),(88,[pt a]),(92,[pt a]),(95,[pt a]),(99,[pt a]),(101,[pt a]),(104,[pt a]),(108,[pt a])] (Xu s) k (st.vA (i:=0) (n:=8) (sz:=1) (cs:=[.func (.func 86) #[] #[pt a],.func (.func 88) #[] #[pt a],.func (.func 92) #[] #[pt a],.func (.func 95) #[] #[pt a],.func (.func 99) #[] #[pt a],.func (.func 101) #[] #[pt a],.func (.func 104) #[] #[pt a],.func (.func 108) #[] #[pt a]]) rfl rfl) rfl rfl aC (by simp only[List.mem_cons,List.not_mem_nil,or_false];rintro f (rfl | rfl | rfl | rfl | rfl | rfl | rfl | rfl)<;>kernel_rfl) (fun i f x c d j b=>by
  have e:=(st.started aD).trans (b.mono st.size)
  unfold Xu at d
  match i,c,d with
  | 0,c,d=>cases c;cases d;exact check_1 s A1 A2 A3 A4 n1 k1 n2 k2 n3 k3 n4 k4 j (hW.le e) a (st.box (cs:=[.slice A1 n1 k1,.slice A2 n2 k2,.slice A3 n3 k3,.slice A4 n4 k4]) (i:=1) rfl|>.below b)
  | 1,c,d=>cases c;cases d;exact aQC s A1 A2 A3 A4 n1 k1 n2 k2 n3 k3 n4 k4 j (hW.le e) a (st.box (cs:=[.slice A1 n1 k1,.slice A2 n2 k2,.slice A3 n3 k3,.slice A4 n4 k4]) (i:=1) rfl|>.below b)
  | 2,c,d=>cases c;cases d;exact aQA s A1 A2 A3 A4 n1 k1 n2 k2 n3 k3 n4 k4 j (hW.le e) a (st.box (cs:=[.slice A1 n1 k1,.slice A2 n2 k2,.slice A3 n3 k3,.slice A4 n4 k4]) (i:=1) rfl|>.below b)
  | 3,c,d=>cases c;cases d;exact aQ9 s A1 A2 A3 A4 n1 k1 n2 k2 n3 k3 n4 k4 j (hW.le e) a (st.box (cs:=[.slice A1 n1 k1,.slice A2 n2 k2,.slice A3 n3 k3,.slice A4 n4 k4]) (i:=1) rfl|>.below b)
  | 4,c,d=>cases c;cases d;exact aQ7 s A1 A2 A3 A4 n1 k1 n2 k2 n3 k3 n4 k4 j (hW.le e) a (st.box (cs:=[.slice A1 n1 k1,.slice A2 n2 k2,.slice A3 n3 k3,.slice A4 n4 k4]) (i:=1) rfl|>.below b)
  | 5,c,d=>cases c;cases d;exact aQ6 s A1 A2 A3 A4 n1 k1 n2 k2 n3 k3 n4 k4 j (hW.le e) a (st.box (cs:=[.slice A1 n1 k1,.slice A2 n2 k2,.slice A3 n3 k3,.slice A4 n4 k4]) (i:=1) rfl|>.below b)
  | 6,c,d=>cases c;cases d;exact aQ5 s A1 A2 A3 A4 n1 k1 n2 k2 n3 k3 n4 k4 j (hW.le e) a (st.box (cs:=[.slice A1 n1 k1,.slice A2 n2 k2,.slice A3 n3 k3,.slice A4 n4 k4]) (i:=1) rfl|>.below b)
  | 7,c,d=>cases c;cases d;exact aQ3 s A1 A2 A3 A4 n1 k1 n2 k2 n3 k3 n4 k4 j (hW.le e) a (st.box (cs:=[.slice A1 n1 k1,.slice A2 n2 k2,.slice A3 n3 k3,.slice A4 n4 k4]) (i:=1) rfl|>.below b)
  | i+8,c,_=>simp at c)) ?_
 refine aB ?_;exact aW (h:=fun _ _=>rfl)
section
attribute [local irreducible] KC KI KQ
def bM(l:List Bool):List Value:=l.map .bool
theorem aGN{l:List Bool}{i:Nat}{b:Bool}(h:l[i]? =some b):(bM l)[i]? =some (.bool b):=by simp[bM,h]
def hasB(l:List Bool)(i:Nat):Bool:=l[i]?.getD false
def RP(p:Piece)(g o:Nat)(v:Value):Prop:=p.Z g∧p.w.cell? ⟨g,o,none⟩=some v
theorem RP.le{p q:Piece}{g o:Nat}{v:Value}(h:RP p g o v)(hl:p.Le q):RP q g o v:=⟨(hl g h.1).1,(World.cell?_of_block (w:=p.w) (a:=⟨g,o,none⟩) (hl g h.1).2).trans h.2⟩
theorem RP.rd{w0:World}{R:List Piece}{H:List HP}{p:Piece}{g o:Nat}{v:Value}(h:RP p g o v)(hp:p∈R):Rd w0 R H g o v:=Rd.ro hp h.1 h.2
theorem Iter.le{P:Program}{g:FuncId}{lb:List Value}{encs:List (List Value)}{p q:Piece}(h:Iter P g lb encs p)(hl:p.Le q):Iter P g lb encs q:=fun l J d W F c hd=>h l J d W F (fun b a=>⟨(c b (hl b a).1).1,((c b (hl b a).1).2).trans (hl b a).2⟩) (fun b a=>hd b (hl b a).1)
theorem aO9{α:Type}{l:List α}{s:α→Bool}{k:Nat}{x:α}(hx:l[k]? =some x)(hs:s x=true):(l.filter s)[((l.take k).filter s).length]? =some x∧((l.take (k+1)).filter s).length=((l.take k).filter s).length+1:=by
 have d:l.take (k+1)=l.take k++[x]:=by rw[List.take_add_one,hx];rfl
 have e:l=l.take k++x::l.drop (k+1):=by
  have a:=(List.getElem?_eq_some_iff.1 hx).1
  have c:=(List.getElem?_eq_some_iff.1 hx).2
  rw[←c,List.getElem_cons_drop a,List.take_append_drop]
 refine⟨?_,by rw[d,List.filter_append];simp[hs]⟩
 have b:l.filter s=(l.take k).filter s++(x::l.drop (k+1)).filter s:=by rw[←List.filter_append,←e]
 rw[b,List.getElem?_append_right (Nat.le_refl _),Nat.sub_self,List.filter_cons_of_pos hs];rfl
theorem aFV{α:Type}{l:List α}{s:α→Bool}{k:Nat}{x:α}(hx:l[k]? =some x)(hs:s x=false):((l.take (k+1)).filter s).length=((l.take k).filter s).length:=by
 rw[List.take_add_one,hx,Option.toList_some,List.filter_append];simp[hs]
def qT(fr b:List Bool)(i:Nat):Bool:=hasB b i&& !hasB fr i
def eK(order:List Nat)(fr a:List Bool):List Nat:=order.filter (qT fr a)
def vJ(a:List Nat):List (List Value):=a.map fun(i:Nat)=>[iv (i:Int)]
theorem aB8(A:Option Addr)(n c i:Nat)(bs:List Bool)(w:World)(hs:aM (all w) 1 A n (bM bs))(l:n=bs.length)(hi:(i:Int)≤9223372036854775807):
  Cz 118 #[.slice A n c,iv i] w (Rt (.bool (hasB bs i)) w):=by
 refine aT func118 ntmps118 ?_;refine aE ?_;refine cN (t:=9) rfl (fun f=>?_) (fun f=>?_)
 ·
  refine aE ?_
  have a:i < bs.length:=by omega
  obtain⟨b,off,rfl,e,j⟩:=hs.2 aA;obtain⟨v,d⟩:∃v,bs[i]? =some v:=⟨_,List.getElem?_eq_getElem a⟩
  have k:gG w b (off+i) (.bool v):=⟨e,j i _ (aGN d)⟩
  refine aE ?_;exact aW (h:=fun _ _=>by rw[hasB,d];rfl)
 ·
  refine aE ?_;exact aW (h:=fun _ _=>by rw[hasB,List.getElem?_eq_none aA];rfl)
theorem aMv(p:Piece)(T j f n w I c ct cf:Nat)(A X V:Option Addr)(order:List Nat)(fr d:List Bool)(o:RP p T 0 (.slice A n c))(u:RP p j 0 (.slice X w ct))(h3:RP p f 0 (.slice V I cf))
  (hs:aM p 1 A n (aR (dR order))) (hn:n=order.length) (hn2:(n:Int)≤9223372036854775806) (G:aM p 1 X w (bM d)) (M:w=d.length) (D:aM p 1 V I (bM fr)) (O:I=fr.length) (B:∀i∈order,(i:Int)≤9223372036854775807):
  Iter Tryz.prog 272 [pt T,pt j,pt f] (vJ (eK order fr d)) p:=by
 unfold Iter;intro l J Jx W F hp hd hJ U hY;refine Ze (vs:=[.func (.yield l) #[] #[],pt T,pt j,pt f]) func272 rfl ntmps272 aD (aCJ hp hd hJ U) ?_;dsimp only[List.cons_append,List.nil_append];refine kC ?_;refine kQ aF ?_;refine lN aF rfl (o.rd aD) aC ?_;refine Hi (el:=3) aF rfl aC ?_;refine dW rfl aC ?_;refine kR ?_;refine eL ?_;refine bT [(9,iv 0),(8,iv n),(7,.slice A n c),(3,pt f),(2,pt j),(0,.func (.yield l) #[] #[])] ?_;refine yM ?_;refine aC8 (fun m L e R H=>∃k:Nat,k≤n∧m=n - k∧L=[]∧e=[(9,iv k),(8,iv n),(7,.slice A n c),(3,pt f),(2,pt j),(0,.func (.yield l) #[] #[])]∧R=[p,nt W F]∧H=[J (((order.take k).filter (qT fr d)).length),sO []]) n ⟨0,aA,rfl,rfl,rfl,rfl,rfl⟩ fun m L e R H hI=>?_;obtain⟨k,hk,rfl,rfl,rfl,rfl,rfl⟩:=hI;refine kC ?_;refine kQ aF ?_;refine Tu rfl rfl aC ?_;refine kR ?_;refine eL ?_;refine kC ?_;refine Zd rfl (fun h=>?_) (fun h=>?_)
 ·
  refine En ?_;refine eL ?_;refine kC ?_;refine yM ?_;refine kC ?_
  have K:k < order.length:=by omega
  obtain⟨b,off,rfl,Y,hc⟩:=hs.2 aA;obtain⟨i,x⟩:∃i,order[k]? =some i:=⟨_,List.getElem?_eq_getElem K⟩
  have Z:=B i (List.mem_of_getElem? x)
  refine kQ aF ?_;refine kd (dat (k) (off+k)) ?_;refine lN aF rfl (Rd.ro (p:=p) aD Y (hc k (iv (i:Int)) (by simp[aR,dR,x]))) aC ?_;refine jZ rfl aC ?_;refine kR ?_;refine eL ?_;refine kC ?_;refine aH3 ?_;refine iW aF ?_;refine lN aF rfl (u.rd aD) aC ?_;refine iX ?_;refine iW aF ?_;refine dW rfl aC ?_;refine iX ?_;refine iW aF ?_;refine dJ (fun z st=>aB8 _ _ _ i d z (G.le (st.le aD)) M aA) ?_;refine iX ?_;refine iW aF ?_;refine dW rfl aC ?_;refine iX ?_;refine qQ (t:=16) rfl (fun C=>?_) (fun C=>?_)
  ·
   refine iW aF ?_;refine jK rfl rfl ?_;refine lN aF rfl (h3.rd aD) aC ?_;refine iX ?_;refine iW aF ?_;refine jK rfl rfl ?_;refine dW rfl aC ?_;refine iX ?_;refine iW aF ?_;refine jK rfl rfl ?_;refine dJ (fun z st=>aB8 _ _ _ i fr z (D.le (st.le aD)) O aA) ?_;refine iX ?_;refine iW aF ?_;refine jK rfl rfl ?_;(first | refine aDj rfl aC ?_ | refine Cl rfl aC ?_);refine iX ?_;refine iW aF ?_;(first | refine sW rfl rfl aC ?_ | refine sX rfl rfl aC ?_);refine iX ?_;refine iW aF ?_;refine dW rfl aC ?_;refine iX ?_;refine qQ (t:=22) rfl (fun r=>?_) (fun r=>?_)
   ·
    refine iW aF ?_;refine jK rfl rfl ?_;refine dW rfl aC ?_;refine iX ?_;refine iW aF ?_;refine jK rfl rfl ?_;refine dW rfl aC ?_;refine iX ?_
    have a:qT fr d i=true:=by rw[qT,C,r];rfl
    obtain⟨y,N⟩:=aO9 x a;refine aSj rfl rfl ?_;refine aC6 0 rfl rfl aC (by simp:nt W F∈[p,nt W F]) (vV.refl W) rfl (fun W1 F1 o u h3=>hY _ [iv i] W1 F1 (by simp[vJ,eK,y]) o u h3) ?_ ?_
    rotate_left
    ·
     refine iW aF ?_;refine jK rfl rfl ?_;refine Cl rfl aC ?_;refine iX ?_;refine iW aF ?_;(first | refine sW rfl rfl aC ?_ | refine sX rfl rfl aC ?_);refine iX ?_;refine Gt ?_;refine eL ?_;refine Eo rfl (fun _=>?_) (fun h=>by cases h);refine Jk ?_;refine eL ?_;refine Nv (Hs:=[Jx (((order.take k).filter (qT fr d)).length+1)]) (.inl rfl) rfl fun z st=>?_;obtain⟨E,o,u⟩:=st.turns U (by simp[nt]) (i:=0) rfl;exact⟨⟨_,rfl⟩,E,u,.inr ⟨_,by simp[vJ,eK];exact(List.getElem?_eq_some_iff.1 y).1,o⟩⟩
    dsimp only[List.set];refine iW aF ?_;refine jK rfl rfl ?_;refine Cl rfl aC ?_;refine iX ?_;refine iW aF ?_;(first | refine sW rfl rfl aC ?_ | refine sX rfl rfl aC ?_);refine iX ?_;refine Gt ?_;refine eL ?_;refine Eo rfl (fun h=>by cases h) (fun _=>?_)
    ·skip
     refine En ?_;refine eL ?_;refine kQ aF ?_;refine Cm rfl rfl (iY aA) aC ?_;refine dW rfl aC ?_;refine kR ?_;refine eL ?_;exact bT [(9,iv (k+1)),(8,iv n),(7,.slice (some ⟨b,off,none⟩) n c),(3,pt f),(2,pt j),(0,.func (.yield l) #[] #[])] (Sz (n - (k+1)) aA ⟨k+1,aA,rfl,rfl,rfl,rfl,by rw[N]⟩)
   ·
    refine iW aF ?_;refine jY rfl rfl rfl aC ?_;refine iX ?_;refine iW aF ?_;refine jY rfl rfl rfl aC ?_;refine iX ?_;refine iW aF ?_;refine jY rfl rfl rfl aC ?_;refine iX ?_;refine iW aF ?_;refine jY rfl rfl rfl aC ?_;refine iX ?_;refine iW aF ?_;(first | refine sW rfl rfl aC ?_ | refine sX rfl rfl aC ?_);refine iX ?_;refine Gt ?_;refine eL ?_;refine Eo rfl (fun h=>by cases h) (fun _=>?_);refine En ?_;refine eL ?_;refine kQ aF ?_;refine Cm rfl rfl (iY aA) aC ?_;refine dW rfl aC ?_;refine kR ?_;refine eL ?_
    have a:qT fr d i=false:=by rw[qT,C];simpa using r
    exact bT [(9,iv (k+1)),(8,iv n),(7,.slice (some ⟨b,off,none⟩) n c),(3,pt f),(2,pt j),(0,.func (.yield l) #[] #[])] (Sz (n - (k+1)) aA ⟨k+1,aA,rfl,rfl,rfl,rfl,by rw[aFV x a]⟩)
  ·
   refine iW aF ?_;refine jY rfl rfl rfl aC ?_;refine iX ?_;refine iW aF ?_;refine jY rfl rfl rfl aC ?_;refine iX ?_;refine iW aF ?_;refine jY rfl rfl rfl aC ?_;refine iX ?_;refine iW aF ?_;refine jY rfl rfl rfl aC ?_;refine iX ?_;refine iW aF ?_;(first | refine sW rfl rfl aC ?_ | refine sX rfl rfl aC ?_);refine iX ?_;refine iW aF ?_;refine dW rfl aC ?_;refine iX ?_;refine iW aF ?_;refine jY rfl rfl rfl aC ?_;refine iX ?_;refine iW aF ?_;refine jY rfl rfl rfl aC ?_;refine iX ?_;refine iW aF ?_;refine jY rfl rfl rfl aC ?_;refine iX ?_;refine iW aF ?_;refine jY rfl rfl rfl aC ?_;refine iX ?_;refine iW aF ?_;(first | refine sW rfl rfl aC ?_ | refine sX rfl rfl aC ?_);refine iX ?_;refine Gt ?_;refine eL ?_;refine Eo rfl (fun h=>by cases h) (fun _=>?_);refine En ?_;refine eL ?_;refine kQ aF ?_;refine Cm rfl rfl (iY aA) aC ?_;refine dW rfl aC ?_;refine kR ?_;refine eL ?_
   have a:qT fr d i=false:=by rw[qT,C];rfl
   exact bT [(9,iv (k+1)),(8,iv n),(7,.slice (some ⟨b,off,none⟩) n c),(3,pt f),(2,pt j),(0,.func (.yield l) #[] #[])] (Sz (n - (k+1)) aA ⟨k+1,aA,rfl,rfl,rfl,rfl,by rw[aFV x a]⟩)
 ·
  refine aC9 ?_;refine eL ?_;refine Nv (Hs:=[J (((order.take k).filter (qT fr d)).length)]) (.inr rfl) rfl fun z st=>?_;obtain⟨E,o,u⟩:=st.turns U (by simp[nt]) (i:=0) rfl;rw[List.take_of_length_le aA] at o;exact⟨⟨_,rfl⟩,E,u,.inl (by simpa[vJ,eK] using o)⟩
end
section
attribute [local irreducible] KC KI KQ
def aHF(pr msg i v:Int):Value:=.agg #[iv pr,iv msg,.int .u32 i,.int .u32 v]
def wB(pr msg:Int)(val:Nat→Int)(a:List Nat):List (List Value):=a.map fun(i:Nat)=>[aHF pr msg i (val i)]
def Jl(p:Piece)(c:FuncId)(a:List Value)(d:List Nat)(val:Nat→Int):Prop:=∀i∈d,∀b,p.Le (all b)→Cz c (Value.int .i64 (i:Int)::a).toArray b (Rt (.int .u32 (val i)) b)
theorem Piece.Le.trans'{p q r:Piece}(h:p.Le q)(k:q.Le r):p.Le r:=fun b a=>⟨(k b (h b a).1).1,(k b (h b a).1).2.trans (h b a).2⟩
theorem Jl.le{p q:Piece}{b:FuncId}{a:List Value}{c:List Nat}{val:Nat→Int}(h:Jl p b a c val)(hl:p.Le q):Jl q b a c val:=fun i f e d=>h i f e (hl.trans' d)
theorem sM{q:Piece}{g o:Nat}{t:TypeId}{cs:List Value}{v:Value}(h:∃F,(HP.aI g t cs).sat F q.w∧∀b,F b→q.Z b)(d:cs[o]? =some v):RP q g o v:=by
 obtain⟨F,a,c⟩:=h;refine⟨c g a.1,?_⟩
 have:tZ q.w g t cs.toArray:=a.2
 rw[this.cell]
 simpa using d
theorem aR0(i v:Int)(g:Nat)(w:World)(h:gG w g 0 (.int .u32 v)):Cz 273 #[iv i,pt g] w (Rt (.int .u32 v) w):=by
 refine aT func273 ntmps273 ?_;refine aE ?_;exact aW (h:=fun _ _=>rfl)
def Ok(v:Int)(y:Value)(w w':World):Prop:=∃g,y=.func (.func 273) #[] #[pt g]∧∀q,(fresh w w').Le q→∀a,Jl q 273 [pt g] a fun _=>v
theorem Sj(v:Int)(w:World):Cz 268 #[.int .u32 v] w (fun y w'=>(∃x,y=.returned x∧Ok v x w w')∧Below w.heap.size w w'):=by
 refine aT func268 ntmps268 ?_;refine aB ?_;refine bY fun b=>?_;refine aB ?_;refine kK (vf:=[]) (vc:=[pt b]) rfl rfl aC ?_;refine aB ?_;refine dK [] [0] [] aD rfl aC aC fun q f _ d=>?_;refine nB rfl rfl fun k st=>⟨⟨_,rfl,b,rfl,fun l e h i j=>?_⟩,st.below aD⟩
 have a:=(sM (o:=0) (v:=.int .u32 v) (f 0 _ aD rfl) rfl).le ((st.nL aD (d aD aD)).trans' e)
 intro w' c
 have:=a.le c
 exact aR0 _ v b w' this
def Jw(p0:Piece)(a:List Nat)(y:Value)(w w':World):Prop:=∃b d c,y=.func (.func 272) #[] #[pt b,pt d,pt c]∧∀q,p0.Le q→(fresh w w').Le q→Iter Tryz.prog 272 [pt b,pt d,pt c] (vJ a) q
theorem Ld(p0:Piece)(n a f c ct D:Nat)(A p B:Option Addr)(order:List Nat)(fr h:List Bool)(w:World)
  (hs:aM p0 1 A n (aR (dR order))) (F:n=order.length) (t:(n:Int)≤9223372036854775806) (k:aM p0 1 p a (bM h)) (r:a=h.length) (j:aM p0 1 B f (bM fr)) (o:f=fr.length) (e:∀i∈order,(i:Int)≤9223372036854775807):
  Cz 267 #[.slice A n c,.slice B f D,.slice p a ct] w (fun y w'=>(∃x,y=.returned x∧Jw p0 (eK order fr h) x w w')∧Below w.heap.size w w'):=by
 refine aT func267 ntmps267 ?_;refine aB ?_;refine bY fun C=>?_;refine bY fun u=>?_;refine bY fun m=>?_;refine aB ?_;refine kK (vf:=[]) (vc:=[pt C,pt m,pt u]) rfl rfl aC ?_;refine aB ?_;refine dK [] [0,1,2] [] aD rfl aC aC fun q l _ z=>?_;refine nB rfl rfl fun H st=>⟨⟨_,rfl,C,m,u,rfl,fun E d G=>?_⟩,st.below aD⟩
 have b:=(st.nL aD (z aD aD)).trans' G
 exact aMv E C m u n a f c ct D A p B order fr h ((sM (l 2 _ aD rfl) rfl).le b) ((sM (l 0 _ aD rfl) rfl).le b) ((sM (l 1 _ aD rfl) rfl).le b) (hs.le d) F t (k.le d) r (j.le d) o e
theorem aJ9(p:Piece)(I u t r:Nat)(gf d:FuncId)(lb c:List Value)(pr msg:Int)(val:Nat→Int)(a:List Nat)(n:RP p I 0 (.func (.func gf) #[] lb.toArray))(o:RP p u 0 (iv pr))(h3:RP p t 0 (iv msg))(Z:RP p r 0 (.func (.func d) #[] c.toArray))
  (G:Iter Tryz.prog gf lb (vJ a) p) (C:fJ Tryz.prog gf=true) (B:fJ Tryz.prog d=true) (w:Jl p d c a val) (z:∀i∈a,i < 4294967296):
  Iter Tryz.prog 271 [pt I,pt u,pt t,pt r] (wB pr msg val a) p:=by
 unfold Iter;intro l J M W F Y hd hJ K R;refine Ze (vs:=[.func (.yield l) #[] #[],pt I,pt u,pt t,pt r]) func271 rfl ntmps271 aD (aCJ Y hd hJ K) ?_;dsimp only[List.cons_append,List.nil_append];refine kC ?_;refine kQ aF ?_;refine bY fun j=>?_;refine kR ?_;refine eL ?_;refine kC ?_;refine kQ aF ?_;refine lN aF rfl (n.rd aD) aC ?_;refine kR ?_;refine eL ?_;refine bT [(7,.func (.func gf) #[] lb.toArray),(5,pt j),(4,pt r),(3,pt t),(2,pt u)] ?_;refine yM ?_
 refine aC7 (gf:=gf) (lb:=lb) (encs:=vJ a) (p:=p) rfl C G aD (fun m b=>?_) aC (fun k=>[HP.aI j 369 [.func (.yield l) #[] #[]],J k]) (fun k=>[HP.aI j 369 [.func (.yield l) #[] #[]],M k])
  (fun k m O H1=>O=[(6,m.headD (.tuple #[])),(5,pt j),(4,pt r),(3,pt t),(2,pt u)]∧H1=[HP.aI j 369 [.func (.yield l) #[] #[]],J k]) rfl ?_ ?_ ?_ ?_
 ·simp only[vJ,List.mem_map] at b;obtain⟨i,_,rfl⟩:=b;rfl
 ·
  intro T k m V q X b x
  obtain⟨i,E,rfl⟩:∃i,a[k]? =some i∧m=[iv (i:Int)]:=by
   simp only[vJ,List.getElem?_map,Option.map_eq_some_iff] at b;obtain⟨i,h,e⟩:=b;exact⟨i,h,e.symm⟩
  refine kQ aF ?_;refine jZ rfl aC ?_;refine kR ?_;refine bT [(6,iv (i:Int)),(5,pt j),(4,pt r),(3,pt t),(2,pt u)] ?_;exact aCB ⟨rfl,rfl⟩
 ·
  rintro T k m V q X _ _ b x ⟨rfl,rfl⟩
  obtain⟨i,y,rfl⟩:∃i,a[k]? =some i∧m=[iv (i:Int)]:=by
   simp only[vJ,List.getElem?_map,Option.map_eq_some_iff] at b;obtain⟨i,h,e⟩:=b;exact⟨i,h,e.symm⟩
  have E:=List.mem_of_getElem? y
  have N:=z i E
  dsimp only[List.cons_append,List.nil_append,List.headD_cons];refine yM ?_;refine kC ?_;refine aSr 9 aF aF ?_;simp only[List.take_succ_cons,List.take_zero,List.drop_succ_cons,List.drop_zero];refine gO 0 rfl rfl rfl (Gi aF rfl (Rd.aI 0 rfl rfl)) ?_;refine gO 1 rfl rfl rfl (Gi aF rfl (o.rd aD)) ?_;refine gO 2 rfl rfl rfl (Gi aF rfl (h3.rd aD)) ?_;refine gO 3 rfl rfl rfl (mG rfl) ?_;refine gO 4 rfl rfl rfl (Gk (ds:=.int .i64) aF aF rfl (wrap_u32 aA)) ?_;refine gO 5 rfl rfl rfl (Gi aF rfl (Z.rd aD)) ?_;refine gO 6 rfl rfl rfl (mG rfl) ?_;refine cX 7 ?_;refine xK (f:=d) (fi:=[]) (ca:=c) B rfl rfl aC (fun H st=>w i E H (st.le aD)) ?_;refine nO ?_;refine gO 8 rfl rfl rfl (lI (zs:=[iv 0,iv 0,.int .u32 0,.int .u32 0]) (L:=[(0,1),(1,1),(2,1),(3,1)]) (iH aF) aF rfl (by simp[fL,gR,Value.cells];rfl)) ?_;refine lA ?_;refine aSi ?_;refine aC6 1 rfl rfl aC (by simp:nt W F∈[p,nt W F,q]) x rfl (fun W2 U n o h3=>R k _ W2 U (by simp[wB,y];rfl) n o h3) ?_ ?_
  ·dsimp only[List.set];refine iW aF ?_;refine Cl rfl aC ?_;refine iX ?_;refine Gt ?_;refine eL ?_;refine Eo rfl (fun h=>by cases h) (fun _=>?_);refine En ?_;refine eL ?_;exact aCA
  ·dsimp only[List.set];refine iW aF ?_;refine Cl rfl aC ?_;refine iX ?_;refine Gt ?_;refine eL ?_;refine Eo rfl (fun _=>?_) (fun h=>by cases h);refine Jk ?_;refine eL ?_;exact aH4
 ·
  intro D;dsimp only[List.cons_append,List.nil_append];refine eL ?_;refine Nv (Hs:=[HP.aI j 369 [.func (.yield l) #[] #[]],J (vJ a).length]) (.inr rfl) rfl fun H st=>?_;obtain⟨A,n,o⟩:=st.turns K (by simp[nt]) (i:=1) rfl;exact⟨⟨_,rfl⟩,A,o,.inl (by simpa[vJ,wB] using n)⟩
 ·intro D k hk;dsimp only[List.cons_append,List.nil_append];refine Jk ?_;refine eL ?_;refine Nv (Hs:=[HP.aI j 369 [.func (.yield l) #[] #[]],M (k+1)]) (.inl rfl) rfl fun H st=>?_;obtain⟨A,n,o⟩:=st.turns K (by simp[nt]) (i:=1) rfl;exact⟨⟨_,rfl⟩,A,o,.inr ⟨k,by simpa[vJ,wB] using hk,n⟩⟩
def Jp(p0:Piece)(encs:List (List Value))(y:Value)(w w':World):Prop:=∃b d c a,y=.func (.func 271) #[] #[pt b,pt d,pt c,pt a]∧∀q,p0.Le q→(fresh w w').Le q→Iter Tryz.prog 271 [pt b,pt d,pt c,pt a] encs q
theorem Ko(p0:Piece)(gf c:FuncId)(lb a:List Value)(pr msg:Int)(val:Nat→Int)(b:List Nat)(w:World)(k:Iter Tryz.prog gf lb (vJ b) p0)(n:fJ Tryz.prog gf=true)(l:fJ Tryz.prog c=true)(e:Jl p0 c a b val)(f:∀i∈b,i < 4294967296):
  Cz 266 #[.func (.func gf) #[] lb.toArray,iv pr,iv msg,.func (.func c) #[] a.toArray] w (fun y w'=>(∃x,y=.returned x∧Jp p0 (wB pr msg val b) x w w')∧Below w.heap.size w w'):=by
 refine aT func266 ntmps266 ?_;refine aB ?_;refine bY fun p=>?_;refine bY fun r=>?_;refine bY fun o=>?_;refine bY fun m=>?_;refine aB ?_;refine kK (vf:=[]) (vc:=[pt p,pt r,pt o,pt m]) rfl rfl aC ?_;refine aB ?_;refine dK [] [0,1,2,3] [] aD rfl aC aC fun q j _ t=>?_;refine nB rfl rfl fun A st=>⟨⟨_,rfl,p,r,o,m,rfl,fun z h u=>?_⟩,st.below aD⟩
 have d:=(st.nL aD (t aD aD)).trans' u
 exact aJ9 z p r o m gf c lb a pr msg val b ((sM (j 3 _ aD rfl) rfl).le d) ((sM (j 2 _ aD rfl) rfl).le d) ((sM (j 1 _ aD rfl) rfl).le d) ((sM (j 0 _ aD rfl) rfl).le d) (k.le h) n l (e.le h) f
end
variable{R R0:List Piece}
section
attribute [local irreducible] KC KI KQ
structure dV where
 pr:Int
 msg:Int
 id:Int
 v:Int
def dV.cells(s:dV):List Value:=[iv s.pr,iv s.msg,.int .u32 s.id,.int .u32 s.v]
def rT(s:dV):Value:=.agg s.cells.toArray
def oP(l:List dV):List (List Value):=l.map fun s=>[rT s]
def jM(pr msg:Int)(val:Nat→Int)(a:List Nat):List dV:=a.map fun(i:Nat)=>⟨pr,msg,i,val i⟩
theorem Ks(pr msg:Int)(val:Nat→Int)(a:List Nat):wB pr msg val a=oP (jM pr msg val a):=by
 simp[wB,oP,jM,rT,aHF,dV.cells]
structure wZ where
 gf:FuncId
 lb:List Value
 Fe:List dV
def wZ.fn(r:wZ):Value:=.func (.func r.gf) #[] r.lb.toArray
def Bg(rows:List wZ):List dV:=rows.flatMap (·.Fe)
def tE(rows:List wZ)(i:Nat):Nat:=(Bg (rows.take i)).length
theorem aLW{rows:List wZ}{i:Nat}{r:wZ}(h:rows[i]? =some r):tE rows (i+1)=tE rows i+r.Fe.length:=by
 simp[tE,Bg,List.take_add_one,h]
theorem aEF{rows:List wZ}{i k:Nat}{r:wZ}{s:dV}(h:rows[i]? =some r)(hs:r.Fe[k]? =some s):(Bg rows)[tE rows i+k]? =some s:=by
 have a:=(List.getElem?_eq_some_iff.1 h).1
 have c:=(List.getElem?_eq_some_iff.1 h).2
 have e:rows=rows.take i++r::rows.drop (i+1):=by
  rw[←c,List.getElem_cons_drop a,List.take_append_drop]
 have b:Bg rows=Bg (rows.take i)++(r.Fe++Bg (rows.drop (i+1))):=by
  conv=>lhs;rw[e]
  simp[Bg]
 have d:=(List.getElem?_eq_some_iff.1 hs).1
 rw[b,tE,List.getElem?_append_right aA,Nat.add_sub_cancel_left,List.getElem?_append_left d];exact hs
theorem aLX{rows:List wZ}{i:Nat}(h:rows.length≤i):tE rows i=(Bg rows).length:=by rw[tE,List.take_of_length_le h]
theorem aRB(p:Piece)(M n c:Nat)(A:Option Addr)(rows:List wZ)(f:RP p M 0 (.slice A n c))(hs:aM p 1 A n (rows.map wZ.fn))(hn:n=rows.length)(hn2:(n:Int)≤1000000)
  (o:∀r∈rows,fJ Tryz.prog r.gf=true∧Iter Tryz.prog r.gf r.lb (oP r.Fe) p):
  Iter Tryz.prog 270 [pt M] (oP (Bg rows)) p:=by
 unfold Iter;intro l J V W F u hd hJ O hY;refine Ze (vs:=[.func (.yield l) #[] #[],pt M]) func270 rfl ntmps270 aD (aCJ u hd hJ O) ?_;dsimp only[List.cons_append,List.nil_append];refine kC ?_;refine kQ aF ?_;refine bY fun d=>?_;refine kR ?_;refine eL ?_;refine kC ?_;refine kQ aF ?_;refine lN aF rfl (f.rd aD) aC ?_;refine Hi (el:=359) aF rfl aC ?_;refine dW rfl aC ?_;refine kR ?_;refine eL ?_;refine bT [(8,iv 0),(7,iv n),(6,.slice A n c),(2,pt d)] ?_;refine yM ?_;refine aC8 (fun m L e R H=>∃i:Nat,i≤n∧m=n - i∧e=[(8,iv i),(7,iv n),(6,.slice A n c),(2,pt d)]∧R=[p,nt W F]∧H=[HP.aI d 369 [.func (.yield l) #[] #[]],J (tE rows i),sO L]) n ⟨0,aA,rfl,rfl,rfl,rfl⟩ fun m L e R H hI=>?_;obtain⟨i,hi,rfl,rfl,rfl,rfl⟩:=hI;refine kC ?_;refine kQ aF ?_;refine Tu rfl rfl aC ?_;refine kR ?_;refine eL ?_;refine kC ?_;refine Zd rfl (fun h=>?_) (fun h=>?_)
 ·
  refine En ?_;refine eL ?_;refine kC ?_;refine yM ?_;refine kC ?_
  have K:i < rows.length:=by omega
  obtain⟨b,off,rfl,Y,hc⟩:=hs.2 aA;obtain⟨r,x⟩:∃r,rows[i]? =some r:=⟨_,List.getElem?_eq_getElem K⟩
  obtain⟨G,I⟩:=o r (List.mem_of_getElem? x)
  have y:=aLW x
  refine kQ aF ?_;refine kd (dat (i) (off+i)) ?_;refine lN aF rfl (Rd.ro (p:=p) aD Y (hc i (wZ.fn r) (by simp[x]))) aC ?_;refine jZ rfl aC ?_;refine kR ?_;refine eL ?_;refine kC ?_;refine kQ aF ?_;refine dW rfl aC ?_;refine kR ?_;refine eL ?_;refine yM ?_;refine bT [(12,wZ.fn r),(8,iv i),(7,iv n),(6,.slice (some ⟨b,off,none⟩) n c),(2,pt d)] ?_
  refine aC7 (gf:=r.gf) (lb:=r.lb) (encs:=oP r.Fe) (p:=p) rfl G I aD (fun t a=>?_) aC (fun k=>[HP.aI d 369 [.func (.yield l) #[] #[]],J (tE rows i+k)]) (fun k=>[HP.aI d 369 [.func (.yield l) #[] #[]],V (tE rows i+k)])
   (fun k t e1 U=>∃(j:Nat) (s:dV),t=[rT s]∧e1=[(5,pt j),(2,pt d)]∧U=[HP.aI j 283 s.cells,HP.aI d 369 [.func (.yield l) #[] #[]],J (tE rows i+k)]) rfl ?_ ?_ ?_ ?_
  ·simp only[oP,List.mem_map] at a;obtain⟨s,_,rfl⟩:=a;rfl
  ·
   intro l2 k t W1 q X a w
   obtain⟨s,rfl⟩:∃s,t=[rT s]:=by
    simp only[oP,List.getElem?_map,Option.map_eq_some_iff] at a;obtain⟨s,_,e⟩:=a;exact⟨s,e.symm⟩
   dsimp only[List.cons_append,List.nil_append];refine kQ aF ?_;refine cQ fun j=>?_;refine qP 0 rfl rfl rfl aF (by simp[rT,dV.cells,Value.cells,Value.oneCell']) (by simp[rT,dV.cells,Value.cells]) ?_;rw[show gD [Value.int .i64 0,iv 0,.int .u32 0,.int .u32 0] 0 (rT s).cells.toList=s.cells by simp[gD,rT,dV.cells,Value.cells]];dsimp only[List.set];refine kR ?_;refine bT [(5,pt j),(2,pt d)] ?_;exact aCB (H1:=[HP.aI j 283 s.cells,HP.aI d 369 [.func (.yield l) #[] #[]],J (tE rows i+k)]) ⟨j,s,rfl,rfl,rfl⟩
  ·
   rintro l2 k t W1 q X _ _ a w ⟨j,s,rfl,rfl,rfl⟩
   have N:r.Fe[k]? =some s:=by
    simp only[oP,List.getElem?_map,Option.map_eq_some_iff] at a;obtain⟨T,h,e⟩:=a
    have:T=s:=by
     cases s;cases T;simp[rT,dV.cells] at e;simp[e]
    exact this▸h
   have z:=aEF x N
   dsimp only[List.cons_append,List.nil_append];refine yM ?_;refine kC ?_;refine aH3 ?_;refine iW aF ?_;refine lN aF rfl (Rd.aI 1 rfl rfl) aC ?_;refine iX ?_;refine iW aF ?_;refine xI 4 aF rfl (aV.whole 0 rfl) rfl aC ?_;refine iX ?_;refine aC6 2 rfl rfl aC (by simp:nt W F∈[p,nt W F,q]) w rfl (fun W2 F2 f B Z=>hY (tE rows i+k) [rT s] W2 F2 (by simp[oP,z]) f B Z) ?_ ?_
   ·dsimp only[List.set];refine iW aF ?_;refine Cl rfl aC ?_;refine iX ?_;refine Gt ?_;refine eL ?_;refine Eo rfl (fun h=>by cases h) (fun _=>?_);refine En ?_;refine eL ?_;refine aY [1,2,3] rfl aC (fun _ u=>u) ?_;exact aCA
   ·dsimp only[List.set];refine iW aF ?_;refine Cl rfl aC ?_;refine iX ?_;refine Gt ?_;refine eL ?_;refine Eo rfl (fun _=>?_) (fun h=>by cases h);refine Jk ?_;refine eL ?_;refine aY [1,2,3] rfl aC (fun _ u=>u) ?_;exact aH4
  rotate_left
  ·
   intro D k hk;dsimp only[List.cons_append,List.nil_append];refine Jk ?_;refine eL ?_;refine Nv (Hs:=[HP.aI d 369 [.func (.yield l) #[] #[]],V (tE rows i+(k+1))]) (.inl rfl) rfl fun w1 st=>?_;obtain⟨C,f,B⟩:=st.turns O (by simp[nt]) (i:=1) rfl;obtain⟨s,E⟩:∃s,r.Fe[k]? =some s:=⟨_,List.getElem?_eq_getElem (by simpa[oP] using hk)⟩
   have:=(List.getElem?_eq_some_iff.1 (aEF x E)).1
   exact⟨⟨_,rfl⟩,C,B,.inr ⟨tE rows i+k,by simpa[oP] using this,f⟩⟩
  intro D;dsimp only[List.cons_append,List.nil_append];refine eL ?_;refine kQ aF ?_;refine Cm rfl rfl (iY aA) aC ?_;refine dW rfl aC ?_;refine kR ?_;refine eL ?_;exact bT [(8,iv (i+1)),(7,iv n),(6,.slice (some ⟨b,off,none⟩) n c),(2,pt d)] (Sz (n - (i+1)) aA ⟨i+1,aA,rfl,rfl,rfl,by rw[y];simp[oP]⟩)
 ·
  refine aC9 ?_;refine eL ?_;refine Nv (Hs:=[HP.aI d 369 [.func (.yield l) #[] #[]],J (tE rows i)]) (.inr rfl) rfl fun w1 st=>?_;obtain⟨C,f,B⟩:=st.turns O (by simp[nt]) (i:=1) rfl;rw[aLX aA] at f;exact⟨⟨_,rfl⟩,C,B,.inl (by simpa[oP] using f)⟩
def oX(s:aG)(d:Nat):Int:=if(s.domains[d]?.map (·.ret)).getD false then 2 else 0
theorem aRD(d f n2 k2:Nat)(s:aG)(A2:Option Addr)(w:World)(l:gG w f 1 (.slice A2 n2 k2))(a:kJ (fT (all w)) tX 75 3 A2 n2 s.domains)(k:(n2:Int)≤1000000)(hd:d < n2):
  Cz 269 #[iv d,pt f] w (Rt (.int .u32 (oX s d)) w):=by
 have m:n2=s.domains.length:=by obtain⟨_,_,h,_⟩:=a;exact h
 obtain⟨x,e⟩:∃x,s.domains[d]? =some x:=⟨_,List.getElem?_eq_getElem aA⟩
 obtain⟨b,off,r,rfl,i,rfl,c⟩:=a.row e;refine aT func269 ntmps269 ?_;refine eG ?_;refine gN ?_;refine jZ rfl aC ?_;refine fP ?_;refine eG ?_;refine eG ?_;refine gN ?_;refine xJ (off:=1) aF rfl aC ?_;refine lN aF rfl (Ti aD l) aC ?_;refine dW rfl aC ?_;refine kd (dat (d) (off+d*3)) ?_;refine xJ (off:=2) aF rfl aC ?_;refine lN aF rfl (Ti aD (c.at_ (j:=2) (v:=.bool x.ret) rfl)) aC ?_;refine fP ?_;refine pZ rfl (fun h=>?_) (fun h=>?_)
 ·
  refine aE ?_;exact aW (h:=fun _ _=>by rw[oX,e];simp[h])
 ·
  refine aE ?_;exact aW (h:=fun _ _=>by rw[oX,e];simp[h])
theorem aRC(p:Piece)(e n2 k2:Nat)(s:aG)(A2:Option Addr)(l:RP p e 1 (.slice A2 n2 k2))(c:kJ (fT p) tX 75 3 A2 n2 s.domains)(f:(n2:Int)≤1000000)(d:List Nat)(a:∀i∈d,i < n2):Jl p 269 [pt e] d (oX s):=fun i k j b=>
 aRD i e n2 k2 s A2 j (l.le b) (c.mono (kU b) (fun _ _ h=>h)) f (a i k)
end
def aCZ(n:Nat)(xs:List Value)(v:Value)(hs:List HP)(_:Piece):Prop:=∃A c,v=.slice A n c∧hs=[HP.own 3 1 (.slice A n c) n xs]
theorem aG8(A:Option Addr)(n c:Nat)(xs:List Value)(w:World)(hs:aM (all w) 1 A n xs)(j:∀u∈xs,u.oneCell'=true)(k:n≤1000000):
  Cz 264 #[.slice A n c] w (fun y w'=>(∃v hs q,y=.returned v∧q.w=w'∧aCZ n xs v hs q∧gX w hs q)∧Below w.heap.size w w'):=by
 refine aT func264 ntmps264 ?_;refine aE ?_;refine Oq (el:=3) aF rfl aC ?_;refine aE ?_;refine pZ rfl (fun f=>?_) (fun f=>?_)
 ·
  refine aE ?_
  have d:n=0:=by
   rcases Nat.eq_zero_or_pos n with h | h
   ·exact h
   ·obtain⟨b,off,rfl,_⟩:=hs.2 h;cases f
  subst d
  have i:xs=[]:=List.eq_nil_of_length_eq_zero (by simpa using hs.1)
  subst i;refine mH 3 1 ?_;refine dK [] [] [0] aD rfl aC aC fun q _ _ a=>?_;exact aW (h:=fun e st=>⟨_,_,⟨e,q.Z⟩,rfl,rfl,⟨_,_,rfl,rfl⟩,st.newR aD aD (a aD aD)⟩)
 ·
  refine aE ?_;refine On (el:=3) (sz:=1) aF aF aC fun g=>?_;refine Jj 0 1 0 rfl rfl aA ?_;dsimp only[List.set];refine aE ?_;refine iL 0 1 8 n (n':=n) (el:=3) aF aF aC rfl rfl rfl (tA aD hs) j aA aA aA aC fun m l=>?_;dsimp only[List.set,List.nil_append];refine aE ?_;refine dK [] [] [0] aD rfl aC aC fun q _ _ a=>?_;exact aW (h:=fun e st=>⟨_,_,⟨e,q.Z⟩,rfl,rfl,⟨_,_,rfl,rfl⟩,st.newR aD aD (a aD aD)⟩)
def Ka(n:Nat)(xs:List Value)(v:Value)(hs:List HP)(_:Piece):Prop:=∃A c,v=.slice A n c∧hs=[HP.own 4 1 (.slice A n c) n xs]
theorem Mw(A:Option Addr)(n c:Nat)(xs:List Value)(w:World)(hs:aM (all w) 1 A n xs)(j:∀u∈xs,u.oneCell'=true)(k:n≤1000000):
  Cz 179 #[.slice A n c] w (fun y w'=>(∃v hs q,y=.returned v∧q.w=w'∧Ka n xs v hs q∧gX w hs q)∧Below w.heap.size w w'):=by
 refine aT func179 ntmps179 ?_;refine aE ?_;refine Oq (el:=4) aF rfl aC ?_;refine aE ?_;refine pZ rfl (fun f=>?_) (fun f=>?_)
 ·
  refine aE ?_
  have d:n=0:=by
   rcases Nat.eq_zero_or_pos n with h | h
   ·exact h
   ·obtain⟨b,off,rfl,_⟩:=hs.2 h;cases f
  subst d
  have i:xs=[]:=List.eq_nil_of_length_eq_zero (by simpa using hs.1)
  subst i;refine mH 4 1 ?_;refine dK [] [] [0] aD rfl aC aC fun q _ _ a=>?_;exact aW (h:=fun e st=>⟨_,_,⟨e,q.Z⟩,rfl,rfl,⟨_,_,rfl,rfl⟩,st.newR aD aD (a aD aD)⟩)
 ·
  refine aE ?_;refine On (el:=4) (sz:=1) aF aF aC fun g=>?_;refine Jj 0 1 0 rfl rfl aA ?_;dsimp only[List.set];refine aE ?_;refine iL 0 1 1 n (n':=n) (el:=4) aF aF aC rfl rfl rfl (tA aD hs) j aA aA aA aC fun m l=>?_;dsimp only[List.set,List.nil_append];refine aE ?_;refine dK [] [] [0] aD rfl aC aC fun q _ _ a=>?_;exact aW (h:=fun e st=>⟨_,_,⟨e,q.Z⟩,rfl,rfl,⟨_,_,rfl,rfl⟩,st.newR aD aD (a aD aD)⟩)
theorem aEp(A:Option Addr)(n c:Nat)(xs:List Value)(w:World)(F:Nat→Prop)(hp:(HP.own 3 1 (.slice A n c) n xs).sat F w)(hF:∀b,F b→b < w.heap.size)(B:∀u∈xs,u.oneCell'=true)(x:xs.length=n)(G:n≤1000000)(I:0 < n→∃g,A=some ⟨g,0,none⟩):
  Cz 265 #[.slice A n c] w (Wr (.tuple #[]) (HP.own 3 1 (.slice A n c) n xs.reverse) w F):=by
 refine dD func265 ntmps265 hp hF ?_;refine aE ?_;refine bT [(3,iv ((n:Int) - 1)),(2,iv 0),(0,.slice A n c)] ?_;refine aE ?_;refine fG (fun m e R H=>∃(k:Nat) (l:List Value),m=n - k∧2*k≤n∧Gx xs k l∧e=[(3,iv ((n:Int) - 1 - k)),(2,iv k),(0,.slice A n c)]∧R=[⟨w,fun b=>b < w.heap.size∧¬F b⟩]∧H=[HP.own 3 1 (.slice A n c) n l]) n ⟨0,xs,aA,aA,.zero xs,aD,rfl,rfl⟩ fun m e R H C=>?_;obtain⟨k,l,rfl,J,d,rfl,rfl,rfl⟩:=C;refine aE ?_;refine aK rfl (fun h=>?_) (fun h=>?_)
 ·
  refine pF ?_;refine eR ?_;refine eG ?_
  have D:(k:Int) < (n:Int) - 1 - k:=h
  have E:=d.1
  obtain⟨g,rfl⟩:∃g,A=some ⟨g,0,none⟩:=I aA;obtain⟨u,t⟩:∃u,l[xs.length - 1 - k]? =some u:=⟨_,List.getElem?_eq_getElem aA⟩
  obtain⟨v,y⟩:∃u,l[k]? =some u:=⟨_,List.getElem?_eq_getElem aA⟩
  have o:u.oneCell'=true:=by
   have:=d.2 _ (by omega:xs.length - 1 - k < xs.length);rw[t] at this
   split at this<;>exact B _ (List.mem_of_getElem? this.symm)
  have j:v.oneCell'=true:=by
   have:=d.2 _ (by omega:k < xs.length);rw[y] at this
   split at this<;>exact B _ (List.mem_of_getElem? this.symm)
  refine Ej 0 rfl fun K z a r i=>?_;dsimp only[List.set];rw[Nat.mul_one] at z a
  have p:=aDL a t
  have f:=aDL a y
  refine wX ?_;refine aSf 16 aF aF ?_;refine fR 0 rfl rfl rfl aC (mG rfl) aF (fun _ _ _ h=>h) (fun _ h=>h.bare) ?_;refine fR 1 rfl rfl rfl aC (mG rfl) aF (fun _ _ _ h=>h) (fun _ h=>h.bare) ?_;refine fR 2 rfl rfl rfl aC (mG rfl) aF (fun _ _ _ h=>h) (fun _ h=>h.bare) ?_;refine fR 3 rfl rfl rfl aC (mG rfl) aF (fun _ _ _ h=>h) (fun _ h=>h.bare) ?_;refine fR 4 rfl rfl rfl aC (mG rfl) aF (fun _ _ _ h=>h) (fun _ h=>h.bare) ?_;refine fR 5 rfl rfl rfl aC (mG rfl) aF (fun _ _ _ h=>h) (fun _ h=>h.bare) ?_;refine fR 8 rfl rfl rfl aC (mG rfl) aF (fun _ _ _ h=>h) (fun _ h=>h.bare) ?_;refine fR 9 rfl rfl rfl aC (mG rfl) aF (fun _ _ _ h=>h) (fun _ h=>h.bare) ?_;refine fR 6 rfl rfl rfl aC (aBV (n - 1 - k) (n - 1 - k) (el:=3) (sz:=1) aF aF rfl rfl aA aA aA) aF (fun _ _ _ h=>h) (fun _ h=>h.bare) ?_;refine fR 10 rfl rfl rfl aC (aBV (k) (k) (el:=3) (sz:=1) aF aF rfl rfl aA aA aA) aF (fun _ _ _ h=>h) (fun _ h=>h.bare) ?_;refine Gv 7 11 rfl rfl aF ?_ ?_
  ·refine lN aF rfl (Rd.aI 0 rfl (by rw[←x];exact p)) aC ?_;refine iG ?_;refine iC ?_;refine lB (fun _ h=>h.bare) ?_;refine cX 11 ?_;refine lN aF rfl (Rd.aI 0 rfl f) aC ?_;refine iG ?_;refine iC ?_;refine lB (fun _ h=>h.bare) ?_;refine cX 12 ?_;refine kd (dat (k) (k)) ?_;refine iG ?_;refine iC ?_;refine lB (fun _ h=>h.bare) ?_;refine cX 13 ?_;refine sQ 0 rfl aF rfl rfl o aA ?_;dsimp only[List.set];refine iG ?_;refine iC ?_;refine lB (fun _ h=>h.bare) ?_;refine cX 14 ?_;refine kd (dat (n - 1 - k) (n - 1 - k)) ?_;refine iG ?_;refine iC ?_;refine lB (fun _ h=>h.bare) ?_;refine cX 15 ?_;refine sQ 0 rfl aF rfl rfl j (by simp;omega) ?_;dsimp only[List.set];refine iG ?_;refine iC ?_;refine lB (fun _ h=>h.bare) ?_;refine lA ?_;refine eR ?_;refine gN ?_;refine dW rfl aC ?_;refine Cm rfl rfl (iY aA) aC ?_;refine dW rfl aC ?_;refine Ts rfl rfl (iY aA) aC ?_;refine jZ rfl aC ?_;refine jZ rfl aC ?_;refine fP ?_;refine Ce 0 (n:=n) (c:=c) (sz:=1) (xs:=(l.set k u).set (xs.length - 1 - k) v) rfl (by simp;omega) (by rw[Nat.mul_one,x];exact take_set (take_set a)) r i ?_;dsimp only[List.set];exact bT [(3,iv ((n:Int) - 1 - k - 1)),(2,iv ((k:Int)+1)),(0,.slice (some ⟨g,0,none⟩) n c)] (iD (n - (k+1)) aA ⟨k+1,_,rfl,aA,d.next aA t y,(by rw[show(n:Int) - 1 - k - 1=(n:Int) - 1 - ((k+1:Nat):Int) by omega];rfl),rfl,rfl⟩)
  ·refine lN aF rfl (Rd.aI 0 rfl f) aC ?_;refine iG ?_;refine iC ?_;refine lB (fun _ h=>h.bare) ?_;refine cX 7 ?_;refine lN aF rfl (Rd.aI 0 rfl (by rw[←x];exact p)) aC ?_;refine iG ?_;refine iC ?_;refine lB (fun _ h=>h.bare) ?_;refine cX 12 ?_;refine kd (dat (k) (k)) ?_;refine iG ?_;refine iC ?_;refine lB (fun _ h=>h.bare) ?_;refine cX 13 ?_;refine sQ 0 rfl aF rfl rfl o aA ?_;dsimp only[List.set];refine iG ?_;refine iC ?_;refine lB (fun _ h=>h.bare) ?_;refine cX 14 ?_;refine kd (dat (n - 1 - k) (n - 1 - k)) ?_;refine iG ?_;refine iC ?_;refine lB (fun _ h=>h.bare) ?_;refine cX 15 ?_;refine sQ 0 rfl aF rfl rfl j (by simp;omega) ?_;dsimp only[List.set];refine iG ?_;refine iC ?_;refine lB (fun _ h=>h.bare) ?_;refine lA ?_;refine eR ?_;refine gN ?_;refine dW rfl aC ?_;refine Cm rfl rfl (iY aA) aC ?_;refine dW rfl aC ?_;refine Ts rfl rfl (iY aA) aC ?_;refine jZ rfl aC ?_;refine jZ rfl aC ?_;refine fP ?_;refine Ce 0 (n:=n) (c:=c) (sz:=1) (xs:=(l.set k u).set (xs.length - 1 - k) v) rfl (by simp;omega) (by rw[Nat.mul_one,x];exact take_set (take_set a)) r i ?_;dsimp only[List.set];exact bT [(3,iv ((n:Int) - 1 - k - 1)),(2,iv ((k:Int)+1)),(0,.slice (some ⟨g,0,none⟩) n c)] (iD (n - (k+1)) aA ⟨k+1,_,rfl,aA,d.next aA t y,(by rw[show(n:Int) - 1 - k - 1=(n:Int) - 1 - ((k+1:Nat):Int) by omega];rfl),rfl,rfl⟩)
 ·
  refine aE ?_
  have D:¬(k:Int) < (n:Int) - 1 - k:=h
  have:=d.all aA
  subst this;exact fO 0 hF
theorem Lr(l:List Int):∀u∈aR l,u.oneCell'=true:=by
 intro u a;simp only[aR,List.mem_map] at a;obtain⟨x,_,rfl⟩:=a;rfl
theorem aE9{F:Nat→Prop}{w:World}{el:TypeId}{sz n c:Nat}{A:Option Addr}{xs:List Value}(h:(HP.own el sz (.slice A n c) n xs).sat F w)(e:0 < n):∃g,A=some ⟨g,0,none⟩:=by
 rcases h.2.2 with⟨_,f⟩ | ⟨g,a,d,b,_⟩
 ·omega
 ·injection b with hA
  exact⟨g,hA⟩
theorem aEq(l:List Nat):(aR (dR l)).reverse=aR (dR l.reverse):=by simp[aR,dR]
section
variable{P:Program}{R':List Piece}{dA:Nat}{t:TypeId}{cs:List Value}{v:Value}
theorem yB{x:Operand}{g o:Nat}{p:Piece}(h:RP p g o v)(hp:p∈R:=by simp)(a:uE P t=true:=by kernel_rfl)(hx:e.ev x=some (.pointer (some ⟨g,o,none⟩)):=by rfl):cF P N w0 e R H ⟨some d,.load t x,ty,pos,aL,none⟩ v:=Gi a hx (h.rd hp)
theorem sI{i j:Nat}{M:Option Nat}(a:Nat)(R':List Piece){k:Oper}(step:∀M,XK N w0 (wpList P ops (Exit.then (sJ P w0 ops Q R0 H0 m (Bq M fuel) (xW M j (listed.setIfInBounds i true)) a) Q) [k]) (uN M dA ((d,v)::e)) R' (wJ M t cs H))(hi:ops[a]? =some k:=by rfl)(hj:ops[j]? =some ⟨some dA,.alloc t,ty,pos,aL,none⟩:=by rfl)(o:Ba P t cs:=by exact iH aF)(hd:dA < N.n:=by decide)
  (c:Region.ready .any ops (listed.setIfInBounds i true)=[a,j]:=by kernel_rfl) (f:Region.ready .any ops ((listed.setIfInBounds i true).setIfInBounds j true)=[a]:=by kernel_rfl) (hS:∀w,St w0 R' H w→St w0 R0 H0 w:=by exact fun _ h=>h.bG) (r:∀p∈R',p∈R:=by simp) (b:i≠j:=by decide) (l:Nat.beq d dA=false:=by rfl):
  XK N w0 (wpList P ops (Exit.then (sJ P w0 ops Q R0 H0 m (Bq M (fuel+1)) (xW M j listed) i) Q) []) ((d,v)::uN M dA e) R (wJ M t cs H):=vS r (iG (iC (Ta b l hS (Nw a j hi hj o hd c f hS step))))
end
def sG(s:aG)(c cl b:List Nat)(d e f a h tl:List Bool):List dV:=
 jM 17 4 (fun _=>1) (eK (c) d a)++(jM 20 7 (fun _=>1) (eK (cl) e h)++(jM 22 4 (fun _=>0) (eK (b) f tl)++(jM 22 4 (fun _=>1) (eK (b) tl f)++(jM 20 7 (fun _=>0) (eK (cl.reverse) h e)++(jM 17 4 (oX s) (eK (c.reverse) a d))))))
def aIs(p0:Piece)(a:List dV)(y:Value)(w w':World):Prop:=∃g,y=.func (.func 270) #[] #[pt g]∧∀q,p0.Le q→(fresh w w').Le q→Iter Tryz.prog 270 [pt g] (oP a) q in
theorem aR6(p0:Piece)(s:aG)(A1 A2 A3 A4 Ad Ac Al Fd Fc Fl Td Tc Tl:Option Addr)(n1 k1 n2 k2 n3 k3 n4 k4 Z cd Y cc nl kl I Dt J Du K Ds L Cx R nF H Cu:Nat)(u cl C:List Nat)(A G T D N tl:List Bool)(w:World)
  (hp0:p0.Le (all w)) (aN6:kJ (fT p0) tX 75 3 A2 n2 s.domains) (hn2:(n2:Int)≤1000000)
  (pM:aM p0 1 Ad Z (aR (dR u))) (hnd:Z=u.length) (aFz:Z≤1000000) (z:∀i∈u,i < n2)
  (vL:aM p0 1 Ac Y (aR (dR cl))) (hnc:Y=cl.length) (aF0:Y≤1000000) (E:∀i∈cl,i < 1000000)
  (Is:aM p0 1 Al nl (aR (dR C))) (zL:nl=C.length) (aSN:nl≤1000000) (B:∀i∈C,i < 1000000)
  (Lw:aM p0 1 Fd I (bM A)) (Ww:I=A.length) (Lu:aM p0 1 Td L (bM D)) (Wn:L=D.length) (Lx:aM p0 1 Fc J (bM G)) (Wx:J=G.length) (Ip:aM p0 1 Tc R (bM N)) (Wo:R=N.length) (hfl:aM p0 1 Fl K (bM T)) (Wv:K=T.length) (Lt:aM p0 1 Tl H (bM tl)) (Wl:H=tl.length):
  Cz 261 #[.agg #[.slice A1 n1 k1,.slice A2 n2 k2,.slice A3 n3 k3,.slice A4 n4 k4],.slice Ad Z cd,.slice Ac Y cc,.slice Al nl kl,.agg #[.slice Fd I Dt,.slice Fc J Du,.slice Fl K Ds],.agg #[.slice Td L Cx,.slice Tc R nF,.slice Tl H Cu]] w (fun y w'=>(∃x,y=.returned x∧aIs p0 (sG s u cl C A G T D N tl) x w w')∧Below w.heap.size w w'):=by
 have aSO:=hnd
 refine aT func261 ntmps261 ?_;refine yJ p0 aD hp0 ?_;refine aE ?_;refine bY fun g1=>?_;refine bY fun g2=>?_;refine bY fun g3=>?_;refine aE ?_;refine fK (aCZ Y (aR (dR cl))) (fun a st=>aG8 Ac Y cc _ a (vL.le (st.le aD)) (Lr _) aF0) ?_;rintro _ _ Vf ⟨A13,c13,rfl,rfl⟩ _;refine aE ?_;refine Ou (f:=265) (fi:=[]) (ca:=[]) 0 (HP.own 3 1 (.slice A13 Y c13) Y (aR (dR cl)).reverse) aF rfl rfl rfl ⟨aC,rfl⟩ (fun a F st hp hF=>aEp A13 Y c13 _ a F hp hF (Lr _) (by simp[aR,dR,hnc]) aF0 (aE9 hp)) ?_;dsimp only[List.set,List.cons_append,List.nil_append];rw[aEq];refine aE ?_;refine fK (aCZ Z (aR (dR u))) (fun a st=>aG8 Ad Z cd _ a (pM.le (st.le aD)) (Lr _) aFz) ?_;rintro _ _ O ⟨A14,c14,rfl,rfl⟩ _;refine aE ?_;refine Ou (f:=265) (fi:=[]) (ca:=[]) 0 (HP.own 3 1 (.slice A14 Z c14) Z (aR (dR u)).reverse) aF rfl rfl rfl ⟨aC,rfl⟩ (fun a F st hp hF=>aEp A14 Z c14 _ a F hp hF (Lr _) (by simp[aR,dR,hnd]) aFz (aE9 hp)) ?_;dsimp only[List.set,List.cons_append,List.nil_append];rw[aEq];refine fP ?_;refine aY [0,1,2,3,4] rfl aC (R':=[p0,all w]) aD ?_;refine aHt p0 p0 [0,1,2,3,4] [] aD aD (fun b h=>.inl h) rfl aC aC fun k hq m N0=>?_
 have f14:=aM.own (hq 0 _ aD rfl)
 have f13:=aM.own (hq 1 _ aD rfl)
 have t_d:RP k g3 0 (.slice Td L Cx):=sM (hq 2 _ aD rfl) rfl
 have f_d:RP k g2 0 (.slice Fd I Dt):=sM (hq 3 _ aD rfl) rfl
 have t_c:RP k g3 1 (.slice Tc R nF):=sM (hq 2 _ aD rfl) rfl
 have f_c:RP k g2 1 (.slice Fc J Du):=sM (hq 3 _ aD rfl) rfl
 have t_l:RP k g3 2 (.slice Tl H Cu):=sM (hq 2 _ aD rfl) rfl
 have f_l:RP k g2 2 (.slice Fl K Ds):=sM (hq 3 _ aD rfl) rfl
 have b1:RP k g1 1 (.slice A2 n2 k2):=sM (hq 4 _ aD rfl) rfl
 have E0:k.Le k:=fun b hb=>⟨hb,rfl⟩
 have aJe:=aRC k g1 n2 k2 s A2 b1 (aN6.mono (kU m) (fun _ _ h=>h)) hn2
 have pM:=pM.le m
 have vL:=vL.le m
 have Is:=Is.le m
 have Lw:=Lw.le m
 have Lx:=Lx.le m
 have hfl:=hfl.le m
 have Lu:=Lu.le m
 have Ip:=Ip.le m
 have Lt:=Lt.le m
 refine eG ?_;refine rK 50 aF aF ?_;refine cE 0 ?_;refine cE 1 ?_;refine cE 2 ?_ (dG:=yB f_d);refine cE 3 ?_;refine cE 4 ?_ (dG:=yB t_d);refine cE 8 ?_;refine cE 9 ?_;refine cE 10 ?_ (dG:=yB f_c);refine cE 11 ?_;refine cE 12 ?_ (dG:=yB t_c);refine cE 16 ?_;refine cE 17 ?_;refine cE 18 ?_ (dG:=yB f_l);refine cE 19 ?_;refine cE 20 ?_ (dG:=yB t_l);refine cE 24 ?_;refine cE 25 ?_;refine cE 26 ?_ (dG:=yB t_l);refine cE 27 ?_;refine cE 28 ?_ (dG:=yB f_l);refine cE 32 ?_;refine cE 33 ?_;refine cE 34 ?_ (dG:=yB t_c);refine cE 35 ?_;refine cE 36 ?_ (dG:=yB f_c);refine cE 40 ?_;refine cE 41 ?_;refine cE 42 ?_ (dG:=yB t_d);refine cE 43 ?_;refine cE 44 ?_ (dG:=yB f_d);refine gO 46 rfl rfl rfl (aGv (vf:=[]) (vc:=[pt g1]) rfl rfl) ?_;refine aH6 (j:=49) 15 368 [sn] fun M=>?_;refine Nw 5 49 rfl rfl (iH aF) aC aF aF (fun _ h=>h) (fun M=>?_);refine rZ p0 k (Jw k (eK (u) A D)) (fun a st=>Ld k Z L I cd Cx Dt Ad Td Fd (u) A D a (pM.le E0) hnd aA (Lu.le E0) Wn (Lw.le E0) Ww (fun i d=>by have:=z i d;omega)) ?_;rintro _ a q1 ⟨x0,y0,z0,rfl,l⟩ e L1 N1
 have it0:=l q1 L1 e
 have E1:=E0.trans' L1
 refine sI 6 [q1,k,p0,all w] fun M=>?_;refine rZ p0 q1 (Ok 1) (fun a st=>Sj 1 a) ?_;rintro _ a q2 ⟨u0,rfl,t⟩ e L2 N2
 have va0:=t q2 e
 have E2:=E1.trans' L2
 refine sI 7 [q2,k,p0,all w] fun M=>?_;refine rZ p0 q2 (Jp q2 (wB 17 4 (fun _=>1) (eK (u) A D))) (fun a st=>Ko q2 272 273 [pt x0,pt y0,pt z0] [pt u0] 17 4 (fun _=>1) (eK (u) A D) a (it0.le L2) aF aF (va0 _) (fun i d=>by have:=z i (List.mem_filter.1 d).1;omega)) ?_;rintro _ a q3 ⟨c0,d0,e0,f0,rfl,p⟩ e L3 N3
 have st0:=p q3 L3 e
 have E3:=E2.trans' L3
 refine sI 13 [q3,k,p0,all w] fun M=>?_;refine rZ p0 q3 (Jw q3 (eK (cl) G N)) (fun a st=>Ld q3 Y R J cc nF Du Ac Tc Fc (cl) G N a (vL.le E3) hnc aA (Ip.le E3) Wo (Lx.le E3) Wx (fun i d=>by have:=E i d;omega)) ?_;rintro _ a q4 ⟨x1,y1,z1,rfl,l⟩ e L4 N4
 have it1:=l q4 L4 e
 have E4:=E3.trans' L4
 refine sI 14 [q4,k,p0,all w] fun M=>?_;refine rZ p0 q4 (Ok 1) (fun a st=>Sj 1 a) ?_;rintro _ a q5 ⟨u1,rfl,t⟩ e L5 N5
 have va1:=t q5 e
 have E5:=E4.trans' L5
 refine sI 15 [q5,k,p0,all w] fun M=>?_;refine rZ p0 q5 (Jp q5 (wB 20 7 (fun _=>1) (eK (cl) G N))) (fun a st=>Ko q5 272 273 [pt x1,pt y1,pt z1] [pt u1] 20 7 (fun _=>1) (eK (cl) G N) a (it1.le L5) aF aF (va1 _) (fun i d=>by have:=E i (List.mem_filter.1 d).1;omega)) ?_;rintro _ a q6 ⟨c1,d1,e1,f1,rfl,p⟩ e L6 N6
 have Um:=p q6 L6 e
 have E6:=E5.trans' L6
 refine sI 21 [q6,k,p0,all w] fun M=>?_;refine rZ p0 q6 (Jw q6 (eK (C) T tl)) (fun a st=>Ld q6 nl H K kl Cu Ds Al Tl Fl (C) T tl a (Is.le E6) zL aA (Lt.le E6) Wl (hfl.le E6) Wv (fun i d=>by have:=B i d;omega)) ?_;rintro _ a q7 ⟨x2,y2,z2,rfl,l⟩ e L7 N7
 have it2:=l q7 L7 e
 have E7:=E6.trans' L7
 refine sI 22 [q7,k,p0,all w] fun M=>?_;refine rZ p0 q7 (Ok 0) (fun a st=>Sj 0 a) ?_;rintro _ a q8 ⟨u2,rfl,t⟩ e L8 N8
 have va2:=t q8 e
 have E8:=E7.trans' L8
 refine sI 23 [q8,k,p0,all w] fun M=>?_;refine rZ p0 q8 (Jp q8 (wB 22 4 (fun _=>0) (eK (C) T tl))) (fun a st=>Ko q8 272 273 [pt x2,pt y2,pt z2] [pt u2] 22 4 (fun _=>0) (eK (C) T tl) a (it2.le L8) aF aF (va2 _) (fun i d=>by have:=B i (List.mem_filter.1 d).1;omega)) ?_;rintro _ a q9 ⟨c2,d2,e2,f2,rfl,p⟩ e L9 N9
 have Cy:=p q9 L9 e
 have E9:=E8.trans' L9
 refine sI 29 [q9,k,p0,all w] fun M=>?_;refine rZ p0 q9 (Jw q9 (eK (C) tl T)) (fun a st=>Ld q9 nl K H kl Ds Cu Al Fl Tl (C) tl T a (Is.le E9) zL aA (hfl.le E9) Wv (Lt.le E9) Wl (fun i d=>by have:=B i d;omega)) ?_;rintro _ a q10 ⟨x3,y3,z3,rfl,l⟩ e L10 N10
 have it3:=l q10 L10 e
 have E10:=E9.trans' L10
 refine sI 30 [q10,k,p0,all w] fun M=>?_;refine rZ p0 q10 (Ok 1) (fun a st=>Sj 1 a) ?_;rintro _ a X ⟨u3,rfl,t⟩ e L11 N11
 have va3:=t X e
 have E11:=E10.trans' L11
 refine sI 31 [X,k,p0,all w] fun M=>?_;refine rZ p0 X (Jp X (wB 22 4 (fun _=>1) (eK (C) tl T))) (fun a st=>Ko X 272 273 [pt x3,pt y3,pt z3] [pt u3] 22 4 (fun _=>1) (eK (C) tl T) a (it3.le L11) aF aF (va3 _) (fun i d=>by have:=B i (List.mem_filter.1 d).1;omega)) ?_;rintro _ a U ⟨c3,d3,e3,f3,rfl,p⟩ e L12 N12
 have yZ:=p U L12 e
 have Zp:=E11.trans' L12
 refine sI 37 [U,k,p0,all w] fun M=>?_;refine rZ p0 U (Jw U (eK (cl.reverse) N G)) (fun a st=>Ld U Y J R c13 Du nF A13 Fc Tc (cl.reverse) N G a (f13.le Zp) (by simpa using hnc) aA (Lx.le Zp) Wx (Ip.le Zp) Wo (fun i d=>by have:=(fun i d=>E i (by simpa using d)) i d;omega)) ?_;rintro _ a Vf ⟨x4,y4,z4,rfl,l⟩ e L13 N13
 have it4:=l Vf L13 e
 have E13:=Zp.trans' L13
 refine sI 38 [Vf,k,p0,all w] fun M=>?_;refine rZ p0 Vf (Ok 0) (fun a st=>Sj 0 a) ?_;rintro _ a O ⟨u4,rfl,t⟩ e L14 N14
 have va4:=t O e
 have E14:=E13.trans' L14
 refine sI 39 [O,k,p0,all w] fun M=>?_;refine rZ p0 O (Jp O (wB 20 7 (fun _=>0) (eK (cl.reverse) N G))) (fun a st=>Ko O 272 273 [pt x4,pt y4,pt z4] [pt u4] 20 7 (fun _=>0) (eK (cl.reverse) N G) a (it4.le L14) aF aF (va4 _) (fun i d=>by have:=(fun i d=>E i (by simpa using d)) i (List.mem_filter.1 d).1;omega)) ?_;rintro _ a Pw ⟨c4,d4,e4,f4,rfl,p⟩ e L15 N15
 have st4:=p Pw L15 e
 have Zo:=E14.trans' L15
 refine sI 45 [Pw,k,p0,all w] fun M=>?_;refine rZ p0 Pw (Jw Pw (eK (u.reverse) D A)) (fun a st=>Ld Pw Z I L c14 Dt Cx A14 Fd Td (u.reverse) D A a (f14.le Zo) (by simpa using hnd) aA (Lw.le Zo) Ww (Lu.le Zo) Wn (fun i d=>by have:=(fun i d=>z i (by simpa using d)) i d;omega)) ?_;rintro _ a V ⟨x5,y5,z5,rfl,l⟩ e L16 N16
 have it5:=l V L16 e
 have E16:=Zo.trans' L16
 refine sI 47 [V,k,p0,all w] fun M=>?_;refine rZ p0 V (Jp V (wB 17 4 (oX s) (eK (u.reverse) D A))) (fun a st=>Ko V 272 269 [pt x5,pt y5,pt z5] [pt g1] 17 4 (oX s) (eK (u.reverse) D A) a (it5.le (Piece.Le.refl _)) aF aF ((aJe (eK (u.reverse) D A) (fun i d=>by have:=(fun i d=>z i (by simpa using d)) i (List.mem_filter.1 d).1;omega)).le E16) (fun i d=>by have:=(fun i d=>z i (by simpa using d)) i (List.mem_filter.1 d).1;omega)) ?_;rintro _ a q17 ⟨c5,d5,e5,f5,rfl,p⟩ e L17 N17
 have Hu:=p q17 L17 e
 have E17:=E16.trans' L17
 refine sI 48 [q17,k,p0,all w] fun M=>?_;rcases M with _ | g15
 all_goals
  dsimp only[uN,wJ,xW,Bq];refine eT fun gS=>?_;refine iG ?_;refine iC ?_
 refine lB (fun _ h=>h.tail.bG) ?_;refine cX 49 ?_;refine cQ fun g15=>?_;refine iG ?_;refine iC ?_
 rotate_left
 refine aY [1,0] rfl aC (fun _ h=>h) ?_
 all_goals
  refine lB (fun _ h=>h.tail.tail.bG) ?_;refine cX 50 ?_;refine aDg rfl rfl ?_;dsimp only[List.set];refine fB ?_;refine lA ?_;refine eR ?_;refine eG ?_;refine gN ?_;refine kK (vf:=[]) (vc:=[pt g15]) rfl rfl aC ?_;refine aE ?_;refine aHt p0 q17 [0,1] [] aD aD N17 rfl aC aC fun qs hqs Ls Ns=>?_
  have r15:=sM (o:=0) (hqs 0 _ aD rfl) rfl
  obtain⟨FS,sS,zS⟩:=hqs 1 _ aD rfl
  have rS:=rN (n:=6) (sz:=1) (c:=6) sS zS rfl
  refine nB rfl rfl fun a st=>⟨⟨_,rfl,g15,rfl,fun q2 hp2 Qq=>?_⟩,st.below aD⟩
  have Lq:=aMk (p0:=p0) st (by simp:qs∈_) Ns (((m.trans' E17).trans' Ls)) hp2 Qq
  have T17:=Ls.trans' Lq
  have T16:=L17.trans' T17
  have T15:=L16.trans' T16
  have T14:=L15.trans' T15
  have T13:=L14.trans' T14
  have T12:=L13.trans' T13
  have T11:=L12.trans' T12
  have T10:=L11.trans' T11
  have T9:=L10.trans' T10
  have T8:=L9.trans' T9
  have T7:=L8.trans' T8
  have T6:=L7.trans' T7
  have T5:=L6.trans' T6
  have T4:=L5.trans' T5
  have T3:=L4.trans' T4
  have hall:=aRB q2 g15 6 6 _ [⟨271,[pt c0,pt d0,pt e0,pt f0],jM 17 4 (fun _=>1) (eK (u) A D)⟩,⟨271,[pt c1,pt d1,pt e1,pt f1],jM 20 7 (fun _=>1) (eK (cl) G N)⟩,⟨271,[pt c2,pt d2,pt e2,pt f2],jM 22 4 (fun _=>0) (eK (C) T tl)⟩,⟨271,[pt c3,pt d3,pt e3,pt f3],jM 22 4 (fun _=>1) (eK (C) tl T)⟩,⟨271,[pt c4,pt d4,pt e4,pt f4],jM 20 7 (fun _=>0) (eK (cl.reverse) N G)⟩,⟨271,[pt c5,pt d5,pt e5,pt f5],jM 17 4 (oX s) (eK (u.reverse) D A)⟩] (r15.le Lq) (rS.le Lq) rfl aA (fun r hr=>by
   simp only[List.mem_cons,List.not_mem_nil,or_false] at hr;rcases hr with rfl | rfl | rfl | rfl | rfl | rfl
   ·exact⟨aF,by have h:=st0.le T3;rw[Ks] at h;exact h⟩
   ·exact⟨aF,by have h:=Um.le T6;rw[Ks] at h;exact h⟩
   ·exact⟨aF,by have h:=Cy.le T9;rw[Ks] at h;exact h⟩
   ·exact⟨aF,by have h:=yZ.le T12;rw[Ks] at h;exact h⟩
   ·exact⟨aF,by have h:=st4.le T15;rw[Ks] at h;exact h⟩
   ·exact⟨aF,by have h:=Hu.le T17;rw[Ks] at h;exact h⟩)
  simpa[Bg,sG] using hall
def yT(g:List (List Int)):Prop:=∀(k:Nat) (l:List Int),g[k]? =some l→∀u∈l,0≤u∧u < (k:Int)
theorem yT.in{g:List (List Int)}(h:yT g):xC g:=by
 intro l b u c;obtain⟨k,a⟩:=List.getElem?_of_mem b
 have:=h k l a u c
 have:=(List.getElem?_eq_some_iff.1 a).1
 omega
theorem yT.next{g:List (List Int)}(h:yT g){k:Nat}(hk:k < g.length):Fu g (List.range k)=some k:=by
 refine aEL hk (fun j c=>aAS (by simpa using c)) ?_;unfold uF;obtain⟨l,a⟩:∃l,g[k]? =some l:=⟨_,List.getElem?_eq_getElem hk⟩
 rw[a];simp only[Option.getD_some,Bool.and_eq_true,Bool.not_eq_true',List.all_eq_true];refine⟨aD,fun u b=>?_⟩
 have:=h k l a u b
 simp;omega
theorem yT.order{g:List (List Int)}(h:yT g):∀(m k:Nat),k+m=g.length→tD g m (List.range k)=some (List.range g.length)
 | 0,k,hk=>by rw[tD];simp at hk;rw[hk]
 | m+1,k,hk=>by
  rw[tD,h.next aA]
  have:=yT.order h m (k+1) aA
  rw[List.range_succ] at this;exact this
theorem yT.fY{g:List (List Int)}(h:yT g)(hl:g.length≤100):fY g=(0,List.range g.length):=by
 have c:Cc g=false:=aGS fun k l b j u e=>by
  have:=h.in l (List.mem_of_getElem? b) u (List.mem_of_getElem? e)
  exact this
 have d:qI g=0:=by unfold qI;rw[if_neg aA,c];rfl
 have a:=h.order g.length 0 aA
 unfold Go.Proofs.YtmpkkaknjkffpaaGreatDoor.fY;rw[if_neg (by simp[d])];simp only[List.range_zero] at a;rw[a]
theorem zR{es:List Int}(h:∀e∈es,e=0):kW es=0:=Ge fun j a=>by rw[List.getElem?_eq_getElem a,h _ (List.getElem_mem a)]
theorem Ey{n lo hi:Int}(b:lo≤n)(a:n≤hi):iO n lo hi=true:=by simp[iO,b,a]
theorem yV{b:Bool}{e:Int}(h:b=false):iS b e=0:=by rw[h];rfl
section
variable(h:s.made)
include h
theorem aMR:yT (kH s):=by
 intro k l a u d;simp only[kH,List.getElem?_map,Option.map_eq_some_iff] at a;obtain⟨c,b,rfl⟩:=a;exact(h.aJ k c b).1 u d
theorem aMP:yT (kG s):=by
 intro k l c u a;simp only[kG,List.getElem?_map,Option.map_eq_some_iff] at c;obtain⟨d,hd,rfl⟩:=c
 have:=(h.domains k d hd).1
 split at a
 ·cases a
 ·rename_i b
  simp at a;subst a;exact this.resolve_left b
theorem aMO:yT (dQ s):=by
 intro k l a u c;simp only[dQ,List.getElem?_map,Option.map_eq_some_iff] at a;obtain⟨d,hd,rfl⟩:=a;obtain⟨_,_,_,_,_,_,_,_,_,_,_,b⟩:=h.aH k d hd;exact b u c
theorem Vz:s.small:=by
 refine⟨by have:=h.nc;omega,by have:=h.nd;omega,by have:=h.nr;omega,by have:=h.nv;omega,fun c e=>?_,fun d hd=>?_⟩
 ·obtain⟨k,b⟩:=List.getElem?_of_mem e;rcases(h.aJ k c b).2 with a | a | a | a | a
  ·rw[a.2.1];simp
  all_goals(have:=a.2.1;omega)
 ·obtain⟨k,b⟩:=List.getElem?_of_mem hd;obtain⟨_,_,_,_,_,_,_,_,_,_,a,_⟩:=h.aH k d b;omega
theorem aBi:fY (kH s)=(0,List.range s.aJ.length)∧fY (kG s)=(0,List.range s.domains.length)∧fY (dQ s)=(0,List.range s.aH.length):=by
 refine⟨?_,?_,?_⟩
 ·have:=(aMR h).fY (by simp[kH];have:=h.nc;omega)
  simpa[kH] using this
 ·have:=(aMP h).fY (by simp[kG];have:=h.nd;omega)
  simpa[kG] using this
 ·have:=(aMO h).fY (by simp[dQ];have:=h.nv;omega)
  simpa[dQ] using this
theorem aMS{k:Nat}{c:eN}(l:s.aJ[k]? =some c):Jd s.aJ.length c=0:=by
 have t:=(List.getElem?_eq_some_iff.1 l).1
 obtain⟨n,a⟩:=h.aJ k c l;refine zR fun e d=>?_;simp only[List.mem_cons,List.not_mem_nil,or_false] at d;rcases d with rfl | rfl | rfl
 ·refine yV ?_;rcases a with a | a | a | a | a
  ·simp[lR,a.1,a.2.1]
  ·simp[lR,a.1,a.2.1]
  ·simp[lR,a.1,a.2.1]
  ·simp[lR,a.1,a.2.1]
  ·simp[lR,a.1,a.2.1,iO]
 ·refine zR fun e d=>?_;simp only[List.mem_map] at d;obtain⟨f,m,rfl⟩:=d
  have:=n f m
  exact yV (by rw[Ey aA aA];rfl)
 ·refine yV ?_;rcases a with a | a | a | a | a
  ·obtain⟨b,_,j,i,_⟩:=a;simp[tF,b];omega
  ·obtain⟨b,_,_,j,i,r,h7,o,p⟩:=a;simp[tF,b,iO];omega
  ·obtain⟨b,_,_,_,j,i,_⟩:=a;simp[tF,b,iO];omega
  ·simp[tF,a.1]
  ·simp[tF,a.1]
theorem aMQ{k:Nat}{d:Dom}(hd:s.domains[k]? =some d):Mq s.domains.length d=0:=by
 have f:=(List.getElem?_eq_some_iff.1 hd).1
 obtain⟨a,i,c⟩:=h.domains k d hd;refine zR fun e b=>?_;simp only[List.mem_cons,List.not_mem_nil,or_false] at b;rcases b with rfl | rfl
 ·refine yV ?_;rcases a with a | a
  ·simp[a]
  ·rw[Ey aA aA];simp
 ·exact yV (by rw[Ey aA aA];rfl)
theorem aFc{k:Nat}{d:cH}(hd:s.aH[k]? =some d):Mu s.aJ.length s.domains.length s.bA.length s.aH.length d=0∧Ll d=0:=by
 have r:=(List.getElem?_eq_some_iff.1 hd).1
 obtain⟨n,j,t,p,m,l,_,_,i,_,o,c⟩:=h.aH k d hd;refine⟨zR fun e a=>?_,?_⟩
 ·simp only[List.mem_cons,List.not_mem_nil,or_false] at a;rcases a with rfl | rfl | rfl | rfl
  ·exact yV (by rw[Ey aA aA];rfl)
  ·exact yV (by rw[Ey aA aA];rfl)
  ·exact yV (by rw[Ey aA aA];rfl)
  ·refine zR fun e a=>?_;simp only[List.mem_map] at a;obtain⟨f,b,rfl⟩:=a
   have:=c f b
   exact yV (by rw[Ey aA aA];rfl)
 ·refine yV ?_;simp;omega
theorem Wa:Se s=0:=by
 obtain⟨f,c,i⟩:=aBi h;refine zR fun e a=>?_;simp only[Xu,List.mem_cons,List.not_mem_nil,or_false] at a
 have m:=h.nc
 have n:=h.nd
 have j:=h.nr
 have l:=h.nv
 rcases a with rfl | rfl | rfl | rfl | rfl | rfl | rfl | rfl
 ·rw[Dr,if_neg aA];refine zR fun e a=>?_;obtain⟨d,hd,rfl⟩:=List.mem_map.1 a;obtain⟨k,b⟩:=List.getElem?_of_mem hd;exact(aFc h b).2
 ·refine zR fun e a=>?_;obtain⟨d,hd,rfl⟩:=List.mem_map.1 a;obtain⟨k,b⟩:=List.getElem?_of_mem hd;exact aMS h b
 ·rw[By,f];rfl
 ·refine zR fun e a=>?_;obtain⟨d,hd,rfl⟩:=List.mem_map.1 a;obtain⟨k,b⟩:=List.getElem?_of_mem hd;exact aMQ h b
 ·rw[By,c];rfl
 ·refine zR fun e a=>?_;obtain⟨d,hd,rfl⟩:=List.mem_map.1 a
  have:=h.bA d hd
  exact yV (by rw[Ey aA aA];rfl)
 ·refine zR fun e a=>?_;obtain⟨d,hd,rfl⟩:=List.mem_map.1 a;obtain⟨k,b⟩:=List.getElem?_of_mem hd;exact(aFc h b).1
 ·rw[By,i];rfl
end
structure aG.wH(s:aG):Prop where
 aJ:Fits eN.fit s.aJ
 aH:Fits (cH.fit s.aJ.length s.domains.length s.bA.length) s.aH
 nc:s.aJ.length≤9
 nd:s.domains.length≤4
 nr:s.bA.length≤3
 nv:s.aH.length≤4
 Mz:Se s=0
 small:s.small
theorem aG.made.wH{s:aG}(h:s.made):s.wH:=⟨h.aJ,h.aH,h.nc.2,h.nd.2,h.nr.2,h.nv.2,Wa h,Vz h⟩
section
attribute [local irreducible] KC KI KQ
def Od(g:List (List Int))(v:Value)(w w':World):Prop:=∃A m c,v=.tuple #[.slice A m c,iv (fY g).1]∧m=(fY g).2.length∧aM (fresh w w') 1 A m (aR (dR (fY g).2))
theorem Jt.aAM{w w':World}{g:List (List Int)}{y:Ending}(h:Jt w (fY g).2 (fY g).1 y w'):(∃v,y=.returned v∧Od g v w w')∧Below w.heap.size w w':=by
 obtain⟨⟨A,m,c,e,d,b⟩,a⟩:=h;exact⟨⟨_,e,A,m,c,rfl,d,b⟩,a⟩
theorem aMY{k n:Nat}(h:k < n):(aR ((dR (List.range k))++List.replicate (n - k) 0)).set k (iv (k:Int))=aR ((dR (List.range (k+1)))++List.replicate (n - (k+1)) 0):=by
 rw[Wg,List.set_append_right _ _ (by simp[dR])];rw[show k - (dR (List.range k)).length=0 by simp[dR],show n - k=(n - (k+1))+1 by omega,List.replicate_succ,List.set_cons_zero,List.range_succ,aAX,List.append_assoc];rfl
theorem aRA(s:aG)(c cl b:List Nat)(j f d e i tl:List Bool):(sG s c cl b j f d e i tl).length≤2*(c.length+cl.length+b.length):=by
 have h:=fun(a:List Nat) (x y:List Bool)=>List.length_filter_le (qT x y) a
 have o:=h c j e;have p:=h cl f i;have m:=h b d tl;have n:=h b tl d;have l:=h cl.reverse i f;have k:=h c.reverse e j
 rw[List.length_reverse] at l k;simp only[sG,jM,eK,List.length_append,List.length_map];omega
theorem aS4{Y:Nat→Prop}{w:World}{F:Nat→Prop}{e:TypeId}{sz n:Nat}{v:Value}{xs:List Value}(h:(HP.own e sz v n xs).sat F w)(hF:∀b,F b→Y b):∃A c,v=.slice A n c∧aM ⟨w,Y⟩ sz A n xs∧n≤c:=by
 obtain⟨A,c,a,d⟩:=yQ (Y:=Y) h hF;refine⟨A,c,a,d,?_⟩;obtain⟨_,k⟩:=h;rcases k.2 with⟨rfl,l⟩ | ⟨g,f,j,rfl,_,_,i,_⟩
 ·omega
 ·cases a;exact i
set_option maxHeartbeats 1000000 in
theorem aJ7(s:aG)(A1 A2 A3 A4 Fd Fc Fl Td Tc Tl:Option Addr)(n1 k1 n2 k2 n3 k3 n4 k4 Mf Dt Mh Du Mb Ds Kl Cx Km nF Kk Cu:Nat)(fd fc fl td tc tl:List Bool)(w:World)(hW:iJ w s A1 n1 A2 n2 A3 n3 A4 n4)(aNL:Se s=0)(hD3:(fY (kG s)).2.length≤1000000)(hC3:(fY (kH s)).2.length≤1000000)(hDb:∀i∈(fY (kG s)).2,i < n2)(hCb:∀i∈(fY (kH s)).2,i < 1000000)
    (Lw:aM (all w) 1 Fd Mf (bM fd)) (Ww:Mf=fd.length) (Lu:aM (all w) 1 Td Kl (bM td)) (Wn:Kl=td.length) (Lx:aM (all w) 1 Fc Mh (bM fc)) (Wx:Mh=fc.length) (Ip:aM (all w) 1 Tc Km (bM tc)) (Wo:Km=tc.length) (hfl:aM (all w) 1 Fl Mb (bM fl)) (Wv:Mb=fl.length) (Lt:aM (all w) 1 Tl Kk (bM tl)) (Wl:Kk=tl.length):
    Cz 259 #[.agg #[.slice A1 n1 k1,.slice A2 n2 k2,.slice A3 n3 k3,.slice A4 n4 k4],.agg #[.slice Fd Mf Dt,.slice Fc Mh Du,.slice Fl Mb Ds],.agg #[.slice Td Kl Cx,.slice Tc Km nF,.slice Tl Kk Cu]] w (fun y w'=>(∃A c,y=.returned (.slice A (sG s (fY (kG s)).2 (fY (kH s)).2 (List.range n3) fd fc fl td tc tl).length c)∧aM (fresh w w') 4 A (sG s (fY (kG s)).2 (fY (kH s)).2 (List.range n3) fd fc fl td tc tl).length ((sG s (fY (kG s)).2 (fY (kH s)).2 (List.range n3) fd fc fl td tc tl).flatMap dV.cells)∧(sG s (fY (kG s)).2 (fY (kH s)).2 (List.range n3) fd fc fl td tc tl).length≤c)∧Below w.heap.size w w'):=by
  have Ga:=hW.rY
  have hn2:=hW.rX
  have Qp:=hW.uI
  have Iq:=hW.small
  unfold aG.small at Iq;obtain⟨hs1,Ir,hs3,hs4,hs5,hs6⟩:=Iq;refine Ze (vs:=[.agg #[.slice A1 n1 k1,.slice A2 n2 k2,.slice A3 n3 k3,.slice A4 n4 k4],.agg #[.slice Fd Mf Dt,.slice Fc Mh Du,.slice Fl Mb Ds],.agg #[.slice Td Kl Cx,.slice Tc Km nF,.slice Tl Kk Cu]]) func259 rfl ntmps259 (by simp) (St.start w) ?_;dsimp only[List.cons_append,List.nil_append];refine kC ?_;refine kQ (by kernel_rfl) ?_;refine bY fun g1=>?_;refine bY fun g2=>?_;refine bY fun g3=>?_;refine bJ ?_;refine kR ?_;refine eL ?_;refine kC ?_;refine kC ?_;refine kQ (by kernel_rfl) ?_;refine bJ ?_;refine dJ (fun w1 st=>Xt s A1 A2 A3 A4 n1 k1 n2 k2 n3 k3 n4 k4 w1 (hW.le (st.started (by simp)))) ?_;refine bJ ?_;refine kR ?_;refine eL ?_;refine Zd rfl (fun h=>?_) (fun h=>?_)
  ·
    refine kC ?_;refine kQ (by kernel_rfl) ?_;refine bJ ?_;refine kR ?_;refine eL ?_;refine Jk ?_;refine eL ?_;exact absurd aNL h
  ·
    refine En ?_;refine eL ?_;refine kC ?_;refine kQ (by kernel_rfl) ?_;refine bJ ?_;refine kN [(all w)] (Ev (kG s)) (fun w1 st=>aGm s A1 A2 A3 A4 n1 k1 n2 k2 n3 k3 n4 k4 w1 (hW.le (st.started (by simp)))) ?_;rintro _ w1 qda ⟨Ag,cg,rfl,Dm⟩ hf Lq _
    have Dm:=Dm.le hf
    have aSC:=Lq (all w) (by simp)
    clear hf Lq
    refine kN [qda] (Od (kG s)) (fun w1 st=>(Vm Ag _ cg (kG s) w1 (Dm.le (st.le (by simp))) rfl (by simp[kG];omega) (fun l hl=>by
        simp only[kG,List.mem_map] at hl;obtain⟨x,_,rfl⟩:=hl
        split<;>simp)).mono fun y w2 h=>h.aAM) ?_
    rintro _ w1 qd ⟨AD,mD,cD,rfl,hmD,hsD⟩ hf Lq _
    have hsD:=hsD.le hf
    have Lqd:=Lq qda (by simp)
    clear hf Lq Dm;refine bJ ?_;refine bJ ?_;refine bJ ?_;refine bJ ?_;refine bJ ?_;refine kR ?_;refine eL ?_;refine kC ?_;refine kQ (by kernel_rfl) ?_;refine bJ ?_;refine kN [qd] (Ev (kH s)) (fun w1 st=>aG9 s A1 A2 A3 A4 n1 k1 n2 k2 n3 k3 n4 k4 w1 (hW.le (st.started (by simp)))) ?_;rintro _ w1 qca ⟨Ag,cg,rfl,Dm⟩ hf Lq _
    have Dm:=Dm.le hf
    have aHW:=Lq qd (by simp)
    clear hf Lq
    refine kN [qca] (Od (kH s)) (fun w1 st=>(Vm Ag _ cg (kH s) w1 (Dm.le (st.le (by simp))) rfl (by simp[kH];omega) (fun l hl=>by
        simp only[kH,List.mem_map] at hl;obtain⟨x,hx,rfl⟩:=hl
        have:=hs5 x hx;omega)).mono fun y w2 h=>h.aAM) ?_
    rintro _ w1 qc ⟨AC,mC,cC,rfl,hmC,hsC⟩ hf Lq _
    have hsC:=hsC.le hf
    have Lqc:=Lq qca (by simp)
    clear hf Lq Dm;refine bJ ?_;refine bJ ?_;refine bJ ?_;refine bJ ?_;refine bJ ?_;refine kR ?_;refine eL ?_;refine kC ?_;refine kQ (by kernel_rfl) ?_;refine bJ ?_;refine bJ ?_;refine bJ ?_;refine mN 8 (el:=3) (z:=iv 0) (by kernel_rfl) (by kernel_rfl) rfl rfl rfl (by omega) (by omega) (by decide) fun g4=>?_;refine bJ ?_;refine kR ?_;refine eL ?_;refine kC ?_;refine kC ?_;refine kQ (by kernel_rfl) ?_;refine bJ ?_;refine bJ ?_;refine bJ ?_;refine kR ?_;refine eL ?_;refine bT [(36,iv 0),(35,iv n3),(11,.slice (some ⟨g4,0,none⟩) n3 n3),(9,.slice AC mC cC),(7,.slice AD mD cD),(5,pt g3),(4,pt g2),(3,pt g1)] ?_;refine aY (R':=[qc,all w]) [0,1,2,3,4] rfl (by decide) (by simp) ?_;refine yM ?_;refine aC8 (fun m L e R H=>∃k:Nat,k≤n3∧m=n3 - k∧L=[]∧e=[(36,iv k),(35,iv n3),(11,.slice (some ⟨g4,0,none⟩) n3 n3),(9,.slice AC mC cC),(7,.slice AD mD cD),(5,pt g3),(4,pt g2),(3,pt g1)]∧R=[qc,all w]∧H=[HP.aI g4 3 (aR ((dR (List.range k))++List.replicate (n3 - k) 0)),HP.aI g3 138 [.slice Td Kl Cx,.slice Tc Km nF,.slice Tl Kk Cu],HP.aI g2 138 [.slice Fd Mf Dt,.slice Fc Mh Du,.slice Fl Mb Ds],HP.aI g1 30 [.slice A1 n1 k1,.slice A2 n2 k2,.slice A3 n3 k3,.slice A4 n4 k4],sO []]) n3 ⟨0,by omega,rfl,rfl,rfl,rfl,by simp[aR,dR,Value.cells]⟩ fun m L e R H hI=>?_;obtain⟨k,hk,rfl,rfl,rfl,rfl,rfl⟩:=hI;refine kC ?_;refine kQ (by kernel_rfl) ?_;refine bJ ?_;refine kR ?_;refine eL ?_;refine kC ?_;refine Zd rfl (fun h=>?_) (fun h=>?_)
    ·
      refine En ?_;refine eL ?_;refine kC ?_;refine yM ?_;refine kC ?_;refine kQ (by kernel_rfl) ?_;refine bJ ?_;refine bJ ?_;refine kR ?_;refine eL ?_;refine kQ (by kernel_rfl) ?_;refine bJ ?_;refine bJ ?_;refine bJ ?_;refine kd (dat (k) (k)) ?_;refine sQ 0 rfl (by kernel_rfl) rfl rfl rfl (by simp[aR,dR];omega) ?_;dsimp only[List.set];rw[aMY (by omega)];refine kR ?_;refine eL ?_;refine kQ (by kernel_rfl) ?_;refine bJ ?_;refine bJ ?_;refine kR ?_;refine eL ?_;exact bT [(36,iv (k+1)),(35,iv n3),(11,.slice (some ⟨g4,0,none⟩) n3 n3),(9,.slice AC mC cC),(7,.slice AD mD cD),(5,pt g3),(4,pt g2),(3,pt g1)] (Sz (n3 - (k+1)) (by omega) ⟨k+1,by omega,rfl,rfl,rfl,rfl,rfl⟩)
    ·
      refine aC9 ?_;refine eL ?_;refine kC ?_;refine kQ (by kernel_rfl) ?_;refine cQ fun g5=>?_;refine kR ?_;refine eL ?_;refine kC ?_;refine kC ?_;refine dK [qc] [1] [0,2,3,4,5] (by simp) rfl (by decide) (by decide) fun q5 hq5 L5 _=>?_
      have L5:=L5 qc (by simp)
      have hk3:k=n3:=by omega
      have aF1:=rN (n:=n3) (sz:=1) (c:=n3) (hq5 1 _ (by simp) rfl).choose_spec.1 (hq5 1 _ (by simp) rfl).choose_spec.2 (by simp[aR,dR];omega)
      rw[hk3,Nat.sub_self,List.replicate_zero,List.append_nil] at aF1
      have L0:(all w).Le q5:=(((aSC.trans' Lqd).trans' aHW).trans' Lqc).trans' L5
      refine aY (R':=[q5,all w]) [0,1,2,3,4] rfl (by decide) (by simp) ?_;refine kQ (by kernel_rfl) ?_;refine bJ ?_;refine bJ ?_;refine bJ ?_;refine bJ ?_;refine bJ ?_;refine bJ ?_;refine kN [q5] (aIs q5 (sG s (fY (kG s)).2 (fY (kH s)).2 (List.range n3) fd fc fl td tc tl)) (fun w1 st=>aR6 q5 s A1 A2 A3 A4 AD AC (some ⟨g4,0,none⟩) Fd Fc Fl Td Tc Tl n1 k1 n2 k2 n3 k3 n4 k4 mD cD mC cC n3 n3 Mf Dt Mh Du Mb Ds Kl Cx Km nF Kk Cu (fY (kG s)).2 (fY (kH s)).2 (List.range n3) fd fc fl td tc tl w1 (st.le (by simp)) (hW.dom.mono (kU L0) (fun _ _ h=>h)) (by omega) (hsD.le ((aHW.trans' Lqc).trans' L5)) hmD (by omega) hDb (hsC.le L5) hmC (by omega) hCb aF1 (by simp) (by omega) (fun i hi=>by have:=List.mem_range.1 hi;omega) (Lw.le L0) Ww (Lu.le L0) Wn (Lx.le L0) Wx (Ip.le L0) Wo (hfl.le L0) Wv (Lt.le L0) Wl) ?_;rintro _ w1 q6 ⟨g6,rfl,hall⟩ hf L6 _
      have hit:=hall q6 (L6 q5 (by simp)) hf
      refine kR ?_;refine eL ?_;refine yM ?_;refine mH 283 4 ?_;refine nM ?_;generalize hSL:sG s (fY (kG s)).2 (fY (kH s)).2 (List.range n3) fd fc fl td tc tl=SL at hit;refine uS 0 (f:=fun v=>HP.many [HP.own 283 4 v 0 ((SL.take 0).flatMap dV.cells),HP.aI g5 140 [v]]) (sn) rfl ?_;dsimp only[List.set];refine aY (R':=[q6,all w]) [0,4] rfl (by decide) (by simp) ?_;refine bT [(50,.func (.func 270) #[] #[pt g6]),(13,pt g5)] ?_
      refine aC7 (gf:=270) (lb:=[pt g6]) (encs:=oP SL) (p:=q6) rfl (by kernel_rfl) hit (by simp) (fun vs hvs=>?_) (by decide) (fun k=>[(HP.ex fun v=>HP.many [HP.own 283 4 v k ((SL.take k).flatMap dV.cells),HP.aI g5 140 [v]])]) (fun _=>[HP.ex fun(_:Empty)=>cM])
        (fun k vs e1 H1=>∃(g7:Nat) (s:dV),vs=[rT s]∧e1=[(14,pt g7),(13,pt g5)]∧H1=[HP.aI g7 283 s.cells,(HP.ex fun v=>HP.many [HP.own 283 4 v k ((SL.take k).flatMap dV.cells),HP.aI g5 140 [v]])]) rfl ?_ ?_ ?_ ?_
      · simp only[oP,List.mem_map] at hvs
        obtain⟨s,_,rfl⟩:=hvs;rfl
      · intro l2 k vs W1 q X hvs Iq
        obtain⟨s,rfl⟩:∃s,vs=[rT s]:=by
          simp only[oP,List.getElem?_map,Option.map_eq_some_iff] at hvs;obtain⟨s,_,e⟩:=hvs;exact⟨s,e.symm⟩
        dsimp only[List.cons_append,List.nil_append];refine kQ (by kernel_rfl) ?_;refine cQ fun g7=>?_;refine qP 0 rfl rfl rfl (by kernel_rfl) (by simp[rT,dV.cells,Value.cells,Value.oneCell']) (by simp[rT,dV.cells,Value.cells]) ?_;rw[show gD [Value.int .i64 0,iv 0,.int .u32 0,.int .u32 0] 0 (rT s).cells.toList=s.cells by simp[gD,rT,dV.cells,Value.cells]];dsimp only[List.set];refine kR ?_;refine bT [(14,pt g7),(13,pt g5)] ?_;exact aCB (H1:=[HP.aI g7 283 s.cells,(HP.ex fun v=>HP.many [HP.own 283 4 v k ((SL.take k).flatMap dV.cells),HP.aI g5 140 [v]])]) ⟨g7,s,rfl,rfl,rfl⟩
      · rintro l2 k vs W1 q X _ _ hvs Iq ⟨g7,s,rfl,rfl,rfl⟩
        have hsk:SL[k]? =some s:=by
          simp only[oP,List.getElem?_map,Option.map_eq_some_iff] at hvs;obtain⟨s',h,e⟩:=hvs
          have:s'=s:=by
            cases s;cases s';simp[rT,dV.cells] at e;simp[e]
          exact this▸h
        have hkl:=(List.getElem?_eq_some_iff.1 hsk).1
        have aTc:SL.length≤6000000:=by rw[←hSL];refine Nat.le_trans (aRA _ _ _ _ _ _ _ _ _ _) ?_;simp only[List.length_range];omega
        have Wm:((SL.take (k+1)).flatMap dV.cells)=((SL.take k).flatMap dV.cells)++s.cells:=by
          rw[List.take_add_one,hsk];simp
        dsimp only[List.cons_append,List.nil_append];refine yM ?_;refine iQ 1 fun v=>?_;refine bE 1 0 ?_;refine bE 2 1 ?_;refine kQ (by kernel_rfl) ?_;refine lN (by kernel_rfl) rfl (Rd.aI 0 rfl rfl) (by decide) ?_;refine xI 4 (by kernel_rfl) rfl (aV.whole 2 rfl) rfl (by decide) ?_;refine aDh (cs:=s.cells) (el:=283) (sz:=4) (zs:=[iv 0,iv 0,.int .u32 0,.int .u32 0]) (by kernel_rfl) (iH (by kernel_rfl)) (by kernel_rfl) rfl (by decide) (by decide) rfl (by simp[fL,gR,Value.cells,List.range_succ,List.set,dV.cells]) (by decide) fun g8=>?_;refine iL 2 4 24 1 (n':=k+1) (el:=283) (by kernel_rfl) (by kernel_rfl) (by decide) rfl rfl rfl (nH 0 rfl rfl) (by simp[dV.cells,Value.oneCell']) rfl (by omega) (by omega) (by decide) fun A' k'=>?_;dsimp only[List.set];refine sQ 1 rfl (by kernel_rfl) rfl rfl rfl (by simp) ?_;dsimp only[List.set];refine kR ?_;refine aY [2,1,4,5] rfl (by decide) (fun _ hp=>hp) ?_;refine aN 1 0 ?_;refine aN 0 1 ?_;refine uS 0 (f:=fun v=>HP.many [HP.own 283 4 v (k+1) ((SL.take (k+1)).flatMap dV.cells),HP.aI g5 140 [v]]) (.slice A' (k+1) k') (by rw[Wm];rfl) ?_;dsimp only[List.set];refine eL ?_;exact aCA
      rotate_left
      · intro D k hk
        exact Yu 0 rfl fun a=>a.elim
      intro D;dsimp only[List.cons_append,List.nil_append];refine iQ 0 fun v=>?_;refine bE 0 0 ?_;refine bE 1 1 ?_;refine eL ?_;refine kC ?_;refine kQ (by kernel_rfl) ?_;refine bJ ?_;refine bJ ?_;refine kR ?_;refine eL ?_;refine Jk ?_;refine eL ?_;refine dK [] [1] [3] (by simp) rfl (by decide) (by decide) fun qf hqf _ hfr=>?_;obtain⟨Ff,sf,zf⟩:=hqf 1 _ (by simp) rfl;obtain⟨Av,cv,rfl,Wp,hcv⟩:=aS4 (Y:=qf.Z) sf zf;refine aSn (Hs:=[]) rfl rfl fun w1 st=>⟨⟨Av,cv,by simp[oP],?_,by simpa[oP] using hcv⟩,st.below (by simp)⟩
      have hlen:(oP SL).length=SL.length:=by simp[oP]
      rw[hlen,List.take_length] at Wp;exact aM.le Wp (st.nL (by simp) (hfr (by simp) (by simp)))
end
def Xi:Value→Value→Bool
 | .int _ a,.int _ b=>a==b
 | .bool a,.bool b=>a==b
 | _,_=>false
def Ml:List Value→List Value→Bool
 | [],[]=>true
 | x::xs,y::ys=>Xi x y&&Ml xs ys
 | _,_=>false
def Gd(P:Program):List Field→Nat→List Value→List Value→Bool
 | [],_,[],[]=>true
 | f :: fs, i, x :: xs, y :: ys => f.name != "_" && f.offset == i && (match P.underlying f.type, x, y with
   | some (.int _),.int kx _,.int ky _=>decide (kx=ky)
   | some .bool,.bool _,.bool _=>true
   | _,_,_=>false)&&Gd P fs (i+1) xs ys
 | _,_,_,_=>false
section
variable{P:Program}
theorem Uv{t:TypeId}{cs:Array Value}{i:Nat}{v:Value}{d:TypeDesc}(a:P.underlying t=some d)(hd:(∃k,d=.int k)∨d=.bool)(hx:cs[i]? =some v):(part t cs i).run P w=.ok v w:=by
 rcases hd with⟨k,rfl⟩ | rfl<;>simp[part,isAgg,run_underlying a,hx]
theorem aEe(d:Nat)(xs c:Array Value):∀(j:List Field) (i:Nat),Gd P j i (xs.toList.drop i) (c.toList.drop i)=true→(Op.eqFields (d+1) xs c j).run P w=.ok (Ml (xs.toList.drop i) (c.toList.drop i)) w
 | [], i, h => by
  cases hx:xs.toList.drop i with
  | nil=>cases hy:c.toList.drop i with
   | nil=>simp[Op.eqFields,Ml]
   | cons y yr=>rw[hx,hy] at h;simp[Gd] at h
  | cons x xr=>rw[hx] at h;simp[Gd] at h
 | f :: j, i, h => by
  cases hx:xs.toList.drop i with
  | nil=>rw[hx] at h;simp[Gd] at h
  | cons x xr =>
   cases hy:c.toList.drop i with
   | nil=>rw[hx,hy] at h;simp[Gd] at h
   | cons y yr =>
    rw[hx,hy] at h;simp only[Gd,Bool.and_eq_true,bne_iff_ne,beq_iff_eq] at h;obtain⟨⟨⟨t,z⟩,h3⟩,r⟩:=h
    have ex:xs[i]? =some x:=by
     have:(xs.toList.drop i)[0]? =some x:=by rw[hx];rfl
     simpa using this
    have A:c[i]? =some y:=by
     have:(c.toList.drop i)[0]? =some y:=by rw[hy];rfl
     simpa using this
    have n:xr=xs.toList.drop (i+1):=by rw[←List.tail_drop,hx];rfl
    have dy:yr=c.toList.drop (i+1):=by rw[←List.tail_drop,hy];rfl
    subst n;subst dy
    have ih:=aEe d xs c j (i+1) r
    have l:∃u,P.underlying f.type=some u∧((∃k,u=.int k)∨u=.bool)∧(Op.equalIn (d+1) f.type x y).run P w=.ok (Xi x y) w:=by
     split at h3
     ·rename_i k o a B b e
      have:=of_decide_eq_true h3
      subst this;exact⟨_,e,.inl ⟨_,rfl⟩,run_equalIn_int w d f.type o _ a b e⟩
     ·rename_i a b e
      exact⟨_,e,.inr rfl,run_equalIn_bool' w d f.type a b e⟩
     ·cases h3
    obtain⟨u,e,m,p⟩:=l;simp only[Op.eqFields,if_pos t,Sem.run_bind,z,Uv e m ex,Uv e m A,Result.andThen_ok,p,Sem.run_ite,Sem.run_pure,ih,Ml];cases Xi x y<;>simp
variable{rest:List Oper}
def Me(P:Program)(t:TypeId)(xs a:List Value):Bool:=(match P.underlying t with
 | some (.struct fs)=>Gd P fs.toList 0 xs a
 | _=>false)&& !P.stoodInHeld t&& !P.eqGuardType P.depth t
theorem aKr{t:TypeId}{xs a:List Value}(h:Me P t xs a=true):(Op.equal t (.agg xs.toArray) (.agg a.toArray)).run P w=.ok (Ml xs a) w∧∀op x y,(eqGuard op t x y (.agg xs.toArray) (.agg a.toArray)).run P w=.ok () w:=by
 unfold Me at h;simp only[Bool.and_eq_true,Bool.not_eq_true'] at h;obtain⟨⟨b,i⟩,f⟩:=h;refine⟨?_,fun op x y=>run_eqGuard_agg w op t x y _ _ f⟩;split at b
 ·rename_i e d
  have c:P.fieldsOf t=e:=by unfold Program.fieldsOf;rw[d]
  have:=run_equalIn_struct (P:=P) w 9999 t xs.toArray a.toArray (by rw[c];exact d) i
  unfold Op.equal Op.maxDepth;rw[this,c]
  have:=aEe (P:=P) (w:=w) 9998 xs.toArray a.toArray e.toList 0 (by simpa using b)
  simpa using this
 ·cases b
end
structure bL where
 d:List Bool
 c:List Bool
 l:List Bool
def yO(p:Piece)(x:bL)(v:Value):Prop:=∃a i e h b f,v=.agg #[.slice a x.d.length i,.slice e x.c.length h,.slice b x.l.length f]∧
 aM p 1 a x.d.length (bM x.d)∧aM p 1 e x.c.length (bM x.c)∧aM p 1 b x.l.length (bM x.l)
theorem yO.le{p q:Piece}{x:bL}{v:Value}(h:yO p x v)(hl:p.Le q):yO q x v:=by
 obtain⟨a,e,c,j,f,i,d,k,l,b⟩:=h;exact⟨a,e,c,j,f,i,d,k.le hl,l.le hl,b.le hl⟩
def Nz(b:Value→World→World→Prop)(w:World):Ending→World→Prop:=fun y a=>(∃v,y=.returned v∧b v w a)∧Below w.heap.size w a
def iM(l:List Bool)(id:Int)(b:Bool):List Bool:=l.set id.toNat b
theorem Ic(l:List Bool)(id:Int)(b:Bool):(iM l id b).length=l.length:=by simp[iM]
def gA(x:bL)(p:dV):bL:=
 if p.pr=17∧p.msg=4∧p.v≤2 then⟨iM x.d p.id (decide (p.v=1)),x.c,x.l⟩
 else if p.pr=20∧p.msg=7∧p.v≤1 then⟨x.d,iM x.c p.id (decide (p.v=1)),x.l⟩
 else if p.pr=22∧p.msg=4∧p.v≤1 then⟨x.d,x.c,iM x.l p.id (decide (p.v=0))⟩ else x
structure bL.sm(x:bL):Prop where
 d:x.d.length≤1000000
 c:x.c.length≤1000000
 l:x.l.length≤1000000
theorem aGW(x:bL)(p:dV):(gA x p).d.length=x.d.length∧(gA x p).c.length=x.c.length∧(gA x p).l.length=x.l.length:=by
 unfold gA;split
 ·simp[Ic]
 ·split
  ·simp[Ic]
  ·split<;>simp[Ic]
theorem aCo(l:List Bool)(k:Nat)(b:Bool):(bM l).set k (.bool b)=bM (l.set k b):=by simp[bM,List.map_set]
theorem aCp(l:List Bool):(bM l).length=l.length:=by simp[bM]
theorem Nf(l:List Bool):∀u∈bM l,u.oneCell'=true:=by
 intro u a;simp only[bM,List.mem_map] at a;obtain⟨x,_,rfl⟩:=a;rfl
structure dV.ok(p:dV):Prop where
 pr: -9223372036854775808≤p.pr∧p.pr≤9223372036854775807
 msg: -9223372036854775808≤p.msg∧p.msg≤9223372036854775807
 id:0≤p.id∧p.id < 4294967296
 v:0≤p.v∧p.v < 4294967296
structure rM(p:Piece)(s:aG)(A1:Option Addr)(n1:Nat)(A2:Option Addr)(n2:Nat)(A3:Option Addr)(n3:Nat)(A4:Option Addr)(n4:Nat):Prop where
 iA:kJ (fT p) (rQ (fT p)) 73 6 A1 n1 s.aJ
 dom:kJ (fT p) tX 75 3 A2 n2 s.domains
 zC:kJ (fT p) wY 77 1 A3 n3 s.bA
 dev:kJ (fT p) (qO (fT p)) 80 6 A4 n4 s.aH
section
variable{p q:Piece}
theorem rM.le(h:rM p s A1 n1 A2 n2 A3 n3 A4 n4)(hl:p.Le q):rM q s A1 n1 A2 n2 A3 n3 A4 n4:=
 ⟨h.iA.mono (kU hl) (fun _ _=>rQ.mono (kU hl)),h.dom.mono (kU hl) (fun _ _ h=>h),h.zC.mono (kU hl) (fun _ _ h=>h),h.dev.mono (kU hl) (fun _ _=>qO.mono (kU hl))⟩
theorem rM.W(h:rM p s A1 n1 A2 n2 A3 n3 A4 n4)(hl:p.Le (all w))(hs:s.small):iJ w s A1 n1 A2 n2 A3 n3 A4 n4:=⟨(h.le hl).iA,(h.le hl).dom,(h.le hl).zC,(h.le hl).dev,hs⟩
theorem rM.len(h:rM p s A1 n1 A2 n2 A3 n3 A4 n4):n1=s.aJ.length∧n2=s.domains.length∧n3=s.bA.length∧n4=s.aH.length:=by
 obtain⟨⟨_,_,a,_⟩,⟨_,_,b,_⟩,⟨_,_,c,_⟩,⟨_,_,d,_⟩⟩:=h;exact⟨a,b,c,d⟩
theorem uV.P{cs:Array Value}(h:uV (fT p) s cs):∃A1 n1 k1 A2 n2 k2 A3 n3 k3 A4 n4 k4,cs=#[.slice A1 n1 k1,.slice A2 n2 k2,.slice A3 n3 k3,.slice A4 n4 k4]∧rM p s A1 n1 A2 n2 A3 n3 A4 n4:=by
 obtain⟨A1,n1,k1,A2,n2,k2,A3,n3,k3,A4,n4,k4,b,e,d,a,c⟩:=h;exact⟨A1,n1,k1,A2,n2,k2,A3,n3,k3,A4,n4,k4,b,e,d,a,c⟩
end
def allM(s:aG)(x y:bL):List dV:=sG s (List.range s.domains.length) (List.range s.aJ.length) (List.range s.bA.length) x.d x.c x.l y.d y.c y.l
def aHE(l:List dV)(v:Value)(w w':World):Prop:=∃A c,v=.slice A l.length c∧aM (fresh w w') 4 A l.length (l.flatMap dV.cells)∧l.length≤c
theorem aJ8{q qx qy:Piece}{s:aG}{A1 A2 A3 A4:Option Addr}{n1 k1 n2 k2 n3 k3 n4 k4:Nat}{x y:bL}{t B:Value}{w:World}(hS:rM q s A1 n1 A2 n2 A3 n3 A4 n4)(hm:s.made)(H:q.Le (all w))(hx:yO qx x t)(b:qx.Le (all w))(hy:yO qy y B)(a:qy.Le (all w)):
  Cz 259 #[.agg #[.slice A1 n1 k1,.slice A2 n2 k2,.slice A3 n3 k3,.slice A4 n4 k4],t,B] w (Nz (aHE (allM s x y)) w):=by
 obtain⟨o,f,Z⟩:=aBi hm;obtain⟨rfl,rfl,rfl,rfl⟩:=hS.len;obtain⟨M,J,G,D,U,I,rfl,k,r,j⟩:=hx;obtain⟨K,C,N,c2,O,T,rfl,p,n,m⟩:=hy
 have h1:=hm.nc
 have Y:=hm.nd
 have h:=aJ7 s A1 A2 A3 A4 M G U K N O _ k1 _ k2 _ k3 _ k4 _ J _ D _ I _ C _ c2 _ T x.d x.c x.l y.d y.c y.l w (hS.W H (Vz hm)) (Wa hm) (by rw[f];simp;omega) (by rw[o];simp;omega)
  (fun i e=>by rw[f] at e;have:=List.mem_range.1 e;omega) (fun i e=>by rw[o] at e;have:=List.mem_range.1 e;omega)
  (k.le b) rfl (p.le a) rfl (r.le b) rfl (n.le a) rfl (j.le b) rfl (m.le a) rfl
 rw[o,f] at h
 have u:sG s ((0:Int),List.range s.domains.length).2 ((0:Int),List.range s.aJ.length).2 (List.range s.bA.length) x.d x.c x.l y.d y.c y.l=allM s x y:=rfl
 rw[u] at h;clear u;generalize allM s x y=L at h⊢;refine Calls.mono h ?_;rintro z X ⟨⟨A,c,F,R,V⟩,E⟩;exact⟨⟨_,F,⟨A,c,rfl,R,V⟩⟩,E⟩
theorem kJ.vC{α:Type}{p:Piece}{R:α→List Value→Prop}{t:TypeId}{sz n:Nat}{A:Option Addr}{es:List α}(h:kJ (fT p) R t sz A n es){k:Nat}{e:α}(hk:es[k]? =some e):
  ∃b off r,A=some ⟨b,off,none⟩∧p.Z b∧r.length=sz∧R e r∧∀f u,r[f]? =some u→p.w.cell? ⟨b,off+k*sz+f,none⟩=some u:=by
 obtain⟨rows,y,z,m⟩:=h
 have a:k < n:=by
  rw[z];rcases Nat.lt_or_ge k es.length with h | h
  ·exact h
  ·rw[List.getElem?_eq_none h] at hk;cases hk
 obtain⟨b,off,B,j,x⟩:=aM.at_ m a;obtain⟨r,d,i,o⟩:=y.get hk;refine⟨b,off,r,B,j,d,i,fun f u c=>x f u ?_⟩
 have l:f < sz:=by
  rw[←d];rcases Nat.lt_or_ge f r.length with h | h
  ·exact h
  ·rw[List.getElem?_eq_none h] at c;cases c
 rw[o f l,c]
theorem aM9{p:dV}{pr msg:Int}{val:Nat→Int}{a:List Nat}(h:p∈jM pr msg val a):∃i∈a,p=⟨pr,msg,i,val i⟩:=by
 simp only[jM,List.mem_map] at h;obtain⟨i,b,rfl⟩:=h;exact⟨i,b,rfl⟩
theorem aAC(s:aG)(k:Nat):oX s k=0∨oX s k=2:=by unfold oX;split<;>simp
theorem Kq{pr msg:Int}{val:Nat→Int}{a:List Nat}(j:pr=17∨pr=20∨pr=22)(h:msg=4∨msg=7)(d:∀k,val k=0∨val k=1∨val k=2)(hi:∀i∈a,i < 1000):∀p∈jM pr msg val a,p.ok:=by
 intro p c;obtain⟨i,b,rfl⟩:=aM9 c
 have e:=hi i b
 have f:=d i
 exact⟨by dsimp only;omega,by dsimp only;omega,by dsimp only;omega,by dsimp only;omega⟩
theorem aR8{s:aG}(hm:s.made)(x y:bL):∀p∈allM s x y,p.ok:=by
 have h:=hm.nc
 have j:=hm.nd
 have f:=hm.nr
 have c:∀(n:Nat) (fr b:List Bool),n≤9→∀i∈eK (List.range n) fr b,i < 1000:=fun n fr b e i d=>by have:=List.mem_range.1 (List.mem_filter.1 d).1;omega
 have mv:∀(n:Nat) (fr b:List Bool),n≤9→∀i∈eK (List.range n).reverse fr b,i < 1000:=fun n fr b e i d=>by have:=List.mem_range.1 (List.mem_reverse.1 (List.mem_filter.1 d).1);omega
 intro p a;simp only[allM,sG,List.mem_append] at a;rcases a with a | a | a | a | a | a
 ·exact Kq aA aA (fun _=>by omega) (c _ _ _ aA) p a
 ·exact Kq aA aA (fun _=>by omega) (c _ _ _ aA) p a
 ·exact Kq aA aA (fun _=>by omega) (c _ _ _ aA) p a
 ·exact Kq aA aA (fun _=>by omega) (c _ _ _ aA) p a
 ·exact Kq aA aA (fun _=>by omega) (mv _ _ _ aA) p a
 ·exact Kq aA aA (fun k=>by have:=aAC s k;omega) (mv _ _ _ aA) p a
theorem aLo(l:List Bool)(i j:Nat)(b:Bool):(iM l (i:Int) b)[j]? =if i=j then(l[j]?).map (fun _=>b) else l[j]? :=by
 unfold iM;rw[Int.toNat_natCast,List.getElem?_set]
 by_cases h:i=j
 ·subst h;rw[if_pos rfl,if_pos rfl]
  by_cases a:i < l.length
  ·rw[if_pos a,List.getElem?_eq_getElem a];rfl
  ·rw[if_neg a,List.getElem?_eq_none aA];rfl
 ·rw[if_neg h,if_neg h]
theorem Py(b:Bool):∀(a:List Nat) (l:List Bool) (j:Nat),(a.foldl (fun d (i:Nat)=>iM d (i:Int) b) l)[j]? =if j∈a then(l[j]?).map (fun _=>b) else l[j]?
 | [],l,j=>by simp
 | i :: a, l, j => by
  rw[List.foldl_cons,Py b a,aLo]
  by_cases f:i=j
  ·subst f
   by_cases c:i∈a<;>simp[c]<;>(cases l[i]? <;>rfl)
  ·have h3:¬j=i:=fun e=>f e.symm
   by_cases c:j∈a<;>simp[c,f,h3]
theorem Rc{val:Nat→Int}{b:Bool}(h:∀k,val k≤2∧decide (val k=1)=b):∀(a:List Nat) (x:bL),(jM 17 4 val a).foldl gA x=⟨a.foldl (fun d (i:Nat)=>iM d (i:Int) b) x.d,x.c,x.l⟩
 | [],x=>rfl
 | i :: a, x => by
  have f:=h i
  have e:gA x ⟨17,4,(i:Int),val i⟩=⟨iM x.d (i:Int) b,x.c,x.l⟩:=by
   unfold gA;dsimp only;rw[if_pos ⟨rfl,rfl,f.1⟩,f.2]
  show(jM 17 4 val a).foldl gA (gA x ⟨17,4,(i:Int),val i⟩)=_
  rw[e,Rc h a];rfl
theorem Re{val:Nat→Int}{b:Bool}(h:∀k,val k≤1∧decide (val k=1)=b):∀(a:List Nat) (x:bL),(jM 20 7 val a).foldl gA x=⟨x.d,a.foldl (fun d (i:Nat)=>iM d (i:Int) b) x.c,x.l⟩
 | [],x=>rfl
 | i :: a, x => by
  have f:=h i
  have e:gA x ⟨20,7,(i:Int),val i⟩=⟨x.d,iM x.c (i:Int) b,x.l⟩:=by
   unfold gA;dsimp only;rw[if_neg aA,if_pos ⟨rfl,rfl,f.1⟩,f.2]
  show(jM 20 7 val a).foldl gA (gA x ⟨20,7,(i:Int),val i⟩)=_
  rw[e,Re h a];rfl
theorem Rb{val:Nat→Int}{b:Bool}(h:∀k,val k≤1∧decide (val k=0)=b):∀(a:List Nat) (x:bL),(jM 22 4 val a).foldl gA x=⟨x.d,x.c,a.foldl (fun d (i:Nat)=>iM d (i:Int) b) x.l⟩
 | [],x=>rfl
 | i :: a, x => by
  have f:=h i
  have e:gA x ⟨22,4,(i:Int),val i⟩=⟨x.d,x.c,iM x.l (i:Int) b⟩:=by
   unfold gA;dsimp only;rw[if_neg aA,if_neg aA,if_pos ⟨rfl,rfl,f.1⟩,f.2]
  show(jM 22 4 val a).foldl gA (gA x ⟨22,4,(i:Int),val i⟩)=_
  rw[e,Rb h a];rfl
theorem xV{n i:Nat}{a b:List Bool}:i∈eK (List.range n) a b↔i < n∧qT a b i=true:=by simp[eK]
theorem Lg{n i:Nat}{a b:List Bool}:i∈eK (List.range n).reverse a b↔i < n∧qT a b i=true:=by simp[eK]
theorem aAo{n:Nat}{a b:List Bool}{up l:List Nat}(t:a.length=n)(r:b.length=n)(o:∀i,i∈up↔i < n∧qT a b i=true)(hd:∀i,i∈l↔i < n∧qT b a i=true):
  l.foldl (fun d (i:Nat)=>iM d (i:Int) false) (up.foldl (fun d (i:Nat)=>iM d (i:Int) true) a)=b:=by
 apply List.ext_getElem?;intro j;rw[Py,Py];rcases Nat.lt_or_ge j n with h | h
 ·have c:=o j
  have e:=hd j
  have m:a[j]? =some (a[j]' aA):=List.getElem?_eq_getElem _
  have p:b[j]? =some (b[j]' aA):=List.getElem?_eq_getElem _
  simp only[qT,hasB,m,p,Option.getD_some] at c e⊢;cases k:a[j]' aA<;>cases f:b[j]' aA<;>simp[k,f,h,c,e] at c e⊢ <;>simp[c,e]
 ·rw[List.getElem?_eq_none aA,List.getElem?_eq_none aA];simp
structure bL.of(x:bL)(s:aG):Prop where
 d:x.d.length=s.domains.length
 c:x.c.length=s.aJ.length
 l:x.l.length=s.bA.length
theorem aOq{s:aG}{x y:bL}(hx:x.of s)(hy:y.of s):(allM s x y).foldl gA x=y:=by
 unfold allM sG;simp only[List.foldl_append]
 rw[Rc (val:=fun _=>1) (b:=true) (fun _=>⟨aC,rfl⟩),Re (val:=fun _=>1) (b:=true) (fun _=>⟨aC,rfl⟩),Rb (val:=fun _=>0) (b:=true) (fun _=>⟨aC,rfl⟩),Rb (val:=fun _=>1) (b:=false) (fun _=>⟨aC,rfl⟩),Re (val:=fun _=>0) (b:=false) (fun _=>⟨aC,rfl⟩),
  Rc (val:=oX s) (b:=false) (fun k=>by have:=aAC s k;exact⟨aA,decide_eq_false aA⟩)]
 dsimp only;rw[aAo hx.d hy.d (fun i=>xV) (fun i=>Lg),aAo hx.c hy.c (fun i=>xV) (fun i=>Lg),aAo hx.l hy.l (fun i=>xV) (fun i=>xV)]
structure AL where
 d:Nat
 t:TypeId
 cs:List Value
 val:Nat→Value
def sA(al:Nat→AL)(g:Nat→Nat)(ds:List Nat)(e:Env):Env:=ds.map (fun i=>((al i).d,(al i).val (g i)))++e
def vK(al:Nat→AL)(g:Nat→Nat)(ds:List Nat)(H:List HP):List HP:=ds.map (fun i=>HP.aI (g i) (al i).t (al i).cs)++H
def lU(ds:List Nat)(l:Array Bool):Array Bool:=ds.foldr (fun i a=>a.setIfInBounds i true) l
def Ht:List Nat→List (List Nat)
 | []=>[[]]
 | i::l=>(Ht l).map (i:: ·)++Ht l
theorem Kn(p:Nat→Bool):∀l:List Nat,l.filter p∈Ht l
 | []=>by simp[Ht]
 | i::l=>by
  unfold Ht;rw[List.filter_cons];split
  ·exact List.mem_append_left _ (List.mem_map_of_mem (Kn p l))
  ·exact List.mem_append_right _ (Kn p l)
def aLa(ops:Array Oper)(a:List Nat)(ex:List (List Nat))(listed:Array Bool):Bool:=
 (Ht a).all fun sub=>ex.contains sub||(!(Region.ready .any ops (lU sub listed)).isEmpty&&(Region.ready .any ops (lU sub listed)).all fun j=>a.contains j&& !sub.contains j)
theorem Vy{c b:List Nat}(h:c.Perm b)(l:Array Bool):lU c l=lU b l:=by
 induction h with
 | nil=>rfl
 | cons x _ ih=>show(lU _ l).setIfInBounds x true=_;rw[ih];rfl
 | swap x y s=>
  show((lU s l).setIfInBounds x true).setIfInBounds y true=((lU s l).setIfInBounds y true).setIfInBounds x true
  by_cases a:x=y
  ·rw[a]
  ·exact Array.setIfInBounds_comm _ _ a
 | trans _ _ h1 h2=>exact h1.trans h2
section
variable{P:Program}
variable{al:Nat→AL}{g g':Nat→Nat}
theorem Xc(k:Nat)(v:Value)(e:Env)(t:Nat):Env.get ((k,v)::e) t=if k=t then some v else e.get t:=by
 show(match Nat.beq k t with | true=>some v | false=>Env.get e t)=_
 by_cases h:k=t
 ·subst h;rw[if_pos rfl,Nat.beq_refl]
 ·rw[if_neg h];cases a:Nat.beq k t with
  | true=>exact absurd (Nat.eq_of_beq_eq_true a) h
  | false=>rfl
theorem aGc{f j:List Nat}(h:f.Perm j)(b:(f.map fun i=>(al i).d).Nodup)(t:Nat):(sA al g f e).get t=(sA al g j e).get t:=by
 induction h with
 | nil=>rfl
 | cons x _ ih=>
  show Env.get ((_,_)::sA al g _ e) t=Env.get ((_,_)::sA al g _ e) t
  rw[Xc,Xc,ih (List.nodup_cons.1 (show((al x).d::List.map (fun i=>(al i).d) _).Nodup from b)).2]
 | swap x y s=>
  show Env.get ((_,_)::(_,_)::sA al g s e) t=Env.get ((_,_)::(_,_)::sA al g s e) t
  have c:(al y).d≠(al x).d:=fun l=>(List.nodup_cons.1 (show((al y).d::(al x).d::List.map (fun i=>(al i).d) s).Nodup from b)).1 (by rw[l];exact List.mem_cons_self)
  simp only[Xc]
  by_cases a:(al x).d=t
  ·rw[if_pos a,if_neg (fun k=>c (k.trans a.symm)),if_pos a]
  ·rw[if_neg a,if_neg a]
 | trans a k i1 i2=>exact(i1 b).trans (i2 ((a.map _).nodup_iff.1 b))
theorem aFy{e d:List Nat}(h:e.Perm d):∀a:List HP,St w0 R (a++vK al g e H) w→St w0 R (a++vK al g d H) w:=by
 induction h with
 | nil=>exact fun _ h=>h
 | cons x _ ih=>
  intro a st
  have:=ih (a++[HP.aI (g x) (al x).t (al x).cs]) (by rw[List.append_assoc];exact st)
  rw[List.append_assoc] at this;exact this
 | swap x y s =>
  intro a st;refine st.weak (fun _ f=>f) (fun i=>if i=a.length then a.length+1 else if i=a.length+1 then a.length else i) (fun i j _ _ c=>?_) (fun i p b=>?_)
  ·split at c<;>split at c<;>(try split at c)<;>(try split at c)<;>omega
  ·change (a++HP.aI (g x) (al x).t (al x).cs::HP.aI (g y) (al y).t (al y).cs::vK al g s H)[i]? =some p at b
   show(a++HP.aI (g y) (al y).t (al y).cs::HP.aI (g x) (al x).t (al x).cs::vK al g s H)[_]? =some p
   rcases Nat.lt_or_ge i a.length with h | h
   ·rw[if_neg aA,if_neg aA,List.getElem?_append_left h]
    rwa [List.getElem?_append_left h] at b
   ·obtain⟨k,rfl⟩:∃k,i=a.length+k:=⟨i - a.length,aA⟩
    rw[List.getElem?_append_right aA,Nat.add_sub_cancel_left] at b
    match k,b with
    | 0,b=>
     rw[if_pos aA,List.getElem?_append_right aA,Nat.add_sub_cancel_left];exact b
    | 1,b=>
     rw[if_neg aA,if_pos rfl,List.getElem?_append_right aA,Nat.sub_self];exact b
    | k+2,b=>
     rw[if_neg aA,if_neg aA,List.getElem?_append_right aA,Nat.add_sub_cancel_left];exact b
 | trans _ _ i1 i2=>exact fun a st=>i2 a (i1 a st)
def Zj(P:Program)(N:cO)(e:Env)(o:Oper)(x:AL):Prop:=∀a w,eH N e a→(execOp a.eval o).run P w=.ok (.value (x.val w.heap.size)) (w.alloc (.cells x.cs.toArray x.t))
theorem aMM{t ty:TypeId}{d:Nat}{pos:String}{aL:Array Edge}{cs:List Value}(f:Ba P t cs):Zj P N e ⟨some d,.alloc t,ty,pos,aL,none⟩ ⟨d,t,cs,fun g=>.pointer (some ⟨g,0,none⟩)⟩:=fun a w h=>by
 obtain⟨i,z,c,b,rfl⟩:=f;simp[execOp,Instr.alloc,zeroValue,typeInfo,c,b,newVar,newRow]
theorem Lm(b:Nat){x y:Operand}{t el ty:TypeId}{d n:Nat}{z:Value}{pos:String}{aL:Array Edge}{kd pT:IntKind}(r:P.underlying t=some (.slice el))(u:(P.info? el).map (fun i=>(i.zero,i.size,i.bytes))=some (some z,1,b))(c:z.cells=#[z])(hx:e.ev x=some (.int kd (n:Int)))(hy:e.ev y=some (.int pT (n:Int)))
  (A:b*n≤281474976710656) (m:(n:Int)≤9223372036854775807):Zj P N e ⟨some d,.makeSlice t x y,ty,pos,aL,none⟩ ⟨d,el,List.replicate n z,fun g=>.slice (some ⟨g,0,none⟩) n n⟩:=fun a w l=>by
 obtain⟨i,p,h⟩:=Option.map_eq_some_iff.1 u;simp only[Prod.mk.injEq] at h;obtain⟨k,f,rfl⟩:=h
 have:=run_make (P:=P) w t el i z r p k kd pT n n aA (Int.le_refl _) (by rw[←Int.natCast_mul];omega) m
 have o:madeCells z.cells (n*i.size)=(List.replicate n z).toArray:=by
  rw[f,Nat.mul_one,c];unfold madeCells;apply Array.ext
  ·simp
  ·intro j k f;simp;rw[Nat.mod_one];rfl
 simp only[Int.toNat_natCast,o] at this;simp only[execOp,l.ev hx,l.ev hy,Sem.run_bind,this,Result.andThen_ok,Sem.run_pure]
structure Ck(P:Program)(N:cO)(ops:Array Oper)(e:Env)(x:AL)(i:Nat):Prop where
 ok:∃o,ops[i]? =some o∧o.guard=none∧o.dst=some x.d∧Zj P N e o x
 lt:x.d < N.n
 new:e.get x.d=none
theorem Ck.of{o:Oper}{x:AL}{i:Nat}(f:ops[i]? =some o)(h:o.guard=none)(h3:o.dst=some x.d)(b:Zj P N e o x)(a:x.d < N.n)(c:e.get x.d=none):Ck P N ops e x i:=⟨⟨o,f,h,h3,b⟩,a,c⟩
theorem aOK{ds:List Nat}(a:∀i∈ds,e.get (al i).d=none){t:Nat}{v:Value}(h:e.get t=some v):(sA al g ds e).get t=some v:=by
 induction ds with
 | nil=>exact h
 | cons i ds ih=>
  show Env.get ((_,_)::sA al g ds e) t=some v
  rw[Xc,if_neg (fun b=>by have:=a i aD;rw[b,h] at this;cases this)];exact ih fun j c=>a j (by simp[c])
theorem eH.aOL{a:Act}{ds:List Nat}(b:∀i∈ds,e.get (al i).d=none)(h:eH N (sA al g ds e) a):eH N e a:=⟨h.size,h.defers,fun t v c=>h.get t v (aOK b c)⟩
theorem St.unA{ds:List Nat}(h:St w0 R (vK al g ds H) w):St w0 R H w:=h.weak (fun _ a=>a) (fun i=>i+ds.length) (fun i j _ _ c=>by omega) (fun i p b=>by
 show(ds.map _++H)[i+ds.length]? =some p
 rw[List.getElem?_append_right aD]
 simpa using b)
theorem aH7(b:List Nat)(ex:List (List Nat))(al:Nat→AL)(K:∀i∈b,Ck P N ops e (al i) i)(hd:(b.map fun i=>(al i).d).Nodup)(hr:aLa ops b ex listed=true)(hS:∀w,St w0 R H w→St w0 R0 H0 w)
  (k:∀sub∈Ht b,ex.contains sub=true→∀g:Nat→Nat,XA P N w0 ops Q R0 H0 m (fuel+(b.length - sub.length)) (lU sub listed) (sA al g sub e) R (vK al g sub H)):XA P N w0 ops Q R0 H0 m (fuel+b.length) listed e R H:=by
 have G:b.Nodup:=(List.pairwise_map.1 hd).imp fun h e=>h (by rw[e])
 have T:∀(n:Nat) (f:List Nat) (g:Nat→Nat),f.Nodup→(∀i∈f,i∈b)→f.length+n=b.length→XA P N w0 ops Q R0 H0 m (fuel+n) (lU f listed) (sA al g f e) R (vK al g f H):=by
  intro n
  induction n with
  | zero =>
   intro f g O u hl
   have c:(b.filter fun i=>f.contains i).Perm f:=by
    rw[List.perm_iff_count];intro a;rw[(G.sublist List.filter_sublist).count,O.count]
    by_cases y:a∈f
    ·rw[if_pos y,if_pos (by simp[y,u a y])]
    ·rw[if_neg y,if_neg (by simp[y])]
   have E:=c.length_eq
   have D:(b.filter fun i=>f.contains i)=b:=List.filter_sublist.eq_of_length aA
   have r:=List.all_eq_true.1 hr _ (Kn (fun i=>f.contains i) b)
   rw[Bool.or_eq_true] at r;rcases r with A | A
   ·have h:=k _ (Kn _ b) A g
    rw[Vy c,show fuel+(b.length - (b.filter fun i=>f.contains i).length)=fuel+0 by omega] at h;exact fun up a w l st=>h up a w ⟨l.size,l.defers,fun t v ht=>l.get t v (by rw[←aGc c (by rw[D];exact hd)];exact ht)⟩ (aFy c.symm [] st)
   ·exfalso;rw[Bool.and_eq_true,List.all_eq_true] at A;obtain⟨C,M⟩:=A;rw[D] at C M;cases J:Region.ready .any ops (lU b listed) with
    | nil=>rw[J] at C;cases C
    | cons j js=>
     rw[J] at M
     have:=M j aD
     simp at this
  | succ n ih =>
   intro f g O u hl
   have c:(b.filter fun i=>f.contains i).Perm f:=by
    rw[List.perm_iff_count];intro a;rw[(G.sublist List.filter_sublist).count,O.count]
    by_cases y:a∈f
    ·rw[if_pos y,if_pos (by simp[y,u a y])]
    ·rw[if_neg y,if_neg (by simp[y])]
   have E:=c.length_eq
   have r:=List.all_eq_true.1 hr _ (Kn (fun i=>f.contains i) b)
   rw[Bool.or_eq_true] at r;rcases r with A | A
   ·have h:=k _ (Kn _ b) A g
    rw[Vy c,show fuel+(b.length - (b.filter fun i=>f.contains i).length)=fuel+(n+1) by omega] at h
    have V:((b.filter fun i=>f.contains i).map fun i=>(al i).d).Nodup:=hd.sublist (List.filter_sublist.map _)
    exact fun up a w l st=>h up a w ⟨l.size,l.defers,fun t v ht=>l.get t v (by rw[←aGc c V];exact ht)⟩ (aFy c.symm [] st)
   ·rw[Bool.and_eq_true,List.all_eq_true,Vy c] at A;obtain⟨C,M⟩:=A;intro up a w l st
    show Hl P ops Q (St w0 R0 H0) m ((fuel+n)+1) (lU f listed) a w
    refine⟨(fun h=>by rw[h] at C;exact absurd C aC),fun j hj=>?_⟩
    have x:=M j hj
    simp only[Bool.and_eq_true,Bool.not_eq_true',List.contains_eq_mem,decide_eq_true_eq,decide_eq_false_iff_not,List.mem_filter,not_and] at x
    have B:j∉f:=x.2 x.1
    obtain⟨⟨o,ho,hog,hod,hmk⟩,Z,hnew⟩:=K j x.1
    have L:=hmk a w (l.aOL fun i p=>(K i (u i p)).new)
    let z:Nat→Nat:=fun i=>if i=j then w.heap.size else g i
    have X:sA al z (j::f) e=((al j).d,(al j).val w.heap.size)::sA al g f e:=by
     show((al j).d,(al j).val (z j))::(f.map _++e)=_
     rw[show z j=w.heap.size from if_pos rfl]
     congr 1
     unfold sA
     congr 1
     refine List.map_congr_left fun i p=>?_;rw[show z i=g i from if_neg (fun U:i=j=>B (U▸p))]
    have Y:vK al z (j::f) H=HP.aI w.heap.size (al j).t (al j).cs::vK al g f H:=by
     show HP.aI (z j) _ _::(f.map _++H)=_
     rw[show z j=w.heap.size from if_pos rfl]
     congr 1
     unfold vK
     congr 1
     refine List.map_congr_left fun i p=>?_;rw[show z i=g i from if_neg (fun U:i=j=>B (U▸p))]
    have I:St w0 R (vK al z (j::f) H) (w.alloc (.cells (al j).cs.toArray (al j).t)):=by
     rw[Y];exact st.new (Ng w _) (aFH w _ _)
    have h:=ih (j::f) z (List.nodup_cons.2 ⟨B,O⟩) (fun i p=>by
     rcases List.mem_cons.1 p with rfl | p
     ·exact x.1
     ·exact u i p) (by simp only[List.length_cons];omega)
    rw[X] at h
    have F:=h (up.lS hj) (a.put (some (al j).d) ((al j).val w.heap.size)) _ (l.put Z _) I
    unfold wpOp;simp only[ho]
    have hw:Region.wanted o (yielded ops a.tmps)=true:=by simp[Region.wanted,hog]
    simp only[hw,if_true,Oper.wp,L,Oper.upon,hod];exact .inl ⟨fun _=>hS _ I.unA,F⟩
 have:=T b.length [] (fun _=>0) List.nodup_nil (fun i p=>by cases p) aD
 exact this
end
def kY(s:aG):Nat→Nat→List Nat
 | 0,_=>[]
 | k + 1, c => match s.aJ[c]? with
  | some x=>c::(match x.src with
   | []=>[]
   | f::_=>kY s k f.toNat)
  | none=>[]
def eW(s:aG)(c:Nat):List Nat:=kY s s.aJ.length c
theorem aCj(s:aG):∀(k c:Nat),∀i∈kY s k c,i < s.aJ.length
 | 0,c,i,h=>by simp[kY] at h
 | k + 1, c, i, h => by
  unfold kY at h;cases a:s.aJ[c]? with
  | none=>rw[a] at h;simp at h
  | some x =>
   rw[a] at h;dsimp only at h
   have hlt:=(List.getElem?_eq_some_iff.1 a).1
   cases b:x.src with
   | nil=>rw[b] at h;simp at h;omega
   | cons f fs=>
    rw[b] at h;rcases List.mem_cons.1 h with rfl | h
    ·exact hlt
    ·exact aCj s k _ i h
theorem Xw(s:aG):∀(k c:Nat),(kY s k c).length≤k
 | 0,c=>by simp[kY]
 | k + 1, c => by
  unfold kY;split
  ·rename_i x hx
   split
   ·simp
   ·rename_i f a hs
    have:=Xw s k f.toNat
    simp only[List.length_cons];omega
  ·simp
theorem aQD{s:aG}{k c:Nat}{x:eN}(h:s.aJ[c]? =some x):kY s (k+1) c=c::(match x.src with
      | []=>[]
      | f::_=>kY s k f.toNat):=by
  show(match s.aJ[c]? with | some x=>_ | none=>_)=_
  rw[h]
def Ud(s:aG):Nat→Nat→List Nat
 | 0,_=>[]
 | k+1,d=>match s.domains[d]? with
  | some x=>d::(if x.above= -1 then[] else Ud s k x.above.toNat)
  | none=>[]
def Cr(s:aG)(d:Nat):List Nat:=Ud s (d+1) d
def Er(s:aG):Int→List Nat→Prop
 | d,[]=>d= -1
 | d,i::r=>d=(i:Int)∧∃x,s.domains[i]? =some x∧Er s x.above r
theorem aD6{s:aG}(hm:s.made):∀(k d:Nat),d < k→d < s.domains.length→Er s d (Ud s k d)
 | k + 1, d, hk, hd => by
  have hx:s.domains[d]? =some (s.domains[d]'hd):=List.getElem?_eq_getElem _
  have c:=(hm.domains d _ hx).1
  show Er s d (match s.domains[d]? with | some x=>d::(if x.above= -1 then[] else Ud s k x.above.toNat) | none=>[])
  rw[hx];refine⟨rfl,_,hx,?_⟩
  by_cases a:(s.domains[d]'hd).above= -1
  ·rw[if_pos a];exact a
  ·rw[if_neg a]
   have b:((s.domains[d]'hd).above.toNat:Int)=(s.domains[d]'hd).above:=by omega
   have:=aD6 hm k (s.domains[d]'hd).above.toNat aA aA
   rwa [b] at this
theorem aAl{s:aG}(hm:s.made){d:Nat}(hd:d < s.domains.length):Er s d (Cr s d):=aD6 hm _ _ aA hd
theorem Er.in_{s:aG}:∀{l:List Nat} {d:Int},Er s d l→∀i∈l,i < s.domains.length
 | [],_,_,i,h=>by cases h
 | j::l,_,⟨_,x,hx,hr⟩,i,h=>by
  rcases List.mem_cons.1 h with rfl | h
  ·exact(List.getElem?_eq_some_iff.1 hx).1
  ·exact hr.in_ i h
theorem Er.up{s:aG}:∀{l:List Nat} {d:Int},Er s d l→∀i∈l,∀x,s.domains[i]? =some x→0≤x.above→x.above.toNat∈l
 | [],_,_,i,h,_,_,_=>by cases h
 | j :: l, _, ⟨_, y, hy, hr⟩, i, h, x, hx, h0 => by
  rcases List.mem_cons.1 h with rfl | h
  ·rw[hy] at hx;cases hx;cases l with
   | nil=>have a:y.above= -1:=hr;omega
   | cons k l=>
    have a:y.above=(k:Int):=hr.1
    rw[a];simp
  ·exact List.mem_cons_of_mem _ (hr.up i h x hx h0)
def qU(a:List Nat)(l:List Bool):List Bool:=a.foldl (fun d (i:Nat)=>iM d (i:Int) true) l
theorem aAG(a:List Nat)(l:List Bool):(qU a l).length=l.length:=by
 unfold qU
 induction a generalizing l with
 | nil=>rfl
 | cons i a ih=>rw[List.foldl_cons,ih,Ic]
theorem aE1(a:List Nat)(l:List Bool)(j:Nat)(hj:j < l.length):(qU a l)[j]?.getD false=(decide (j∈a)||l[j]?.getD false):=by
 unfold qU;rw[Py,List.getElem?_eq_getElem hj]
 by_cases h:j∈a<;>simp[h]
def nG(s:aG)(i:Nat):Bool:=match s.aJ[i]? with
 | some c=>decide (c.kind=112∨c.kind=103)
 | none=>false
def dI(s:aG):bL:=⟨List.replicate s.domains.length false,List.replicate s.aJ.length false,List.replicate s.bA.length false⟩
def Kh(s:aG)(w:bL)(x:cH):bL:=⟨qU (Cr s x.domain.toNat) w.d,qU ((eW s x.clock.toNat).filter (nG s)) w.c,iM w.l x.reset true⟩
def jL(s:aG)(act:List Bool):Nat→bL
 | 0=>dI s
 | j+1=>if hasB act j then(match s.aH[j]? with
  | some x=>Kh s (jL s act j) x
  | none=>jL s act j) else jL s act j
def eX(s:aG)(act:List Bool):bL:=jL s act s.aH.length
theorem Cp(s:aG)(act:List Bool):∀j,(jL s act j).of s
 | 0=>⟨by simp[jL,dI],by simp[jL,dI],by simp[jL,dI]⟩
 | j + 1 => by
  have ih:=Cp s act j
  unfold jL;split
  ·split
   ·exact⟨by rw[Kh,aAG];exact ih.d,by rw[Kh,aAG];exact ih.c,by rw[Kh,Ic];exact ih.l⟩
   ·exact ih
  ·exact ih
theorem aAi{s:aG}{act:List Bool}{j:Nat}{x:cH}(hx:s.aH[j]? =some x)(a:hasB act j=true):jL s act (j+1)=Kh s (jL s act j) x:=by
 show(if hasB act j then _ else _)=_
 rw[if_pos a,hx]
theorem Ow{s:aG}{act:List Bool}{j:Nat}(a:hasB act j=false):jL s act (j+1)=jL s act j:=by
 show(if hasB act j then _ else _)=_
 rw[if_neg (by rw[a];decide)]
structure aG.dF(s:aG):Prop where
 t:s.wH
 domains:Fits Dom.fit s.domains
 bA:∀r∈s.bA,0≤r∧r≤3
theorem aG.made.dF{s:aG}(h:s.made):s.dF:=⟨h.wH,h.domains,h.bA⟩
structure eE where
 on:Bool
 left:Int
def wT(c:eN):eE:=⟨false,if c.kind=112 then c.lock else 0⟩
def byF(c:eN):Int:=if c.kind=100 then c.div else 0
def pQ(c:eN)(x:eE):Bool:=if c.kind=112 then x.on&&decide (x.left=0) else if c.kind=103 then x.on else true
def Oy(s:aG)(st:List eE)(i:Nat):Bool:=match s.aJ[i]?,st[i]? with
 | some c,some x=>pQ c x
 | _,_=>false
def runs(s:aG)(st:List eE)(i:Nat):Bool:=(eW s i).all (Oy s st)
theorem aCk{s:aG}(hf:Fits eN.fit s.aJ):∀(c k:Nat),c < k→kY s k c=kY s (c+1) c:=by
 intro c
 induction c using Nat.strongRecOn with
 | _ c ih =>
  intro k h;obtain⟨k,rfl⟩:=Nat.exists_eq_add_of_lt h;rw[show c+k+1=(c+k)+1 from rfl];unfold kY;cases e:s.aJ[c]? with
  | none=>rfl
  | some x =>
   dsimp only;cases d:x.src with
   | nil=>rfl
   | cons f fs=>
    have b:=(hf c x e).1 f (by rw[d];simp)
    have a:f.toNat < c:=by omega
    dsimp only;rw[ih f.toNat a (c+k) aA,ih f.toNat a c a]
theorem Jf{s:aG}(hf:Fits eN.fit s.aJ){i:Nat}{c:eN}(a:s.aJ[i]? =some c):eW s i=i::(match c.src with
  | []=>[]
  | f::_=>eW s f.toNat):=by
 have b:i < s.aJ.length:=(List.getElem?_eq_some_iff.1 a).1
 unfold eW;rw[aCk hf i _ b];rw[kY,a];dsimp only;cases e:c.src with
 | nil=>rfl
 | cons f fs=>
  have d:=(hf i c a).1 f (by rw[e];simp)
  dsimp only;rw[aCk hf f.toNat i aA,aCk hf f.toNat s.aJ.length aA]
theorem aA4{s:aG}(hf:Fits eN.fit s.aJ){st:List eE}{i:Nat}{c:eN}{x:eE}(a:s.aJ[i]? =some c)(hx:st[i]? =some x):runs s st i=(pQ c x&&(match c.src with
  | []=>true
  | f::_=>runs s st f.toNat)):=by
 unfold runs;rw[Jf hf a,List.all_cons]
 have:Oy s st i=pQ c x:=by unfold Oy;rw[a,hx]
 rw[this];cases c.src<;>rfl
def bO(n:Nat)(i:Int):Bool:=decide (0≤i∧i < (n:Int))
def oG(s:aG)(st:List eE)(i:Int):Bool:=bO s.aJ.length i&&runs s st i.toNat
def Fs(c:eN)(x:eE)(b:Bool):eE:=⟨b,if c.kind=112∧b=false then c.lock else x.left⟩
def gL(s:aG)(st:List eE)(i:Int)(b:Bool):Int×List eE:=
 if bO s.aJ.length i=false then(4,st) else match s.aJ[i.toNat]?,st[i.toNat]? with
 | some c,some x=>if c.kind≠112∧c.kind≠103 then(1,st) else(0,st.set i.toNat (Fs c x b))
 | _,_=>(4,st)
def Fh(c:eN):Nat:=(c.src.headD 0).toNat
def uC(s:aG)(st:List eE)(c:eN)(x:eE):eE:=
 if c.kind=112∧x.on=true then(if runs s st (Fh c)=false then⟨true,c.lock⟩ else if 0 < x.left then⟨true,x.left - 1⟩ else x) else x
def lD(s:aG)(st:List eE):List eE:=List.zipWith (uC s st) s.aJ st
structure qF(s:aG)(st:List eE):Prop where
 len:st.length=s.aJ.length
 left:∀x∈st,0≤x.left∧x.left≤3
structure fH where
 phase:Int
 left:Int
 kept:Bool
 keep:Bool
def wN:fH:=⟨48,0,false,false⟩
def Dy(x:fH):Bool:=decide (x.phase=48∨x.phase=116)
def qV(st:List fH)(d:Int):Int:=if bO st.length d then(st[d.toNat]?.map (·.phase)).getD 0 else 0
def Eh(st:List fH)(a:Int):Bool:=decide (a= -1)||decide ((st[a.toNat]?.map (·.phase)).getD 0=49)
def qS(s:aG)(st:List fH)(d:Int):Int×List fH:=
 if bO st.length d=false then(4,st) else match s.domains[d.toNat]?,st[d.toNat]? with
 | some c,some x=>if Dy x=false∨Eh st c.above=false then(6,st) else(0,st.set d.toNat ⟨114,c.delay,decide (x.phase=116),x.keep⟩)
 | _,_=>(4,st)
def Dq(d:Int)(c:Dom)(x:fH):Bool:=decide (c.above=d)&& !Dy x
def Bm(s:aG)(st:List fH)(d:Int):Bool:=(List.zipWith (Dq d) s.domains st).any id
def sB(s:aG)(st:List fH)(d:Int)(keep:Bool):Int×List fH:=
 if bO st.length d=false then(4,st) else match s.domains[d.toNat]?,st[d.toNat]? with
 | some c,some x=>if x.phase≠49 then(6,st) else if keep=true∧c.ret=false then(1,st) else if Bm s st d then(7,st) else(0,st.set d.toNat ⟨99,x.left,x.kept,keep⟩)
 | _,_=>(4,st)
def fD(x:fH):Int×fH:=
 if x.phase=114 then(if 0 < x.left then(0,⟨114,x.left - 1,x.kept,x.keep⟩) else(if x.kept then 114 else 110,⟨104,x.left,x.kept,x.keep⟩))
 else if x.phase=104 then(111,⟨49,x.left,x.kept,x.keep⟩)
 else if x.phase=99 then(if x.keep then(115,⟨116,x.left,x.kept,x.keep⟩) else(108,⟨48,x.left,x.kept,x.keep⟩))
 else(0,x)
def lH(st:List fH)(n:Nat):List (Int×Nat):=(List.range n).filterMap fun i=>(st[i]?).bind fun x=>if(fD x).1=0 then none else some ((fD x).1,i)
def pI(st:List fH):List fH:=st.map fun x=>(fD x).2
structure tY(s:aG)(st:List fH):Prop where
 len:st.length=s.domains.length
 left:∀x∈st,0≤x.left∧x.left≤3
 phase:∀x∈st,0≤x.phase∧x.phase < 256
structure jX where
 left:Int
 held:Bool
 wanted:Bool
def qX:jX:=⟨0,true,false⟩
def zN(st:List jX)(i:Int):Bool:= !bO st.length i||(st[i.toNat]?.map (·.held)).getD true
def rE(s:aG)(st:List jX)(i:Int):Int×List jX:=
 if bO st.length i=false then(4,st) else(0,st.set i.toNat ⟨(s.bA[i.toNat]?).getD 0,true,false⟩)
def rU(st:List jX)(i:Int):Int×List jX:=
 if bO st.length i=false then(4,st) else match st[i.toNat]? with
 | some x=>if x.held=false then(6,st) else(0,st.set i.toNat ⟨x.left,x.held,true⟩)
 | none=>(4,st)
def lP(x:jX):jX:=if x.held=false then x else if 0 < x.left then⟨x.left - 1,x.held,x.wanted⟩ else if x.wanted then⟨x.left,false,false⟩ else x
def yX(st:List jX):List jX:=st.map lP
structure Cg(s:aG)(st:List jX):Prop where
 len:st.length=s.bA.length
 left:∀x∈st,0≤x.left∧x.left≤3
structure dB where
 now:List Int
 saved:List Int
 kept:Bool
def Bs(d:cH):dB:=⟨d.aX.map (·.reset),d.aX.map fun _=>0,false⟩
def Ca(d:cH)(x:dB):dB:=⟨d.aX.map (·.reset),x.saved,false⟩
def Hv(r:Rg)(p:Int×Int):Int:=if r.kept then p.1 else p.2
def vB(d:cH)(x:dB):dB:=⟨x.now,List.zipWith Hv d.aX (x.now.zip x.saved),true⟩
def Va(k:Bool)(r:Rg)(v:Int):Int:=if k&&r.kept then v else r.reset
def Fk(d:cH)(x:dB):dB:=⟨List.zipWith (Va x.kept) d.aX x.saved,x.saved,x.kept⟩
structure xE(d:cH)(x:dB):Prop where
 now:x.now.length=d.aX.length
 saved:x.saved.length=d.aX.length
 u:(∀v∈x.now,0≤v∧v < 4294967296)∧∀v∈x.saved,0≤v∧v < 4294967296
structure dN where
 at_:Int
 denied:Int
def Ky:dN:=⟨0,0⟩
def pS(a:Int):Int:=if a=0 then 114 else if a=1 then 97 else if a=2 then 115 else 100
def rF(x:dN):Int×dN:=if x.at_≠0 then(6,x) else(0,⟨1,x.denied⟩)
def mT(x:dN):Int×dN:=if x.at_≠2∧x.at_≠3 then(6,x) else(0,⟨0,x.denied⟩)
def sZ(x:dN)(a b:Bool):dN:=if x.at_≠1 then x else if b then⟨3,IntKind.i64.wrap (x.denied+1)⟩ else if a then x else⟨2,0⟩
def yR(x:dN):Prop:=0≤x.at_∧x.at_≤3
def Oi(n:Nat)(xs:List Value)(v:Value)(hs:List HP)(_:Piece):Prop:=∃A c,v=.slice A n c∧hs=[HP.own 82 2 (.slice A n c) n xs]
theorem Sc(A:Option Addr)(n c:Nat)(xs:List Value)(w:World)(hs:aM (all w) 2 A n xs)(j:∀u∈xs,u.oneCell'=true)(k:n≤1000000):
  Cz 111 #[.slice A n c] w (fun y w'=>(∃v hs q,y=.returned v∧q.w=w'∧Oi n xs v hs q∧gX w hs q)∧Below w.heap.size w w'):=by
 refine aT func111 ntmps111 ?_;refine aB ?_;refine Oq (el:=82) aF rfl aC ?_;refine fP ?_;refine pZ rfl (fun f=>?_) (fun f=>?_)
 ·refine aB ?_
  have d:n=0:=by
   rcases Nat.eq_zero_or_pos n with h | h
   ·exact h
   ·obtain⟨b,off,rfl,_⟩:=hs.2 h;cases f
  subst d
  have i:xs=[]:=List.eq_nil_of_length_eq_zero (by simpa using hs.1)
  subst i;refine mH 82 2 ?_;refine dK [] [] [0] aD rfl aC aC fun q _ _ a=>?_;exact aW (h:=fun e st=>⟨_,_,⟨e,q.Z⟩,rfl,rfl,⟨_,_,rfl,rfl⟩,st.newR aD aD (a aD aD)⟩)
 ·refine aB ?_;refine On (el:=82) (sz:=2) aF aF aC fun g=>?_;refine Jj 0 2 0 rfl rfl aA ?_;dsimp only[List.set];refine aB ?_;refine iL 0 2 8 n (n':=n) (el:=82) aF aF aC rfl rfl rfl (tA aD hs) j aA aA aA aC fun m l=>?_;dsimp only[List.set,List.nil_append];refine aB ?_;refine dK [] [] [0] aD rfl aC aC fun q _ _ a=>?_;exact aW (h:=fun e st=>⟨_,_,⟨e,q.Z⟩,rfl,rfl,⟨_,_,rfl,rfl⟩,st.newR aD aD (a aD aD)⟩)
def To(n:Nat)(xs:List Value)(v:Value)(hs:List HP)(_:Piece):Prop:=∃A c,v=.slice A n c∧hs=[HP.own 36 1 (.slice A n c) n xs]
theorem Xs(A:Option Addr)(n c:Nat)(xs:List Value)(w:World)(hs:aM (all w) 1 A n xs)(j:∀u∈xs,u.oneCell'=true)(k:n≤1000000):
  Cz 32 #[.slice A n c] w (fun y w'=>(∃v hs q,y=.returned v∧q.w=w'∧To n xs v hs q∧gX w hs q)∧Below w.heap.size w w'):=by
 refine aT func32 ntmps32 ?_;refine aB ?_;refine Oq (el:=36) aF rfl aC ?_;refine fP ?_;refine pZ rfl (fun f=>?_) (fun f=>?_)
 ·refine aB ?_
  have d:n=0:=by
   rcases Nat.eq_zero_or_pos n with h | h
   ·exact h
   ·obtain⟨b,off,rfl,_⟩:=hs.2 h;cases f
  subst d
  have i:xs=[]:=List.eq_nil_of_length_eq_zero (by simpa using hs.1)
  subst i;refine mH 36 1 ?_;refine dK [] [] [0] aD rfl aC aC fun q _ _ a=>?_;exact aW (h:=fun e st=>⟨_,_,⟨e,q.Z⟩,rfl,rfl,⟨_,_,rfl,rfl⟩,st.newR aD aD (a aD aD)⟩)
 ·refine aB ?_;refine On (el:=36) (sz:=1) aF aF aC fun g=>?_;refine Jj 0 1 0 rfl rfl aA ?_;dsimp only[List.set];refine aB ?_;refine iL 0 1 4 n (n':=n) (el:=36) aF aF aC rfl rfl rfl (tA aD hs) j aA aA aA aC fun m l=>?_;dsimp only[List.set,List.nil_append];refine aB ?_;refine dK [] [] [0] aD rfl aC aC fun q _ _ a=>?_;exact aW (h:=fun e st=>⟨_,_,⟨e,q.Z⟩,rfl,rfl,⟨_,_,rfl,rfl⟩,st.newR aD aD (a aD aD)⟩)
def nE(l:List Int):List Value:=l.map (Value.int .u32)
theorem Ue(l:List Int):(nE l).length=l.length:=by simp[nE]
theorem aAn{l:List Int}{i:Nat}{v:Int}(h:l[i]? =some v):(nE l)[i]? =some (.int .u32 v):=by simp[nE,h]
theorem aAm(l:List Int)(i:Nat)(v:Int):(nE l).set i (.int .u32 v)=nE (l.set i v):=by simp[nE,List.map_set]
structure FL where
 f:Nat
 gn:Nat
 gs:Nat
 A:Option Addr
 c:Nat
def sL(d:cH)(A:Option Addr)(p:Piece):Prop:=aM p 2 A d.aX.length (d.aX.flatMap Rg.cells)
theorem sL.le{d:cH}{A:Option Addr}(p q:Piece)(hl:p.Le q)(h:sL d A p):sL d A q:=aM.le h hl
def Gf(L:FL)(d:cH)(k:Bool):List Value:=[.slice L.A d.aX.length L.c,.slice (some ⟨L.gn,0,none⟩) d.aX.length d.aX.length,.slice (some ⟨L.gs,0,none⟩) d.aX.length d.aX.length,.bool k]
def iF(L:FL)(d:cH)(x:dB):HP:=HP.many [HP.aI L.f 227 (Gf L d x.kept),HP.aI L.gn 36 (nE x.now),HP.aI L.gs 36 (nE x.saved),HP.cI (sL d L.A) (sL.le (d:=d) (A:=L.A))]
structure Ay(w:World)(L:FL)(d:cH)(x:dB):Prop where
 r0:eA w L.f 0 (Gf L d x.kept)
 now:eA w L.gn 0 (nE x.now)
 saved:eA w L.gs 0 (nE x.saved)
 made:aM (all w) 2 L.A d.aX.length (d.aX.flatMap Rg.cells)
theorem Ay.below{w w':World}{L:FL}{d:cH}{x:dB}(h:Ay w L d x)(a:Below w.heap.size w w'):Ay w' L d x:=⟨h.r0.below a,h.now.below a,h.saved.below a,h.made.le (lK a)⟩
theorem uP{w:World}{g:Nat}{t:TypeId}{cs:List Value}(h:tZ w g t cs.toArray):eA w g 0 cs:=⟨h.lt,fun j v a=>by rw[h.cell,Nat.zero_add];simpa using a⟩
theorem Tk{L:FL}{d:cH}{x:dB}{F:Nat→Prop}{w:World}(h:(iF L d x).sat F w)(hF:∀b,F b→b < w.heap.size):Ay w L d x:=by
 obtain⟨G,a,e,_⟩:=h;exact⟨uP (a 0 _ rfl).2,uP (a 1 _ rfl).2,uP (a 2 _ rfl).2,aM.le (a 3 _ rfl) (fun b c=>⟨hF b (e 3 b c),rfl⟩)⟩
section
variable{L:FL}{d:cH}{x:dB}
theorem St.aBO(t:St w0 R H w)(i:Nat)(hi:H[i]? =some (iF L d x)):Ay w L d x:=by
 obtain⟨F,a,b,_⟩:=t.chunk hi;exact Tk a b
theorem Sv(i:Nat)(hi:H[i]? =some (iF L d x))(h:XK N w0 K e R (HP.aI L.gs 36 (nE x.saved)::HP.aI L.gn 36 (nE x.now)::HP.aI L.f 227 (Gf L d x.kept)::H.set i (HP.many [cM,cM,cM,HP.cI (sL d L.A) (sL.le (d:=d) (A:=L.A))]))):XK N w0 K e R H:=by
 have a:=wK hi
 refine rG i 0 hi rfl ?_;refine rG (i+1) 1 (by rw[List.getElem?_cons_succ,List.getElem?_set_self a]) rfl ?_;refine rG (i+2) 2 (by simp[a];rfl) rfl ?_
 simpa[List.set_cons_succ,List.set_set] using h
theorem Sy(i:Nat)(hi:H[i]? =some (HP.many [cM,cM,cM,HP.cI (sL d L.A) (sL.le (d:=d) (A:=L.A))]))(h:XK N w0 K e R (H.set i (iF L d x))):XK N w0 K e R (HP.aI L.gs 36 (nE x.saved)::HP.aI L.gn 36 (nE x.now)::HP.aI L.f 227 (Gf L d x.kept)::H):=by
 have a:=wK hi
 refine rJ (i+2) 2 (by simpa using hi) rfl ?_;dsimp only[List.set];refine rJ (i+1) 1 (by simp[a];rfl) rfl ?_;dsimp only[List.set];refine rJ i 0 (by simp[a];rfl) rfl ?_
 simpa[List.set_set,iF] using h
end
theorem Pu(L:FL)(d:cH)(x:dB)(w:World)(a:Ay w L d x):
  Cz 66 #[.pointer (some ⟨L.f,0,none⟩)] w (Rt (iv d.aX.length) w):=by
 have b:=a.r0.at_ (j:=0) rfl
 refine aT func66 ntmps66 ?_;refine aB ?_;exact dL
theorem aEt(p:Piece)(S:Nat→HP)(L:FL)(d:cH)(U:d.aX.length≤100)(f:FuncId)(hf:fJ Tryz.prog f=true)(ca:List Value)
  (a:∀i,i≤d.aX.length→∀w F,(S i).sat F w→(∀b,F b→b < w.heap.size)→∃x,Ay w L d x)
  (hstep:∀i r,d.aX[i]? =some r→∀w F,(S i).sat F w→(∀b,F b→b < w.heap.size)→p.Le ⟨w,fun b=>b < w.heap.size∧¬F b⟩→
   Cz f (([iv (i:Int),.agg r.cells.toArray]:List Value)++ca).toArray w (Wr (.tuple #[]) (S (i+1)) w F))
  (w:World) (F:Nat→Prop) (hp:(S 0).sat F w) (hF:∀b,F b→b < w.heap.size) (I:p.Le ⟨w,fun b=>b < w.heap.size∧¬F b⟩):
  Cz 208 #[.pointer (some ⟨L.f,0,none⟩),.func (.func f) #[] ca.toArray] w (Wr (.tuple #[]) (S d.aX.length) w F):=by
 have n:∀{i:Nat} {R:List Piece} {H:List HP} {l:World},i≤d.aX.length→St w R (S i::H) l→∃x,Ay l L d x:=fun z t=>by
  obtain⟨G,X,V,_⟩:=t.chunk (i:=0) rfl;exact a _ z _ G X V
 refine dD func208 ntmps208 hp hF ?_;refine aB ?_
 refine aZ (v:=iv d.aX.length) (fun l t=>by
  obtain⟨x,o⟩:=n (Nat.zero_le _) t
  exact Pu L d x l o) ?_
 refine aB ?_;refine bT [(7,iv 0),(6,iv d.aX.length),(1,.func (.func f) #[] ca.toArray),(0,.pointer (some ⟨L.f,0,none⟩))] ?_;refine fG (fun m e R H=>∃i:Nat,i≤d.aX.length∧m=d.aX.length - i∧e=[(7,iv i),(6,iv d.aX.length),(1,.func (.func f) #[] ca.toArray),(0,.pointer (some ⟨L.f,0,none⟩))]∧R=[⟨w,fun b=>b < w.heap.size∧¬F b⟩]∧H=[S i]) d.aX.length ⟨0,aA,rfl,rfl,rfl,rfl⟩ fun m e R H T=>?_;obtain⟨i,z,rfl,rfl,rfl,rfl⟩:=T;refine aB ?_;refine aK rfl (fun k=>?_) (fun Y=>?_)
 ·have k:i < d.aX.length:=aA
  obtain⟨r,B⟩:=get_some k
  have C:∃b off,L.A=some ⟨b,off,none⟩:=by
   obtain⟨x,o⟩:=a 0 (Nat.zero_le _) w F hp hF;obtain⟨b,off,h,_⟩:=o.made.2 aA;exact⟨b,off,h⟩
  obtain⟨b,off,N⟩:=C
  have M:Rd w [⟨w,fun b=>b < w.heap.size∧¬F b⟩] [S i] L.f 0 (.slice (some ⟨b,off,none⟩) d.aX.length L.c):=fun l t=>by
   obtain⟨x,o⟩:=n z t;rw[←N];exact(o.r0.at_ (j:=0) rfl).2
  have K:aV w [⟨w,fun b=>b < w.heap.size∧¬F b⟩] [S i] b (off+i*2) r.cells:=fun l t=>by
   obtain⟨x,o⟩:=n z t;obtain⟨Z,O,y,D⟩:=aM.row (rows:=d.aX.map Rg.cells) (by rw[←List.flatMap_def];exact o.made) (fun r B=>by obtain⟨q,_,rfl⟩:=List.mem_map.1 B;rfl) (by rw[List.getElem?_map,B];rfl) k;rw[N] at y;cases y;exact D.2
  refine aB ?_;refine kd (dat i (off+i*2)) ?_;refine aB ?_
  refine aDp 0 (fi:=[]) (ca:=ca) (vs:=[iv (i:Int),.agg r.cells.toArray]) (p:=S i) (S (i+1)) hf rfl rfl rfl ⟨aC,rfl⟩ (fun l G t hG u J=>by
   have E:=Piece.Le.trans I (J _ aD)
   simpa using hstep i r B l G hG u E) ?_
  dsimp only[List.set];refine aB ?_;exact fA (d.aX.length - (i+1)) ⟨i+1,k,rfl,rfl,rfl,rfl⟩
 ·obtain rfl:i=d.aX.length:=by omega
  refine aB ?_;exact fO 0 hF
def kV(vs old:List Int)(i:Nat):List Int:=vs.take i++old.drop i
theorem Qe(vs old:List Int):kV vs old 0=old:=by simp[kV]
theorem Qh{vs old:List Int}{n:Nat}(a:vs.length=n)(b:old.length=n):kV vs old n=vs:=by
 rw[kV,List.drop_eq_nil_of_le aA,List.append_nil,List.take_of_length_le aA]
theorem Qg{vs old:List Int}{i n:Nat}(a:vs.length=n)(b:old.length=n)(hi:i≤n):(kV vs old i).length=n:=by simp[kV];omega
theorem Qf{vs old:List Int}{i:Nat}{v:Int}(e:vs.length=old.length)(a:vs[i]? =some v):(kV vs old i).set i v=kV vs old (i+1):=by
 have d:=(List.getElem?_eq_some_iff.1 a).1
 refine List.ext_getElem? fun j=>?_;rw[List.getElem?_set];unfold kV
 by_cases b:i=j
 ·subst b;rw[if_pos rfl,if_pos (by simp;omega),List.getElem?_append_left (by simp;omega),List.getElem?_take_of_lt aA,a]
 ·rw[if_neg b];rcases Nat.lt_or_ge j i with c | c
  ·rw[List.getElem?_append_left (by simp;omega),List.getElem?_append_left (by simp;omega),List.getElem?_take_of_lt c,List.getElem?_take_of_lt aA]
  ·rw[List.getElem?_append_right (by simp;omega),List.getElem?_append_right (by simp;omega),List.getElem?_drop,List.getElem?_drop]
   congr 1
   simp;omega
theorem aMz{vs old:List Int}{i:Nat}{v:Int}(b:vs.length=old.length)(hi:i < old.length)(a:old[i]? =some v):(kV vs old i)[i]? =some v:=by
 rw[kV,List.getElem?_append_right (by simp;omega),List.getElem?_drop];simp only[List.length_take];rw[show i+(i - min i vs.length)=i by omega];exact a
theorem aKX(p:Piece)(L:FL)(d:cH)(x:dB)(f:FuncId)(hf:fJ Tryz.prog f=true)(ca:List Value)(e c i:Nat)(r:Rg)(v:Int)(C:d.aX[i]? =some r)(K:x.now.length=d.aX.length)
  (u:p.Z e∧p.w.cell? ⟨e,0,none⟩=some (.pointer (some ⟨L.f,0,none⟩))) (h3:p.Z c∧p.w.cell? ⟨c,0,none⟩=some (.func (.func f) #[] ca.toArray))
  (hw:∀w F,(iF L d x).sat F w→(∀b,F b→b < w.heap.size)→p.Le (all w)→Cz f (([iv (i:Int),.agg r.cells.toArray]:List Value)++ca).toArray w (Rt (.int .u32 v) w))
  (w:World) (F:Nat→Prop) (hp:(iF L d x).sat F w) (hF:∀b,F b→b < w.heap.size) (a:p.Le ⟨w,fun b=>b < w.heap.size∧¬F b⟩):
  Cz 209 #[iv (i:Int),.agg r.cells.toArray,pt c,pt e] w (Wr (.tuple #[]) (iF L d ⟨x.now.set i v,x.saved,x.kept⟩) w F):=by
 have E:=(List.getElem?_eq_some_iff.1 C).1
 obtain⟨c2,D⟩:=a e u.1;obtain⟨H,M⟩:=a c h3.1
 have B:w.cell? ⟨e,0,none⟩=some (.pointer (some ⟨L.f,0,none⟩)):=(World.cell?_of_block (w:=p.w) D).trans u.2
 have J:w.cell? ⟨c,0,none⟩=some (.func (.func f) #[] ca.toArray):=(World.cell?_of_block (w:=p.w) M).trans h3.2
 refine dD func209 ntmps209 hp hF ?_;refine aB ?_;refine bY fun n=>?_;refine aB ?_
 have R:Rd w [⟨w,fun b=>b < w.heap.size∧¬F b⟩] [HP.aI n 82 r.cells,iF L d x] e 0 (.pointer (some ⟨L.f,0,none⟩)):=Rd.ro (List.mem_singleton.2 rfl) c2 B
 have O:Rd w [⟨w,fun b=>b < w.heap.size∧¬F b⟩] [HP.aI n 82 r.cells,iF L d x] c 0 (.func (.func f) #[] ca.toArray):=Rd.ro (List.mem_singleton.2 rfl) H J
 have N:Rd w [⟨w,fun b=>b < w.heap.size∧¬F b⟩] [HP.aI n 82 r.cells,iF L d x] L.f 1 (.slice (some ⟨L.gn,0,none⟩) d.aX.length d.aX.length):=fun m t=>((t.aBO 1 rfl).r0.at_ (j:=1) rfl).2
 refine rK 9 aF aF ?_;refine cE 0 ?_;refine cE 1 ?_;refine cE 2 ?_;refine cE 3 ?_;refine cE 4 ?_;refine cE 5 ?_;refine cE 6 ?_;refine cE 7 ?_;refine cX 8 ?_
 refine Wf (fi:=[]) (ca:=ca) (vs:=[iv (i:Int),.agg r.cells.toArray]) (v:=.int .u32 v) (hf:=hf) (fun m t=>by
  obtain⟨G,h,l,k,_⟩:=t.chunk (i:=1) rfl
  have o:p.Le (all m):=fun b y=>by
   obtain⟨A,z⟩:=(Piece.Le.trans a (k _ (List.mem_singleton.2 rfl))) b y;exact⟨A.1,z⟩
  simpa using hw m G h l o) ?_
 refine nO ?_;refine cX 9 ?_;refine kd (dat i i) ?_;refine fB ?_;refine cX 10 ?_;refine Sv 1 rfl ?_;dsimp only[List.set]
 have I:=Ue x.now
 refine eZ rfl rfl ?_;dsimp only[List.set];rw[aAm];refine Sy (x:=⟨x.now.set i v,x.saved,x.kept⟩) 1 rfl ?_;refine fB ?_;refine lA ?_;refine aB ?_;exact fO 1 hF
theorem aEu(L:FL)(d:cH)(x:dB)(n:d.aX.length≤100)(f:FuncId)(hf:fJ Tryz.prog f=true)(ca:List Value)(p:Piece)(vs:List Int)(c:vs.length=d.aX.length)(h:x.now.length=d.aX.length)
  (hw:∀(i:Nat) (r:Rg) (v:Int),d.aX[i]? =some r→vs[i]? =some v→∀(m:List Int) w F,(iF L d ⟨m,x.saved,x.kept⟩).sat F w→(∀b,F b→b < w.heap.size)→p.Le (all w)→Cz f (([iv (i:Int),.agg r.cells.toArray]:List Value)++ca).toArray w (Rt (.int .u32 v) w))
  (w:World) (F:Nat→Prop) (hp:(iF L d x).sat F w) (hF:∀b,F b→b < w.heap.size) (A:p.Le ⟨w,fun b=>b < w.heap.size∧¬F b⟩):
  Cz 168 #[.pointer (some ⟨L.f,0,none⟩),.func (.func f) #[] ca.toArray] w (Wr (.tuple #[]) (iF L d ⟨vs,x.saved,x.kept⟩) w F):=by
 refine dD func168 ntmps168 hp hF ?_;refine aB ?_;refine bY fun u=>?_;refine bY fun j=>?_;refine aB ?_;refine kK (vf:=[]) (vc:=[pt j,pt u]) rfl rfl aC ?_;refine dK [⟨w,fun b=>b < w.heap.size∧¬F b⟩] [0,1] [2] aD rfl aC aC fun q H o _=>?_;obtain⟨K,E,Z⟩:=H 0 _ aD rfl;obtain⟨F2,J,V⟩:=H 1 _ aD rfl
 have k:p.Le q:=Piece.Le.trans A (o _ aD)
 refine cG 0 (iF L d ⟨vs,x.saved,x.kept⟩) (fun M G t hG e B=>by
  have a:=aEt q (fun i=>iF L d ⟨kV vs x.now i,x.saved,x.kept⟩) L d n 209 aF [pt j,pt u]
   (fun i _ w F C D=>⟨_,Tk C D⟩) (fun i r y N z C D O=>by
    have X:=(List.getElem?_eq_some_iff.1 y).1
    obtain⟨v,I⟩:=get_some (l:=vs) (i:=i) aA
    have:=aKX q L d ⟨kV vs x.now i,x.saved,x.kept⟩ f hf ca u j i r v y (Qg c h aA)
     ⟨V _ J.1,by rw[J.2.cell];rfl⟩ ⟨Z _ E.1,by rw[E.2.cell];rfl⟩ (fun R K U T Y=>hw i r v y I _ R K U T (Piece.Le.trans k Y)) N z C D O
    try dsimp only at this
    rw[Qf aA I] at this
    exact this) M G (by show(iF L d ⟨kV vs x.now 0,x.saved,x.kept⟩).sat G M;rw[Qe];exact hG) e (B q aD)
  try dsimp only at a
  rw[Qh c h] at a
  exact a) ?_
 refine aB ?_;exact fO 0 hF
structure GL where
 t:Nat
 A:Option Addr
 c:Nat
def oZ(c:Dom)(x:fH):List Value:=[iv c.above,iv c.delay,.bool c.ret,.int .u8 x.phase,iv x.left,.bool x.kept,.bool x.keep]
def pV(s:aG)(st:List fH):List (List Value):=List.zipWith oZ s.domains st
abbrev uX(L:GL)(s:aG)(st:List fH):HP:=Jr 217 219 7 L.t L.A s.domains.length L.c (pV s st)
abbrev aIf(w:World)(L:GL)(s:aG)(st:List fH):Prop:=Aj w 7 L.t L.A s.domains.length L.c (pV s st)
section
variable{st:List fH}
theorem Xp(a:tY s st):(pV s st).length=s.domains.length∧∀r∈pV s st,r.length=7:=by
 have:=a.len
 refine⟨by simp[pV];omega,fun r c=>?_⟩;obtain⟨j,b⟩:=List.getElem?_of_mem c;rw[pV,List.getElem?_zipWith] at b;split at b<;>cases b
 rfl
theorem Gh{i:Nat}{c:Dom}{x:fH}(a:s.domains[i]? =some c)(hx:st[i]? =some x):(pV s st)[i]? =some (oZ c x):=by
 rw[pV,List.getElem?_zipWith,a,hx]
theorem aBT{i:Nat}{c:Dom}{x:fH}(b:s.domains[i]? =some c)(hi:i < st.length):(pV s st).set i (oZ c x)=pV s (st.set i x):=by
 refine List.ext_getElem? fun j=>?_;rw[List.getElem?_set]
 by_cases a:i=j
 ·subst a;rw[if_pos rfl,Gh b (x:=x) (by rw[List.getElem?_set_self hi])];rw[if_pos]
  have d:=(List.getElem?_eq_some_iff.1 b).1
  simp[pV];omega
 ·rw[if_neg a,pV,pV,List.getElem?_zipWith,List.getElem?_zipWith,List.getElem?_set_ne a]
end
theorem aAJ(t n c b off i:Nat)(w:World)(a:gG w t 0 (.slice (some ⟨b,off,none⟩) n c))(hi:i < n):
  Cz 198 #[pt t,iv (i:Int)] w (Rt (.pointer (some ⟨b,off+i*7,none⟩)) w):=by
 refine aT func198 ntmps198 ?_;refine aB ?_;refine cN (t:=11) rfl (fun h=>absurd h aA) (fun _=>?_);refine aB ?_;refine aK rfl (fun h=>absurd h aA) (fun _=>?_);refine aB ?_;refine kd (dat i (off+i*7)) ?_;refine aB ?_;exact dL
theorem aAI(t n c:Nat)(A:Option Addr)(i:Int)(w:World)(a:gG w t 0 (.slice A n c))(hi:bO n i=false):
  Cz 198 #[pt t,iv i] w (Rt (.pointer none) w):=by
 have hi:=of_decide_eq_false hi
 refine aT func198 ntmps198 ?_;refine aB ?_;refine cN (t:=11) rfl (fun h=>?_) (fun h=>?_)
 ·refine aB ?_;exact dL
 ·refine aB ?_;refine aK rfl (fun h=>?_) (fun h=>absurd hi aA);refine aB ?_;exact dL
theorem aE4(g o:Nat)(p:Int)(w:World)(h3:gG w g (o+3) (.int .u8 p)):
  Cz 232 #[.pointer (some ⟨g,o,none⟩)] w (Rt (.bool (decide (p=48∨p=116))) w):=by
 refine aT func232 ntmps232 ?_;refine aB ?_;refine cN (t:=8) rfl (fun h=>?_) (fun h=>?_)
 ·refine aB ?_;refine iV aD ?_;simp[h]
 ·refine aB ?_;refine iV aD ?_;simp[h]
theorem aE3(L:GL)(s:aG)(st:List fH)(f:tY s st)(d:Int)(w:World)(m:aIf w L s st):
  Cz 139 #[.pointer (some ⟨L.t,0,none⟩),iv d] w (Rt (.int .u8 (qV st d)) w):=by
 have p:=f.len
 cases e:bO s.domains.length d
 ·refine aT func139 ntmps139 ?_;refine aB ?_;refine aZ (fun k t=>aAI L.t s.domains.length L.c L.A d k ((m.below (t.below aD)).r0) e) ?_;refine aB ?_;refine iV aD ?_;simp[qV,p,e]
 ·obtain⟨n,rfl⟩:∃n:Nat,d=n:=⟨d.toNat,by have:=of_decide_eq_true e;omega⟩
  have a:n < s.domains.length:=by have:=of_decide_eq_true e;omega
  obtain⟨c,r⟩:=get_some a;obtain⟨x,o⟩:=get_some (l:=st) (i:=n) aA;obtain⟨b,off,u,h⟩:=m.at_ (Xp f).2 (Gh r o) a
  have y:=h.at_ (j:=3) rfl
  refine aT func139 ntmps139 ?_;refine aB ?_;refine aZ (fun k t=>aAJ L.t s.domains.length L.c b off n k (by rw[←u];exact(m.below (t.below aD)).r0) a) ?_;refine aB ?_;refine iV aD ?_;simp[qV,p,e,o]
theorem aLr(L:GL)(s:aG)(st:List fH)(hH:s.dF)(y:tY s st)(d:Int)(w:World)(F:Nat→Prop)(hp:(uX L s st).sat F w)(hF:∀b,F b→b < w.heap.size):
  Cz 215 #[.pointer (some ⟨L.t,0,none⟩),iv d] w (Wr (iv (qS s st d).1) (uX L s (qS s st d).2) w F):=by
 have U:=y.len
 cases p:bO s.domains.length d
 ·have hr:qS s st d=(4,st):=by simp[qS,U,p]
  rw[hr];refine dD func215 ntmps215 hp hF ?_;refine aB ?_;refine aZ (fun o t=>aAI L.t s.domains.length L.c L.A d o ((t.aAB 0 rfl).r0) p) ?_;refine aB ?_;exact bU 0 hF
 ·obtain⟨n,rfl⟩:∃n:Nat,d=n:=⟨d.toNat,by have:=of_decide_eq_true p;omega⟩
  have k:n < s.domains.length:=by have:=of_decide_eq_true p;omega
  obtain⟨c,G⟩:=get_some k;obtain⟨x,Z⟩:=get_some (l:=st) (i:=n) aA;obtain⟨m,f⟩:=Xp y
  have e:qS s st (n:Int)=if Dy x=false∨Eh st c.above=false then(6,st) else(0,st.set n ⟨114,c.delay,decide (x.phase=116),x.keep⟩):=by
   simp[qS,U,p,G,Z]
  obtain⟨hfa,_,_⟩:=hH.domains n c G;refine dD func215 ntmps215 hp hF ?_;refine aC2 0 rfl aA fun g cs E H B C D=>?_;dsimp only[List.set]
  have X:=Br B m f (Gh G Z)
  have V:n*7+7≤cs.length:=by omega
  have N:=X.set 5 (.bool (decide (x.phase=116))) (by simp[oZ]) aA
  have O:=N.set 3 (.int .u8 114) (by simp[oZ]) (by simp;omega)
  have T:=O.set 4 (iv c.delay) (by simp[oZ]) (by simp;omega)
  have K:=(((tQ.refl cs (n*7) 7).set 5 (.bool (decide (x.phase=116))) aC).set 3 (.int .u8 114) aC).set 4 (iv c.delay) aC
  have J:=zQ (r':=oZ c ⟨114,c.delay,decide (x.phase=116),x.keep⟩) B m f k aA rfl T K
  rw[aBT G aA] at J;refine aB ?_;refine aZ (fun o t=>aAJ L.t s.domains.length L.c g 0 n o ((t.box (i:=1) rfl).at_ (j:=0) rfl) k) ?_;rw[Nat.zero_add];refine aB ?_;refine mI ?_;refine jP ?_;refine tN (fun o t=>aE4 g (n*7) x.phase o ⟨(t.aI (i:=0) rfl).lt,Rd.sub 0 3 rfl X rfl rfl o t⟩) ?_;refine jP ?_;refine Jg 14 rfl (fun hd=>?_) (fun hd=>?_)
  ·rw[e,if_pos (.inl (decide_eq_false hd))];refine jF ?_;refine aB ?_;refine Em 0 E H B C D rfl ?_;exact bU 0 hF
  ·have r:Dy x=true:=decide_eq_true (Classical.not_not.1 hd)
   refine jP ?_;refine Jg 21 rfl (fun I=>?_) (fun I=>?_)
   ·obtain⟨a,R,Y⟩:∃a:Nat,c.above=a∧a < n:=⟨c.above.toNat,aA,aA⟩
    obtain⟨ca,M⟩:=get_some (l:=s.domains) (i:=a) aA;obtain⟨xa,u⟩:=get_some (l:=st) (i:=a) aA
    have hsa:=Br B m f (Gh M u)
    refine jP ?_;refine yH (dat a (a*7)) ?_;refine jF ?_
    have z:Eh st c.above=decide (xa.phase=49):=by
     unfold Eh;rw[R,Int.toNat_natCast,u]
     first | (simp;done) | (simp;omega)
    refine aK rfl (fun h=>?_) (fun h=>?_)
    ·rw[e,if_pos (.inr (by rw[z];exact decide_eq_false h))];refine aB ?_;refine Em 0 E H B C D rfl ?_;exact bU 0 hF
    ·rw[e,if_neg (by rw[z,r];simp;exact Classical.not_not.1 h)];refine aB ?_;refine Em 0 E (by simpa using H) J C D rfl ?_;exact bU 0 hF
   ·have I:=Classical.not_not.1 I
    rw[e,if_neg (by rw[r];simp[Eh,I])];refine jF ?_;refine aB ?_;refine Em 0 E (by simpa using H) J C D rfl ?_;exact bU 0 hF
theorem aNQ{s:aG}{st:List fH}{d:Int}(h:∀(j:Nat) (c:Dom) (x:fH),s.domains[j]? =some c→st[j]? =some x→Dq d c x=false):Bm s st d=false:=by
 unfold Bm;rw[List.any_eq_false];intro b i;obtain⟨j,a⟩:=List.getElem?_of_mem i;rw[List.getElem?_zipWith] at a;cases e:s.domains[j]? with
 | none=>rw[e] at a;cases a
 | some c =>
  cases f:st[j]? with
  | none=>rw[e,f] at a;cases a
  | some x=>
   rw[e,f] at a;cases a;rw[h j c x e f];decide
theorem aNP{s:aG}{st:List fH}{d:Int}{j:Nat}{c:Dom}{x:fH}(a:s.domains[j]? =some c)(hx:st[j]? =some x)(h:Dq d c x=true):Bm s st d=true:=by
 unfold Bm;rw[List.any_eq_true];exact⟨Dq d c x,List.mem_of_getElem? (i:=j) (by rw[List.getElem?_zipWith,a,hx]),h⟩
theorem aLw(L:GL)(s:aG)(st:List fH)(K:tY s st)(hnd:s.domains.length≤1000)(d:Int)(keep:Bool)(w:World)(F:Nat→Prop)(hp:(uX L s st).sat F w)(hF:∀b,F b→b < w.heap.size):
  Cz 219 #[.pointer (some ⟨L.t,0,none⟩),iv d,.bool keep] w (Wr (iv (sB s st d keep).1) (uX L s (sB s st d keep).2) w F):=by
 have hl:=K.len
 cases G:bO s.domains.length d
 ·have hr:sB s st d keep=(4,st):=by simp[sB,hl,G]
  rw[hr];refine dD func219 ntmps219 hp hF ?_;refine aE ?_;refine aZ (fun D t=>aAI L.t s.domains.length L.c L.A d D ((t.aAB 0 rfl).r0) G) ?_;refine aE ?_;exact bU 0 hF
 ·obtain⟨n,rfl⟩:∃n:Nat,d=n:=⟨d.toNat,by have:=of_decide_eq_true G;omega⟩
  have z:n < s.domains.length:=by have:=of_decide_eq_true G;omega
  obtain⟨c,X⟩:=get_some z;obtain⟨x,hx⟩:=get_some (l:=st) (i:=n) aA;obtain⟨C,y⟩:=Xp K
  have o:sB s st (n:Int) keep=if x.phase≠49 then(6,st) else if keep=true∧c.ret=false then(1,st) else if Bm s st n then(7,st) else(0,st.set n ⟨99,x.left,x.kept,keep⟩):=by
   simp[sB,hl,G,X,hx]
  refine dD func219 ntmps219 hp hF ?_;refine aC2 0 rfl aA fun g cs O T E M N=>?_;dsimp only[List.set]
  have hs:=Br E C y (Gh X hx)
  have hlen:n*7+7≤cs.length:=by omega
  have I:=hs.set 3 (.int .u8 99) (by simp[oZ]) aA
  have J:=I.set 6 (.bool keep) (by simp[oZ]) (by simp;omega)
  have V:=((tQ.refl cs (n*7) 7).set 3 (.int .u8 99) aC).set 6 (.bool keep) aC
  have hf:=zQ (r':=oZ c ⟨99,x.left,x.kept,keep⟩) E C y z aA rfl J V
  rw[aBT X aA] at hf;refine aE ?_;refine aZ (fun D t=>aAJ L.t s.domains.length L.c g 0 n D ((t.box (i:=1) rfl).at_ (j:=0) rfl) z) ?_;rw[Nat.zero_add];refine aE ?_;refine aK rfl (fun B=>?_) (fun B=>?_)
  ·rw[o,if_pos B];refine aE ?_;refine Em 0 O T E M N rfl ?_;exact bU 0 hF
  rw[if_neg B] at o;refine pF ?_;refine eR ?_;refine eG ?_;refine aC5 27 (keep=true∧c.ret=false) ?_ ?_
  ·cases keep
   ·refine aB ?_;exact Yv
   ·refine aB ?_;cases hrt:c.ret<;>exact Yv
  refine aK rfl (fun Y=>?_) (fun Y=>?_)
  ·rw[o,if_pos Y];refine aE ?_;refine Em 0 O T E M N rfl ?_;exact bU 0 hF
  rw[if_neg Y] at o;refine aE ?_;refine bT [(33,iv 0),(32,iv s.domains.length),(7,.pointer (some ⟨g,n*7,none⟩)),(2,.bool keep),(1,iv n),(0,.pointer (some ⟨L.t,0,none⟩))] ?_;refine fG (fun m e R H=>∃i:Nat,i≤s.domains.length∧(∀(j:Nat) (c:Dom) (x:fH),j < i→s.domains[j]? =some c→st[j]? =some x→Dq n c x=false)∧m=s.domains.length - i∧e=[(33,iv i),(32,iv s.domains.length),(7,.pointer (some ⟨g,n*7,none⟩)),(2,.bool keep),(1,iv n),(0,.pointer (some ⟨L.t,0,none⟩))]∧R=[⟨w,fun b=>b < w.heap.size∧¬F b⟩]∧H=[HP.aI g 219 cs,HP.aI L.t 217 [.slice (some ⟨g,0,none⟩) s.domains.length L.c],HP.many [cM,cM]]) s.domains.length ⟨0,aA,fun j _ _ hj=>by omega,rfl,rfl,rfl,rfl⟩ fun m e R H hI=>?_;obtain⟨i,hi2,u,rfl,rfl,rfl,rfl⟩:=hI;refine aE ?_;refine aK rfl (fun k=>?_) (fun hge=>?_)
  ·have k:i < s.domains.length:=aA
   obtain⟨ci,p⟩:=get_some k;obtain⟨xi,r⟩:=get_some (l:=st) (i:=i) aA
   have Z:=Br E C y (Gh p r)
   clear I J;refine aB ?_;refine kd (dat i (i*7)) ?_;refine aE ?_;refine cN (t:=47) rfl (fun U=>?_) (fun U=>?_)
   ·refine aB ?_;refine kd (dat i (i*7)) ?_;refine aE ?_;refine aZ (fun D t=>aE4 g (i*7) xi.phase D ⟨(t.aI (i:=0) rfl).lt,Rd.sub 0 3 rfl Z rfl rfl D t⟩) ?_;refine aE ?_;refine aK rfl (fun hd=>?_) (fun hd=>?_)
    ·have hh:Bm s st n=true:=aNP p r (by simp[Dq,U,Dy];simpa using hd)
     rw[o,if_pos hh];refine aE ?_;refine Em 0 O T E M N rfl ?_;exact bU 0 hF
    ·refine aE ?_;refine bT [(33,iv (i+1:Nat)),(32,iv s.domains.length),(7,.pointer (some ⟨g,n*7,none⟩)),(2,.bool keep),(1,iv n),(0,.pointer (some ⟨L.t,0,none⟩))] ?_;refine iD (s.domains.length - (i+1)) aA ⟨i+1,k,fun j c x hj a f=>?_,rfl,rfl,rfl,rfl⟩;rcases Nat.lt_or_ge j i with h | h
     ·exact u j c x h a f
     ·obtain rfl:j=i:=by omega
      rw[p] at a;rw[r] at f;cases a;cases f
      have hd:=Classical.not_not.1 hd
      simp[Dq,Dy,hd]
   ·refine aE ?_;refine bT [(33,iv (i+1:Nat)),(32,iv s.domains.length),(7,.pointer (some ⟨g,n*7,none⟩)),(2,.bool keep),(1,iv n),(0,.pointer (some ⟨L.t,0,none⟩))] ?_;refine iD (s.domains.length - (i+1)) aA ⟨i+1,k,fun j c x hj a f=>?_,rfl,rfl,rfl,rfl⟩;rcases Nat.lt_or_ge j i with h | h
    ·exact u j c x h a f
    ·obtain rfl:j=i:=by omega
     rw[p] at a;rw[r] at f;cases a;cases f;simp[Dq,U]
  ·obtain rfl:i=s.domains.length:=by omega
   have hh:Bm s st n=false:=aNQ fun j c x a f=>u j c x (List.getElem?_eq_some_iff.1 a).1 a f
   rw[o,if_neg (by rw[hh];decide)];refine aE ?_;refine Em 0 O (by simpa using T) hf M N rfl ?_;exact bU 0 hF
def nS(cs:List Value)(o:Nat)(x:fH):List Value:=
 if x.phase=114 then(if 0 < x.left then cs.set (o+4) (iv (x.left - 1)) else cs.set (o+3) (.int .u8 104))
 else if x.phase=104 then cs.set (o+3) (.int .u8 49)
 else if x.phase=99 then cs.set (o+3) (.int .u8 (if x.keep then 116 else 48)) else cs
theorem aJv{cs:List Value}{o:Nat}{c:Dom}{x:fH}(h:Sub cs o (oZ c x))(hl:o+7≤cs.length):Sub (nS cs o x) o (oZ c (fD x).2)∧tQ cs (nS cs o x) o 7:=by
 have b:=tQ.refl cs o 7
 obtain⟨e,left,kept,keep⟩:=x
 by_cases d:e=114
 ·subst d
  by_cases a:0 < left
  ·simp only[nS,fD,if_pos a,if_true];exact⟨h.set 4 (iv (left - 1)) (by simp[oZ]) aA,b.set 4 _ aC⟩
  ·simp only[nS,fD,if_neg a,if_true];exact⟨h.set 3 (.int .u8 104) (by simp[oZ]) aA,b.set 3 _ aC⟩
 ·by_cases a:e=104
  ·simp only[nS,fD,if_neg d,if_pos a];exact⟨h.set 3 (.int .u8 49) (by simp[oZ]) aA,b.set 3 _ aC⟩
  ·by_cases f:e=99
   ·simp only[nS,fD,if_neg d,if_neg a,if_pos f];cases keep
    ·exact⟨h.set 3 (.int .u8 48) (by simp[oZ]) aA,b.set 3 _ aC⟩
    ·exact⟨h.set 3 (.int .u8 116) (by simp[oZ]) aA,b.set 3 _ aC⟩
   ·simp only[nS,fD,if_neg d,if_neg a,if_neg f];exact⟨h,b⟩
theorem aLt(g o:Nat)(cs:List Value)(c:Dom)(x:fH)(hs:Sub cs o (oZ c x))(j:o+7≤cs.length)(hx:0≤x.left∧x.left≤3)(w:World)(F:Nat→Prop)(hp:(HP.aI g 219 cs).sat F w)(hF:∀b,F b→b < w.heap.size):
  Cz 204 #[.pointer (some ⟨g,o,none⟩)] w (Wr (.int .u8 (fD x).1) (HP.aI g 219 (nS cs o x)) w F):=by
 refine dD func204 ntmps204 hp hF ?_;obtain⟨l,left,kept,keep⟩:=x;dsimp only at hx;dsimp only[oZ] at hs;refine aB ?_;refine aK rfl (fun h=>?_) (fun h=>?_)
 ·subst h;refine aB ?_;refine aK rfl (fun hp=>?_) (fun hp=>?_)
  ·refine aB ?_;refine nB rfl rfl fun f t=>⟨by simp[fD,nS,hp,if_true],?_⟩
   simp only[fD,nS,if_pos hp,if_true];exact t.turns hF aD (i:=0) rfl
  ·have k:=hs.set 3 (.int .u8 104) aD aA
   refine aB ?_;refine pZ rfl (fun a=>?_) (fun a=>?_)
   ·refine aB ?_;refine nB rfl rfl fun f t=>⟨by simp[fD,nS,hp,if_true,a],?_⟩
    simp only[fD,nS,if_neg hp,if_true,a];exact t.turns hF aD (i:=0) rfl
   ·refine aB ?_;refine nB rfl rfl fun f t=>⟨by simp[fD,nS,hp,if_true,a],?_⟩
    simp only[fD,nS,if_neg hp,if_true,a];exact t.turns hF aD (i:=0) rfl
 ·refine aB ?_;refine aK rfl (fun d=>?_) (fun d=>?_)
  ·refine aB ?_;refine nB rfl rfl fun f t=>⟨by simp[fD,nS,h,d],?_⟩
   simp only[fD,nS,if_neg h,if_pos d];exact t.turns hF aD (i:=0) rfl
  ·refine aB ?_;refine aK rfl (fun e=>?_) (fun e=>?_)
   ·refine aB ?_;refine pZ rfl (fun a=>?_) (fun a=>?_)
    ·refine aB ?_;refine nB rfl rfl fun f t=>⟨by simp[fD,nS,h,d,e,a,if_true],?_⟩
     simp only[fD,nS,if_neg h,if_neg d,if_pos e,a,if_true];exact t.turns hF aD (i:=0) rfl
    ·refine aB ?_;refine nB rfl rfl fun f t=>⟨by simp[fD,nS,h,d,e,a],?_⟩
     simp only[fD,nS,if_neg h,if_neg d,if_pos e,a];exact t.turns hF aD (i:=0) rfl
   ·refine aB ?_;refine nB rfl rfl fun f t=>⟨by simp[fD,nS,h,d,e],?_⟩
    simp only[fD,nS,if_neg h,if_neg d,if_neg e];exact t.turns hF aD (i:=0) rfl
theorem aDU{α:Type}{l:List α}{i:Nat}{x:α}(h:l[i]? =some x):l.set i x=l:=by
 refine List.ext_getElem? fun j=>?_;rw[List.getElem?_set]
 by_cases a:i=j
 ·subst a;rw[if_pos rfl,if_pos (List.getElem?_eq_some_iff.1 h).1,h]
 ·rw[if_neg a]
def Di(st:List fH)(i:Nat):List fH:=(pI st).take i++st.drop i
theorem aBa{α:Type}(f:α→α)(st:List α){i:Nat}(hi:i < st.length):((st.map f).take i++st.drop i)[i]? =st[i]? :=by
 have:((st.map f).take i).length=i:=by simp;omega
 rw[List.getElem?_append_right aA,this,Nat.sub_self,List.getElem?_drop,Nat.add_zero]
theorem aAZ{α:Type}(f:α→α)(st:List α){i:Nat}{x:α}(hx:st[i]? =some x):((st.map f).take i++st.drop i).set i (f x)=(st.map f).take (i+1)++st.drop (i+1):=by
 have c:=(List.getElem?_eq_some_iff.1 hx).1
 refine List.ext_getElem? fun j=>?_;rw[List.getElem?_set]
 by_cases a:i=j
 ·subst a;rw[if_pos rfl,if_pos (by simp;omega),List.getElem?_append_left (by simp;omega),List.getElem?_take_of_lt aA,List.getElem?_map,hx];rfl
 ·rw[if_neg a];rcases Nat.lt_or_ge j i with b | b
  ·rw[List.getElem?_append_left (by simp;omega),List.getElem?_append_left (by simp;omega),List.getElem?_take_of_lt b,List.getElem?_take_of_lt aA]
  ·rw[List.getElem?_append_right (by simp;omega),List.getElem?_append_right (by simp;omega),List.getElem?_drop,List.getElem?_drop]
   congr 1
   simp;omega
theorem aDJ{x:fH}(hl:0≤x.left∧x.left≤3)(hp:0≤x.phase∧x.phase < 256):(0≤(fD x).2.left∧(fD x).2.left≤3)∧(0≤(fD x).2.phase∧(fD x).2.phase < 256):=by
 unfold fD
 repeat' split
 all_goals(dsimp only;constructor<;>omega)
theorem aAr{s:aG}{st:List fH}(a:tY s st):tY s (pI st):=by
 have d:=a.len
 refine⟨by simp[pI];omega,fun x c=>?_,fun x c=>?_⟩
 ·obtain⟨y,b,rfl⟩:=List.mem_map.1 c;exact(aDJ (a.left y b) (a.phase y b)).1
 ·obtain⟨y,b,rfl⟩:=List.mem_map.1 c;exact(aDJ (a.left y b) (a.phase y b)).2
theorem aM1{s:aG}{st:List fH}(a:tY s st){i:Nat}(hi:i≤s.domains.length):tY s (Di st i):=by
 have d:=a.len
 have c:=aAr a
 refine⟨by simp[Di,pI];omega,fun x b=>?_,fun x b=>?_⟩
 ·rcases List.mem_append.1 b with h | h
  ·exact c.left x (List.mem_of_mem_take h)
  ·exact a.left x (List.mem_of_mem_drop h)
 ·rcases List.mem_append.1 b with h | h
  ·exact c.phase x (List.mem_of_mem_take h)
  ·exact a.phase x (List.mem_of_mem_drop h)
def Bu(p:Int×Nat):List Value:=[.int .u8 p.1,iv (p.2:Int)]
theorem aGb(st:List fH)(n:Nat):(lH st n).length≤n:=by
 unfold lH;exact Nat.le_trans (List.length_filterMap_le _ _) aD
theorem aOI{st:List fH}{i:Nat}{x:fH}(hx:st[i]? =some x):lH st (i+1)=lH st i++(if(fD x).1=0 then[] else[((fD x).1,i)]):=by
 unfold lH;rw[List.range_succ,List.filterMap_append];simp only[List.filterMap_cons,List.filterMap_nil,hx,Option.bind_some]
 by_cases h:(fD x).1=0<;>simp[h]
theorem aLs(L:GL)(s:aG)(st:List fH)(n:tY s st)(hnd:s.domains.length≤1000)(w:World)(F:Nat→Prop)(hp:(uX L s st).sat F w)(hF:∀b,F b→b < w.heap.size):
  Cz 146 #[.pointer (some ⟨L.t,0,none⟩)] w (fun y w'=>∃a:Option Addr×Nat,y=.returned (.slice a.1 (lH st s.domains.length).length a.2)∧True∧∃M,(HP.many [uX L s (pI st),HP.own 258 2 (.slice a.1 (lH st s.domains.length).length a.2) (lH st s.domains.length).length ((lH st s.domains.length).flatMap Bu)]).sat M w'∧iI w w' F M):=by
 have hl:=n.len
 refine dD func146 ntmps146 hp hF ?_
 have T:Rd w [⟨w,fun b=>b < w.heap.size∧¬F b⟩] [uX L s st] L.t 0 (.slice L.A s.domains.length L.c):=Rd.row 0 rfl
 refine aB ?_;refine mH 258 2 ?_;refine bT [(13,iv 0),(12,iv s.domains.length),(3,sn),(0,.pointer (some ⟨L.t,0,none⟩))] ?_;refine fG (fun m e R H=>∃(i:Nat) (A:Option Addr) (k:Nat),i≤s.domains.length∧m=s.domains.length - i∧e=[(13,iv i),(12,iv s.domains.length),(3,.slice A (lH st i).length k),(0,.pointer (some ⟨L.t,0,none⟩))]∧R=[⟨w,fun b=>b < w.heap.size∧¬F b⟩]∧H=[HP.own 258 2 (.slice A (lH st i).length k) (lH st i).length ((lH st i).flatMap Bu),uX L s (Di st i)]) s.domains.length ⟨0,none,0,aA,rfl,rfl,rfl,by simp[Di,lH]⟩ fun m e R H hI=>?_;obtain⟨i,A,k,hi,rfl,rfl,rfl,rfl⟩:=hI;refine aB ?_;refine aK rfl (fun f=>?_) (fun hge=>?_)
 ·have f:i < s.domains.length:=aA
  obtain⟨c,Y⟩:=get_some f;obtain⟨x,D⟩:=get_some (l:=st) (i:=i) aA
  have I:(Di st i)[i]? =some x:=by rw[Di,pI,aBa _ st aA];exact D
  have j:=aM1 n hi
  obtain⟨B,z⟩:=Xp j
  have hel:=aGb st i
  refine aC2 1 rfl aA fun g E hA h1 h2 h3 h4=>?_;dsimp only[List.set]
  have U:=Br h2 B z (Gh Y I)
  obtain⟨J,C⟩:=aJv U aA
  have N:=zQ (r':=oZ c (fD x).2) h2 B z f aA rfl J C
  rw[aBT Y (by have:=j.len;omega),Di,pI,aAZ (fun x=>(fD x).2) st D] at N;refine aB ?_;refine kd (dat i (i*7)) ?_;refine Ou 0 (fi:=[]) (ca:=[]) (p:=HP.aI g 219 E) (HP.aI g 219 (nS E (i*7) x)) aF rfl rfl rfl ⟨aC,rfl⟩ (fun X G t hG u=>aLt g (i*7) E c x U aA (n.left x (List.mem_of_getElem? D)) X G hG u) ?_;dsimp only[List.set]
  have K:(nS E (i*7) x).length=L.c*7:=by rw[C.1,h1]
  refine Em 1 hA K N h3 h4 rfl ?_;dsimp only[List.set]
  have d:=aOI D
  refine aB ?_;refine aK rfl (fun o=>?_) (fun o=>?_)
  ·rw[if_neg o] at d;refine aE ?_;refine eT fun g2=>?_;refine iL 1 2 16 1 (el:=258) aF aF aC rfl rfl rfl (nH 0 rfl rfl) (by simp[Value.oneCell']) rfl aA aA aC fun Z V=>?_;dsimp only[List.set];refine aB ?_
   have O:(lH st (i+1)).length=(lH st i).length+1:=by rw[d];simp
   have e2:(lH st (i+1)).flatMap Bu=(lH st i).flatMap Bu++[.int .u8 (fD x).1,iv (i:Int)]:=by rw[d,List.flatMap_append];rfl
   refine aY [1,2] rfl aC (fun _ h=>h) ?_;refine bT [(13,iv (i+1:Nat)),(12,iv s.domains.length),(3,.slice Z ((lH st i).length+1) V),(0,.pointer (some ⟨L.t,0,none⟩))] ?_;exact iD (s.domains.length - (i+1)) aA ⟨i+1,Z,V,f,rfl,by rw[O],rfl,by rw[O,e2];rfl⟩
  ·have o:=Classical.not_not.1 o
   rw[if_pos o,List.append_nil] at d;refine aB ?_;refine bT [(13,iv (i+1:Nat)),(12,iv s.domains.length),(3,.slice A (lH st i).length k),(0,.pointer (some ⟨L.t,0,none⟩))] ?_;refine iD (s.domains.length - (i+1)) aA ⟨i+1,A,k,f,rfl,by rw[d],rfl,by rw[d];rfl⟩
 ·obtain rfl:i=s.domains.length:=by omega
  have r:Di st s.domains.length=pI st:=by
   rw[Di,List.drop_eq_nil_of_le aA,List.append_nil,List.take_of_length_le (by simp[pI];omega)]
  rw[r];refine aB ?_;refine aY [1,0] rfl aC (fun _ h=>h) ?_;refine nM ?_;exact nB rfl rfl fun X t=>⟨(A,k),rfl,trivial,t.turns hF aD (i:=0) rfl⟩
end Go.Proofs.YtmpkkaknjkffpaaGreatDoor
