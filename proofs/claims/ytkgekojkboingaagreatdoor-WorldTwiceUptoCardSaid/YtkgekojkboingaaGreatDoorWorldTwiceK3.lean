/- conf: what is right of a clock, a domain, a reset line, a device, and of how many there are. -/
import Derived.KernelRfl
import Derived.Laws.StructEq
import Derived.Test.YtkgekojkboingaaGreatDoorProg
import Derived.Test.YtkgekojkboingaaGreatDoorWorldTwiceK2
namespace Go.Proofs.YtkgekojkboingaaGreatDoor
set_option linter.all false
set_option maxHeartbeats 4000000
set_option maxRecDepth 20000
open Go.RowKit Go.Proofs.Tryz
section
def kX(kind:Int)(n:Nat):Bool:=if kind=111 then decide (n=0) else if kind=112∨kind=100∨kind=103 then decide (n=1) else if kind=109 then iM n 1 4 else false
def sE(kind rate mul div lock:Int):Bool:=
 if kind=111 then decide (1≤rate)&&decide (rate≤1099511627776) else if kind=112 then iM mul 1 1000&&iM div 1 1000&&iM lock 0 20 else if kind=100 then iM div 1 1000 else true
def Mq(n1:Nat)(c:eU):Int:=kI [iQ (!kX c.kind c.src.length) 1,kI (c.src.map fun f=>iQ (!iM f 0 ((n1:Int) - 1)) 4),iQ (!sE c.kind c.rate c.mul c.div c.lock) 3]
def Qs(n2:Nat)(d:Dom):Int:=kI [iQ (decide (¬d.above= -1)&& !iM d.above 0 ((n2:Int) - 1)) 4,iQ (!iM d.delay 0 20) 3]
def Zs(r:Int):Int:=iQ (!iM r 0 20) 3
def Qw(n1 n2 n3 n4:Nat)(d:cH):Int:=
 kI [iQ (!iM d.clock 0 ((n1:Int) - 1)) 4,iQ (!iM d.domain 0 ((n2:Int) - 1)) 4,iQ (!iM d.reset 0 ((n3:Int) - 1)) 4,kI (d.iX.map fun f=>iQ (!iM f 0 ((n4:Int) - 1)) 4)]
def Ox(d:cH):Int:=iQ (decide ((8:Int) < d.aS.length)||decide ((6:Int) < d.iX.length)) 8
theorem aHb(l:List Value):(l.map fun v=>[v]).flatten=l:=by induction l<;>simp_all
theorem aK0(kind rate mul div lock:Int)(A:Option Addr)(n k:Nat)(w:World):
  Cz 113 #[.agg #[.int .u8 kind,.slice A n k,.int .u64 rate,iv mul,iv div,iv lock]] w (Rt (.bool (kX kind n)) w):=by
 refine aO func113 ntmps113 ?_;refine aB ?_;refine bN fun g1=>?_;refine aB ?_;refine aG rfl (fun h=>?_) (fun h=>?_)
 ·
  refine aB ?_;exact aP (h:=fun _ _=>by first | (exfalso;omega) | (simp[kX, *];done) | (simp[kX, *];omega))
 ·
  refine aB ?_;refine aG rfl (fun h=>?_) (fun h=>?_)
  ·
   refine aB ?_;refine aG rfl (fun h=>?_) (fun h=>?_)
   ·
    refine aB ?_;exact aP (h:=fun _ _=>by first | (exfalso;omega) | (simp[kX, *];done) | (simp[kX, *];omega))
   ·
    refine aB ?_;refine aG rfl (fun h=>?_) (fun h=>?_)
    ·
     refine aB ?_;refine dG (fun w1 st=>tK _ _ _ w1) ?_;refine aB ?_;exact aP (h:=fun _ _=>by first | (exfalso;omega) | (simp[kX, *];done) | (simp[kX, *];omega))
    ·
     refine aB ?_;exact aP (h:=fun _ _=>by first | (exfalso;omega) | (simp[kX, *];done) | (simp[kX, *];omega))
  ·
   refine aB ?_;refine aG rfl (fun h=>?_) (fun h=>?_)
   ·
    refine aB ?_;refine aG rfl (fun h=>?_) (fun h=>?_)
    ·
     refine aB ?_;exact aP (h:=fun _ _=>by first | (exfalso;omega) | (simp[kX, *];done) | (simp[kX, *];omega))
    ·
     refine aB ?_;refine aG rfl (fun h=>?_) (fun h=>?_)
     ·
      refine aB ?_;refine dG (fun w1 st=>tK _ _ _ w1) ?_;refine aB ?_;exact aP (h:=fun _ _=>by first | (exfalso;omega) | (simp[kX, *];done) | (simp[kX, *];omega))
     ·
      refine aB ?_;exact aP (h:=fun _ _=>by first | (exfalso;omega) | (simp[kX, *];done) | (simp[kX, *];omega))
   ·
    refine aB ?_;refine aG rfl (fun h=>?_) (fun h=>?_)
    ·
     refine aB ?_;exact aP (h:=fun _ _=>by first | (exfalso;omega) | (simp[kX, *];done) | (simp[kX, *];omega))
    ·
     refine aB ?_;refine aG rfl (fun h=>?_) (fun h=>?_)
     ·
      refine aB ?_;refine dG (fun w1 st=>tK _ _ _ w1) ?_;refine aB ?_;exact aP (h:=fun _ _=>by first | (exfalso;omega) | (simp[kX, *];done) | (simp[kX, *];omega))
     ·
      refine aB ?_;exact aP (h:=fun _ _=>by first | (exfalso;omega) | (simp[kX, *];done) | (simp[kX, *];omega))
theorem aMw(kind rate mul div lock:Int)(A:Option Addr)(n k:Nat)(w:World):
  Cz 119 #[.agg #[.int .u8 kind,.slice A n k,.int .u64 rate,iv mul,iv div,iv lock]] w (Rt (.bool (sE kind rate mul div lock)) w):=by
 refine aO func119 ntmps119 ?_;refine aB ?_;refine bN fun g1=>?_;refine aB ?_;refine aG rfl (fun h=>?_) (fun h=>?_)
 ·
  refine aB ?_;refine pZ (t:=10) rfl (fun hg=>?_) (fun hg=>?_)
  ·
   refine aB ?_;exact aP (h:=fun _ _=>by simp[sE, *])
  ·
   refine aB ?_;exact aP (h:=fun _ _=>by simp[sE, *])
 ·
  refine aB ?_;refine aG rfl (fun h=>?_) (fun h=>?_)
  ·
   refine aB ?_;refine dG (fun w1 st=>tK _ _ _ w1) ?_;refine aB ?_;refine pZ (t:=20) rfl (fun hg=>?_) (fun hg=>?_)
   ·
    refine aB ?_;refine dG (fun w1 st=>tK _ _ _ w1) ?_;refine aB ?_;refine pZ (t:=25) rfl (fun hg=>?_) (fun hg=>?_)
    ·
     refine aB ?_;refine dG (fun w1 st=>tK _ _ _ w1) ?_;refine aB ?_;exact aP (h:=fun _ _=>by simp[sE, *])
    ·
     refine aB ?_;exact aP (h:=fun _ _=>by simp[sE, *])
   ·
    refine aB ?_;exact aP (h:=fun _ _=>by simp[sE, *])
  ·
   refine aB ?_;refine aG rfl (fun h=>?_) (fun h=>?_)
   ·
    refine aB ?_;refine dG (fun w1 st=>tK _ _ _ w1) ?_;refine aB ?_;exact aP (h:=fun _ _=>by simp[sE, *])
   ·
    refine aB ?_;exact aP (h:=fun _ _=>by simp[sE, *])
theorem aQo(kind rate mul div lock:Int)(A:Option Addr)(n k:Nat)(gc:Nat)(w:World)(hb:dP w gc 0 [.int .u8 kind,.slice A n k,.int .u64 rate,iv mul,iv div,iv lock]):
  Cz 112 #[pt gc] w (Rt (iv (iQ (!kX kind n) 1)) w):=by
 refine aO func112 ntmps112 ?_;refine aB ?_;refine dG (fun w1 st=>aK0 _ _ _ _ _ _ _ _ w1) ?_;refine aB ?_;refine dG (fun w1 st=>uO _ _ w1) ?_;refine aB ?_;exact aP (h:=fun _ _=>rfl)
theorem aQl(kind rate mul div lock:Int)(A:Option Addr)(n k:Nat)(gc:Nat)(w:World)(hb:dP w gc 0 [.int .u8 kind,.slice A n k,.int .u64 rate,iv mul,iv div,iv lock]):
  Cz 118 #[pt gc] w (Rt (iv (iQ (!sE kind rate mul div lock) 3)) w):=by
 refine aO func118 ntmps118 ?_;refine aB ?_;refine dG (fun w1 st=>aMw _ _ _ _ _ _ _ _ w1) ?_;refine aB ?_;refine dG (fun w1 st=>uO _ _ w1) ?_;refine aB ?_;exact aP (h:=fun _ _=>rfl)
theorem aQm(f:Int)(A1 A2 A3 A4:Option Addr)(n1 k1 n2 k2 n3 k3 n4 k4:Nat)(gs:Nat)(w:World)(hs:dP w gs 0 [.slice A1 n1 k1,.slice A2 n2 k2,.slice A3 n3 k3,.slice A4 n4 k4])(lZ:(n1:Int)≤9223372036854775806):
  Cz 116 #[iv f,pt gs] w (Rt (iv (iQ (!iM f 0 ((n1:Int) - 1)) 4)) w):=by
 refine aO func116 ntmps116 ?_;refine aB ?_;refine dG (fun w1 st=>tK _ _ _ w1) ?_;refine aB ?_;refine dG (fun w1 st=>uO _ _ w1) ?_;refine aB ?_;exact aP (h:=fun _ _=>rfl)
theorem aQn(kind rate mul div lock:Int)(A:Option Addr)(n k:Nat)(A1 A2 A3 A4:Option Addr)(n1 k1 n2 k2 n3 k3 n4 k4:Nat)(gc gs:Nat)(w:World)(hb:dP w gc 0 [.int .u8 kind,.slice A n k,.int .u64 rate,iv mul,iv div,iv lock])(hs:dP w gs 0 [.slice A1 n1 k1,.slice A2 n2 k2,.slice A3 n3 k3,.slice A4 n4 k4])(lZ:(n1:Int)≤9223372036854775806)(zs:List Int)(hA:aH (all w) 1 A n (aN zs))(hn:n=zs.length)(hz:(n:Int)≤9223372036854775806):
  Cz 114 #[pt gc,pt gs] w (Rt (iv (kI (zs.map fun f=>iQ (!iM f 0 ((n1:Int) - 1)) 4))) w):=by
 refine aO func114 ntmps114 ?_;refine aA ?_;refine jY (vf:=[]) (vc:=[pt gs]) rfl rfl (by decide) ?_
 refine dG (fun w1 st=>aHo _ _ _ 116 [pt gs] ((aN zs).map fun v=>[v]) (zs.map fun f=>iQ (!iM f 0 ((n1:Int) - 1)) 4) w1 (by rw[aHb];exact hA.le (kR (st.started (by simp)))) (by simp) (by simp[aN];omega) (by simp;omega) (by omega) (by kernel_rfl) (fun i r x hr hx w2 dZ=>by
  obtain⟨f,hf,rfl⟩:∃f,zs[i]? =some f∧r=[iv f]:=by
   rw[List.getElem?_map,aN,List.getElem?_map] at hr;cases hq:zs[i]? with
   | none=>simp[hq] at hr
   | some f=>simp[hq] at hr;exact⟨f,rfl,hr.symm⟩
  rw[List.getElem?_map,hf] at hx;cases hx
  exact aQm f A1 A2 A3 A4 n1 k1 n2 k2 n3 k3 n4 k4 gs w2 ((hs.below (st.started (by simp))).below dZ) lZ)) ?_
 refine aA ?_;exact aP (h:=fun _ _=>rfl)
theorem aQk(kind rate mul div lock:Int)(A:Option Addr)(n k:Nat)(A1 A2 A3 A4:Option Addr)(n1 k1 n2 k2 n3 k3 n4 k4:Nat)(w:World)(lZ:(n1:Int)≤9223372036854775806)(zs:List Int)(hA:aH (all w) 1 A n (aN zs))(hn:n=zs.length)(hz:(n:Int)≤9223372036854775806):
  Cz 59 #[.agg #[.slice A1 n1 k1,.slice A2 n2 k2,.slice A3 n3 k3,.slice A4 n4 k4],.agg #[.int .u8 kind,.slice A n k,.int .u64 rate,iv mul,iv div,iv lock]] w (Rt (iv (Mq n1 ⟨kind,zs,rate,mul,div,lock⟩)) w):=by
 refine aO func59 ntmps59 ?_;refine aA ?_;refine bN fun g1=>?_;refine bN fun g2=>?_;refine aA ?_;refine jY (vf:=[]) (vc:=[pt g2]) rfl rfl (by decide) ?_;refine jY (vf:=[]) (vc:=[pt g2,pt g1]) rfl rfl (by decide) ?_;refine jY (vf:=[]) (vc:=[pt g2]) rfl rfl (by decide) ?_;refine eG fun g3=>?_
 refine dG (fun w1 st=>aAC _ _ _ [(112,[pt g2]),(114,[pt g2,pt g1]),(118,[pt g2])] [iQ (!kX kind n) 1,kI (zs.map fun f=>iQ (!iM f 0 ((n1:Int) - 1)) 4),iQ (!sE kind rate mul div lock) 3] w1 (st.uS (i:=0) (n:=3) (sz:=1) (cs:=[.func (.func 112) #[] #[pt g2],.func (.func 114) #[] #[pt g2,pt g1],.func (.func 118) #[] #[pt g2]]) rfl rfl) rfl rfl (by decide) (by simp only[List.mem_cons,List.not_mem_nil,or_false];rintro f (rfl | rfl | rfl)<;>kernel_rfl) (fun i f x hf hx w2 dZ=>by
  have jG:=(st.started (by simp)).trans (dZ.mono st.size)
  match i,hf,hx with
  | 0,hf,hx=>cases hf;cases hx;exact aQo kind rate mul div lock A n k g2 w2 (st.box (cs:=[.int .u8 kind,.slice A n k,.int .u64 rate,.int .i64 mul,.int .i64 div,.int .i64 lock]) (i:=1) rfl|>.below dZ)
  | 1,hf,hx=>cases hf;cases hx;exact aQn kind rate mul div lock A n k A1 A2 A3 A4 n1 k1 n2 k2 n3 k3 n4 k4 g2 g1 w2 (st.box (cs:=[.int .u8 kind,.slice A n k,.int .u64 rate,.int .i64 mul,.int .i64 div,.int .i64 lock]) (i:=1) rfl|>.below dZ) (st.box (cs:=[.slice A1 n1 k1,.slice A2 n2 k2,.slice A3 n3 k3,.slice A4 n4 k4]) (i:=2) rfl|>.below dZ) lZ zs (hA.le (kR jG)) hn hz
  | 2,hf,hx=>cases hf;cases hx;exact aQl kind rate mul div lock A n k g2 w2 (st.box (cs:=[.int .u8 kind,.slice A n k,.int .u64 rate,.int .i64 mul,.int .i64 div,.int .i64 lock]) (i:=1) rfl|>.below dZ)
  | i+3,hf,_=>simp at hf)) ?_
 refine aA ?_;exact aP (h:=fun _ _=>by simp[Mq,hn])
theorem aPz(above delay:Int)(ret:Bool)(A1 A2 A3 A4:Option Addr)(n1 k1 n2 k2 n3 k3 n4 k4:Nat)(gd gs:Nat)(w:World)(hd:dP w gd 0 [iv above,iv delay,.bool ret])(hs:dP w gs 0 [.slice A1 n1 k1,.slice A2 n2 k2,.slice A3 n3 k3,.slice A4 n4 k4])(oY:(n2:Int)≤9223372036854775806):
  Cz 122 #[pt gd,pt gs] w (Rt (iv (iQ (decide (¬above= -1)&& !iM above 0 ((n2:Int) - 1)) 4)) w):=by
 refine aO func122 ntmps122 ?_;refine aB ?_;refine bX (t:=6) rfl (fun hg=>?_) (fun hg=>?_)
 ·
  refine aB ?_;refine dG (fun w1 st=>tK _ _ _ w1) ?_;refine aB ?_;refine dG (fun w1 st=>uO _ _ w1) ?_;refine aB ?_;exact aP (h:=fun _ _=>by simp[hg])
 ·
  refine aB ?_;refine dG (fun w1 st=>uO _ _ w1) ?_;refine aB ?_;exact aP (h:=fun _ _=>by simp[hg])
theorem aPy(above delay:Int)(ret:Bool)(gd:Nat)(w:World)(hd:dP w gd 0 [iv above,iv delay,.bool ret]):
  Cz 123 #[pt gd] w (Rt (iv (iQ (!iM delay 0 20) 3)) w):=by
 refine aO func123 ntmps123 ?_;refine aB ?_;refine dG (fun w1 st=>tK _ _ _ w1) ?_;refine aB ?_;refine dG (fun w1 st=>uO _ _ w1) ?_;refine aB ?_;exact aP (h:=fun _ _=>rfl)
theorem aPx(above delay:Int)(ret:Bool)(A1 A2 A3 A4:Option Addr)(n1 k1 n2 k2 n3 k3 n4 k4:Nat)(w:World)(oY:(n2:Int)≤9223372036854775806):
  Cz 66 #[.agg #[.slice A1 n1 k1,.slice A2 n2 k2,.slice A3 n3 k3,.slice A4 n4 k4],.agg #[iv above,iv delay,.bool ret]] w (Rt (iv (Qs n2 ⟨above,delay,ret⟩)) w):=by
 refine aO func66 ntmps66 ?_;refine aA ?_;refine bN fun g1=>?_;refine bN fun g2=>?_;refine aA ?_;refine jY (vf:=[]) (vc:=[pt g2,pt g1]) rfl rfl (by decide) ?_;refine jY (vf:=[]) (vc:=[pt g2]) rfl rfl (by decide) ?_;refine eG fun g3=>?_
 refine dG (fun w1 st=>aAC _ _ _ [(122,[pt g2,pt g1]),(123,[pt g2])] [iQ (decide (¬above= -1)&& !iM above 0 ((n2:Int) - 1)) 4,iQ (!iM delay 0 20) 3] w1 (st.uS (i:=0) (n:=2) (sz:=1) (cs:=[.func (.func 122) #[] #[pt g2,pt g1],.func (.func 123) #[] #[pt g2]]) rfl rfl) rfl rfl (by decide) (by simp only[List.mem_cons,List.not_mem_nil,or_false];rintro f (rfl | rfl)<;>kernel_rfl) (fun i f x hf hx w2 dZ=>by
  have jG:=(st.started (by simp)).trans (dZ.mono st.size)
  match i,hf,hx with
  | 0,hf,hx=>cases hf;cases hx;exact aPz above delay ret A1 A2 A3 A4 n1 k1 n2 k2 n3 k3 n4 k4 g2 g1 w2 (st.box (cs:=[.int .i64 above,.int .i64 delay,.bool ret]) (i:=1) rfl|>.below dZ) (st.box (cs:=[.slice A1 n1 k1,.slice A2 n2 k2,.slice A3 n3 k3,.slice A4 n4 k4]) (i:=2) rfl|>.below dZ) oY
  | 1,hf,hx=>cases hf;cases hx;exact aPy above delay ret g2 w2 (st.box (cs:=[.int .i64 above,.int .i64 delay,.bool ret]) (i:=1) rfl|>.below dZ)
  | i+2,hf,_=>simp at hf)) ?_
 refine aA ?_;exact aP (h:=fun _ _=>rfl)
theorem aLx(r:Int)(w:World):
  Cz 71 #[.agg #[iv r]] w (Rt (iv (Zs r)) w):=by
 refine aO func71 ntmps71 ?_;refine aB ?_;refine bN fun g1=>?_;refine aB ?_;refine dG (fun w1 st=>tK _ _ _ w1) ?_;refine aB ?_;refine dG (fun w1 st=>uO _ _ w1) ?_;refine aB ?_;exact aP (h:=fun _ _=>rfl)
theorem aPO(clock domain reset iJ:Int)(A B:Option Addr)(n k nb kb:Nat)(A1 A2 A3 A4:Option Addr)(n1 k1 n2 k2 n3 k3 n4 k4:Nat)(gd gs:Nat)(w:World)(hd:dP w gd 0 [iv clock,iv domain,iv reset,.int .u32 iJ,.slice B nb kb,.slice A n k])(hs:dP w gs 0 [.slice A1 n1 k1,.slice A2 n2 k2,.slice A3 n3 k3,.slice A4 n4 k4])(lZ:(n1:Int)≤9223372036854775806):
  Cz 124 #[pt gd,pt gs] w (Rt (iv (iQ (!iM clock 0 ((n1:Int) - 1)) 4)) w):=by
 refine aO func124 ntmps124 ?_;refine aB ?_;refine dG (fun w1 st=>tK _ _ _ w1) ?_;refine aB ?_;refine dG (fun w1 st=>uO _ _ w1) ?_;refine aB ?_;exact aP (h:=fun _ _=>rfl)
theorem aPN(clock domain reset iJ:Int)(A B:Option Addr)(n k nb kb:Nat)(A1 A2 A3 A4:Option Addr)(n1 k1 n2 k2 n3 k3 n4 k4:Nat)(gd gs:Nat)(w:World)(hd:dP w gd 0 [iv clock,iv domain,iv reset,.int .u32 iJ,.slice B nb kb,.slice A n k])(hs:dP w gs 0 [.slice A1 n1 k1,.slice A2 n2 k2,.slice A3 n3 k3,.slice A4 n4 k4])(oY:(n2:Int)≤9223372036854775806):
  Cz 125 #[pt gd,pt gs] w (Rt (iv (iQ (!iM domain 0 ((n2:Int) - 1)) 4)) w):=by
 refine aO func125 ntmps125 ?_;refine aB ?_;refine dG (fun w1 st=>tK _ _ _ w1) ?_;refine aB ?_;refine dG (fun w1 st=>uO _ _ w1) ?_;refine aB ?_;exact aP (h:=fun _ _=>rfl)
theorem aPM(clock domain reset iJ:Int)(A B:Option Addr)(n k nb kb:Nat)(A1 A2 A3 A4:Option Addr)(n1 k1 n2 k2 n3 k3 n4 k4:Nat)(gd gs:Nat)(w:World)(hd:dP w gd 0 [iv clock,iv domain,iv reset,.int .u32 iJ,.slice B nb kb,.slice A n k])(hs:dP w gs 0 [.slice A1 n1 k1,.slice A2 n2 k2,.slice A3 n3 k3,.slice A4 n4 k4])(hz3:(n3:Int)≤9223372036854775806):
  Cz 126 #[pt gd,pt gs] w (Rt (iv (iQ (!iM reset 0 ((n3:Int) - 1)) 4)) w):=by
 refine aO func126 ntmps126 ?_;refine aB ?_;refine dG (fun w1 st=>tK _ _ _ w1) ?_;refine aB ?_;refine dG (fun w1 st=>uO _ _ w1) ?_;refine aB ?_;exact aP (h:=fun _ _=>rfl)
theorem aPK(f:Int)(A1 A2 A3 A4:Option Addr)(n1 k1 n2 k2 n3 k3 n4 k4:Nat)(gs:Nat)(w:World)(hs:dP w gs 0 [.slice A1 n1 k1,.slice A2 n2 k2,.slice A3 n3 k3,.slice A4 n4 k4])(Pe:(n4:Int)≤9223372036854775806):
  Cz 128 #[iv f,pt gs] w (Rt (iv (iQ (!iM f 0 ((n4:Int) - 1)) 4)) w):=by
 refine aO func128 ntmps128 ?_;refine aB ?_;refine dG (fun w1 st=>tK _ _ _ w1) ?_;refine aB ?_;refine dG (fun w1 st=>uO _ _ w1) ?_;refine aB ?_;exact aP (h:=fun _ _=>rfl)
theorem aPL(clock domain reset iJ:Int)(A B:Option Addr)(n k nb kb:Nat)(A1 A2 A3 A4:Option Addr)(n1 k1 n2 k2 n3 k3 n4 k4:Nat)(gd gs:Nat)(w:World)(hd:dP w gd 0 [iv clock,iv domain,iv reset,.int .u32 iJ,.slice B nb kb,.slice A n k])(hs:dP w gs 0 [.slice A1 n1 k1,.slice A2 n2 k2,.slice A3 n3 k3,.slice A4 n4 k4])(Pe:(n4:Int)≤9223372036854775806)(zs:List Int)(hA:aH (all w) 1 A n (aN zs))(hn:n=zs.length)(hz:(n:Int)≤9223372036854775806):
  Cz 127 #[pt gd,pt gs] w (Rt (iv (kI (zs.map fun f=>iQ (!iM f 0 ((n4:Int) - 1)) 4))) w):=by
 refine aO func127 ntmps127 ?_;refine aA ?_;refine jY (vf:=[]) (vc:=[pt gs]) rfl rfl (by decide) ?_
 refine dG (fun w1 st=>aHo _ _ _ 128 [pt gs] ((aN zs).map fun v=>[v]) (zs.map fun f=>iQ (!iM f 0 ((n4:Int) - 1)) 4) w1 (by rw[aHb];exact hA.le (kR (st.started (by simp)))) (by simp) (by simp[aN];omega) (by simp;omega) (by omega) (by kernel_rfl) (fun i r x hr hx w2 dZ=>by
  obtain⟨f,hf,rfl⟩:∃f,zs[i]? =some f∧r=[iv f]:=by
   rw[List.getElem?_map,aN,List.getElem?_map] at hr;cases hq:zs[i]? with
   | none=>simp[hq] at hr
   | some f=>simp[hq] at hr;exact⟨f,rfl,hr.symm⟩
  rw[List.getElem?_map,hf] at hx;cases hx
  exact aPK f A1 A2 A3 A4 n1 k1 n2 k2 n3 k3 n4 k4 gs w2 ((hs.below (st.started (by simp))).below dZ) Pe)) ?_
 refine aA ?_;exact aP (h:=fun _ _=>rfl)
theorem aPJ(rg:List Rg)(clock domain reset iJ:Int)(A B:Option Addr)(n k nb kb:Nat)(A1 A2 A3 A4:Option Addr)(n1 k1 n2 k2 n3 k3 n4 k4:Nat)(w:World)(lZ:(n1:Int)≤9223372036854775806)(oY:(n2:Int)≤9223372036854775806)(hz3:(n3:Int)≤9223372036854775806)(Pe:(n4:Int)≤9223372036854775806)(zs:List Int)(hA:aH (all w) 1 A n (aN zs))(hn:n=zs.length)(hz:(n:Int)≤9223372036854775806):
  Cz 75 #[.agg #[.slice A1 n1 k1,.slice A2 n2 k2,.slice A3 n3 k3,.slice A4 n4 k4],.agg #[iv clock,iv domain,iv reset,.int .u32 iJ,.slice B nb kb,.slice A n k]] w (Rt (iv (Qw n1 n2 n3 n4 ⟨clock,domain,reset,iJ,rg,zs⟩)) w):=by
 refine aO func75 ntmps75 ?_;refine aA ?_;refine bN fun g1=>?_;refine bN fun g2=>?_;refine aA ?_;refine jY (vf:=[]) (vc:=[pt g2,pt g1]) rfl rfl (by decide) ?_;refine jY (vf:=[]) (vc:=[pt g2,pt g1]) rfl rfl (by decide) ?_;refine jY (vf:=[]) (vc:=[pt g2,pt g1]) rfl rfl (by decide) ?_;refine jY (vf:=[]) (vc:=[pt g2,pt g1]) rfl rfl (by decide) ?_;refine eG fun g3=>?_
 refine dG (fun w1 st=>aAC _ _ _ [(124,[pt g2,pt g1]),(125,[pt g2,pt g1]),(126,[pt g2,pt g1]),(127,[pt g2,pt g1])] [iQ (!iM clock 0 ((n1:Int) - 1)) 4,iQ (!iM domain 0 ((n2:Int) - 1)) 4,iQ (!iM reset 0 ((n3:Int) - 1)) 4,kI (zs.map fun f=>iQ (!iM f 0 ((n4:Int) - 1)) 4)] w1 (st.uS (i:=0) (n:=4) (sz:=1) (cs:=[.func (.func 124) #[] #[pt g2,pt g1],.func (.func 125) #[] #[pt g2,pt g1],.func (.func 126) #[] #[pt g2,pt g1],.func (.func 127) #[] #[pt g2,pt g1]]) rfl rfl) rfl rfl (by decide) (by simp only[List.mem_cons,List.not_mem_nil,or_false];rintro f (rfl | rfl | rfl | rfl)<;>kernel_rfl) (fun i f x hf hx w2 dZ=>by
  have jG:=(st.started (by simp)).trans (dZ.mono st.size)
  match i,hf,hx with
  | 0,hf,hx=>cases hf;cases hx;exact aPO clock domain reset iJ A B n k nb kb A1 A2 A3 A4 n1 k1 n2 k2 n3 k3 n4 k4 g2 g1 w2 (st.box (cs:=[.int .i64 clock,.int .i64 domain,.int .i64 reset,.int .u32 iJ,.slice B nb kb,.slice A n k]) (i:=1) rfl|>.below dZ) (st.box (cs:=[.slice A1 n1 k1,.slice A2 n2 k2,.slice A3 n3 k3,.slice A4 n4 k4]) (i:=2) rfl|>.below dZ) lZ
  | 1,hf,hx=>cases hf;cases hx;exact aPN clock domain reset iJ A B n k nb kb A1 A2 A3 A4 n1 k1 n2 k2 n3 k3 n4 k4 g2 g1 w2 (st.box (cs:=[.int .i64 clock,.int .i64 domain,.int .i64 reset,.int .u32 iJ,.slice B nb kb,.slice A n k]) (i:=1) rfl|>.below dZ) (st.box (cs:=[.slice A1 n1 k1,.slice A2 n2 k2,.slice A3 n3 k3,.slice A4 n4 k4]) (i:=2) rfl|>.below dZ) oY
  | 2,hf,hx=>cases hf;cases hx;exact aPM clock domain reset iJ A B n k nb kb A1 A2 A3 A4 n1 k1 n2 k2 n3 k3 n4 k4 g2 g1 w2 (st.box (cs:=[.int .i64 clock,.int .i64 domain,.int .i64 reset,.int .u32 iJ,.slice B nb kb,.slice A n k]) (i:=1) rfl|>.below dZ) (st.box (cs:=[.slice A1 n1 k1,.slice A2 n2 k2,.slice A3 n3 k3,.slice A4 n4 k4]) (i:=2) rfl|>.below dZ) hz3
  | 3,hf,hx=>cases hf;cases hx;exact aPL clock domain reset iJ A B n k nb kb A1 A2 A3 A4 n1 k1 n2 k2 n3 k3 n4 k4 g2 g1 w2 (st.box (cs:=[.int .i64 clock,.int .i64 domain,.int .i64 reset,.int .u32 iJ,.slice B nb kb,.slice A n k]) (i:=1) rfl|>.below dZ) (st.box (cs:=[.slice A1 n1 k1,.slice A2 n2 k2,.slice A3 n3 k3,.slice A4 n4 k4]) (i:=2) rfl|>.below dZ) Pe zs (hA.le (kR jG)) hn hz
  | i+4,hf,_=>simp at hf)) ?_
 refine aA ?_;exact aP (h:=fun _ _=>rfl)
theorem aO0(rg:List Rg)(zs:List Int)(clock domain reset iJ:Int)(A B:Option Addr)(n k nb kb:Nat)(w:World)(Va:nb=rg.length)(hn:n=zs.length):
  Cz 110 #[.agg #[iv clock,iv domain,iv reset,.int .u32 iJ,.slice B nb kb,.slice A n k]] w (Rt (iv (Ox ⟨clock,domain,reset,iJ,rg,zs⟩)) w):=by
 refine aO func110 ntmps110 ?_;refine aB ?_;refine bN fun g1=>?_;refine aB ?_;refine bX (t:=7) rfl (fun hg=>?_) (fun hg=>?_)
 ·
  refine aB ?_;refine dG (fun w1 st=>uO _ _ w1) ?_;refine aB ?_;exact aP (h:=fun _ _=>by subst Va hn;simp[Ox,hg])
 ·
  refine aB ?_;refine dG (fun w1 st=>uO _ _ w1) ?_;refine aB ?_;exact aP (h:=fun _ _=>by subst Va hn;simp[Ox,hg])
end
section
def aC.small(s:aC):Prop:=s.aF.length≤1000000∧s.domains.length≤1000000∧s.aY.length≤1000000∧s.aD.length≤1000000∧(∀c∈s.aF,c.src.length≤1000000)∧∀d∈s.aD,d.iX.length≤1000000
structure iE(w:World)(s:aC)(A1:Option Addr)(n1:Nat)(A2:Option Addr)(n2:Nat)(A3:Option Addr)(n3:Nat)(A4:Option Addr)(n4:Nat):Prop where
 uG:jW (fI (all w)) (qS (fI (all w))) 86 6 A1 n1 s.aF
 dom:jW (fI (all w)) tH 88 3 A2 n2 s.domains
 zW:jW (fI (all w)) xO 90 1 A3 n3 s.aY
 dev:jW (fI (all w)) (pX (fI (all w))) 93 6 A4 n4 s.aD
 small:s.small
section
variable{w w':World}{s:aC}{A1 A2 A3 A4:Option Addr}{n1 n2 n3 n4:Nat}
theorem iE.le(h:iE w s A1 n1 A2 n2 A3 n3 A4 n4)(hb:Below w.heap.size w w'):iE w' s A1 n1 A2 n2 A3 n3 A4 n4:=
 ⟨h.uG.mono (kF (kR hb)) (fun _ _=>qS.mono (kF (kR hb))),h.dom.mono (kF (kR hb)) (fun _ _ h=>h),h.zW.mono (kF (kR hb)) (fun _ _ h=>h),h.dev.mono (kF (kR hb)) (fun _ _=>pX.mono (kF (kR hb))),h.small⟩
theorem iE.qX(h:iE w s A1 n1 A2 n2 A3 n3 A4 n4):n1=s.aF.length:=by obtain⟨_,_,h,_⟩:=h.uG;exact h
theorem iE.qW(h:iE w s A1 n1 A2 n2 A3 n3 A4 n4):n2=s.domains.length:=by obtain⟨_,_,h,_⟩:=h.dom;exact h
theorem iE.tT(h:iE w s A1 n1 A2 n2 A3 n3 A4 n4):n3=s.aY.length:=by obtain⟨_,_,h,_⟩:=h.zW;exact h
theorem iE.sH(h:iE w s A1 n1 A2 n2 A3 n3 A4 n4):n4=s.aD.length:=by obtain⟨_,_,h,_⟩:=h.dev;exact h
end
theorem jW.row{α:Type}{w:World}{R:α→List Value→Prop}{t:TypeId}{sz n:Nat}{A:Option Addr}{es:List α}(h:jW (fI (all w)) R t sz A n es){k:Nat}{e:α}(hk:es[k]? =some e):
  ∃b off r,A=some ⟨b,off,none⟩∧r.length=sz∧R e r∧dP w b (off+k*sz) r:=by
 obtain⟨rows,h1,h2,h3⟩:=h
 have hke:=(List.getElem?_eq_some_iff.1 hk).1
 have hl:=h1.len.1
 obtain⟨r,hr⟩:∃r,rows[k]? =some r:=⟨_,List.getElem?_eq_getElem (by omega)⟩
 obtain⟨e',he,hrl,hR⟩:=h1.at_ hr;rw[hk] at he;cases he;obtain⟨b,off,hA,hro⟩:=aH.row h3 h1.Bv hr (by omega);exact⟨b,off,r,hA,hrl,hR,hro⟩
def jV(s:aC):List (List Int):=s.aF.map (·.src)
def jU(s:aC):List (List Int):=s.domains.map fun d=>if d.above= -1 then[] else[d.above]
def dL(s:aC):List (List Int):=s.aD.map (·.iX)
def Dv(g:List (List Int)):Int:=iQ (decide ((fL g).1=5)) 5
theorem aDk{vs:List Value}{v z:Value}{k n:Nat}(h:vs.length=k)(hk:k < n):(vs++List.replicate (n - k) z).set k v=(vs++[v])++List.replicate (n - (k+1)) z:=by
 rw[List.set_append_right _ _ (by omega),h,Nat.sub_self,show n - k=(n - (k+1))+1 by omega,List.replicate_succ,List.set_cons_zero,List.append_assoc];rfl
theorem aON{vs:List Value}{z:Value}{k n:Nat}(hk:k < n):vs++List.replicate (n - k) z=(vs++[z])++List.replicate (n - (k+1)) z:=by
 rw[show n - k=(n - (k+1))+1 by omega,List.replicate_succ,List.append_assoc];rfl
theorem Zq{g:List (List Int)}{k:Nat}{vs:List Value}{q q':Piece}{l:List Int}{v:Value}(h:Rows (tF (fI q)) 1 (g.take k) (vs.map fun v=>[v]))(hl:q.Le q')(hg:g[k]? =some l)(hv:tF (fI q') l [v]):Rows (tF (fI q')) 1 (g.take (k+1)) ((vs++[v]).map fun v=>[v]):=by
 rw[List.take_add_one,hg,Option.toList_some,List.map_append];exact(h.mono (fun _ _=>tF.mono (kF hl))).snoc rfl hv
theorem aEo{q q2:Piece}{g:List (List Int)}{vs:List Value}{gG n:Nat}{t:TypeId}(h:Rows (tF (fI q)) 1 g (vs.map fun v=>[v]))(hl:q.Le q2)(h1:∃F,(HP.aE gG t vs).sat F q2.w∧∀b,F b→q2.Z b)(hn:n=g.length):nD q2 (some ⟨gG,0,none⟩) n g:=by
 obtain⟨F,hs,hz⟩:=h1;refine⟨_,h.mono (fun _ _=>tF.mono (kF hl)),hn,?_⟩;rw[show(vs.map fun v=>[v]).flatten=vs by clear h hs;induction vs<;>simp_all];refine qP (c:=0) hs hz ?_
 have:=h.len.1
 simp at this;omega
def aEl(zs:List Int)(v:Value)(w w':World):Prop:=∃A c,v=.slice A zs.length c∧aH (fresh w w') 1 A zs.length (aN zs)
def Hi(g:List (List Int))(v:Value)(w w':World):Prop:=∃A c,v=.slice A g.length c∧nD (fresh w w') A g.length g
theorem aQ0(A:Option Addr)(n c:Nat)(g:List (List Int))(w:World)(hg:nD (all w) A n g)(hn:n=g.length)(hn2:(n:Int)≤9223372036854775806)(hlen:∀l∈g,(l.length:Int)≤9223372036854775806):
  Cz 120 #[.slice A n c] w (Rt (iv (fL g).1) w):=by
 refine aO func120 ntmps120 ?_;refine aB ?_;refine kcV (fun v=>∃A m c,v=.tuple #[.slice A m c,iv (fL g).1]) (fun w1 st=>(aAa A n c g w1 (hg.le (kR (st.started (by simp)))) hn hn2 hlen).mono fun y w2 h=>?_) ?_
 ·obtain⟨⟨A',m,c',hy,_,_⟩,hb⟩:=h;exact⟨⟨_,hy,A',m,c',rfl⟩,hb⟩
 rintro _ ⟨A',m,c',rfl⟩;refine aB ?_;exact aP (h:=fun _ _=>rfl)
theorem aDy(A:Option Addr)(n c:Nat)(g:List (List Int))(w:World)(hg:nD (all w) A n g)(hn:n=g.length)(hn2:(n:Int)≤9223372036854775806)(hlen:∀l∈g,(l.length:Int)≤9223372036854775806):
  Cz 61 #[.slice A n c] w (Rt (iv (Dv g)) w):=by
 refine aO func61 ntmps61 ?_;refine aB ?_;refine dG (fun w1 st=>aQ0 A n c g w1 (hg.le (kR (st.started (by simp)))) hn hn2 hlen) ?_;refine aB ?_;refine dG (fun w1 st=>uO _ _ w1) ?_;refine aB ?_;exact aP (h:=fun _ _=>rfl)
theorem aFG(A:Option Addr)(n c:Nat)(zs:List Int)(w:World)(hs:aH (all w) 1 A n (aN zs))(hn:n=zs.length)(hn2:n≤1000000):
  Cz 121 #[.slice A n c] w (fun y w'=>(∃v,y=.returned v∧aEl zs v w w')∧Below w.heap.size w w'):=by
 refine aO func121 ntmps121 ?_;refine aB ?_;refine lI 3 1 ?_;refine gZ 0 1 8 n (n':=n) (v:=sn) (el:=3) (by kernel_rfl) (by kernel_rfl) (by decide) rfl rfl rfl (rY (by simp) hs) (by simp[aN,Value.oneCell']) (by omega) (by omega) (by omega) (by decide) fun A' k'=>?_;refine aB ?_;refine dB [] [0] [] (by simp) rfl (by decide) (by decide) fun q hq _ hfr=>?_;subst hn;exact aP (h:=fun w1 st=>⟨_,rfl,A',k',rfl,(aH.own (hq 0 _ (by simp) rfl)).le (st.mQ (by simp) (hfr (by simp) (by simp)))⟩)
theorem aHE(s:aC)(A1 A2 A3 A4:Option Addr)(n1 k1 n2 k2 n3 k3 n4 k4:Nat)(w:World)(hW:iE w s A1 n1 A2 n2 A3 n3 A4 n4):
  Cz 62 #[.agg #[.slice A1 n1 k1,.slice A2 n2 k2,.slice A3 n3 k3,.slice A4 n4 k4]] w (fun y w'=>(∃v,y=.returned v∧Hi (jV s) v w w')∧Below w.heap.size w w'):=by
 have hn:=hW.qX
 have dU:=hW.small
 unfold aC.small at dU;obtain⟨hs1,iH,vA,yK,sK,tX⟩:=dU;refine aO func62 ntmps62 ?_;refine aB ?_;refine bN fun g1=>?_;refine aB ?_;refine lU 24 (el:=22) (z:=sn) (by kernel_rfl) (by kernel_rfl) rfl rfl rfl (by omega) (by omega) (by decide) fun g2=>?_;refine aB ?_;refine bM [(13,iv 0),(12,iv n1),(11,.slice A1 n1 k1),(3,.slice (some ⟨g2,0,none⟩) n1 n1),(1,pt g1)] ?_;refine dB [] [] [0,1] (by simp) rfl (by decide) (by decide) fun q0 _ _ Vo=>?_;refine aB ?_;refine eT (fun m e R H=>∃(k:Nat) (vs:List Value) (q:Piece),k≤n1∧m=n1 - k∧qQ w q∧Rows (tF (fI q)) 1 ((jV s).take k) (vs.map fun v=>[v])∧vs.length=k∧e=[(13,iv k),(12,iv n1),(11,.slice A1 n1 k1),(3,.slice (some ⟨g2,0,none⟩) n1 n1),(1,pt g1)]∧R=[q,all w]∧H=[HP.aE g2 22 (vs++List.replicate (n1 - k) (sn)),HP.aE g1 30 [.slice A1 n1 k1,.slice A2 n2 k2,.slice A3 n3 k3,.slice A4 n4 k4]]) n1 ⟨0,[],_,by omega,rfl,Vo (by simp) (by simp),trivial,rfl,rfl,rfl,rfl⟩ fun m e R H hI=>?_;obtain⟨k,vs,q,hk,rfl,Dg,hrows,hvl,rfl,rfl,rfl⟩:=hI;refine aB ?_;refine aG rfl (fun h=>?_) (fun h=>?_)
 ·
  refine aB ?_
  have hkn:k < s.aF.length:=by omega
  obtain⟨e,he⟩:∃e,s.aF[k]? =some e:=⟨_,List.getElem?_eq_getElem hkn⟩
  obtain⟨b,off,r,rfl,hrl,hR,hro⟩:=hW.uG.row he;obtain⟨Af,nf,kf,rfl,hnf,uZ⟩:=hR
  have Pr:(jV s)[k]? =some (e.src):=by simp[jV,he]
  refine aB ?_;refine bY fun g3=>?_;refine jM rfl (by decide) ?_;refine rR rfl rfl ?_;simp only[fS,Value.cells,List.set,List.take,List.drop,List.nil_append,List.append_nil,List.length_cons,List.length_nil,List.cons_append,Nat.reduceAdd];refine aB ?_;refine kA [q] (aEl e.src) (fun w1 st=>aFG Af nf kf e.src w1 (aH.le uZ (kR (st.started (by simp)))) hnf (by have:=sK e (List.mem_of_getElem? he);omega)) ?_;rintro _ w1 q' ⟨Ao,co,rfl,Ux⟩ hf' hle aCN;refine kd (dat (k) (k)) ?_;refine rQ 1 rfl (by kernel_rfl) rfl rfl rfl (by simp;omega) ?_;dsimp only[List.set];rw[aDk hvl (by omega)];refine aB ?_;exact eR (n1 - (k+1)) ⟨k+1,vs++[_],q',by omega,rfl,aCN (by simpa using Dg),Zq hrows (hle q (by simp)) Pr ⟨Ao,_,co,rfl,rfl,aH.le Ux hf'⟩,by simp[hvl],rfl,rfl,rfl⟩
 ·
  refine aB ?_;obtain rfl:k=n1:=by omega
  rw[Nat.sub_self,List.replicate_zero,List.append_nil];rw[List.take_of_length_le (by simp[jV];omega)] at hrows;refine aB ?_;refine dB [q] [0] [] (by simp) rfl (by decide) (by decide) fun q2 hq hle hfr=>?_
  have oG:k=(jV s).length:=by simp[jV];omega
  exact aP (h:=fun w1 st=>⟨_,rfl,some ⟨g2,0,none⟩,k,by rw[←oG],by rw[←oG];exact(aEo hrows (hle q (by simp)) (hq 0 _ (by simp) rfl) oG).le (st.mQ (by simp) (hfr (by simp) (by simpa using Dg)))⟩)
theorem aFQ(s:aC)(A1 A2 A3 A4:Option Addr)(n1 k1 n2 k2 n3 k3 n4 k4:Nat)(w:World)(hW:iE w s A1 n1 A2 n2 A3 n3 A4 n4):
  Cz 77 #[.agg #[.slice A1 n1 k1,.slice A2 n2 k2,.slice A3 n3 k3,.slice A4 n4 k4]] w (fun y w'=>(∃v,y=.returned v∧Hi (dL s) v w w')∧Below w.heap.size w w'):=by
 have hn:=hW.sH
 have dU:=hW.small
 unfold aC.small at dU;obtain⟨hs1,iH,vA,yK,sK,tX⟩:=dU;refine aO func77 ntmps77 ?_;refine aB ?_;refine bN fun g1=>?_;refine aB ?_;refine lU 24 (el:=22) (z:=sn) (by kernel_rfl) (by kernel_rfl) rfl rfl rfl (by omega) (by omega) (by decide) fun g2=>?_;refine aB ?_;refine bM [(13,iv 0),(12,iv n4),(11,.slice A4 n4 k4),(3,.slice (some ⟨g2,0,none⟩) n4 n4),(1,pt g1)] ?_;refine dB [] [] [0,1] (by simp) rfl (by decide) (by decide) fun q0 _ _ Vo=>?_;refine aB ?_;refine eT (fun m e R H=>∃(k:Nat) (vs:List Value) (q:Piece),k≤n4∧m=n4 - k∧qQ w q∧Rows (tF (fI q)) 1 ((dL s).take k) (vs.map fun v=>[v])∧vs.length=k∧e=[(13,iv k),(12,iv n4),(11,.slice A4 n4 k4),(3,.slice (some ⟨g2,0,none⟩) n4 n4),(1,pt g1)]∧R=[q,all w]∧H=[HP.aE g2 22 (vs++List.replicate (n4 - k) (sn)),HP.aE g1 30 [.slice A1 n1 k1,.slice A2 n2 k2,.slice A3 n3 k3,.slice A4 n4 k4]]) n4 ⟨0,[],_,by omega,rfl,Vo (by simp) (by simp),trivial,rfl,rfl,rfl,rfl⟩ fun m e R H hI=>?_;obtain⟨k,vs,q,hk,rfl,Dg,hrows,hvl,rfl,rfl,rfl⟩:=hI;refine aB ?_;refine aG rfl (fun h=>?_) (fun h=>?_)
 ·
  refine aB ?_
  have hkn:k < s.aD.length:=by omega
  obtain⟨e,he⟩:∃e,s.aD[k]? =some e:=⟨_,List.getElem?_eq_getElem hkn⟩
  obtain⟨b,off,r,rfl,hrl,hR,hro⟩:=hW.dev.row he;obtain⟨Ar,nr,kr,Af,nf,kf,rfl,_,hnf,_,uZ⟩:=hR
  have Pr:(dL s)[k]? =some (e.iX):=by simp[dL,he]
  refine aB ?_;refine bY fun g3=>?_;refine jM rfl (by decide) ?_;refine rR rfl rfl ?_;simp only[fS,Value.cells,List.set,List.take,List.drop,List.nil_append,List.append_nil,List.length_cons,List.length_nil,List.cons_append,Nat.reduceAdd];refine aB ?_;refine kA [q] (aEl e.iX) (fun w1 st=>aFG Af nf kf e.iX w1 (aH.le uZ (kR (st.started (by simp)))) hnf (by have:=tX e (List.mem_of_getElem? he);omega)) ?_;rintro _ w1 q' ⟨Ao,co,rfl,Ux⟩ hf' hle aCN;refine kd (dat (k) (k)) ?_;refine rQ 1 rfl (by kernel_rfl) rfl rfl rfl (by simp;omega) ?_;dsimp only[List.set];rw[aDk hvl (by omega)];refine aB ?_;exact eR (n4 - (k+1)) ⟨k+1,vs++[_],q',by omega,rfl,aCN (by simpa using Dg),Zq hrows (hle q (by simp)) Pr ⟨Ao,_,co,rfl,rfl,aH.le Ux hf'⟩,by simp[hvl],rfl,rfl,rfl⟩
 ·
  refine aB ?_;obtain rfl:k=n4:=by omega
  rw[Nat.sub_self,List.replicate_zero,List.append_nil];rw[List.take_of_length_le (by simp[dL];omega)] at hrows;refine aB ?_;refine dB [q] [0] [] (by simp) rfl (by decide) (by decide) fun q2 hq hle hfr=>?_
  have oG:k=(dL s).length:=by simp[dL];omega
  exact aP (h:=fun w1 st=>⟨_,rfl,some ⟨g2,0,none⟩,k,by rw[←oG],by rw[←oG];exact(aEo hrows (hle q (by simp)) (hq 0 _ (by simp) rfl) oG).le (st.mQ (by simp) (hfr (by simp) (by simpa using Dg)))⟩)
theorem aHr(s:aC)(A1 A2 A3 A4:Option Addr)(n1 k1 n2 k2 n3 k3 n4 k4:Nat)(w:World)(hW:iE w s A1 n1 A2 n2 A3 n3 A4 n4):
  Cz 68 #[.agg #[.slice A1 n1 k1,.slice A2 n2 k2,.slice A3 n3 k3,.slice A4 n4 k4]] w (fun y w'=>(∃v,y=.returned v∧Hi (jU s) v w w')∧Below w.heap.size w w'):=by
 have hn:=hW.qW
 have dU:=hW.small
 unfold aC.small at dU;obtain⟨hs1,iH,vA,yK,sK,tX⟩:=dU;refine aO func68 ntmps68 ?_;refine aB ?_;refine bN fun g1=>?_;refine aB ?_;refine lU 24 (el:=22) (z:=sn) (by kernel_rfl) (by kernel_rfl) rfl rfl rfl (by omega) (by omega) (by decide) fun g2=>?_;refine aB ?_;refine bM [(13,iv 0),(12,iv n2),(11,.slice A2 n2 k2),(3,.slice (some ⟨g2,0,none⟩) n2 n2),(1,pt g1)] ?_;refine dB [] [] [0,1] (by simp) rfl (by decide) (by decide) fun q0 _ _ Vo=>?_;refine aB ?_;refine eT (fun m e R H=>∃(k:Nat) (vs:List Value) (q:Piece),k≤n2∧m=n2 - k∧qQ w q∧Rows (tF (fI q)) 1 ((jU s).take k) (vs.map fun v=>[v])∧vs.length=k∧e=[(13,iv k),(12,iv n2),(11,.slice A2 n2 k2),(3,.slice (some ⟨g2,0,none⟩) n2 n2),(1,pt g1)]∧R=[q,all w]∧H=[HP.aE g2 22 (vs++List.replicate (n2 - k) (sn)),HP.aE g1 30 [.slice A1 n1 k1,.slice A2 n2 k2,.slice A3 n3 k3,.slice A4 n4 k4]]) n2 ⟨0,[],_,by omega,rfl,Vo (by simp) (by simp),trivial,rfl,rfl,rfl,rfl⟩ fun m e R H hI=>?_;obtain⟨k,vs,q,hk,rfl,Dg,hrows,hvl,rfl,rfl,rfl⟩:=hI;refine aB ?_;refine aG rfl (fun h=>?_) (fun h=>?_)
 ·
  refine aB ?_
  have hkn:k < s.domains.length:=by omega
  obtain⟨e,he⟩:∃e,s.domains[k]? =some e:=⟨_,List.getElem?_eq_getElem hkn⟩
  obtain⟨b,off,r,rfl,hrl,hR,hro⟩:=hW.dom.row he;obtain rfl:=hR
  have Pr:(jU s)[k]? =some (if e.above= -1 then[] else[e.above]):=by simp[jU,he]
  refine aB ?_;refine bY fun g3=>?_;refine jM rfl (by decide) ?_;refine rR rfl rfl ?_;simp only[fS,Value.cells,List.set,List.take,List.drop,List.nil_append,List.append_nil,List.length_cons,List.length_nil,List.cons_append,Nat.reduceAdd];refine aB ?_;refine aG rfl (fun h=>?_) (fun h=>?_)
  ·
   refine aB ?_;refine eG fun g4=>?_;refine kd (dat (k) (k)) ?_;refine rQ 2 rfl (by kernel_rfl) rfl rfl rfl (by simp;omega) ?_;dsimp only[List.set];rw[aDk hvl (by omega)];refine aB ?_;refine dB [q] [0] [2,3] (by simp) rfl (by decide) (by decide) fun q' nI hle aA0=>?_;obtain⟨Fg,hsg,hzg⟩:=nI 0 _ (by simp) rfl
   have Ux:=qP (n:=1) (sz:=1) (c:=0) hsg hzg rfl
   exact eR (n2 - (k+1)) ⟨k+1,vs++[_],q',by omega,rfl,aA0 (by simp) (by simpa using Dg),Zq hrows (hle q (by simp)) Pr (by rw[if_neg h];exact⟨_,1,1,rfl,rfl,Ux⟩),by simp[hvl],rfl,rfl,rfl⟩
  ·
   refine aB ?_;rw[aON (k:=k) (by omega)];exact eR (n2 - (k+1)) ⟨k+1,vs++[_],q,by omega,rfl,Dg,Zq hrows (fun b hb=>⟨hb,rfl⟩) Pr (by rw[if_pos (Classical.not_not.1 h)];exact⟨_,0,0,rfl,rfl,aH.nil _ 1⟩),by simp[hvl],rfl,rfl,rfl⟩
 ·
  refine aB ?_;obtain rfl:k=n2:=by omega
  rw[Nat.sub_self,List.replicate_zero,List.append_nil];rw[List.take_of_length_le (by simp[jU];omega)] at hrows;refine aB ?_;refine dB [q] [0] [] (by simp) rfl (by decide) (by decide) fun q2 hq hle hfr=>?_
  have oG:k=(jU s).length:=by simp[jU];omega
  exact aP (h:=fun w1 st=>⟨_,rfl,some ⟨g2,0,none⟩,k,by rw[←oG],by rw[←oG];exact(aEo hrows (hle q (by simp)) (hq 0 _ (by simp) rfl) oG).le (st.mQ (by simp) (hfr (by simp) (by simpa using Dg)))⟩)
end
section
def Fz(s:aC):Int:=if(12:Int) < s.aF.length∨(6:Int) < s.domains.length∨(6:Int) < s.aY.length∨(6:Int) < s.aD.length then 8 else kI (s.aD.map Ox)
def aAL(s:aC):List Int:=[Fz s,kI (s.aF.map (Mq s.aF.length)),Dv (jV s),kI (s.domains.map (Qs s.domains.length)),Dv (jU s),kI (s.aY.map Zs),
 kI (s.aD.map (Qw s.aF.length s.domains.length s.aY.length s.aD.length)),Dv (dL s)]
def Xi(s:aC):Int:=kI (aAL s)
theorem jW.rows{α:Type}{w:World}{R:α→List Value→Prop}{t:TypeId}{sz n:Nat}{A:Option Addr}{es:List α}(h:jW (fI (all w)) R t sz A n es)(h1:∀e r,R e r→∀u∈r,u.oneCell'=true):
  ∃rows:List (List Value),aH (all w) sz A n rows.flatten∧(∀r∈rows,r.length=sz)∧(∀r∈rows,∀u∈r,u.oneCell'=true)∧rows.length=n∧n=es.length∧∀(i:Nat) (r:List Value),rows[i]? =some r→∃e,es[i]? =some e∧R e r:=by
 obtain⟨rows,h2,h3,h4⟩:=h;refine⟨rows,h4,h2.Bv,fun r hr=>?_,by rw[h2.len.1,h3],h3,fun i r hr=>?_⟩
 ·obtain⟨i,hi⟩:=List.getElem?_of_mem hr;obtain⟨e,_,_,hR⟩:=h2.at_ hi;exact h1 e r hR
 ·obtain⟨e,he,_,hR⟩:=h2.at_ hr;exact⟨e,he,hR⟩
theorem qS.one{S:tC}(e:eU)(r:List Value)(h:qS S e r):∀u∈r,u.oneCell'=true:=by obtain⟨A,n,k,rfl,_⟩:=h;simp[Value.oneCell']
theorem tH.one(e:Dom)(r:List Value)(h:tH e r):∀u∈r,u.oneCell'=true:=by cases h;simp[Value.oneCell']
theorem xO.one(e:Int)(r:List Value)(h:xO e r):∀u∈r,u.oneCell'=true:=by cases h;simp[Value.oneCell']
theorem pX.one{S:tC}(e:cH)(r:List Value)(h:pX S e r):∀u∈r,u.oneCell'=true:=by obtain⟨A,n,k,A',n',k',rfl,_⟩:=h;simp[Value.oneCell']
theorem aOz(s : aC)(A1 A2 A3 A4 : Option Addr)(n1 k1 n2 k2 n3 k3 n4 k4 : Nat)(w : World)(hW : iE w s A1 n1 A2 n2 A3 n3 A4 n4) :
    Cz 55 #[.agg #[.slice A1 n1 k1,.slice A2 n2 k2,.slice A3 n3 k3,.slice A4 n4 k4]] w (Rt (iv (Fz s)) w):=by
  have qG:=hW.qX
  have hn2:=hW.qW
  have sL:=hW.tT
  have tZ:=hW.sH
  have dU:=hW.small
  unfold aC.small at dU;obtain⟨hs1,iH,vA,yK,sK,tX⟩:=dU;obtain⟨rows,dN,fJ,wT,Fp,hr5,Fo⟩:=hW.dev.rows pX.one;refine aO func55 ntmps55 ?_;refine aB ?_;refine bN fun g1=>?_;refine aB ?_;refine bX (t:=7) rfl (fun hg=>?_) (fun hg=>?_)
  ·
    refine aB ?_;exact aP (h:=fun _ _=>by rw[Fz,if_pos (by omega)])
  ·
    refine aB ?_;refine bX (t:=13) rfl (fun hg=>?_) (fun hg=>?_)
    ·
      refine aB ?_;exact aP (h:=fun _ _=>by rw[Fz,if_pos (by omega)])
    ·
      refine aB ?_;refine bX (t:=19) rfl (fun hg=>?_) (fun hg=>?_)
      ·
        refine aB ?_;exact aP (h:=fun _ _=>by rw[Fz,if_pos (by omega)])
      ·
        refine aB ?_;refine aG rfl (fun h=>?_) (fun h=>?_)
        ·
          refine aB ?_;exact aP (h:=fun _ _=>by rw[Fz,if_pos (by omega)])
        ·
          refine aB ?_
          refine dG (fun w1 st=>aHp A4 n4 k4 110 [] rows (s.aD.map Ox) w1 (dN.le (kR (st.started (by simp)))) fJ wT Fp (by simp;omega) (by omega) (by kernel_rfl) (fun i r x hr hx w2 dZ=>by
    have jG:=(st.started (by simp)).trans (dZ.mono st.size)
    obtain⟨e,he,hR⟩:=Fo i r hr;rw[List.getElem?_map,he] at hx;cases hx;obtain⟨Ar,nr,kr,Af,nf,kf,rfl,gN,hnf,_,uZ⟩:=hR
    exact aO0 e.aS e.iX _ _ _ _ _ _ _ _ _ _ w2 gN hnf)) ?_
          refine aB ?_;exact aP (h:=fun _ _=>by rw[Fz,if_neg (by omega)])
theorem check_1(s:aC)(A1 A2 A3 A4:Option Addr)(n1 k1 n2 k2 n3 k3 n4 k4:Nat)(w:World)(hW:iE w s A1 n1 A2 n2 A3 n3 A4 n4)(gs:Nat)(hs:dP w gs 0 [.slice A1 n1 k1,.slice A2 n2 k2,.slice A3 n3 k3,.slice A4 n4 k4]):
  Cz 54 #[pt gs] w (Rt (iv (Fz s)) w):=by
 have qG:=hW.qX
 have hn2:=hW.qW
 have sL:=hW.tT
 have tZ:=hW.sH
 have dU:=hW.small
 unfold aC.small at dU;obtain⟨hs1,iH,vA,yK,sK,tX⟩:=dU;refine aO func54 ntmps54 ?_;refine aB ?_;refine dG (fun w1 st=>aOz s A1 A2 A3 A4 n1 k1 n2 k2 n3 k3 n4 k4 w1 (hW.le (st.started (by simp)))) ?_;refine aB ?_;exact aP (h:=fun _ _=>rfl)
theorem aQ9(kind rate mul div lock:Int)(A:Option Addr)(n k:Nat)(A1 A2 A3 A4:Option Addr)(n1 k1 n2 k2 n3 k3 n4 k4:Nat)(gs:Nat)(w:World)(hs:dP w gs 0 [.slice A1 n1 k1,.slice A2 n2 k2,.slice A3 n3 k3,.slice A4 n4 k4])(lZ:(n1:Int)≤9223372036854775806)(zs:List Int)(hA:aH (all w) 1 A n (aN zs))(hn:n=zs.length)(hz:(n:Int)≤9223372036854775806):
  Cz 58 #[.agg #[.int .u8 kind,.slice A n k,.int .u64 rate,iv mul,iv div,iv lock],pt gs] w (Rt (iv (Mq n1 ⟨kind,zs,rate,mul,div,lock⟩)) w):=by
 refine aO func58 ntmps58 ?_;refine aB ?_;refine bN fun g1=>?_;refine aB ?_;refine dG (fun w1 st=>aQk kind rate mul div lock A n k A1 A2 A3 A4 n1 k1 n2 k2 n3 k3 n4 k4 w1 lZ zs (hA.le (kR (st.started (by simp)))) hn hz) ?_;refine aB ?_;exact aP (h:=fun _ _=>rfl)
theorem aQ6(above delay:Int)(ret:Bool)(A1 A2 A3 A4:Option Addr)(n1 k1 n2 k2 n3 k3 n4 k4:Nat)(gs:Nat)(w:World)(hs:dP w gs 0 [.slice A1 n1 k1,.slice A2 n2 k2,.slice A3 n3 k3,.slice A4 n4 k4])(oY:(n2:Int)≤9223372036854775806):
  Cz 65 #[.agg #[iv above,iv delay,.bool ret],pt gs] w (Rt (iv (Qs n2 ⟨above,delay,ret⟩)) w):=by
 refine aO func65 ntmps65 ?_;refine aB ?_;refine bN fun g1=>?_;refine aB ?_;refine dG (fun w1 st=>aPx above delay ret A1 A2 A3 A4 n1 k1 n2 k2 n3 k3 n4 k4 w1 oY) ?_;refine aB ?_;exact aP (h:=fun _ _=>rfl)
theorem aQ2(rg:List Rg)(clock domain reset iJ:Int)(A B:Option Addr)(n k nb kb:Nat)(A1 A2 A3 A4:Option Addr)(n1 k1 n2 k2 n3 k3 n4 k4:Nat)(gs:Nat)(w:World)(hs:dP w gs 0 [.slice A1 n1 k1,.slice A2 n2 k2,.slice A3 n3 k3,.slice A4 n4 k4])(lZ:(n1:Int)≤9223372036854775806)(oY:(n2:Int)≤9223372036854775806)(hz3:(n3:Int)≤9223372036854775806)(Pe:(n4:Int)≤9223372036854775806)(zs:List Int)(hA:aH (all w) 1 A n (aN zs))(hn:n=zs.length)(hz:(n:Int)≤9223372036854775806):
  Cz 74 #[.agg #[iv clock,iv domain,iv reset,.int .u32 iJ,.slice B nb kb,.slice A n k],pt gs] w (Rt (iv (Qw n1 n2 n3 n4 ⟨clock,domain,reset,iJ,rg,zs⟩)) w):=by
 refine aO func74 ntmps74 ?_;refine aB ?_;refine bN fun g1=>?_;refine aB ?_;refine dG (fun w1 st=>aPJ rg clock domain reset iJ A B n k nb kb A1 A2 A3 A4 n1 k1 n2 k2 n3 k3 n4 k4 w1 lZ oY hz3 Pe zs (hA.le (kR (st.started (by simp)))) hn hz) ?_;refine aB ?_;exact aP (h:=fun _ _=>rfl)
theorem aQA(s:aC)(A1 A2 A3 A4:Option Addr)(n1 k1 n2 k2 n3 k3 n4 k4:Nat)(w:World)(hW:iE w s A1 n1 A2 n2 A3 n3 A4 n4)(gs:Nat)(hs:dP w gs 0 [.slice A1 n1 k1,.slice A2 n2 k2,.slice A3 n3 k3,.slice A4 n4 k4]):
  Cz 56 #[pt gs] w (Rt (iv (kI (s.aF.map (Mq s.aF.length)))) w):=by
 have qG:=hW.qX
 have hn2:=hW.qW
 have sL:=hW.tT
 have tZ:=hW.sH
 have dU:=hW.small
 unfold aC.small at dU;obtain⟨hs1,iH,vA,yK,sK,tX⟩:=dU;obtain⟨rows,dN,fJ,wT,Fp,hr5,Fo⟩:=hW.uG.rows qS.one;rw[←qG];refine aO func56 ntmps56 ?_;refine aA ?_;refine jY (vf:=[]) (vc:=[pt gs]) rfl rfl (by decide) ?_
 refine dG (fun w1 st=>aPi A1 n1 k1 58 [pt gs] rows (s.aF.map (Mq n1)) w1 (dN.le (kR (st.started (by simp)))) fJ wT Fp (by simp;omega) (by omega) (by kernel_rfl) (fun i r x hr hx w2 dZ=>by
  have jG:=(st.started (by simp)).trans (dZ.mono st.size)
  obtain⟨e,he,hR⟩:=Fo i r hr;rw[List.getElem?_map,he] at hx;cases hx;obtain⟨Af,nf,kf,rfl,hnf,uZ⟩:=hR
  exact aQ9 _ _ _ _ _ _ _ _ A1 A2 A3 A4 n1 k1 n2 k2 n3 k3 n4 k4 gs w2 (hs.below jG) (by omega) e.src (aH.le uZ (kR jG)) hnf (by have:=sK e (List.mem_of_getElem? he);omega))) ?_
 refine aA ?_;exact aP (h:=fun _ _=>rfl)
theorem aQ7(s:aC)(A1 A2 A3 A4:Option Addr)(n1 k1 n2 k2 n3 k3 n4 k4:Nat)(w:World)(hW:iE w s A1 n1 A2 n2 A3 n3 A4 n4)(gs:Nat)(hs:dP w gs 0 [.slice A1 n1 k1,.slice A2 n2 k2,.slice A3 n3 k3,.slice A4 n4 k4]):
  Cz 63 #[pt gs] w (Rt (iv (kI (s.domains.map (Qs s.domains.length)))) w):=by
 have qG:=hW.qX
 have hn2:=hW.qW
 have sL:=hW.tT
 have tZ:=hW.sH
 have dU:=hW.small
 unfold aC.small at dU;obtain⟨hs1,iH,vA,yK,sK,tX⟩:=dU;obtain⟨rows,dN,fJ,wT,Fp,hr5,Fo⟩:=hW.dom.rows tH.one;rw[←hn2];refine aO func63 ntmps63 ?_;refine aA ?_;refine jY (vf:=[]) (vc:=[pt gs]) rfl rfl (by decide) ?_
 refine dG (fun w1 st=>aPh A2 n2 k2 65 [pt gs] rows (s.domains.map (Qs n2)) w1 (dN.le (kR (st.started (by simp)))) fJ wT Fp (by simp;omega) (by omega) (by kernel_rfl) (fun i r x hr hx w2 dZ=>by
  have jG:=(st.started (by simp)).trans (dZ.mono st.size)
  obtain⟨e,he,hR⟩:=Fo i r hr;rw[List.getElem?_map,he] at hx;cases hx;obtain rfl:=hR
  exact aQ6 _ _ _ A1 A2 A3 A4 n1 k1 n2 k2 n3 k3 n4 k4 gs w2 (hs.below jG) (by omega))) ?_
 refine aA ?_;exact aP (h:=fun _ _=>rfl)
theorem aQ4(s:aC)(A1 A2 A3 A4:Option Addr)(n1 k1 n2 k2 n3 k3 n4 k4:Nat)(w:World)(hW:iE w s A1 n1 A2 n2 A3 n3 A4 n4)(gs:Nat)(hs:dP w gs 0 [.slice A1 n1 k1,.slice A2 n2 k2,.slice A3 n3 k3,.slice A4 n4 k4]):
  Cz 69 #[pt gs] w (Rt (iv (kI (s.aY.map Zs))) w):=by
 have qG:=hW.qX
 have hn2:=hW.qW
 have sL:=hW.tT
 have tZ:=hW.sH
 have dU:=hW.small
 unfold aC.small at dU;obtain⟨hs1,iH,vA,yK,sK,tX⟩:=dU;obtain⟨rows,dN,fJ,wT,Fp,hr5,Fo⟩:=hW.zW.rows xO.one;refine aO func69 ntmps69 ?_;refine aB ?_
 refine dG (fun w1 st=>aPg A3 n3 k3 71 [] rows (s.aY.map Zs) w1 (dN.le (kR (st.started (by simp)))) fJ wT Fp (by simp;omega) (by omega) (by kernel_rfl) (fun i r x hr hx w2 dZ=>by
  have jG:=(st.started (by simp)).trans (dZ.mono st.size)
  obtain⟨e,he,hR⟩:=Fo i r hr;rw[List.getElem?_map,he] at hx;cases hx;obtain rfl:=hR
  exact aLx _ w2)) ?_
 refine aB ?_;exact aP (h:=fun _ _=>rfl)
theorem aQ3(s:aC)(A1 A2 A3 A4:Option Addr)(n1 k1 n2 k2 n3 k3 n4 k4:Nat)(w:World)(hW:iE w s A1 n1 A2 n2 A3 n3 A4 n4)(gs:Nat)(hs:dP w gs 0 [.slice A1 n1 k1,.slice A2 n2 k2,.slice A3 n3 k3,.slice A4 n4 k4]):
  Cz 72 #[pt gs] w (Rt (iv (kI (s.aD.map (Qw s.aF.length s.domains.length s.aY.length s.aD.length)))) w):=by
 have qG:=hW.qX
 have hn2:=hW.qW
 have sL:=hW.tT
 have tZ:=hW.sH
 have dU:=hW.small
 unfold aC.small at dU;obtain⟨hs1,iH,vA,yK,sK,tX⟩:=dU;obtain⟨rows,dN,fJ,wT,Fp,hr5,Fo⟩:=hW.dev.rows pX.one;rw[←qG,←hn2,←sL,←tZ];refine aO func72 ntmps72 ?_;refine aA ?_;refine jY (vf:=[]) (vc:=[pt gs]) rfl rfl (by decide) ?_
 refine dG (fun w1 st=>aHp A4 n4 k4 74 [pt gs] rows (s.aD.map (Qw n1 n2 n3 n4)) w1 (dN.le (kR (st.started (by simp)))) fJ wT Fp (by simp;omega) (by omega) (by kernel_rfl) (fun i r x hr hx w2 dZ=>by
  have jG:=(st.started (by simp)).trans (dZ.mono st.size)
  obtain⟨e,he,hR⟩:=Fo i r hr;rw[List.getElem?_map,he] at hx;cases hx;obtain⟨Ar,nr,kr,Af,nf,kf,rfl,gN,hnf,_,uZ⟩:=hR
  exact aQ2 e.aS _ _ _ _ _ _ _ _ _ _ A1 A2 A3 A4 n1 k1 n2 k2 n3 k3 n4 k4 gs w2 (hs.below jG) (by omega) (by omega) (by omega) (by omega) e.iX (aH.le uZ (kR jG)) hnf (by have:=tX e (List.mem_of_getElem? he);omega))) ?_
 refine aA ?_;exact aP (h:=fun _ _=>rfl)
theorem aQ8(s:aC)(A1 A2 A3 A4:Option Addr)(n1 k1 n2 k2 n3 k3 n4 k4:Nat)(w:World)(hW:iE w s A1 n1 A2 n2 A3 n3 A4 n4)(gs:Nat)(hs:dP w gs 0 [.slice A1 n1 k1,.slice A2 n2 k2,.slice A3 n3 k3,.slice A4 n4 k4]):
  Cz 60 #[pt gs] w (Rt (iv (Dv (jV s))) w):=by
 have qG:=hW.qX
 have hn2:=hW.qW
 have sL:=hW.tT
 have tZ:=hW.sH
 have dU:=hW.small
 unfold aC.small at dU;obtain⟨hs1,iH,vA,yK,sK,tX⟩:=dU;refine aO func60 ntmps60 ?_;refine aB ?_;refine kA [] (Hi (jV s)) (fun w1 st=>aHE s A1 A2 A3 A4 n1 k1 n2 k2 n3 k3 n4 k4 w1 (hW.le (st.started (by simp)))) ?_;rintro _ w1 q ⟨Ag,cg,rfl,pQ⟩ hf' _ aA0
 have Vl:=pQ.le hf'
 have oG:(jV s).length=n1:=by simp[jV];omega
 refine dG (fun w1 st=>aDy Ag _ cg (jV s) w1 (Vl.le (st.le (by simp))) rfl (by omega) (fun l hl=>by
  simp only[jV,List.mem_map] at hl;obtain⟨x,hx,rfl⟩:=hl
  have:=sK x hx;omega)) ?_
 refine aB ?_;exact aP (h:=fun _ _=>rfl)
theorem aQ5(s:aC)(A1 A2 A3 A4:Option Addr)(n1 k1 n2 k2 n3 k3 n4 k4:Nat)(w:World)(hW:iE w s A1 n1 A2 n2 A3 n3 A4 n4)(gs:Nat)(hs:dP w gs 0 [.slice A1 n1 k1,.slice A2 n2 k2,.slice A3 n3 k3,.slice A4 n4 k4]):
  Cz 67 #[pt gs] w (Rt (iv (Dv (jU s))) w):=by
 have qG:=hW.qX
 have hn2:=hW.qW
 have sL:=hW.tT
 have tZ:=hW.sH
 have dU:=hW.small
 unfold aC.small at dU;obtain⟨hs1,iH,vA,yK,sK,tX⟩:=dU;refine aO func67 ntmps67 ?_;refine aB ?_;refine kA [] (Hi (jU s)) (fun w1 st=>aHr s A1 A2 A3 A4 n1 k1 n2 k2 n3 k3 n4 k4 w1 (hW.le (st.started (by simp)))) ?_;rintro _ w1 q ⟨Ag,cg,rfl,pQ⟩ hf' _ aA0
 have Vl:=pQ.le hf'
 have oG:(jU s).length=n2:=by simp[jU];omega
 refine dG (fun w1 st=>aDy Ag _ cg (jU s) w1 (Vl.le (st.le (by simp))) rfl (by omega) (fun l hl=>by
  simp only[jU,List.mem_map] at hl;obtain⟨x,hx,rfl⟩:=hl
  split<;>simp)) ?_
 refine aB ?_;exact aP (h:=fun _ _=>rfl)
theorem aQ1(s:aC)(A1 A2 A3 A4:Option Addr)(n1 k1 n2 k2 n3 k3 n4 k4:Nat)(w:World)(hW:iE w s A1 n1 A2 n2 A3 n3 A4 n4)(gs:Nat)(hs:dP w gs 0 [.slice A1 n1 k1,.slice A2 n2 k2,.slice A3 n3 k3,.slice A4 n4 k4]):
  Cz 76 #[pt gs] w (Rt (iv (Dv (dL s))) w):=by
 have qG:=hW.qX
 have hn2:=hW.qW
 have sL:=hW.tT
 have tZ:=hW.sH
 have dU:=hW.small
 unfold aC.small at dU;obtain⟨hs1,iH,vA,yK,sK,tX⟩:=dU;refine aO func76 ntmps76 ?_;refine aB ?_;refine kA [] (Hi (dL s)) (fun w1 st=>aFQ s A1 A2 A3 A4 n1 k1 n2 k2 n3 k3 n4 k4 w1 (hW.le (st.started (by simp)))) ?_;rintro _ w1 q ⟨Ag,cg,rfl,pQ⟩ hf' _ aA0
 have Vl:=pQ.le hf'
 have oG:(dL s).length=n4:=by simp[dL];omega
 refine dG (fun w1 st=>aDy Ag _ cg (dL s) w1 (Vl.le (st.le (by simp))) rfl (by omega) (fun l hl=>by
  simp only[dL,List.mem_map] at hl;obtain⟨x,hx,rfl⟩:=hl
  have:=tX x hx;omega)) ?_
 refine aB ?_;exact aP (h:=fun _ _=>rfl)
theorem aAK(s:aC)(A1 A2 A3 A4:Option Addr)(n1 k1 n2 k2 n3 k3 n4 k4:Nat)(w:World)(hW:iE w s A1 n1 A2 n2 A3 n3 A4 n4):
  Cz 27 #[.agg #[.slice A1 n1 k1,.slice A2 n2 k2,.slice A3 n3 k3,.slice A4 n4 k4]] w (Rt (iv (Xi s)) w):=by
 refine aO func27 ntmps27 ?_;refine aA ?_;refine bN fun g1=>?_;refine aA ?_;refine jY (vf:=[]) (vc:=[pt g1]) rfl rfl (by decide) ?_;refine jY (vf:=[]) (vc:=[pt g1]) rfl rfl (by decide) ?_;refine jY (vf:=[]) (vc:=[pt g1]) rfl rfl (by decide) ?_;refine jY (vf:=[]) (vc:=[pt g1]) rfl rfl (by decide) ?_;refine jY (vf:=[]) (vc:=[pt g1]) rfl rfl (by decide) ?_;refine jY (vf:=[]) (vc:=[pt g1]) rfl rfl (by decide) ?_;refine jY (vf:=[]) (vc:=[pt g1]) rfl rfl (by decide) ?_;refine jY (vf:=[]) (vc:=[pt g1]) rfl rfl (by decide) ?_;refine eG fun g2=>?_
 refine dG (fun w1 st=>aAC _ _ _ [(54,[pt g1]),(56,[pt g1]),(60,[pt g1]),(63,[pt g1]),(67,[pt g1]),(69,[pt g1]),(72,[pt g1]),(76,[pt g1])] (aAL s) w1 (st.uS (i:=0) (n:=8) (sz:=1) (cs:=[.func (.func 54) #[] #[pt g1],.func (.func 56) #[] #[pt g1],.func (.func 60) #[] #[pt g1],.func (.func 63) #[] #[pt g1],.func (.func 67) #[] #[pt g1],.func (.func 69) #[] #[pt g1],.func (.func 72) #[] #[pt g1],.func (.func 76) #[] #[pt g1]]) rfl rfl) rfl rfl (by decide) (by simp only[List.mem_cons,List.not_mem_nil,or_false];rintro f (rfl | rfl | rfl | rfl | rfl | rfl | rfl | rfl)<;>kernel_rfl) (fun i f x hf hx w2 dZ=>by
  have jG:=(st.started (by simp)).trans (dZ.mono st.size)
  unfold aAL at hx
  match i,hf,hx with
  | 0,hf,hx=>cases hf;cases hx;exact check_1 s A1 A2 A3 A4 n1 k1 n2 k2 n3 k3 n4 k4 w2 (hW.le jG) g1 (st.box (cs:=[.slice A1 n1 k1,.slice A2 n2 k2,.slice A3 n3 k3,.slice A4 n4 k4]) (i:=1) rfl|>.below dZ)
  | 1,hf,hx=>cases hf;cases hx;exact aQA s A1 A2 A3 A4 n1 k1 n2 k2 n3 k3 n4 k4 w2 (hW.le jG) g1 (st.box (cs:=[.slice A1 n1 k1,.slice A2 n2 k2,.slice A3 n3 k3,.slice A4 n4 k4]) (i:=1) rfl|>.below dZ)
  | 2,hf,hx=>cases hf;cases hx;exact aQ8 s A1 A2 A3 A4 n1 k1 n2 k2 n3 k3 n4 k4 w2 (hW.le jG) g1 (st.box (cs:=[.slice A1 n1 k1,.slice A2 n2 k2,.slice A3 n3 k3,.slice A4 n4 k4]) (i:=1) rfl|>.below dZ)
  | 3,hf,hx=>cases hf;cases hx;exact aQ7 s A1 A2 A3 A4 n1 k1 n2 k2 n3 k3 n4 k4 w2 (hW.le jG) g1 (st.box (cs:=[.slice A1 n1 k1,.slice A2 n2 k2,.slice A3 n3 k3,.slice A4 n4 k4]) (i:=1) rfl|>.below dZ)
  | 4,hf,hx=>cases hf;cases hx;exact aQ5 s A1 A2 A3 A4 n1 k1 n2 k2 n3 k3 n4 k4 w2 (hW.le jG) g1 (st.box (cs:=[.slice A1 n1 k1,.slice A2 n2 k2,.slice A3 n3 k3,.slice A4 n4 k4]) (i:=1) rfl|>.below dZ)
  | 5,hf,hx=>cases hf;cases hx;exact aQ4 s A1 A2 A3 A4 n1 k1 n2 k2 n3 k3 n4 k4 w2 (hW.le jG) g1 (st.box (cs:=[.slice A1 n1 k1,.slice A2 n2 k2,.slice A3 n3 k3,.slice A4 n4 k4]) (i:=1) rfl|>.below dZ)
  | 6,hf,hx=>cases hf;cases hx;exact aQ3 s A1 A2 A3 A4 n1 k1 n2 k2 n3 k3 n4 k4 w2 (hW.le jG) g1 (st.box (cs:=[.slice A1 n1 k1,.slice A2 n2 k2,.slice A3 n3 k3,.slice A4 n4 k4]) (i:=1) rfl|>.below dZ)
  | 7,hf,hx=>cases hf;cases hx;exact aQ1 s A1 A2 A3 A4 n1 k1 n2 k2 n3 k3 n4 k4 w2 (hW.le jG) g1 (st.box (cs:=[.slice A1 n1 k1,.slice A2 n2 k2,.slice A3 n3 k3,.slice A4 n4 k4]) (i:=1) rfl|>.below dZ)
  | i+8,hf,_=>simp at hf)) ?_
 refine aA ?_;exact aP (h:=fun _ _=>rfl)
end
section
attribute [local irreducible] KC KI KQ
def bF(l:List Bool):List Value:=l.map .bool
theorem aHP{l:List Bool}{i:Nat}{b:Bool}(h:l[i]? =some b):(bF l)[i]? =some (.bool b):=by simp[bF,h]
def hasB(l:List Bool)(i:Nat):Bool:=l[i]?.getD false
def RP(p:Piece)(g o:Nat)(v:Value):Prop:=p.Z g∧p.w.cell? ⟨g,o,none⟩=some v
theorem RP.le{p q:Piece}{g o:Nat}{v:Value}(h:RP p g o v)(hl:p.Le q):RP q g o v:=⟨(hl g h.1).1,(World.cell?_of_block (w:=p.w) (a:=⟨g,o,none⟩) (hl g h.1).2).trans h.2⟩
theorem RP.rd{w0:World}{R:List Piece}{H:List HP}{p:Piece}{g o:Nat}{v:Value}(h:RP p g o v)(hp:p∈R):Rd w0 R H g o v:=Rd.ro hp h.1 h.2
theorem Iter.le{P:Program}{g:FuncId}{lb:List Value}{encs:List (List Value)}{p q:Piece}(h:Iter P g lb encs p)(hl:p.Le q):Iter P g lb encs q:=fun l J Jx W F hq hd=>h l J Jx W F (fun b hb=>⟨(hq b (hl b hb).1).1,((hq b (hl b hb).1).2).trans (hl b hb).2⟩) (fun b hb=>hd b (hl b hb).1)
theorem aOM{α:Type}{l:List α}{s:α→Bool}{k:Nat}{x:α}(hx:l[k]? =some x)(hs:s x=true):(l.filter s)[((l.take k).filter s).length]? =some x∧((l.take (k+1)).filter s).length=((l.take k).filter s).length+1:=by
 have h1:l.take (k+1)=l.take k++[x]:=by rw[List.take_add_one,hx];rfl
 have h2:l=l.take k++x::l.drop (k+1):=by
  have hlt:=(List.getElem?_eq_some_iff.1 hx).1
  have hv:=(List.getElem?_eq_some_iff.1 hx).2
  rw[←hv,List.getElem_cons_drop hlt,List.take_append_drop]
 refine⟨?_,by rw[h1,List.filter_append];simp[hs]⟩
 have h3:l.filter s=(l.take k).filter s++(x::l.drop (k+1)).filter s:=by rw[←List.filter_append,←h2]
 rw[h3,List.getElem?_append_right (Nat.le_refl _),Nat.sub_self,List.filter_cons_of_pos hs];rfl
theorem aHe{α:Type}{l:List α}{s:α→Bool}{k:Nat}{x:α}(hx:l[k]? =some x)(hs:s x=false):((l.take (k+1)).filter s).length=((l.take k).filter s).length:=by
 rw[List.take_add_one,hx,Option.toList_some,List.filter_append];simp[hs]
def zR(fr to:List Bool)(i:Nat):Bool:=hasB to i&& !hasB fr i
def iO(order:List Nat)(fr to:List Bool):List Nat:=order.filter (zR fr to)
def uY(ids:List Nat):List (List Value):=ids.map fun(i:Nat)=>[iv (i:Int)]
theorem aCV(A:Option Addr)(n c i:Nat)(bs:List Bool)(w:World)(hs:aH (all w) 1 A n (bF bs))(hn:n=bs.length)(hi:(i:Int)≤9223372036854775807):
  Cz 166 #[.slice A n c,iv i] w (Rt (.bool (hasB bs i)) w):=by
 refine aO func166 ntmps166 ?_;refine aB ?_;refine bX (t:=9) rfl (fun hg=>?_) (fun hg=>?_)
 ·
  refine aB ?_
  have hin:i < bs.length:=by omega
  obtain⟨b,off,rfl,hz,hc⟩:=hs.2 (by omega);obtain⟨v,hv⟩:∃v,bs[i]? =some v:=⟨_,List.getElem?_eq_getElem hin⟩
  have c1:fK w b (off+i) (.bool v):=⟨hz,hc i _ (aHP hv)⟩
  refine aB ?_;exact aP (h:=fun _ _=>by rw[hasB,hv];rfl)
 ·
  refine aB ?_;exact aP (h:=fun _ _=>by rw[hasB,List.getElem?_eq_none (by omega)];rfl)
theorem aMC(p:Piece)(g1 g2 g3 n Ib nf c ct cf:Nat)(A At Af:Option Addr)(order:List Nat)(fr to:List Bool)(h1:RP p g1 0 (.slice A n c))(h2:RP p g2 0 (.slice At Ib ct))(h3:RP p g3 0 (.slice Af nf cf))
  (hs:aH p 1 A n (aN (dR order))) (hn:n=order.length) (hn2:(n:Int)≤9223372036854775806) (hst:aH p 1 At Ib (bF to)) (hnt:Ib=to.length) (uZ:aH p 1 Af nf (bF fr)) (hnf:nf=fr.length) (Lv:∀i∈order,(i:Int)≤9223372036854775807):
  Iter Tryz.prog 260 [pt g1,pt g2,pt g3] (uY (iO order fr to)) p:=by
 unfold Iter;intro l J Jx W F hp hd hJ hF hY;refine aBp (vs:=[.func (.yield l) #[] #[],pt g1,pt g2,pt g3]) func260 rfl ntmps260 (by simp) (aEe hp hd hJ hF) ?_;dsimp only[List.cons_append,List.nil_append];refine jP ?_;refine kC (by kernel_rfl) ?_;refine kW (by kernel_rfl) rfl (h1.rd (by simp)) (by decide) ?_;refine Kg (el:=3) (by kernel_rfl) rfl (by decide) ?_;refine dO rfl (by decide) ?_;refine kD ?_;refine eE ?_;refine bM [(9,iv 0),(8,iv n),(7,.slice A n c),(3,pt g3),(2,pt g2),(0,.func (.yield l) #[] #[])] ?_;refine zB ?_;refine aDT (fun m L e R H=>∃k:Nat,k≤n∧m=n - k∧L=[]∧e=[(9,iv k),(8,iv n),(7,.slice A n c),(3,pt g3),(2,pt g2),(0,.func (.yield l) #[] #[])]∧R=[p,nt W F]∧H=[J (((order.take k).filter (zR fr to)).length),rO []]) n ⟨0,by omega,rfl,rfl,rfl,rfl,rfl⟩ fun m L e R H hI=>?_;obtain⟨k,hk,rfl,rfl,rfl,rfl,rfl⟩:=hI;refine jP ?_;refine kC (by kernel_rfl) ?_;refine Yw rfl rfl (by decide) ?_;refine kD ?_;refine eE ?_;refine jP ?_;refine aBo rfl (fun h=>?_) (fun h=>?_)
 ·
  refine Gy ?_;refine eE ?_;refine jP ?_;refine zB ?_;refine jP ?_
  have hkn:k < order.length:=by omega
  obtain⟨b,off,rfl,hz,hc⟩:=hs.2 (by omega);obtain⟨i,hi⟩:∃i,order[k]? =some i:=⟨_,List.getElem?_eq_getElem hkn⟩
  have hib:=Lv i (List.mem_of_getElem? hi)
  refine kC (by kernel_rfl) ?_;refine kd (dat (k) (off+k)) ?_;refine kW (by kernel_rfl) rfl (Rd.ro (p:=p) (by simp) hz (hc k (iv (i:Int)) (by simp[aN,dR,hi]))) (by decide) ?_;refine jM rfl (by decide) ?_;refine kD ?_;refine eE ?_;refine jP ?_;refine aIz ?_;refine iU (by kernel_rfl) ?_;refine kW (by kernel_rfl) rfl (h2.rd (by simp)) (by decide) ?_;refine iV ?_;refine iU (by kernel_rfl) ?_;refine dO rfl (by decide) ?_;refine iV ?_;refine iU (by kernel_rfl) ?_;refine dG (fun w1 st=>aCV _ _ _ i to w1 (hst.le (st.le (by simp))) hnt (by omega)) ?_;refine iV ?_;refine iU (by kernel_rfl) ?_;refine dO rfl (by decide) ?_;refine iV ?_;refine pZ (t:=16) rfl (fun hg=>?_) (fun hg=>?_)
  ·
   refine iU (by kernel_rfl) ?_;refine jC rfl rfl ?_;refine kW (by kernel_rfl) rfl (h3.rd (by simp)) (by decide) ?_;refine iV ?_;refine iU (by kernel_rfl) ?_;refine jC rfl rfl ?_;refine dO rfl (by decide) ?_;refine iV ?_;refine iU (by kernel_rfl) ?_;refine jC rfl rfl ?_;refine dG (fun w1 st=>aCV _ _ _ i fr w1 (uZ.le (st.le (by simp))) hnf (by omega)) ?_;refine iV ?_;refine iU (by kernel_rfl) ?_;refine jC rfl rfl ?_;(first | refine aE7 rfl (by decide) ?_ | refine Ek rfl (by decide) ?_);refine iV ?_;refine iU (by kernel_rfl) ?_;(first | refine rU rfl rfl (by decide) ?_ | refine rW rfl rfl (by decide) ?_);refine iV ?_;refine iU (by kernel_rfl) ?_;refine dO rfl (by decide) ?_;refine iV ?_;refine pZ (t:=22) rfl (fun Ly=>?_) (fun Ly=>?_)
   ·
    refine iU (by kernel_rfl) ?_;refine jC rfl rfl ?_;refine dO rfl (by decide) ?_;refine iV ?_;refine iU (by kernel_rfl) ?_;refine jC rfl rfl ?_;refine dO rfl (by decide) ?_;refine iV ?_
    have hsel:zR fr to i=true:=by rw[zR,hg,Ly];rfl
    obtain⟨gH,mP⟩:=aOM hi hsel;refine aRW rfl rfl ?_;refine aDR 0 rfl rfl (by decide) (by simp:nt W F∈[p,nt W F]) (vM.refl W) rfl (fun W1 F1 h1 h2 h3=>hY _ [iv i] W1 F1 (by simp[uY,iO,gH]) h1 h2 h3) ?_ ?_
    rotate_left
    ·
     refine iU (by kernel_rfl) ?_;refine jC rfl rfl ?_;refine Ek rfl (by decide) ?_;refine iV ?_;refine iU (by kernel_rfl) ?_;(first | refine rU rfl rfl (by decide) ?_ | refine rW rfl rfl (by decide) ?_);refine iV ?_;refine Js ?_;refine eE ?_;refine Gz rfl (fun _=>?_) (fun h=>by cases h);refine Mx ?_;refine eE ?_;refine Ry (Hs:=[Jx (((order.take k).filter (zR fr to)).length+1)]) (.inl rfl) rfl fun w1 st=>?_;obtain⟨F',h1,h2⟩:=st.turns hF (by simp[nt]) (i:=0) rfl;exact⟨⟨_,rfl⟩,F',h2,.inr ⟨_,by simp[uY,iO];exact(List.getElem?_eq_some_iff.1 gH).1,h1⟩⟩
    dsimp only[List.set];refine iU (by kernel_rfl) ?_;refine jC rfl rfl ?_;refine Ek rfl (by decide) ?_;refine iV ?_;refine iU (by kernel_rfl) ?_;(first | refine rU rfl rfl (by decide) ?_ | refine rW rfl rfl (by decide) ?_);refine iV ?_;refine Js ?_;refine eE ?_;refine Gz rfl (fun h=>by cases h) (fun _=>?_)
    ·skip
     refine Gy ?_;refine eE ?_;refine kC (by kernel_rfl) ?_;refine El rfl rfl (iW (by omega)) (by decide) ?_;refine dO rfl (by decide) ?_;refine kD ?_;refine eE ?_;exact bM [(9,iv (k+1)),(8,iv n),(7,.slice (some ⟨b,off,none⟩) n c),(3,pt g3),(2,pt g2),(0,.func (.yield l) #[] #[])] (Yc (n - (k+1)) (by omega) ⟨k+1,by omega,rfl,rfl,rfl,rfl,by rw[mP]⟩)
   ·
    refine iU (by kernel_rfl) ?_;refine jL rfl rfl rfl (by decide) ?_;refine iV ?_;refine iU (by kernel_rfl) ?_;refine jL rfl rfl rfl (by decide) ?_;refine iV ?_;refine iU (by kernel_rfl) ?_;refine jL rfl rfl rfl (by decide) ?_;refine iV ?_;refine iU (by kernel_rfl) ?_;refine jL rfl rfl rfl (by decide) ?_;refine iV ?_;refine iU (by kernel_rfl) ?_;(first | refine rU rfl rfl (by decide) ?_ | refine rW rfl rfl (by decide) ?_);refine iV ?_;refine Js ?_;refine eE ?_;refine Gz rfl (fun h=>by cases h) (fun _=>?_);refine Gy ?_;refine eE ?_;refine kC (by kernel_rfl) ?_;refine El rfl rfl (iW (by omega)) (by decide) ?_;refine dO rfl (by decide) ?_;refine kD ?_;refine eE ?_
    have hsel:zR fr to i=false:=by rw[zR,hg];simpa using Ly
    exact bM [(9,iv (k+1)),(8,iv n),(7,.slice (some ⟨b,off,none⟩) n c),(3,pt g3),(2,pt g2),(0,.func (.yield l) #[] #[])] (Yc (n - (k+1)) (by omega) ⟨k+1,by omega,rfl,rfl,rfl,rfl,by rw[aHe hi hsel]⟩)
  ·
   refine iU (by kernel_rfl) ?_;refine jL rfl rfl rfl (by decide) ?_;refine iV ?_;refine iU (by kernel_rfl) ?_;refine jL rfl rfl rfl (by decide) ?_;refine iV ?_;refine iU (by kernel_rfl) ?_;refine jL rfl rfl rfl (by decide) ?_;refine iV ?_;refine iU (by kernel_rfl) ?_;refine jL rfl rfl rfl (by decide) ?_;refine iV ?_;refine iU (by kernel_rfl) ?_;(first | refine rU rfl rfl (by decide) ?_ | refine rW rfl rfl (by decide) ?_);refine iV ?_;refine iU (by kernel_rfl) ?_;refine dO rfl (by decide) ?_;refine iV ?_;refine iU (by kernel_rfl) ?_;refine jL rfl rfl rfl (by decide) ?_;refine iV ?_;refine iU (by kernel_rfl) ?_;refine jL rfl rfl rfl (by decide) ?_;refine iV ?_;refine iU (by kernel_rfl) ?_;refine jL rfl rfl rfl (by decide) ?_;refine iV ?_;refine iU (by kernel_rfl) ?_;refine jL rfl rfl rfl (by decide) ?_;refine iV ?_;refine iU (by kernel_rfl) ?_;(first | refine rU rfl rfl (by decide) ?_ | refine rW rfl rfl (by decide) ?_);refine iV ?_;refine Js ?_;refine eE ?_;refine Gz rfl (fun h=>by cases h) (fun _=>?_);refine Gy ?_;refine eE ?_;refine kC (by kernel_rfl) ?_;refine El rfl rfl (iW (by omega)) (by decide) ?_;refine dO rfl (by decide) ?_;refine kD ?_;refine eE ?_
   have hsel:zR fr to i=false:=by rw[zR,hg];rfl
   exact bM [(9,iv (k+1)),(8,iv n),(7,.slice (some ⟨b,off,none⟩) n c),(3,pt g3),(2,pt g2),(0,.func (.yield l) #[] #[])] (Yc (n - (k+1)) (by omega) ⟨k+1,by omega,rfl,rfl,rfl,rfl,by rw[aHe hi hsel]⟩)
 ·
  refine aDU ?_;refine eE ?_;refine Ry (Hs:=[J (((order.take k).filter (zR fr to)).length)]) (.inr rfl) rfl fun w1 st=>?_;obtain⟨F',h1,h2⟩:=st.turns hF (by simp[nt]) (i:=0) rfl;rw[List.take_of_length_le (by omega)] at h1;exact⟨⟨_,rfl⟩,F',h2,.inl (by simpa[uY,iO] using h1)⟩
end
section
attribute [local irreducible] KC KI KQ
def aIA(pr msg i v:Int):Value:=.agg #[iv pr,iv msg,.int .u32 i,.int .u32 v]
def wE(pr msg:Int)(val:Nat→Int)(ids:List Nat):List (List Value):=ids.map fun(i:Nat)=>[aIA pr msg i (val i)]
def My(p:Piece)(uQ:FuncId)(yB:List Value)(ids:List Nat)(val:Nat→Int):Prop:=∀i∈ids,∀w',p.Le (all w')→Cz uQ (Value.int .i64 (i:Int)::yB).toArray w' (Rt (.int .u32 (val i)) w')
theorem Piece.Le.trans'{p q r:Piece}(h:p.Le q)(k:q.Le r):p.Le r:=fun b hb=>⟨(k b (h b hb).1).1,(k b (h b hb).1).2.trans (h b hb).2⟩
theorem My.le{p q:Piece}{uQ:FuncId}{yB:List Value}{ids:List Nat}{val:Nat→Int}(h:My p uQ yB ids val)(hl:p.Le q):My q uQ yB ids val:=fun i hi w' hq=>h i hi w' (hl.trans' hq)
theorem rM{q:Piece}{g o:Nat}{t:TypeId}{cs:List Value}{v:Value}(h:∃F,(HP.aE g t cs).sat F q.w∧∀b,F b→q.Z b)(hv:cs[o]? =some v):RP q g o v:=by
 obtain⟨F,hs,hz⟩:=h;refine⟨hz g hs.1,?_⟩
 have:tJ q.w g t cs.toArray:=hs.2
 rw[this.cell]
 simpa using hv
theorem aRt(i v:Int)(g:Nat)(w:World)(h:fK w g 0 (.int .u32 v)):Cz 261 #[iv i,pt g] w (Rt (.int .u32 v) w):=by
 refine aO func261 ntmps261 ?_;refine aB ?_;exact aP (h:=fun _ _=>rfl)
def Sk(v:Int)(y:Value)(w w':World):Prop:=∃g,y=.func (.func 261) #[] #[pt g]∧∀q,(fresh w w').Le q→∀ids,My q 261 [pt g] ids fun _=>v
theorem Xl(v:Int)(w:World):Cz 256 #[.int .u32 v] w (fun y w'=>(∃x,y=.returned x∧Sk v x w w')∧Below w.heap.size w w'):=by
 refine aO func256 ntmps256 ?_;refine aA ?_;refine bN fun g1=>?_;refine aA ?_;refine jY (vf:=[]) (vc:=[pt g1]) rfl rfl (by decide) ?_;refine aA ?_;refine dB [] [0] [] (by simp) rfl (by decide) (by decide) fun q hq _ hfr=>?_;refine mF rfl rfl fun w1 st=>⟨⟨_,rfl,g1,rfl,fun q2 hf ids i hi=>?_⟩,st.below (by simp)⟩
 have cR:=(rM (o:=0) (v:=.int .u32 v) (hq 0 _ (by simp) rfl) rfl).le ((st.mQ (by simp) (hfr (by simp) (by simp))).trans' hf)
 intro w' hw'
 have:=cR.le hw'
 exact aRt _ v g1 w' this
def Ni(p0:Piece)(ids:List Nat)(y:Value)(w w':World):Prop:=∃g1 g2 g3,y=.func (.func 260) #[] #[pt g1,pt g2,pt g3]∧∀q,p0.Le q→(fresh w w').Le q→Iter Tryz.prog 260 [pt g1,pt g2,pt g3] (uY ids) q
theorem Oq(p0:Piece)(n Ib nf c ct cf:Nat)(A At Af:Option Addr)(order:List Nat)(fr to:List Bool)(w:World)
  (hs:aH p0 1 A n (aN (dR order))) (hn:n=order.length) (hn2:(n:Int)≤9223372036854775806) (hst:aH p0 1 At Ib (bF to)) (hnt:Ib=to.length) (uZ:aH p0 1 Af nf (bF fr)) (hnf:nf=fr.length) (Lv:∀i∈order,(i:Int)≤9223372036854775807):
  Cz 255 #[.slice A n c,.slice Af nf cf,.slice At Ib ct] w (fun y w'=>(∃x,y=.returned x∧Ni p0 (iO order fr to) x w w')∧Below w.heap.size w w'):=by
 refine aO func255 ntmps255 ?_;refine aA ?_;refine bN fun g1=>?_;refine bN fun g2=>?_;refine bN fun g3=>?_;refine aA ?_;refine jY (vf:=[]) (vc:=[pt g1,pt g3,pt g2]) rfl rfl (by decide) ?_;refine aA ?_;refine dB [] [0,1,2] [] (by simp) rfl (by decide) (by decide) fun q hq _ hfr=>?_;refine mF rfl rfl fun w1 st=>⟨⟨_,rfl,g1,g3,g2,rfl,fun q2 Dd hf=>?_⟩,st.below (by simp)⟩
 have hle:=(st.mQ (by simp) (hfr (by simp) (by simp))).trans' hf
 exact aMC q2 g1 g3 g2 n Ib nf c ct cf A At Af order fr to ((rM (hq 2 _ (by simp) rfl) rfl).le hle) ((rM (hq 0 _ (by simp) rfl) rfl).le hle) ((rM (hq 1 _ (by simp) rfl) rfl).le hle) (hs.le Dd) hn hn2 (hst.le Dd) hnt (uZ.le Dd) hnf Lv
theorem aKq(p:Piece)(g1 g2 g3 g4:Nat)(gf uQ:FuncId)(lb yB:List Value)(pr msg:Int)(val:Nat→Int)(ids:List Nat)(h1:RP p g1 0 (.func (.func gf) #[] lb.toArray))(h2:RP p g2 0 (iv pr))(h3:RP p g3 0 (iv msg))(h4:RP p g4 0 (.func (.func uQ) #[] yB.toArray))
  (hit:Iter Tryz.prog gf lb (uY ids) p) (Vm:eW Tryz.prog gf=true) (hvc:eW Tryz.prog uQ=true) (hval:My p uQ yB ids val) (Vj:∀i∈ids,i < 4294967296):
  Iter Tryz.prog 259 [pt g1,pt g2,pt g3,pt g4] (wE pr msg val ids) p:=by
 unfold Iter;intro l J Jx W F hp hd hJ hF hY;refine aBp (vs:=[.func (.yield l) #[] #[],pt g1,pt g2,pt g3,pt g4]) func259 rfl ntmps259 (by simp) (aEe hp hd hJ hF) ?_;dsimp only[List.cons_append,List.nil_append];refine jP ?_;refine kC (by kernel_rfl) ?_;refine bN fun g5=>?_;refine kD ?_;refine eE ?_;refine jP ?_;refine kC (by kernel_rfl) ?_;refine kW (by kernel_rfl) rfl (h1.rd (by simp)) (by decide) ?_;refine kD ?_;refine eE ?_;refine bM [(7,.func (.func gf) #[] lb.toArray),(5,pt g5),(4,pt g4),(3,pt g3),(2,pt g2)] ?_;refine zB ?_
 refine aDS (gf:=gf) (lb:=lb) (encs:=uY ids) (p:=p) rfl Vm hit (by simp) (fun vs hvs=>?_) (by decide) (fun k=>[HP.aE g5 356 [.func (.yield l) #[] #[]],J k]) (fun k=>[HP.aE g5 356 [.func (.yield l) #[] #[]],Jx k])
  (fun k vs e1 H1=>e1=[(6,vs.headD (.tuple #[])),(5,pt g5),(4,pt g4),(3,pt g3),(2,pt g2)]∧H1=[HP.aE g5 356 [.func (.yield l) #[] #[]],J k]) rfl ?_ ?_ ?_ ?_
 ·simp only[uY,List.mem_map] at hvs;obtain⟨i,_,rfl⟩:=hvs;rfl
 ·
  intro l2 k vs W1 q X hvs dU
  obtain⟨i,hi,rfl⟩:∃i,ids[k]? =some i∧vs=[iv (i:Int)]:=by
   simp only[uY,List.getElem?_map,Option.map_eq_some_iff] at hvs;obtain⟨i,h,e⟩:=hvs;exact⟨i,h,e.symm⟩
  refine kC (by kernel_rfl) ?_;refine jM rfl (by decide) ?_;refine kD ?_;refine bM [(6,iv (i:Int)),(5,pt g5),(4,pt g4),(3,pt g3),(2,pt g2)] ?_;exact aDW ⟨rfl,rfl⟩
 ·
  rintro l2 k vs W1 q X _ _ hvs dU ⟨rfl,rfl⟩
  obtain⟨i,hik,rfl⟩:∃i,ids[k]? =some i∧vs=[iv (i:Int)]:=by
   simp only[uY,List.getElem?_map,Option.map_eq_some_iff] at hvs;obtain⟨i,h,e⟩:=hvs;exact⟨i,h,e.symm⟩
  have hi:=List.mem_of_getElem? hik
  have hib:=Vj i hi
  dsimp only[List.cons_append,List.nil_append,List.headD_cons];refine zB ?_;refine jP ?_;refine aSe 9 (by kernel_rfl) (by kernel_rfl) ?_;simp only[List.take_succ_cons,List.take_zero,List.drop_succ_cons,List.drop_zero];refine fZ 0 rfl rfl rfl (Jf (by kernel_rfl) rfl (Rd.aE 0 rfl rfl)) ?_;refine fZ 1 rfl rfl rfl (Jf (by kernel_rfl) rfl (h2.rd (by simp))) ?_;refine fZ 2 rfl rfl rfl (Jf (by kernel_rfl) rfl (h3.rd (by simp))) ?_;refine fZ 3 rfl rfl rfl (lQ rfl) ?_;refine fZ 4 rfl rfl rfl (Jh (ds:=.int .i64) (by kernel_rfl) (by kernel_rfl) rfl (wrap_u32 (by omega))) ?_;refine fZ 5 rfl rfl rfl (Jf (by kernel_rfl) rfl (h4.rd (by simp))) ?_;refine fZ 6 rfl rfl rfl (lQ rfl) ?_;refine cJ 7 ?_;refine xY (f:=uQ) (fi:=[]) (ca:=yB) hvc rfl rfl (by decide) (fun w1 st=>hval i hi w1 (st.le (by simp))) ?_;refine mT ?_;refine fZ 8 rfl rfl rfl (kQ (zs:=[iv 0,iv 0,.int .u32 0,.int .u32 0]) (L:=[(0,1),(1,1),(2,1),(3,1)]) (gY (by kernel_rfl)) (by kernel_rfl) rfl (by simp[eZ,gD,Value.cells];rfl)) ?_;refine kK ?_;refine aRV ?_;refine aDR 1 rfl rfl (by decide) (by simp:nt W F∈[p,nt W F,q]) dU rfl (fun W2 F2 h1 h2 h3=>hY k _ W2 F2 (by simp[wE,hik];rfl) h1 h2 h3) ?_ ?_
  ·dsimp only[List.set];refine iU (by kernel_rfl) ?_;refine Ek rfl (by decide) ?_;refine iV ?_;refine Js ?_;refine eE ?_;refine Gz rfl (fun h=>by cases h) (fun _=>?_);refine Gy ?_;refine eE ?_;exact aDV
  ·dsimp only[List.set];refine iU (by kernel_rfl) ?_;refine Ek rfl (by decide) ?_;refine iV ?_;refine Js ?_;refine eE ?_;refine Gz rfl (fun _=>?_) (fun h=>by cases h);refine Mx ?_;refine eE ?_;exact aI0
 ·
  intro D;dsimp only[List.cons_append,List.nil_append];refine eE ?_;refine Ry (Hs:=[HP.aE g5 356 [.func (.yield l) #[] #[]],J (uY ids).length]) (.inr rfl) rfl fun w1 st=>?_;obtain⟨F',h1,h2⟩:=st.turns hF (by simp[nt]) (i:=1) rfl;exact⟨⟨_,rfl⟩,F',h2,.inl (by simpa[uY,wE] using h1)⟩
 ·intro D k hk;dsimp only[List.cons_append,List.nil_append];refine Mx ?_;refine eE ?_;refine Ry (Hs:=[HP.aE g5 356 [.func (.yield l) #[] #[]],Jx (k+1)]) (.inl rfl) rfl fun w1 st=>?_;obtain⟨F',h1,h2⟩:=st.turns hF (by simp[nt]) (i:=1) rfl;exact⟨⟨_,rfl⟩,F',h2,.inr ⟨k,by simpa[uY,wE] using hk,h1⟩⟩
def Na(p0:Piece)(encs:List (List Value))(y:Value)(w w':World):Prop:=∃g1 g2 g3 g4,y=.func (.func 259) #[] #[pt g1,pt g2,pt g3,pt g4]∧∀q,p0.Le q→(fresh w w').Le q→Iter Tryz.prog 259 [pt g1,pt g2,pt g3,pt g4] encs q
theorem Oa(p0:Piece)(gf uQ:FuncId)(lb yB:List Value)(pr msg:Int)(val:Nat→Int)(ids:List Nat)(w:World)(hit:Iter Tryz.prog gf lb (uY ids) p0)(Vm:eW Tryz.prog gf=true)(hvc:eW Tryz.prog uQ=true)(hval:My p0 uQ yB ids val)(Vj:∀i∈ids,i < 4294967296):
  Cz 254 #[.func (.func gf) #[] lb.toArray,iv pr,iv msg,.func (.func uQ) #[] yB.toArray] w (fun y w'=>(∃x,y=.returned x∧Na p0 (wE pr msg val ids) x w w')∧Below w.heap.size w w'):=by
 refine aO func254 ntmps254 ?_;refine aA ?_;refine bN fun g1=>?_;refine bN fun g2=>?_;refine bN fun g3=>?_;refine bN fun g4=>?_;refine aA ?_;refine jY (vf:=[]) (vc:=[pt g1,pt g2,pt g3,pt g4]) rfl rfl (by decide) ?_;refine aA ?_;refine dB [] [0,1,2,3] [] (by simp) rfl (by decide) (by decide) fun q hq _ hfr=>?_;refine mF rfl rfl fun w1 st=>⟨⟨_,rfl,g1,g2,g3,g4,rfl,fun q2 Dd hf=>?_⟩,st.below (by simp)⟩
 have hle:=(st.mQ (by simp) (hfr (by simp) (by simp))).trans' hf
 exact aKq q2 g1 g2 g3 g4 gf uQ lb yB pr msg val ids ((rM (hq 3 _ (by simp) rfl) rfl).le hle) ((rM (hq 2 _ (by simp) rfl) rfl).le hle) ((rM (hq 1 _ (by simp) rfl) rfl).le hle) ((rM (hq 0 _ (by simp) rfl) rfl).le hle) (hit.le Dd) Vm hvc (hval.le Dd) Vj
end
section
attribute [local irreducible] KC KI KQ
structure fC where
 pr:Int
 msg:Int
 id:Int
 v:Int
def fC.cells(s:fC):List Value:=[iv s.pr,iv s.msg,.int .u32 s.id,.int .u32 s.v]
def qU(s:fC):Value:=.agg s.cells.toArray
def nO(l:List fC):List (List Value):=l.map fun s=>[qU s]
def pN(pr msg:Int)(val:Nat→Int)(ids:List Nat):List fC:=ids.map fun(i:Nat)=>⟨pr,msg,i,val i⟩
theorem Oc(pr msg:Int)(val:Nat→Int)(ids:List Nat):wE pr msg val ids=nO (pN pr msg val ids):=by
 simp[wE,nO,pN,qU,aIA,fC.cells]
structure xP where
 gf:FuncId
 lb:List Value
 Cm:List fC
def xP.fn(r:xP):Value:=.func (.func r.gf) #[] r.lb.toArray
def Cp(rows:List xP):List fC:=rows.flatMap (·.Cm)
def sD(rows:List xP)(i:Nat):Nat:=(Cp (rows.take i)).length
theorem aMu{rows:List xP}{i:Nat}{r:xP}(h:rows[i]? =some r):sD rows (i+1)=sD rows i+r.Cm.length:=by
 simp[sD,Cp,List.take_add_one,h]
theorem aFK{rows:List xP}{i k:Nat}{r:xP}{s:fC}(h:rows[i]? =some r)(hs:r.Cm[k]? =some s):(Cp rows)[sD rows i+k]? =some s:=by
 have hlt:=(List.getElem?_eq_some_iff.1 h).1
 have hv:=(List.getElem?_eq_some_iff.1 h).2
 have h2:rows=rows.take i++r::rows.drop (i+1):=by
  rw[←hv,List.getElem_cons_drop hlt,List.take_append_drop]
 have h3:Cp rows=Cp (rows.take i)++(r.Cm++Cp (rows.drop (i+1))):=by
  conv=>lhs;rw[h2]
  simp[Cp]
 have hk:=(List.getElem?_eq_some_iff.1 hs).1
 rw[h3,sD,List.getElem?_append_right (by omega),Nat.add_sub_cancel_left,List.getElem?_append_left hk];exact hs
theorem aMv{rows:List xP}{i:Nat}(h:rows.length≤i):sD rows i=(Cp rows).length:=by rw[sD,List.take_of_length_le h]
theorem aR3(p:Piece)(g1 n c:Nat)(A:Option Addr)(rows:List xP)(h1:RP p g1 0 (.slice A n c))(hs:aH p 1 A n (rows.map xP.fn))(hn:n=rows.length)(hn2:(n:Int)≤1000000)
  (hrows:∀r∈rows,eW Tryz.prog r.gf=true∧Iter Tryz.prog r.gf r.lb (nO r.Cm) p):
  Iter Tryz.prog 258 [pt g1] (nO (Cp rows)) p:=by
 unfold Iter;intro l J Jx W F hp hd hJ hF hY;refine aBp (vs:=[.func (.yield l) #[] #[],pt g1]) func258 rfl ntmps258 (by simp) (aEe hp hd hJ hF) ?_;dsimp only[List.cons_append,List.nil_append];refine jP ?_;refine kC (by kernel_rfl) ?_;refine bN fun g2=>?_;refine kD ?_;refine eE ?_;refine jP ?_;refine kC (by kernel_rfl) ?_;refine kW (by kernel_rfl) rfl (h1.rd (by simp)) (by decide) ?_;refine Kg (el:=346) (by kernel_rfl) rfl (by decide) ?_;refine dO rfl (by decide) ?_;refine kD ?_;refine eE ?_;refine bM [(8,iv 0),(7,iv n),(6,.slice A n c),(2,pt g2)] ?_;refine zB ?_;refine aDT (fun m L e R H=>∃i:Nat,i≤n∧m=n - i∧e=[(8,iv i),(7,iv n),(6,.slice A n c),(2,pt g2)]∧R=[p,nt W F]∧H=[HP.aE g2 356 [.func (.yield l) #[] #[]],J (sD rows i),rO L]) n ⟨0,by omega,rfl,rfl,rfl,rfl⟩ fun m L e R H hI=>?_;obtain⟨i,hi,rfl,rfl,rfl,rfl⟩:=hI;refine jP ?_;refine kC (by kernel_rfl) ?_;refine Yw rfl rfl (by decide) ?_;refine kD ?_;refine eE ?_;refine jP ?_;refine aBo rfl (fun h=>?_) (fun h=>?_)
 ·
  refine Gy ?_;refine eE ?_;refine jP ?_;refine zB ?_;refine jP ?_
  have hin:i < rows.length:=by omega
  obtain⟨b,off,rfl,hz,hc⟩:=hs.2 (by omega);obtain⟨r,hr⟩:∃r,rows[i]? =some r:=⟨_,List.getElem?_eq_getElem hin⟩
  obtain⟨hcb,hit⟩:=hrows r (List.mem_of_getElem? hr)
  have hoff:=aMu hr
  refine kC (by kernel_rfl) ?_;refine kd (dat (i) (off+i)) ?_;refine kW (by kernel_rfl) rfl (Rd.ro (p:=p) (by simp) hz (hc i (xP.fn r) (by simp[hr]))) (by decide) ?_;refine jM rfl (by decide) ?_;refine kD ?_;refine eE ?_;refine jP ?_;refine kC (by kernel_rfl) ?_;refine dO rfl (by decide) ?_;refine kD ?_;refine eE ?_;refine zB ?_;refine bM [(12,xP.fn r),(8,iv i),(7,iv n),(6,.slice (some ⟨b,off,none⟩) n c),(2,pt g2)] ?_
  refine aDS (gf:=r.gf) (lb:=r.lb) (encs:=nO r.Cm) (p:=p) rfl hcb hit (by simp) (fun vs hvs=>?_) (by decide) (fun k=>[HP.aE g2 356 [.func (.yield l) #[] #[]],J (sD rows i+k)]) (fun k=>[HP.aE g2 356 [.func (.yield l) #[] #[]],Jx (sD rows i+k)])
   (fun k vs e1 H1=>∃(g3:Nat) (s:fC),vs=[qU s]∧e1=[(5,pt g3),(2,pt g2)]∧H1=[HP.aE g3 293 s.cells,HP.aE g2 356 [.func (.yield l) #[] #[]],J (sD rows i+k)]) rfl ?_ ?_ ?_ ?_
  ·simp only[nO,List.mem_map] at hvs;obtain⟨s,_,rfl⟩:=hvs;rfl
  ·
   intro l2 k vs W1 q X hvs dU
   obtain⟨s,rfl⟩:∃s,vs=[qU s]:=by
    simp only[nO,List.getElem?_map,Option.map_eq_some_iff] at hvs;obtain⟨s,_,e⟩:=hvs;exact⟨s,e.symm⟩
   dsimp only[List.cons_append,List.nil_append];refine kC (by kernel_rfl) ?_;refine bY fun g3=>?_;refine pY 0 rfl rfl rfl (by kernel_rfl) (by simp[qU,fC.cells,Value.cells,Value.oneCell']) (by simp[qU,fC.cells,Value.cells]) ?_;rw[show fS [Value.int .i64 0,iv 0,.int .u32 0,.int .u32 0] 0 (qU s).cells.toList=s.cells by simp[fS,qU,fC.cells,Value.cells]];dsimp only[List.set];refine kD ?_;refine bM [(5,pt g3),(2,pt g2)] ?_;exact aDW (H1:=[HP.aE g3 293 s.cells,HP.aE g2 356 [.func (.yield l) #[] #[]],J (sD rows i+k)]) ⟨g3,s,rfl,rfl,rfl⟩
  ·
   rintro l2 k vs W1 q X _ _ hvs dU ⟨g3,s,rfl,rfl,rfl⟩
   have hsk:r.Cm[k]? =some s:=by
    simp only[nO,List.getElem?_map,Option.map_eq_some_iff] at hvs;obtain⟨s',h,e⟩:=hvs
    have:s'=s:=by
     cases s;cases s';simp[qU,fC.cells] at e;simp[e]
    exact this▸h
   have Au:=aFK hr hsk
   dsimp only[List.cons_append,List.nil_append];refine zB ?_;refine jP ?_;refine aIz ?_;refine iU (by kernel_rfl) ?_;refine kW (by kernel_rfl) rfl (Rd.aE 1 rfl rfl) (by decide) ?_;refine iV ?_;refine iU (by kernel_rfl) ?_;refine xW 4 (by kernel_rfl) rfl (aM.whole 0 rfl) rfl (by decide) ?_;refine iV ?_;refine aDR 2 rfl rfl (by decide) (by simp:nt W F∈[p,nt W F,q]) dU rfl (fun W2 F2 h1 h2 h3=>hY (sD rows i+k) [qU s] W2 F2 (by simp[nO,Au]) h1 h2 h3) ?_ ?_
   ·dsimp only[List.set];refine iU (by kernel_rfl) ?_;refine Ek rfl (by decide) ?_;refine iV ?_;refine Js ?_;refine eE ?_;refine Gz rfl (fun h=>by cases h) (fun _=>?_);refine Gy ?_;refine eE ?_;refine aT [1,2,3] rfl (by decide) (fun _ hp=>hp) ?_;exact aDV
   ·dsimp only[List.set];refine iU (by kernel_rfl) ?_;refine Ek rfl (by decide) ?_;refine iV ?_;refine Js ?_;refine eE ?_;refine Gz rfl (fun _=>?_) (fun h=>by cases h);refine Mx ?_;refine eE ?_;refine aT [1,2,3] rfl (by decide) (fun _ hp=>hp) ?_;exact aI0
  rotate_left
  ·
   intro D k hk;dsimp only[List.cons_append,List.nil_append];refine Mx ?_;refine eE ?_;refine Ry (Hs:=[HP.aE g2 356 [.func (.yield l) #[] #[]],Jx (sD rows i+(k+1))]) (.inl rfl) rfl fun w1 st=>?_;obtain⟨F',h1,h2⟩:=st.turns hF (by simp[nt]) (i:=1) rfl;obtain⟨s,iH⟩:∃s,r.Cm[k]? =some s:=⟨_,List.getElem?_eq_getElem (by simpa[nO] using hk)⟩
   have:=(List.getElem?_eq_some_iff.1 (aFK hr iH)).1
   exact⟨⟨_,rfl⟩,F',h2,.inr ⟨sD rows i+k,by simpa[nO] using this,h1⟩⟩
  intro D;dsimp only[List.cons_append,List.nil_append];refine eE ?_;refine kC (by kernel_rfl) ?_;refine El rfl rfl (iW (by omega)) (by decide) ?_;refine dO rfl (by decide) ?_;refine kD ?_;refine eE ?_;exact bM [(8,iv (i+1)),(7,iv n),(6,.slice (some ⟨b,off,none⟩) n c),(2,pt g2)] (Yc (n - (i+1)) (by omega) ⟨i+1,by omega,rfl,rfl,rfl,by rw[hoff];simp[nO]⟩)
 ·
  refine aDU ?_;refine eE ?_;refine Ry (Hs:=[HP.aE g2 356 [.func (.yield l) #[] #[]],J (sD rows i)]) (.inr rfl) rfl fun w1 st=>?_;obtain⟨F',h1,h2⟩:=st.turns hF (by simp[nt]) (i:=1) rfl;rw[aMv (by omega)] at h1;exact⟨⟨_,rfl⟩,F',h2,.inl (by simpa[nO] using h1)⟩
def zY(s:aC)(d:Nat):Int:=if(s.domains[d]?.map (·.ret)).getD false then 2 else 0
theorem aR5(d gs n2 k2:Nat)(s:aC)(A2:Option Addr)(w:World)(h2:fK w gs 1 (.slice A2 n2 k2))(Pw:jW (fI (all w)) tH 88 3 A2 n2 s.domains)(hn2:(n2:Int)≤1000000)(hd:d < n2):
  Cz 257 #[iv d,pt gs] w (Rt (.int .u32 (zY s d)) w):=by
 have hl:n2=s.domains.length:=by obtain⟨_,_,h,_⟩:=Pw;exact h
 obtain⟨x,hx⟩:∃x,s.domains[d]? =some x:=⟨_,List.getElem?_eq_getElem (by omega)⟩
 obtain⟨b,off,r,rfl,hrl,rfl,hro⟩:=Pw.row hx;refine aO func257 ntmps257 ?_;refine eA ?_;refine fU ?_;refine jM rfl (by decide) ?_;refine fB ?_;refine eA ?_;refine eA ?_;refine fU ?_;refine xX (off:=1) (by kernel_rfl) rfl (by decide) ?_;refine kW (by kernel_rfl) rfl (Yk (by simp) h2) (by decide) ?_;refine dO rfl (by decide) ?_;refine kd (dat (d) (off+d*3)) ?_;refine xX (off:=2) (by kernel_rfl) rfl (by decide) ?_;refine kW (by kernel_rfl) rfl (Yk (by simp) (hro.at_ (j:=2) (v:=.bool x.ret) rfl)) (by decide) ?_;refine fB ?_;refine pF rfl (fun h=>?_) (fun h=>?_)
 ·
  refine aB ?_;exact aP (h:=fun _ _=>by rw[zY,hx];simp[h])
 ·
  refine aB ?_;exact aP (h:=fun _ _=>by rw[zY,hx];simp[h])
theorem aR4(p:Piece)(gs n2 k2:Nat)(s:aC)(A2:Option Addr)(h2:RP p gs 1 (.slice A2 n2 k2))(Pw:jW (fI p) tH 88 3 A2 n2 s.domains)(hn2:(n2:Int)≤1000000)(ids:List Nat)(Vj:∀i∈ids,i < n2):My p 257 [pt gs] ids (zY s):=fun i hi w' hw'=>
 aR5 i gs n2 k2 s A2 w' (h2.le hw') (Pw.mono (kF hw') (fun _ _ h=>h)) hn2 (Vj i hi)
end
section
def aEw(n:Nat)(xs:List Value)(v:Value)(hs:List HP)(_:Piece):Prop:=∃A c,v=.slice A n c∧hs=[HP.own 3 1 (.slice A n c) n xs]
theorem aHC(A:Option Addr)(n c:Nat)(xs:List Value)(w:World)(hs:aH (all w) 1 A n xs)(h1:∀u∈xs,u.oneCell'=true)(hn:n≤1000000):
  Cz 252 #[.slice A n c] w (fun y w'=>(∃v hs q,y=.returned v∧q.w=w'∧aEw n xs v hs q∧fV w hs q)∧Below w.heap.size w w'):=by
 refine aO func252 ntmps252 ?_;refine aB ?_;refine Sq (el:=3) (by kernel_rfl) rfl (by decide) ?_;refine aB ?_;refine pF rfl (fun hA=>?_) (fun hA=>?_)
 ·
  refine aB ?_
  have hn0:n=0:=by
   rcases Nat.eq_zero_or_pos n with h | h
   ·exact h
   ·obtain⟨b,off,rfl,_⟩:=hs.2 h;cases hA
  subst hn0
  have hx:xs=[]:=List.eq_nil_of_length_eq_zero (by simpa using hs.1)
  subst hx;refine lI 3 1 ?_;refine dB [] [] [0] (by simp) rfl (by decide) (by decide) fun q _ _ hfr=>?_;exact aP (h:=fun w1 st=>⟨_,_,⟨w1,q.Z⟩,rfl,rfl,⟨_,_,rfl,rfl⟩,st.newR (by simp) (by simp) (hfr (by simp) (by simp))⟩)
 ·
  refine aB ?_;refine Sn (el:=3) (sz:=1) (by kernel_rfl) (by kernel_rfl) (by decide) fun g=>?_;refine Mw 0 1 0 rfl rfl (by omega) ?_;dsimp only[List.set];refine aB ?_;refine gZ 0 1 8 n (n':=n) (el:=3) (by kernel_rfl) (by kernel_rfl) (by decide) rfl rfl rfl (rY (by simp) hs) h1 (by omega) (by omega) (by omega) (by decide) fun A' k'=>?_;dsimp only[List.set,List.nil_append];refine aB ?_;refine dB [] [] [0] (by simp) rfl (by decide) (by decide) fun q _ _ hfr=>?_;exact aP (h:=fun w1 st=>⟨_,_,⟨w1,q.Z⟩,rfl,rfl,⟨_,_,rfl,rfl⟩,st.newR (by simp) (by simp) (hfr (by simp) (by simp))⟩)
def Nl(n:Nat)(xs:List Value)(v:Value)(hs:List HP)(_:Piece):Prop:=∃A c,v=.slice A n c∧hs=[HP.own 4 1 (.slice A n c) n xs]
theorem Qz(A:Option Addr)(n c:Nat)(xs:List Value)(w:World)(hs:aH (all w) 1 A n xs)(h1:∀u∈xs,u.oneCell'=true)(hn:n≤1000000):
  Cz 171 #[.slice A n c] w (fun y w'=>(∃v hs q,y=.returned v∧q.w=w'∧Nl n xs v hs q∧fV w hs q)∧Below w.heap.size w w'):=by
 refine aO func171 ntmps171 ?_;refine aB ?_;refine Sq (el:=4) (by kernel_rfl) rfl (by decide) ?_;refine aB ?_;refine pF rfl (fun hA=>?_) (fun hA=>?_)
 ·
  refine aB ?_
  have hn0:n=0:=by
   rcases Nat.eq_zero_or_pos n with h | h
   ·exact h
   ·obtain⟨b,off,rfl,_⟩:=hs.2 h;cases hA
  subst hn0
  have hx:xs=[]:=List.eq_nil_of_length_eq_zero (by simpa using hs.1)
  subst hx;refine lI 4 1 ?_;refine dB [] [] [0] (by simp) rfl (by decide) (by decide) fun q _ _ hfr=>?_;exact aP (h:=fun w1 st=>⟨_,_,⟨w1,q.Z⟩,rfl,rfl,⟨_,_,rfl,rfl⟩,st.newR (by simp) (by simp) (hfr (by simp) (by simp))⟩)
 ·
  refine aB ?_;refine Sn (el:=4) (sz:=1) (by kernel_rfl) (by kernel_rfl) (by decide) fun g=>?_;refine Mw 0 1 0 rfl rfl (by omega) ?_;dsimp only[List.set];refine aB ?_;refine gZ 0 1 1 n (n':=n) (el:=4) (by kernel_rfl) (by kernel_rfl) (by decide) rfl rfl rfl (rY (by simp) hs) h1 (by omega) (by omega) (by omega) (by decide) fun A' k'=>?_;dsimp only[List.set,List.nil_append];refine aB ?_;refine dB [] [] [0] (by simp) rfl (by decide) (by decide) fun q _ _ hfr=>?_;exact aP (h:=fun w1 st=>⟨_,_,⟨w1,q.Z⟩,rfl,rfl,⟨_,_,rfl,rfl⟩,st.newR (by simp) (by simp) (hfr (by simp) (by simp))⟩)
theorem aFz(A:Option Addr)(n c:Nat)(xs:List Value)(w:World)(F:Nat→Prop)(hp:(HP.own 3 1 (.slice A n c) n xs).sat F w)(hF:∀b,F b→b < w.heap.size)(h1:∀u∈xs,u.oneCell'=true)(hn:xs.length=n)(hn2:n≤1000000)(hA:0 < n→∃g,A=some ⟨g,0,none⟩):
  Cz 253 #[.slice A n c] w (Wr (.tuple #[]) (HP.own 3 1 (.slice A n c) n xs.reverse) w F):=by
 refine cS func253 ntmps253 hp hF ?_;refine aB ?_;refine bM [(3,iv ((n:Int) - 1)),(2,iv 0),(0,.slice A n c)] ?_;refine aB ?_;refine eT (fun m e R H=>∃(k:Nat) (l:List Value),m=n - k∧2*k≤n∧Jy xs k l∧e=[(3,iv ((n:Int) - 1 - k)),(2,iv k),(0,.slice A n c)]∧R=[⟨w,fun b=>b < w.heap.size∧¬F b⟩]∧H=[HP.own 3 1 (.slice A n c) n l]) n ⟨0,xs,by omega,by omega,.zero xs,by simp,rfl,rfl⟩ fun m e R H hI=>?_;obtain⟨k,l,rfl,hk,hl,rfl,rfl,rfl⟩:=hI;refine aB ?_;refine aG rfl (fun h=>?_) (fun h=>?_)
 ·
  refine nV ?_;refine eJ ?_;refine eA ?_
  have h':(k:Int) < (n:Int) - 1 - k:=h
  have qH:=hl.1
  obtain⟨g,rfl⟩:∃g,A=some ⟨g,0,none⟩:=hA (by omega);obtain⟨u,hu⟩:∃u,l[xs.length - 1 - k]? =some u:=⟨_,List.getElem?_eq_getElem (by omega)⟩
  obtain⟨v,hv⟩:∃u,l[k]? =some u:=⟨_,List.getElem?_eq_getElem (by omega)⟩
  have hou:u.oneCell'=true:=by
   have:=hl.2 _ (by omega:xs.length - 1 - k < xs.length);rw[hu] at this
   split at this<;>exact h1 _ (List.mem_of_getElem? this.symm)
  have hov:v.oneCell'=true:=by
   have:=hl.2 _ (by omega:k < xs.length);rw[hv] at this
   split at this<;>exact h1 _ (List.mem_of_getElem? this.symm)
  refine Ec 0 rfl fun cs Py mZ hc3 hc4=>?_;dsimp only[List.set];rw[Nat.mul_one] at Py mZ
  have hcu:=aEU mZ hu
  have Vw:=aEU mZ hv
  refine xN ?_;refine aRS 16 (by kernel_rfl) (by kernel_rfl) ?_;refine fG 0 rfl rfl rfl (by decide) (lQ rfl) (by kernel_rfl) (fun _ _ _ h=>h) (fun _ h=>h.bare) ?_;refine fG 1 rfl rfl rfl (by decide) (lQ rfl) (by kernel_rfl) (fun _ _ _ h=>h) (fun _ h=>h.bare) ?_;refine fG 2 rfl rfl rfl (by decide) (lQ rfl) (by kernel_rfl) (fun _ _ _ h=>h) (fun _ h=>h.bare) ?_;refine fG 3 rfl rfl rfl (by decide) (lQ rfl) (by kernel_rfl) (fun _ _ _ h=>h) (fun _ h=>h.bare) ?_;refine fG 4 rfl rfl rfl (by decide) (lQ rfl) (by kernel_rfl) (fun _ _ _ h=>h) (fun _ h=>h.bare) ?_;refine fG 5 rfl rfl rfl (by decide) (lQ rfl) (by kernel_rfl) (fun _ _ _ h=>h) (fun _ h=>h.bare) ?_;refine fG 8 rfl rfl rfl (by decide) (lQ rfl) (by kernel_rfl) (fun _ _ _ h=>h) (fun _ h=>h.bare) ?_;refine fG 9 rfl rfl rfl (by decide) (lQ rfl) (by kernel_rfl) (fun _ _ _ h=>h) (fun _ h=>h.bare) ?_;refine fG 6 rfl rfl rfl (by decide) (aDt (n - 1 - k) (n - 1 - k) (el:=3) (sz:=1) (by kernel_rfl) (by kernel_rfl) rfl rfl (by omega) (by omega) (by omega)) (by kernel_rfl) (fun _ _ _ h=>h) (fun _ h=>h.bare) ?_;refine fG 10 rfl rfl rfl (by decide) (aDt (k) (k) (el:=3) (sz:=1) (by kernel_rfl) (by kernel_rfl) rfl rfl (by omega) (by omega) (by omega)) (by kernel_rfl) (fun _ _ _ h=>h) (fun _ h=>h.bare) ?_;refine Ju 7 11 rfl rfl (by kernel_rfl) ?_ ?_
  ·refine kW (by kernel_rfl) rfl (Rd.aE 0 rfl (by rw[←hn];exact hcu)) (by decide) ?_;refine gX ?_;refine gQ ?_;refine kL (fun _ h=>h.bare) ?_;refine cJ 11 ?_;refine kW (by kernel_rfl) rfl (Rd.aE 0 rfl Vw) (by decide) ?_;refine gX ?_;refine gQ ?_;refine kL (fun _ h=>h.bare) ?_;refine cJ 12 ?_;refine kd (dat (k) (k)) ?_;refine gX ?_;refine gQ ?_;refine kL (fun _ h=>h.bare) ?_;refine cJ 13 ?_;refine rQ 0 rfl (by kernel_rfl) rfl rfl hou (by omega) ?_;dsimp only[List.set];refine gX ?_;refine gQ ?_;refine kL (fun _ h=>h.bare) ?_;refine cJ 14 ?_;refine kd (dat (n - 1 - k) (n - 1 - k)) ?_;refine gX ?_;refine gQ ?_;refine kL (fun _ h=>h.bare) ?_;refine cJ 15 ?_;refine rQ 0 rfl (by kernel_rfl) rfl rfl hov (by simp;omega) ?_;dsimp only[List.set];refine gX ?_;refine gQ ?_;refine kL (fun _ h=>h.bare) ?_;refine kK ?_;refine eJ ?_;refine fU ?_;refine dO rfl (by decide) ?_;refine El rfl rfl (iW (by omega)) (by decide) ?_;refine dO rfl (by decide) ?_;refine Yu rfl rfl (iW (by omega)) (by decide) ?_;refine jM rfl (by decide) ?_;refine jM rfl (by decide) ?_;refine fB ?_;refine By 0 (n:=n) (c:=c) (sz:=1) (xs:=(l.set k u).set (xs.length - 1 - k) v) rfl (by simp;omega) (by rw[Nat.mul_one,hn];exact take_set (take_set mZ)) hc3 hc4 ?_;dsimp only[List.set];exact bM [(3,iv ((n:Int) - 1 - k - 1)),(2,iv ((k:Int)+1)),(0,.slice (some ⟨g,0,none⟩) n c)] (gR (n - (k+1)) (by omega) ⟨k+1,_,rfl,by omega,hl.next (by omega) hu hv,(by rw[show(n:Int) - 1 - k - 1=(n:Int) - 1 - ((k+1:Nat):Int) by omega];rfl),rfl,rfl⟩)
  ·refine kW (by kernel_rfl) rfl (Rd.aE 0 rfl Vw) (by decide) ?_;refine gX ?_;refine gQ ?_;refine kL (fun _ h=>h.bare) ?_;refine cJ 7 ?_;refine kW (by kernel_rfl) rfl (Rd.aE 0 rfl (by rw[←hn];exact hcu)) (by decide) ?_;refine gX ?_;refine gQ ?_;refine kL (fun _ h=>h.bare) ?_;refine cJ 12 ?_;refine kd (dat (k) (k)) ?_;refine gX ?_;refine gQ ?_;refine kL (fun _ h=>h.bare) ?_;refine cJ 13 ?_;refine rQ 0 rfl (by kernel_rfl) rfl rfl hou (by omega) ?_;dsimp only[List.set];refine gX ?_;refine gQ ?_;refine kL (fun _ h=>h.bare) ?_;refine cJ 14 ?_;refine kd (dat (n - 1 - k) (n - 1 - k)) ?_;refine gX ?_;refine gQ ?_;refine kL (fun _ h=>h.bare) ?_;refine cJ 15 ?_;refine rQ 0 rfl (by kernel_rfl) rfl rfl hov (by simp;omega) ?_;dsimp only[List.set];refine gX ?_;refine gQ ?_;refine kL (fun _ h=>h.bare) ?_;refine kK ?_;refine eJ ?_;refine fU ?_;refine dO rfl (by decide) ?_;refine El rfl rfl (iW (by omega)) (by decide) ?_;refine dO rfl (by decide) ?_;refine Yu rfl rfl (iW (by omega)) (by decide) ?_;refine jM rfl (by decide) ?_;refine jM rfl (by decide) ?_;refine fB ?_;refine By 0 (n:=n) (c:=c) (sz:=1) (xs:=(l.set k u).set (xs.length - 1 - k) v) rfl (by simp;omega) (by rw[Nat.mul_one,hn];exact take_set (take_set mZ)) hc3 hc4 ?_;dsimp only[List.set];exact bM [(3,iv ((n:Int) - 1 - k - 1)),(2,iv ((k:Int)+1)),(0,.slice (some ⟨g,0,none⟩) n c)] (gR (n - (k+1)) (by omega) ⟨k+1,_,rfl,by omega,hl.next (by omega) hu hv,(by rw[show(n:Int) - 1 - k - 1=(n:Int) - 1 - ((k+1:Nat):Int) by omega];rfl),rfl,rfl⟩)
 ·
  refine aB ?_
  have h':¬(k:Int) < (n:Int) - 1 - k:=h
  have:=hl.all (by omega)
  subst this;exact fA 0 hF
end
section
theorem Pd(l:List Int):∀u∈aN l,u.oneCell'=true:=by
 intro u hu;simp only[aN,List.mem_map] at hu;obtain⟨x,_,rfl⟩:=hu;rfl
theorem aFF{F:Nat→Prop}{w:World}{el:TypeId}{sz n c:Nat}{A:Option Addr}{xs:List Value}(h:(HP.own el sz (.slice A n c) n xs).sat F w)(hn:0 < n):∃g,A=some ⟨g,0,none⟩:=by
 rcases h.2.2 with⟨_,h0⟩ | ⟨g,cap,cur,hv,_⟩
 ·omega
 ·injection hv with hA
  exact⟨g,hA⟩
theorem aF0(l:List Nat):(aN (dR l)).reverse=aN (dR l.reverse):=by simp[aN,dR]
section
variable{P:Program}{N:cE}{w0:World}{e:Env}{R R' R0:List Piece}{H H0:List HP}{Q:Exit→Act→World→Prop}{ops:Array Oper}{m fuel dA d:Nat}{listed:Array Bool}{t ty:TypeId}{pos:String}{aI:Array Edge}{cs:List Value}{v:Value}
theorem yS{x:Operand}{g o:Nat}{p:Piece}(h:RP p g o v)(hp:p∈R:=by simp)(ht:tO P t=true:=by kernel_rfl)(hx:e.ev x=some (.pointer (some ⟨g,o,none⟩)):=by rfl):bQ P N w0 e R H ⟨some d,.load t x,ty,pos,aI,none⟩ v:=Jf ht hx (h.rd hp)
theorem rH{i j:Nat}{M:Option Nat}(i':Nat)(R':List Piece){oi:Oper}(step:∀M,XK N w0 (wpList P ops (Exit.then (rI P w0 ops Q R0 H0 m (Dn M fuel) (yI M j (listed.setIfInBounds i true)) i') Q) [oi]) (uD M dA ((d,v)::e)) R' (wU M t cs H))(hi:ops[i']? =some oi:=by rfl)(hj:ops[j]? =some ⟨some dA,.alloc t,ty,pos,aI,none⟩:=by rfl)(ht:Cg P t cs:=by exact gY (by kernel_rfl))(hd:dA < N.n:=by decide)
  (Ak:Region.ready .any ops (listed.setIfInBounds i true)=[i',j]:=by kernel_rfl) (dN:Region.ready .any ops ((listed.setIfInBounds i true).setIfInBounds j true)=[i']:=by kernel_rfl) (hS:∀w,St w0 R' H w→St w0 R0 H0 w:=by exact fun _ h=>h.bB) (hR:∀p∈R',p∈R:=by simp) (hij:i≠j:=by decide) (hb:Nat.beq d dA=false:=by rfl):
  XK N w0 (wpList P ops (Exit.then (rI P w0 ops Q R0 H0 m (Dn M (fuel+1)) (yI M j listed) i) Q) []) ((d,v)::uD M dA e) R (wU M t cs H):=nU hR (gX (gQ (Yd hij hb hS (Rz i' j hi hj ht hd Ak dN hS step))))
end
def vJ(s:aC)(dl cl ll:List Nat)(fd fc fl td tc tl:List Bool):List fC:=
 pN 17 4 (fun _=>1) (iO (dl) fd td)++(pN 20 7 (fun _=>1) (iO (cl) fc tc)++(pN 22 4 (fun _=>0) (iO (ll) fl tl)++(pN 22 4 (fun _=>1) (iO (ll) tl fl)++(pN 20 7 (fun _=>0) (iO (cl.reverse) tc fc)++(pN 17 4 (zY s) (iO (dl.reverse) td fd))))))
def aJh(p0:Piece)(Cm:List fC)(y:Value)(w w':World):Prop:=∃g,y=.func (.func 258) #[] #[pt g]∧∀q,p0.Le q→(fresh w w').Le q→Iter Tryz.prog 258 [pt g] (nO Cm) q in
theorem aRz(p0:Piece)(s:aC)(A1 A2 A3 A4 Ad Ac Al Fd Fc Fl Td Tc Tl:Option Addr)(n1 k1 n2 k2 n3 k3 n4 k4 nd cd nc cc nl kl xB Gb xC Gc xA Ga wA Ev wB oO vZ Es:Nat)(dl cl ll:List Nat)(fd fc fl td tc tl:List Bool)(w:World)
  (Dd:p0.Le (all w)) (Pw:jW (fI p0) tH 88 3 A2 n2 s.domains) (hn2:(n2:Int)≤1000000)
  (lB:aH p0 1 Ad nd (aN (dR dl))) (hnd:nd=dl.length) (aG5:nd≤1000000) (Vt:∀i∈dl,i < n2)
  (jF:aH p0 1 Ac nc (aN (dR cl))) (hnc:nc=cl.length) (aCK:nc≤1000000) (aA4:∀i∈cl,i < 1000000)
  (nQ:aH p0 1 Al nl (aN (dR ll))) (fN:nl=ll.length) (aG3:nl≤1000000) (aAz:∀i∈ll,i < 1000000)
  (Pt:aH p0 1 Fd xB (bF fd)) (aA2:xB=fd.length) (Pj:aH p0 1 Td wA (bF td)) (aAw:wA=td.length) (Pu:aH p0 1 Fc xC (bF fc)) (aA3:xC=fc.length) (Pk:aH p0 1 Tc wB (bF tc)) (aAx:wB=tc.length) (hfl:aH p0 1 Fl xA (bF fl)) (aA1:xA=fl.length) (sI:aH p0 1 Tl vZ (bF tl)) (aAv:vZ=tl.length):
  Cz 249 #[.agg #[.slice A1 n1 k1,.slice A2 n2 k2,.slice A3 n3 k3,.slice A4 n4 k4],.slice Ad nd cd,.slice Ac nc cc,.slice Al nl kl,.agg #[.slice Fd xB Gb,.slice Fc xC Gc,.slice Fl xA Ga],.agg #[.slice Td wA Ev,.slice Tc wB oO,.slice Tl vZ Es]] w (fun y w'=>(∃x,y=.returned x∧aJh p0 (vJ s dl cl ll fd fc fl td tc tl) x w w')∧Below w.heap.size w w'):=by
 have aSA:=hnd
 refine aO func249 ntmps249 ?_;refine yY p0 (by simp) Dd ?_;refine aB ?_;refine bN fun g1=>?_;refine bN fun g2=>?_;refine bN fun g3=>?_;refine aB ?_;refine dS (aEw nc (aN (dR cl))) (fun w1 st=>aHC Ac nc cc _ w1 (jF.le (st.le (by simp))) (Pd _) aCK) ?_;rintro _ _ Zx ⟨A13,c13,rfl,rfl⟩ _;refine aB ?_;refine Ss (f:=253) (fi:=[]) (ca:=[]) 0 (HP.own 3 1 (.slice A13 nc c13) nc (aN (dR cl)).reverse) (by kernel_rfl) rfl rfl rfl ⟨by decide,rfl⟩ (fun w1 F st hp hF=>aFz A13 nc c13 _ w1 F hp hF (Pd _) (by simp[aN,dR,hnc]) aCK (aFF hp)) ?_;dsimp only[List.set,List.cons_append,List.nil_append];rw[aF0];refine aB ?_;refine dS (aEw nd (aN (dR dl))) (fun w1 st=>aHC Ad nd cd _ w1 (lB.le (st.le (by simp))) (Pd _) aG5) ?_;rintro _ _ Oj ⟨A14,c14,rfl,rfl⟩ _;refine aB ?_;refine Ss (f:=253) (fi:=[]) (ca:=[]) 0 (HP.own 3 1 (.slice A14 nd c14) nd (aN (dR dl)).reverse) (by kernel_rfl) rfl rfl rfl ⟨by decide,rfl⟩ (fun w1 F st hp hF=>aFz A14 nd c14 _ w1 F hp hF (Pd _) (by simp[aN,dR,hnd]) aG5 (aFF hp)) ?_;dsimp only[List.set,List.cons_append,List.nil_append];rw[aF0];refine fB ?_;refine aT [0,1,2,3,4] rfl (by decide) (R':=[p0,all w]) (by simp) ?_;refine aIm p0 p0 [0,1,2,3,4] [] (by simp) (by simp) (fun b h=>.inl h) rfl (by decide) (by decide) fun q0 hq Aj N0=>?_
 have f14:=aH.own (hq 0 _ (by simp) rfl)
 have f13:=aH.own (hq 1 _ (by simp) rfl)
 have t_d:RP q0 g3 0 (.slice Td wA Ev):=rM (hq 2 _ (by simp) rfl) rfl
 have f_d:RP q0 g2 0 (.slice Fd xB Gb):=rM (hq 3 _ (by simp) rfl) rfl
 have t_c:RP q0 g3 1 (.slice Tc wB oO):=rM (hq 2 _ (by simp) rfl) rfl
 have f_c:RP q0 g2 1 (.slice Fc xC Gc):=rM (hq 3 _ (by simp) rfl) rfl
 have t_l:RP q0 g3 2 (.slice Tl vZ Es):=rM (hq 2 _ (by simp) rfl) rfl
 have f_l:RP q0 g2 2 (.slice Fl xA Ga):=rM (hq 3 _ (by simp) rfl) rfl
 have b1:RP q0 g1 1 (.slice A2 n2 k2):=rM (hq 4 _ (by simp) rfl) rfl
 have E0:q0.Le q0:=fun b hb=>⟨hb,rfl⟩
 have aJP:=aR4 q0 g1 n2 k2 s A2 b1 (Pw.mono (kF Aj) (fun _ _ h=>h)) hn2
 have lB:=lB.le Aj
 have jF:=jF.le Aj
 have nQ:=nQ.le Aj
 have Pt:=Pt.le Aj
 have Pu:=Pu.le Aj
 have hfl:=hfl.le Aj
 have Pj:=Pj.le Aj
 have Pk:=Pk.le Aj
 have sI:=sI.le Aj
 refine eA ?_;refine qM 50 (by kernel_rfl) (by kernel_rfl) ?_;refine bP 0 ?_;refine bP 1 ?_;refine bP 2 ?_ (cK:=yS f_d);refine bP 3 ?_;refine bP 4 ?_ (cK:=yS t_d);refine bP 8 ?_;refine bP 9 ?_;refine bP 10 ?_ (cK:=yS f_c);refine bP 11 ?_;refine bP 12 ?_ (cK:=yS t_c);refine bP 16 ?_;refine bP 17 ?_;refine bP 18 ?_ (cK:=yS f_l);refine bP 19 ?_;refine bP 20 ?_ (cK:=yS t_l);refine bP 24 ?_;refine bP 25 ?_;refine bP 26 ?_ (cK:=yS t_l);refine bP 27 ?_;refine bP 28 ?_ (cK:=yS f_l);refine bP 32 ?_;refine bP 33 ?_;refine bP 34 ?_ (cK:=yS t_c);refine bP 35 ?_;refine bP 36 ?_ (cK:=yS f_c);refine bP 40 ?_;refine bP 41 ?_;refine bP 42 ?_ (cK:=yS t_d);refine bP 43 ?_;refine bP 44 ?_ (cK:=yS f_d);refine fZ 46 rfl rfl rfl (aH0 (vf:=[]) (vc:=[pt g1]) rfl rfl) ?_;refine aI2 (j:=49) 15 355 [sn] fun M=>?_;refine Rz 5 49 rfl rfl (gY (by kernel_rfl)) (by decide) (by kernel_rfl) (by kernel_rfl) (fun _ h=>h) (fun M=>?_);refine qY p0 q0 (Ni q0 (iO (dl) fd td)) (fun w1 st=>Oq q0 nd wA xB cd Ev Gb Ad Td Fd (dl) fd td w1 (lB.le E0) hnd (by omega) (Pj.le E0) aAw (Pt.le E0) aA2 (fun i hi=>by have:=Vt i hi;omega)) ?_;rintro _ w1 q1 ⟨x0,y0,z0,rfl,hit⟩ hf L1 N1
 have it0:=hit q1 L1 hf
 have E1:=E0.trans' L1
 refine rH 6 [q1,q0,p0,all w] fun M=>?_;refine qY p0 q1 (Sk 1) (fun w1 st=>Xl 1 w1) ?_;rintro _ w1 q2 ⟨u0,rfl,Fk⟩ hf L2 N2
 have va0:=Fk q2 hf
 have E2:=E1.trans' L2
 refine rH 7 [q2,q0,p0,all w] fun M=>?_;refine qY p0 q2 (Na q2 (wE 17 4 (fun _=>1) (iO (dl) fd td))) (fun w1 st=>Oa q2 260 261 [pt x0,pt y0,pt z0] [pt u0] 17 4 (fun _=>1) (iO (dl) fd td) w1 (it0.le L2) (by kernel_rfl) (by kernel_rfl) (va0 _) (fun i hi=>by have:=Vt i (List.mem_filter.1 hi).1;omega)) ?_;rintro _ w1 q3 ⟨c0,d0,e0,f0,rfl,hst⟩ hf L3 N3
 have st0:=hst q3 L3 hf
 have E3:=E2.trans' L3
 refine rH 13 [q3,q0,p0,all w] fun M=>?_;refine qY p0 q3 (Ni q3 (iO (cl) fc tc)) (fun w1 st=>Oq q3 nc wB xC cc oO Gc Ac Tc Fc (cl) fc tc w1 (jF.le E3) hnc (by omega) (Pk.le E3) aAx (Pu.le E3) aA3 (fun i hi=>by have:=aA4 i hi;omega)) ?_;rintro _ w1 q4 ⟨x1,y1,z1,rfl,hit⟩ hf L4 N4
 have it1:=hit q4 L4 hf
 have E4:=E3.trans' L4
 refine rH 14 [q4,q0,p0,all w] fun M=>?_;refine qY p0 q4 (Sk 1) (fun w1 st=>Xl 1 w1) ?_;rintro _ w1 q5 ⟨u1,rfl,Fk⟩ hf L5 N5
 have va1:=Fk q5 hf
 have E5:=E4.trans' L5
 refine rH 15 [q5,q0,p0,all w] fun M=>?_;refine qY p0 q5 (Na q5 (wE 20 7 (fun _=>1) (iO (cl) fc tc))) (fun w1 st=>Oa q5 260 261 [pt x1,pt y1,pt z1] [pt u1] 20 7 (fun _=>1) (iO (cl) fc tc) w1 (it1.le L5) (by kernel_rfl) (by kernel_rfl) (va1 _) (fun i hi=>by have:=aA4 i (List.mem_filter.1 hi).1;omega)) ?_;rintro _ w1 q6 ⟨c1,d1,e1,f1,rfl,hst⟩ hf L6 N6
 have lE:=hst q6 L6 hf
 have E6:=E5.trans' L6
 refine rH 21 [q6,q0,p0,all w] fun M=>?_;refine qY p0 q6 (Ni q6 (iO (ll) fl tl)) (fun w1 st=>Oq q6 nl vZ xA kl Es Ga Al Tl Fl (ll) fl tl w1 (nQ.le E6) fN (by omega) (sI.le E6) aAv (hfl.le E6) aA1 (fun i hi=>by have:=aAz i hi;omega)) ?_;rintro _ w1 q7 ⟨x2,y2,z2,rfl,hit⟩ hf L7 N7
 have it2:=hit q7 L7 hf
 have E7:=E6.trans' L7
 refine rH 22 [q7,q0,p0,all w] fun M=>?_;refine qY p0 q7 (Sk 0) (fun w1 st=>Xl 0 w1) ?_;rintro _ w1 q8 ⟨u2,rfl,Fk⟩ hf L8 N8
 have va2:=Fk q8 hf
 have E8:=E7.trans' L8
 refine rH 23 [q8,q0,p0,all w] fun M=>?_;refine qY p0 q8 (Na q8 (wE 22 4 (fun _=>0) (iO (ll) fl tl))) (fun w1 st=>Oa q8 260 261 [pt x2,pt y2,pt z2] [pt u2] 22 4 (fun _=>0) (iO (ll) fl tl) w1 (it2.le L8) (by kernel_rfl) (by kernel_rfl) (va2 _) (fun i hi=>by have:=aAz i (List.mem_filter.1 hi).1;omega)) ?_;rintro _ w1 q9 ⟨c2,d2,e2,f2,rfl,hst⟩ hf L9 N9
 have wH:=hst q9 L9 hf
 have E9:=E8.trans' L9
 refine rH 29 [q9,q0,p0,all w] fun M=>?_;refine qY p0 q9 (Ni q9 (iO (ll) tl fl)) (fun w1 st=>Oq q9 nl xA vZ kl Ga Es Al Fl Tl (ll) tl fl w1 (nQ.le E9) fN (by omega) (hfl.le E9) aA1 (sI.le E9) aAv (fun i hi=>by have:=aAz i hi;omega)) ?_;rintro _ w1 q10 ⟨x3,y3,z3,rfl,hit⟩ hf L10 N10
 have it3:=hit q10 L10 hf
 have E10:=E9.trans' L10
 refine rH 30 [q10,q0,p0,all w] fun M=>?_;refine qY p0 q10 (Sk 1) (fun w1 st=>Xl 1 w1) ?_;rintro _ w1 Tz ⟨u3,rfl,Fk⟩ hf L11 N11
 have va3:=Fk Tz hf
 have E11:=E10.trans' L11
 refine rH 31 [Tz,q0,p0,all w] fun M=>?_;refine qY p0 Tz (Na Tz (wE 22 4 (fun _=>1) (iO (ll) tl fl))) (fun w1 st=>Oa Tz 260 261 [pt x3,pt y3,pt z3] [pt u3] 22 4 (fun _=>1) (iO (ll) tl fl) w1 (it3.le L11) (by kernel_rfl) (by kernel_rfl) (va3 _) (fun i hi=>by have:=aAz i (List.mem_filter.1 hi).1;omega)) ?_;rintro _ w1 Ty ⟨c3,d3,e3,f3,rfl,hst⟩ hf L12 N12
 have Kr:=hst Ty L12 hf
 have E12:=E11.trans' L12
 refine rH 37 [Ty,q0,p0,all w] fun M=>?_;refine qY p0 Ty (Ni Ty (iO (cl.reverse) tc fc)) (fun w1 st=>Oq Ty nc xC wB c13 Gc oO A13 Fc Tc (cl.reverse) tc fc w1 (f13.le E12) (by simpa using hnc) (by omega) (Pu.le E12) aA3 (Pk.le E12) aAx (fun i hi=>by have:=(fun i hi=>aA4 i (by simpa using hi)) i hi;omega)) ?_;rintro _ w1 Zx ⟨x4,y4,z4,rfl,hit⟩ hf L13 N13
 have it4:=hit Zx L13 hf
 have E13:=E12.trans' L13
 refine rH 38 [Zx,q0,p0,all w] fun M=>?_;refine qY p0 Zx (Sk 0) (fun w1 st=>Xl 0 w1) ?_;rintro _ w1 Oj ⟨u4,rfl,Fk⟩ hf L14 N14
 have va4:=Fk Oj hf
 have E14:=E13.trans' L14
 refine rH 39 [Oj,q0,p0,all w] fun M=>?_;refine qY p0 Oj (Na Oj (wE 20 7 (fun _=>0) (iO (cl.reverse) tc fc))) (fun w1 st=>Oa Oj 260 261 [pt x4,pt y4,pt z4] [pt u4] 20 7 (fun _=>0) (iO (cl.reverse) tc fc) w1 (it4.le L14) (by kernel_rfl) (by kernel_rfl) (va4 _) (fun i hi=>by have:=(fun i hi=>aA4 i (by simpa using hi)) i (List.mem_filter.1 hi).1;omega)) ?_;rintro _ w1 Tx ⟨c4,d4,e4,f4,rfl,hst⟩ hf L15 N15
 have st4:=hst Tx L15 hf
 have E15:=E14.trans' L15
 refine rH 45 [Tx,q0,p0,all w] fun M=>?_;refine qY p0 Tx (Ni Tx (iO (dl.reverse) td fd)) (fun w1 st=>Oq Tx nd xB wA c14 Gb Ev A14 Fd Td (dl.reverse) td fd w1 (f14.le E15) (by simpa using hnd) (by omega) (Pt.le E15) aA2 (Pj.le E15) aAw (fun i hi=>by have:=(fun i hi=>Vt i (by simpa using hi)) i hi;omega)) ?_;rintro _ w1 Tw ⟨x5,y5,z5,rfl,hit⟩ hf L16 N16
 have it5:=hit Tw L16 hf
 have E16:=E15.trans' L16
 refine rH 47 [Tw,q0,p0,all w] fun M=>?_;refine qY p0 Tw (Na Tw (wE 17 4 (zY s) (iO (dl.reverse) td fd))) (fun w1 st=>Oa Tw 260 257 [pt x5,pt y5,pt z5] [pt g1] 17 4 (zY s) (iO (dl.reverse) td fd) w1 (it5.le (Piece.Le.refl _)) (by kernel_rfl) (by kernel_rfl) ((aJP (iO (dl.reverse) td fd) (fun i hi=>by have:=(fun i hi=>Vt i (by simpa using hi)) i (List.mem_filter.1 hi).1;omega)).le E16) (fun i hi=>by have:=(fun i hi=>Vt i (by simpa using hi)) i (List.mem_filter.1 hi).1;omega)) ?_;rintro _ w1 q17 ⟨c5,d5,e5,f5,rfl,hst⟩ hf L17 N17
 have Kq:=hst q17 L17 hf
 have E17:=E16.trans' L17
 refine rH 48 [q17,q0,p0,all w] fun M=>?_;rcases M with _ | g15
 all_goals
  dsimp only[uD,wU,yI,Dn];refine eG fun gS=>?_;refine gX ?_;refine gQ ?_
 refine kL (fun _ h=>h.tail.bB) ?_;refine cJ 49 ?_;refine bY fun g15=>?_;refine gX ?_;refine gQ ?_
 rotate_left
 refine aT [1,0] rfl (by decide) (fun _ h=>h) ?_
 all_goals
  refine kL (fun _ h=>h.tail.tail.bB) ?_;refine cJ 50 ?_;refine aE3 rfl rfl ?_;dsimp only[List.set];refine eS ?_;refine kK ?_;refine eJ ?_;refine eA ?_;refine fU ?_;refine jY (vf:=[]) (vc:=[pt g15]) rfl rfl (by decide) ?_;refine aB ?_;refine aIm p0 q17 [0,1] [] (by simp) (by simp) N17 rfl (by decide) (by decide) fun qs hqs Ls Ns=>?_
  have r15:=rM (o:=0) (hqs 0 _ (by simp) rfl) rfl
  obtain⟨FS,sS,zS⟩:=hqs 1 _ (by simp) rfl
  have rS:=qP (n:=6) (sz:=1) (c:=6) sS zS rfl
  refine mF rfl rfl fun w1 st=>⟨⟨_,rfl,g15,rfl,fun q2 Lu mP=>?_⟩,st.below (by simp)⟩
  have Lq:=aM4 (p0:=p0) st (by simp:qs∈_) Ns (((Aj.trans' E17).trans' Ls)) Lu mP
  have T17:=Ls.trans' Lq
  have T16:=L17.trans' T17
  have T15:=L16.trans' T16
  have T14:=L15.trans' T15
  have T13:=L14.trans' T14
  have T12:=L13.trans' T13
  have T11:=L12.trans' T12
  have T10:=L11.trans' T11
  have T9:=L10.trans' T10
  have T8:=L9.trans' T9
  have T7:=L8.trans' T8
  have T6:=L7.trans' T7
  have T5:=L6.trans' T6
  have T4:=L5.trans' T5
  have T3:=L4.trans' T4
  have hall:=aR3 q2 g15 6 6 _ [⟨259,[pt c0,pt d0,pt e0,pt f0],pN 17 4 (fun _=>1) (iO (dl) fd td)⟩,⟨259,[pt c1,pt d1,pt e1,pt f1],pN 20 7 (fun _=>1) (iO (cl) fc tc)⟩,⟨259,[pt c2,pt d2,pt e2,pt f2],pN 22 4 (fun _=>0) (iO (ll) fl tl)⟩,⟨259,[pt c3,pt d3,pt e3,pt f3],pN 22 4 (fun _=>1) (iO (ll) tl fl)⟩,⟨259,[pt c4,pt d4,pt e4,pt f4],pN 20 7 (fun _=>0) (iO (cl.reverse) tc fc)⟩,⟨259,[pt c5,pt d5,pt e5,pt f5],pN 17 4 (zY s) (iO (dl.reverse) td fd)⟩] (r15.le Lq) (rS.le Lq) rfl (by omega) (fun r hr=>by
   simp only[List.mem_cons,List.not_mem_nil,or_false] at hr;rcases hr with rfl | rfl | rfl | rfl | rfl | rfl
   ·exact⟨by kernel_rfl,by have h:=st0.le T3;rw[Oc] at h;exact h⟩
   ·exact⟨by kernel_rfl,by have h:=lE.le T6;rw[Oc] at h;exact h⟩
   ·exact⟨by kernel_rfl,by have h:=wH.le T9;rw[Oc] at h;exact h⟩
   ·exact⟨by kernel_rfl,by have h:=Kr.le T12;rw[Oc] at h;exact h⟩
   ·exact⟨by kernel_rfl,by have h:=st4.le T15;rw[Oc] at h;exact h⟩
   ·exact⟨by kernel_rfl,by have h:=Kq.le T17;rw[Oc] at h;exact h⟩)
  simpa[Cp,vJ] using hall
end
section
def zH(g:List (List Int)):Prop:=∀(k:Nat) (l:List Int),g[k]? =some l→∀u∈l,0≤u∧u < (k:Int)
theorem zH.in{g:List (List Int)}(h:zH g):xR g:=by
 intro l hl u hu;obtain⟨k,hk⟩:=List.getElem?_of_mem hl
 have:=h k l hk u hu
 have:=(List.getElem?_eq_some_iff.1 hk).1
 omega
theorem zH.next{g:List (List Int)}(h:zH g){k:Nat}(hk:k < g.length):Ic g (List.range k)=some k:=by
 refine aFO hk (fun j hj=>aCi (by simpa using hj)) ?_;unfold tQ;obtain⟨l,hl⟩:∃l,g[k]? =some l:=⟨_,List.getElem?_eq_getElem hk⟩
 rw[hl];simp only[Option.getD_some,Bool.and_eq_true,Bool.not_eq_true',List.all_eq_true];refine⟨by simp,fun u hu=>?_⟩
 have:=h k l hl u hu
 simp;omega
theorem zH.order{g:List (List Int)}(h:zH g):∀(m k:Nat),k+m=g.length→sC g m (List.range k)=some (List.range g.length)
 | 0,k,hk=>by rw[sC];simp at hk;rw[hk]
 | m+1,k,hk=>by
  rw[sC,h.next (by omega)]
  have:=zH.order h m (k+1) (by omega)
  rw[List.range_succ] at this;exact this
theorem zH.fL{g:List (List Int)}(h:zH g)(hl:g.length≤100):fL g=(0,List.range g.length):=by
 have h1:Dx g=false:=aHR fun k l hk j u hj=>by
  have:=h.in l (List.mem_of_getElem? hk) u (List.mem_of_getElem? hj)
  exact this
 have h2:pO g=0:=by unfold pO;rw[if_neg (by omega),h1];rfl
 have h3:=h.order g.length 0 (by omega)
 unfold Go.Proofs.YtkgekojkboingaaGreatDoor.fL;rw[if_neg (by simp[h2])];simp only[List.range_zero] at h3;rw[h3]
end
section
theorem Bk{es:List Int}(h:∀e∈es,e=0):kI es=0:=Iy fun j hj=>by rw[List.getElem?_eq_getElem hj,h _ (List.getElem_mem hj)]
theorem Ho{n lo hi:Int}(h1:lo≤n)(h2:n≤hi):iM n lo hi=true:=by simp[iM,h1,h2]
theorem zQ{b:Bool}{e:Int}(h:b=false):iQ b e=0:=by rw[h];rfl
section
variable{s:aC}(h:s.made)
include h
theorem aNf:zH (jV s):=by
 intro k l hl u hu;simp only[jV,List.getElem?_map,Option.map_eq_some_iff] at hl;obtain⟨c,hc,rfl⟩:=hl;exact(h.aF k c hc).1 u hu
theorem aNd:zH (jU s):=by
 intro k l hl u hu;simp only[jU,List.getElem?_map,Option.map_eq_some_iff] at hl;obtain⟨d,hd,rfl⟩:=hl
 have:=(h.domains k d hd).1
 split at hu
 ·cases hu
 ·rename_i hne
  simp at hu;subst hu;exact this.resolve_left hne
theorem aNc:zH (dL s):=by
 intro k l hl u hu;simp only[dL,List.getElem?_map,Option.map_eq_some_iff] at hl;obtain⟨d,hd,rfl⟩:=hl;obtain⟨_,_,_,_,_,_,_,_,_,_,_,h1⟩:=h.aD k d hd;exact h1 u hu
theorem Um:s.small:=by
 refine⟨by have:=h.nc;omega,by have:=h.nd;omega,by have:=h.nr;omega,by have:=h.nv;omega,fun c hc=>?_,fun d hd=>?_⟩
 ·obtain⟨k,hk⟩:=List.getElem?_of_mem hc;rcases(h.aF k c hk).2 with h1 | h1 | h1 | h1 | h1
  ·rw[h1.2.1];simp
  all_goals(have:=h1.2.1;omega)
 ·obtain⟨k,hk⟩:=List.getElem?_of_mem hd;obtain⟨_,_,_,_,_,_,_,_,_,_,h1,_⟩:=h.aD k d hk;omega
theorem aCx:fL (jV s)=(0,List.range s.aF.length)∧fL (jU s)=(0,List.range s.domains.length)∧fL (dL s)=(0,List.range s.aD.length):=by
 refine⟨?_,?_,?_⟩
 ·have:=(aNf h).fL (by simp[jV];have:=h.nc;omega)
  simpa[jV] using this
 ·have:=(aNd h).fL (by simp[jU];have:=h.nd;omega)
  simpa[jU] using this
 ·have:=(aNc h).fL (by simp[dL];have:=h.nv;omega)
  simpa[dL] using this
theorem aNg{k:Nat}{c:eU}(hc:s.aF[k]? =some c):Mq s.aF.length c=0:=by
 have hk:=(List.getElem?_eq_some_iff.1 hc).1
 obtain⟨h1,h2⟩:=h.aF k c hc;refine Bk fun e he=>?_;simp only[List.mem_cons,List.not_mem_nil,or_false] at he;rcases he with rfl | rfl | rfl
 ·refine zQ ?_;rcases h2 with h2 | h2 | h2 | h2 | h2
  ·simp[kX,h2.1,h2.2.1]
  ·simp[kX,h2.1,h2.2.1]
  ·simp[kX,h2.1,h2.2.1]
  ·simp[kX,h2.1,h2.2.1]
  ·simp[kX,h2.1,h2.2.1,iM]
 ·refine Bk fun e he=>?_;simp only[List.mem_map] at he;obtain⟨f,hf,rfl⟩:=he
  have:=h1 f hf
  exact zQ (by rw[Ho (by omega) (by omega)];rfl)
 ·refine zQ ?_;rcases h2 with h2 | h2 | h2 | h2 | h2
  ·obtain⟨h3,_,h4,h5,_⟩:=h2;simp[sE,h3];omega
  ·obtain⟨h3,_,_,h4,h5,h6,h7,h8,h9⟩:=h2;simp[sE,h3,iM];omega
  ·obtain⟨h3,_,_,_,h4,h5,_⟩:=h2;simp[sE,h3,iM];omega
  ·simp[sE,h2.1]
  ·simp[sE,h2.1]
theorem aNe{k:Nat}{d:Dom}(hd:s.domains[k]? =some d):Qs s.domains.length d=0:=by
 have hk:=(List.getElem?_eq_some_iff.1 hd).1
 obtain⟨h1,h2,h3⟩:=h.domains k d hd;refine Bk fun e he=>?_;simp only[List.mem_cons,List.not_mem_nil,or_false] at he;rcases he with rfl | rfl
 ·refine zQ ?_;rcases h1 with h1 | h1
  ·simp[h1]
  ·rw[Ho (by omega) (by omega)];simp
 ·exact zQ (by rw[Ho (by omega) (by omega)];rfl)
theorem aGf{k:Nat}{d:cH}(hd:s.aD[k]? =some d):Qw s.aF.length s.domains.length s.aY.length s.aD.length d=0∧Ox d=0:=by
 have hk:=(List.getElem?_eq_some_iff.1 hd).1
 obtain⟨a1,a2,a3,a4,a5,a6,_,_,a7,_,a8,a9⟩:=h.aD k d hd;refine⟨Bk fun e he=>?_,?_⟩
 ·simp only[List.mem_cons,List.not_mem_nil,or_false] at he;rcases he with rfl | rfl | rfl | rfl
  ·exact zQ (by rw[Ho (by omega) (by omega)];rfl)
  ·exact zQ (by rw[Ho (by omega) (by omega)];rfl)
  ·exact zQ (by rw[Ho (by omega) (by omega)];rfl)
  ·refine Bk fun e he=>?_;simp only[List.mem_map] at he;obtain⟨f,hf,rfl⟩:=he
   have:=a9 f hf
   exact zQ (by rw[Ho (by omega) (by omega)];rfl)
 ·refine zQ ?_;simp;omega
theorem aAm:Xi s=0:=by
 obtain⟨o1,o2,o3⟩:=aCx h;refine Bk fun e he=>?_;simp only[aAL,List.mem_cons,List.not_mem_nil,or_false] at he
 have h1:=h.nc
 have h2:=h.nd
 have h3:=h.nr
 have h4:=h.nv
 rcases he with rfl | rfl | rfl | rfl | rfl | rfl | rfl | rfl
 ·rw[Fz,if_neg (by omega)];refine Bk fun e he=>?_;obtain⟨d,hd,rfl⟩:=List.mem_map.1 he;obtain⟨k,hk⟩:=List.getElem?_of_mem hd;exact(aGf h hk).2
 ·refine Bk fun e he=>?_;obtain⟨d,hd,rfl⟩:=List.mem_map.1 he;obtain⟨k,hk⟩:=List.getElem?_of_mem hd;exact aNg h hk
 ·rw[Dv,o1];rfl
 ·refine Bk fun e he=>?_;obtain⟨d,hd,rfl⟩:=List.mem_map.1 he;obtain⟨k,hk⟩:=List.getElem?_of_mem hd;exact aNe h hk
 ·rw[Dv,o2];rfl
 ·refine Bk fun e he=>?_;obtain⟨d,hd,rfl⟩:=List.mem_map.1 he
  have:=h.aY d hd
  exact zQ (by rw[Ho (by omega) (by omega)];rfl)
 ·refine Bk fun e he=>?_;obtain⟨d,hd,rfl⟩:=List.mem_map.1 he;obtain⟨k,hk⟩:=List.getElem?_of_mem hd;exact(aGf h hk).1
 ·rw[Dv,o3];rfl
end
structure aC.wP(s:aC):Prop where
 aF:Fits eU.fit s.aF
 aD:Fits (cH.fit s.aF.length s.domains.length s.aY.length) s.aD
 nc:s.aF.length≤9
 nd:s.domains.length≤4
 nr:s.aY.length≤3
 nv:s.aD.length≤4
 Rc:Xi s=0
 small:s.small
theorem aC.made.wP{s:aC}(h:s.made):s.wP:=⟨h.aF,h.aD,h.nc.2,h.nd.2,h.nr.2,h.nv.2,aAm h,Um h⟩
end
section
attribute [local irreducible] KC KI KQ
def Sf(g:List (List Int))(v:Value)(w w':World):Prop:=∃A m c,v=.tuple #[.slice A m c,iv (fL g).1]∧m=(fL g).2.length∧aH (fresh w w') 1 A m (aN (dR (fL g).2))
theorem Nf.aCc{w w':World}{g:List (List Int)}{y:Ending}(h:Nf w (fL g).2 (fL g).1 y w'):(∃v,y=.returned v∧Sf g v w w')∧Below w.heap.size w w':=by
 obtain⟨⟨A,m,c,hy,hm,hs⟩,hb⟩:=h;exact⟨⟨_,hy,A,m,c,rfl,hm,hs⟩,hb⟩
theorem aNk{k n:Nat}(h:k < n):(aN ((dR (List.range k))++List.replicate (n - k) 0)).set k (iv (k:Int))=aN ((dR (List.range (k+1)))++List.replicate (n - (k+1)) 0):=by
 rw[aAs,List.set_append_right _ _ (by simp[dR])];rw[show k - (dR (List.range k)).length=0 by simp[dR],show n - k=(n - (k+1))+1 by omega,List.replicate_succ,List.set_cons_zero,List.range_succ,aCl,List.append_assoc];rfl
theorem aR2(s:aC)(dl cl ll:List Nat)(fd fc fl td tc tl:List Bool):(vJ s dl cl ll fd fc fl td tc tl).length≤2*(dl.length+cl.length+ll.length):=by
 have h:=fun(a:List Nat) (x y:List Bool)=>List.length_filter_le (zR x y) a
 have h1:=h dl fd td;have h2:=h cl fc tc;have h3:=h ll fl tl;have h4:=h ll tl fl;have h5:=h cl.reverse tc fc;have h6:=h dl.reverse td fd
 rw[List.length_reverse] at h5 h6;simp only[vJ,pN,iO,List.length_append,List.length_map];omega
theorem aSr{Y:Nat→Prop}{w:World}{F:Nat→Prop}{e:TypeId}{sz n:Nat}{v:Value}{xs:List Value}(h:(HP.own e sz v n xs).sat F w)(hF:∀b,F b→Y b):∃A c,v=.slice A n c∧aH ⟨w,Y⟩ sz A n xs∧n≤c:=by
 obtain⟨A,c,hv,hs⟩:=zF (Y:=Y) h hF;refine⟨A,c,hv,hs,?_⟩;obtain⟨_,ho⟩:=h;rcases ho.2 with⟨rfl,hn⟩ | ⟨g,cap,cur,rfl,_,_,h3,_⟩
 ·omega
 ·cases hv;exact h3
set_option maxHeartbeats 1000000 in
theorem aKo(s:aC)(A1 A2 A3 A4 Fd Fc Fl Td Tc Tl:Option Addr)(n1 k1 n2 k2 n3 k3 n4 k4 xB Gb xC Gc xA Ga wA Ev wB oO vZ Es:Nat)(fd fc fl td tc tl:List Bool)(w:World)(hW:iE w s A1 n1 A2 n2 A3 n3 A4 n4)(aCU:Xi s=0)(hD3:(fL (jU s)).2.length≤1000000)(hC3:(fL (jV s)).2.length≤1000000)(hDb:∀i∈(fL (jU s)).2,i < n2)(hCb:∀i∈(fL (jV s)).2,i < 1000000)
    (Pt:aH (all w) 1 Fd xB (bF fd)) (aA2:xB=fd.length) (Pj:aH (all w) 1 Td wA (bF td)) (aAw:wA=td.length) (Pu:aH (all w) 1 Fc xC (bF fc)) (aA3:xC=fc.length) (Pk:aH (all w) 1 Tc wB (bF tc)) (aAx:wB=tc.length) (hfl:aH (all w) 1 Fl xA (bF fl)) (aA1:xA=fl.length) (sI:aH (all w) 1 Tl vZ (bF tl)) (aAv:vZ=tl.length):
    Cz 247 #[.agg #[.slice A1 n1 k1,.slice A2 n2 k2,.slice A3 n3 k3,.slice A4 n4 k4],.agg #[.slice Fd xB Gb,.slice Fc xC Gc,.slice Fl xA Ga],.agg #[.slice Td wA Ev,.slice Tc wB oO,.slice Tl vZ Es]] w (fun y w'=>(∃A c,y=.returned (.slice A (vJ s (fL (jU s)).2 (fL (jV s)).2 (List.range n3) fd fc fl td tc tl).length c)∧aH (fresh w w') 4 A (vJ s (fL (jU s)).2 (fL (jV s)).2 (List.range n3) fd fc fl td tc tl).length ((vJ s (fL (jU s)).2 (fL (jV s)).2 (List.range n3) fd fc fl td tc tl).flatMap fC.cells)∧(vJ s (fL (jU s)).2 (fL (jV s)).2 (List.range n3) fd fc fl td tc tl).length≤c)∧Below w.heap.size w w'):=by
  have qG:=hW.qX
  have hn2:=hW.qW
  have sL:=hW.tT
  have dU:=hW.small
  unfold aC.small at dU;obtain⟨hs1,iH,vA,yK,sK,tX⟩:=dU;refine aBp (vs:=[.agg #[.slice A1 n1 k1,.slice A2 n2 k2,.slice A3 n3 k3,.slice A4 n4 k4],.agg #[.slice Fd xB Gb,.slice Fc xC Gc,.slice Fl xA Ga],.agg #[.slice Td wA Ev,.slice Tc wB oO,.slice Tl vZ Es]]) func247 rfl ntmps247 (by simp) (St.start w) ?_;dsimp only[List.cons_append,List.nil_append];refine jP ?_;refine kC (by kernel_rfl) ?_;refine bN fun g1=>?_;refine bN fun g2=>?_;refine bN fun g3=>?_;refine bE ?_;refine kD ?_;refine eE ?_;refine jP ?_;refine jP ?_;refine kC (by kernel_rfl) ?_;refine bE ?_;refine dG (fun w1 st=>aAK s A1 A2 A3 A4 n1 k1 n2 k2 n3 k3 n4 k4 w1 (hW.le (st.started (by simp)))) ?_;refine bE ?_;refine kD ?_;refine eE ?_;refine aBo rfl (fun h=>?_) (fun h=>?_)
  ·
    refine jP ?_;refine kC (by kernel_rfl) ?_;refine bE ?_;refine kD ?_;refine eE ?_;refine Mx ?_;refine eE ?_;exact absurd aCU h
  ·
    refine Gy ?_;refine eE ?_;refine jP ?_;refine kC (by kernel_rfl) ?_;refine bE ?_;refine kA [(all w)] (Hi (jU s)) (fun w1 st=>aHr s A1 A2 A3 A4 n1 k1 n2 k2 n3 k3 n4 k4 w1 (hW.le (st.started (by simp)))) ?_;rintro _ w1 qda ⟨Ag,cg,rfl,pQ⟩ hf Lq _
    have pQ:=pQ.le hf
    have aSy:=Lq (all w) (by simp)
    clear hf Lq
    refine kA [qda] (Sf (jU s)) (fun w1 st=>(aAa Ag _ cg (jU s) w1 (pQ.le (st.le (by simp))) rfl (by simp[jU];omega) (fun l hl=>by
        simp only[jU,List.mem_map] at hl;obtain⟨x,_,rfl⟩:=hl
        split<;>simp)).mono fun y w2 h=>h.aCc) ?_
    rintro _ w1 qd ⟨AD,mD,cD,rfl,hmD,hsD⟩ hf Lq _
    have hsD:=hsD.le hf
    have Lqd:=Lq qda (by simp)
    clear hf Lq pQ;refine bE ?_;refine bE ?_;refine bE ?_;refine bE ?_;refine bE ?_;refine kD ?_;refine eE ?_;refine jP ?_;refine kC (by kernel_rfl) ?_;refine bE ?_;refine kA [qd] (Hi (jV s)) (fun w1 st=>aHE s A1 A2 A3 A4 n1 k1 n2 k2 n3 k3 n4 k4 w1 (hW.le (st.started (by simp)))) ?_;rintro _ w1 qca ⟨Ag,cg,rfl,pQ⟩ hf Lq _
    have pQ:=pQ.le hf
    have aIN:=Lq qd (by simp)
    clear hf Lq
    refine kA [qca] (Sf (jV s)) (fun w1 st=>(aAa Ag _ cg (jV s) w1 (pQ.le (st.le (by simp))) rfl (by simp[jV];omega) (fun l hl=>by
        simp only[jV,List.mem_map] at hl;obtain⟨x,hx,rfl⟩:=hl
        have:=sK x hx;omega)).mono fun y w2 h=>h.aCc) ?_
    rintro _ w1 qc ⟨AC,mC,cC,rfl,hmC,hsC⟩ hf Lq _
    have hsC:=hsC.le hf
    have Lqc:=Lq qca (by simp)
    clear hf Lq pQ;refine bE ?_;refine bE ?_;refine bE ?_;refine bE ?_;refine bE ?_;refine kD ?_;refine eE ?_;refine jP ?_;refine kC (by kernel_rfl) ?_;refine bE ?_;refine bE ?_;refine bE ?_;refine lU 8 (el:=3) (z:=iv 0) (by kernel_rfl) (by kernel_rfl) rfl rfl rfl (by omega) (by omega) (by decide) fun g4=>?_;refine bE ?_;refine kD ?_;refine eE ?_;refine jP ?_;refine jP ?_;refine kC (by kernel_rfl) ?_;refine bE ?_;refine bE ?_;refine bE ?_;refine kD ?_;refine eE ?_;refine bM [(36,iv 0),(35,iv n3),(11,.slice (some ⟨g4,0,none⟩) n3 n3),(9,.slice AC mC cC),(7,.slice AD mD cD),(5,pt g3),(4,pt g2),(3,pt g1)] ?_;refine aT (R':=[qc,all w]) [0,1,2,3,4] rfl (by decide) (by simp) ?_;refine zB ?_;refine aDT (fun m L e R H=>∃k:Nat,k≤n3∧m=n3 - k∧L=[]∧e=[(36,iv k),(35,iv n3),(11,.slice (some ⟨g4,0,none⟩) n3 n3),(9,.slice AC mC cC),(7,.slice AD mD cD),(5,pt g3),(4,pt g2),(3,pt g1)]∧R=[qc,all w]∧H=[HP.aE g4 3 (aN ((dR (List.range k))++List.replicate (n3 - k) 0)),HP.aE g3 55 [.slice Td wA Ev,.slice Tc wB oO,.slice Tl vZ Es],HP.aE g2 55 [.slice Fd xB Gb,.slice Fc xC Gc,.slice Fl xA Ga],HP.aE g1 30 [.slice A1 n1 k1,.slice A2 n2 k2,.slice A3 n3 k3,.slice A4 n4 k4],rO []]) n3 ⟨0,by omega,rfl,rfl,rfl,rfl,by simp[aN,dR,Value.cells]⟩ fun m L e R H hI=>?_;obtain⟨k,hk,rfl,rfl,rfl,rfl,rfl⟩:=hI;refine jP ?_;refine kC (by kernel_rfl) ?_;refine bE ?_;refine kD ?_;refine eE ?_;refine jP ?_;refine aBo rfl (fun h=>?_) (fun h=>?_)
    ·
      refine Gy ?_;refine eE ?_;refine jP ?_;refine zB ?_;refine jP ?_;refine kC (by kernel_rfl) ?_;refine bE ?_;refine bE ?_;refine kD ?_;refine eE ?_;refine kC (by kernel_rfl) ?_;refine bE ?_;refine bE ?_;refine bE ?_;refine kd (dat (k) (k)) ?_;refine rQ 0 rfl (by kernel_rfl) rfl rfl rfl (by simp[aN,dR];omega) ?_;dsimp only[List.set];rw[aNk (by omega)];refine kD ?_;refine eE ?_;refine kC (by kernel_rfl) ?_;refine bE ?_;refine bE ?_;refine kD ?_;refine eE ?_;exact bM [(36,iv (k+1)),(35,iv n3),(11,.slice (some ⟨g4,0,none⟩) n3 n3),(9,.slice AC mC cC),(7,.slice AD mD cD),(5,pt g3),(4,pt g2),(3,pt g1)] (Yc (n3 - (k+1)) (by omega) ⟨k+1,by omega,rfl,rfl,rfl,rfl,rfl⟩)
    ·
      refine aDU ?_;refine eE ?_;refine jP ?_;refine kC (by kernel_rfl) ?_;refine bY fun g5=>?_;refine kD ?_;refine eE ?_;refine jP ?_;refine jP ?_;refine dB [qc] [1] [0,2,3,4,5] (by simp) rfl (by decide) (by decide) fun q5 hq5 L5 _=>?_
      have L5:=L5 qc (by simp)
      have hk3:k=n3:=by omega
      have aG7:=qP (n:=n3) (sz:=1) (c:=n3) (hq5 1 _ (by simp) rfl).choose_spec.1 (hq5 1 _ (by simp) rfl).choose_spec.2 (by simp[aN,dR];omega)
      rw[hk3,Nat.sub_self,List.replicate_zero,List.append_nil] at aG7
      have L0:(all w).Le q5:=(((aSy.trans' Lqd).trans' aIN).trans' Lqc).trans' L5
      refine aT (R':=[q5,all w]) [0,1,2,3,4] rfl (by decide) (by simp) ?_;refine kC (by kernel_rfl) ?_;refine bE ?_;refine bE ?_;refine bE ?_;refine bE ?_;refine bE ?_;refine bE ?_;refine kA [q5] (aJh q5 (vJ s (fL (jU s)).2 (fL (jV s)).2 (List.range n3) fd fc fl td tc tl)) (fun w1 st=>aRz q5 s A1 A2 A3 A4 AD AC (some ⟨g4,0,none⟩) Fd Fc Fl Td Tc Tl n1 k1 n2 k2 n3 k3 n4 k4 mD cD mC cC n3 n3 xB Gb xC Gc xA Ga wA Ev wB oO vZ Es (fL (jU s)).2 (fL (jV s)).2 (List.range n3) fd fc fl td tc tl w1 (st.le (by simp)) (hW.dom.mono (kF L0) (fun _ _ h=>h)) (by omega) (hsD.le ((aIN.trans' Lqc).trans' L5)) hmD (by omega) hDb (hsC.le L5) hmC (by omega) hCb aG7 (by simp) (by omega) (fun i hi=>by have:=List.mem_range.1 hi;omega) (Pt.le L0) aA2 (Pj.le L0) aAw (Pu.le L0) aA3 (Pk.le L0) aAx (hfl.le L0) aA1 (sI.le L0) aAv) ?_;rintro _ w1 q6 ⟨g6,rfl,hall⟩ hf L6 _
      have hit:=hall q6 (L6 q5 (by simp)) hf
      refine kD ?_;refine eE ?_;refine zB ?_;refine lI 293 4 ?_;refine mS ?_;generalize hSL:vJ s (fL (jU s)).2 (fL (jV s)).2 (List.range n3) fd fc fl td tc tl=SL at hit;refine uK 0 (f:=fun v=>HP.many [HP.own 293 4 v 0 ((SL.take 0).flatMap fC.cells),HP.aE g5 188 [v]]) (sn) rfl ?_;dsimp only[List.set];refine aT (R':=[q6,all w]) [0,4] rfl (by decide) (by simp) ?_;refine bM [(50,.func (.func 258) #[] #[pt g6]),(13,pt g5)] ?_
      refine aDS (gf:=258) (lb:=[pt g6]) (encs:=nO SL) (p:=q6) rfl (by kernel_rfl) hit (by simp) (fun vs hvs=>?_) (by decide) (fun k=>[(HP.ex fun v=>HP.many [HP.own 293 4 v k ((SL.take k).flatMap fC.cells),HP.aE g5 188 [v]])]) (fun _=>[HP.ex fun(_:Empty)=>bU])
        (fun k vs e1 H1=>∃(g7:Nat) (s:fC),vs=[qU s]∧e1=[(14,pt g7),(13,pt g5)]∧H1=[HP.aE g7 293 s.cells,(HP.ex fun v=>HP.many [HP.own 293 4 v k ((SL.take k).flatMap fC.cells),HP.aE g5 188 [v]])]) rfl ?_ ?_ ?_ ?_
      · simp only[nO,List.mem_map] at hvs
        obtain⟨s,_,rfl⟩:=hvs;rfl
      · intro l2 k vs W1 q X hvs dU
        obtain⟨s,rfl⟩:∃s,vs=[qU s]:=by
          simp only[nO,List.getElem?_map,Option.map_eq_some_iff] at hvs;obtain⟨s,_,e⟩:=hvs;exact⟨s,e.symm⟩
        dsimp only[List.cons_append,List.nil_append];refine kC (by kernel_rfl) ?_;refine bY fun g7=>?_;refine pY 0 rfl rfl rfl (by kernel_rfl) (by simp[qU,fC.cells,Value.cells,Value.oneCell']) (by simp[qU,fC.cells,Value.cells]) ?_;rw[show fS [Value.int .i64 0,iv 0,.int .u32 0,.int .u32 0] 0 (qU s).cells.toList=s.cells by simp[fS,qU,fC.cells,Value.cells]];dsimp only[List.set];refine kD ?_;refine bM [(14,pt g7),(13,pt g5)] ?_;exact aDW (H1:=[HP.aE g7 293 s.cells,(HP.ex fun v=>HP.many [HP.own 293 4 v k ((SL.take k).flatMap fC.cells),HP.aE g5 188 [v]])]) ⟨g7,s,rfl,rfl,rfl⟩
      · rintro l2 k vs W1 q X _ _ hvs dU ⟨g7,s,rfl,rfl,rfl⟩
        have hsk:SL[k]? =some s:=by
          simp only[nO,List.getElem?_map,Option.map_eq_some_iff] at hvs;obtain⟨s',h,e⟩:=hvs
          have:s'=s:=by
            cases s;cases s';simp[qU,fC.cells] at e;simp[e]
          exact this▸h
        have Vh:=(List.getElem?_eq_some_iff.1 hsk).1
        have aSO:SL.length≤6000000:=by rw[←hSL];refine Nat.le_trans (aR2 _ _ _ _ _ _ _ _ _ _) ?_;simp only[List.length_range];omega
        have pP:((SL.take (k+1)).flatMap fC.cells)=((SL.take k).flatMap fC.cells)++s.cells:=by
          rw[List.take_add_one,hsk];simp
        dsimp only[List.cons_append,List.nil_append];refine zB ?_;refine iT 1 fun v=>?_;refine aX 1 0 ?_;refine aX 2 1 ?_;refine kC (by kernel_rfl) ?_;refine kW (by kernel_rfl) rfl (Rd.aE 0 rfl rfl) (by decide) ?_;refine xW 4 (by kernel_rfl) rfl (aM.whole 2 rfl) rfl (by decide) ?_;refine aE5 (cs:=s.cells) (el:=293) (sz:=4) (zs:=[iv 0,iv 0,.int .u32 0,.int .u32 0]) (by kernel_rfl) (gY (by kernel_rfl)) (by kernel_rfl) rfl (by decide) (by decide) rfl (by simp[eZ,gD,Value.cells,List.range_succ,List.set,fC.cells]) (by decide) fun g8=>?_;refine gZ 2 4 24 1 (n':=k+1) (el:=293) (by kernel_rfl) (by kernel_rfl) (by decide) rfl rfl rfl (lW 0 rfl rfl) (by simp[fC.cells,Value.oneCell']) rfl (by omega) (by omega) (by decide) fun A' k'=>?_;dsimp only[List.set];refine rQ 1 rfl (by kernel_rfl) rfl rfl rfl (by simp) ?_;dsimp only[List.set];refine kD ?_;refine aT [2,1,4,5] rfl (by decide) (fun _ hp=>hp) ?_;refine aJ 1 0 ?_;refine aJ 0 1 ?_;refine uK 0 (f:=fun v=>HP.many [HP.own 293 4 v (k+1) ((SL.take (k+1)).flatMap fC.cells),HP.aE g5 188 [v]]) (.slice A' (k+1) k') (by rw[pP];rfl) ?_;dsimp only[List.set];refine eE ?_;exact aDV
      rotate_left
      · intro D k hk
        exact aBf 0 rfl fun a=>a.elim
      intro D;dsimp only[List.cons_append,List.nil_append];refine iT 0 fun v=>?_;refine aX 0 0 ?_;refine aX 1 1 ?_;refine eE ?_;refine jP ?_;refine kC (by kernel_rfl) ?_;refine bE ?_;refine bE ?_;refine kD ?_;refine eE ?_;refine Mx ?_;refine eE ?_;refine dB [] [1] [3] (by simp) rfl (by decide) (by decide) fun qf Vb _ hfr=>?_;obtain⟨Ff,sf,zf⟩:=Vb 1 _ (by simp) rfl;obtain⟨Av,cv,rfl,tW,Vw⟩:=aSr (Y:=qf.Z) sf zf;refine aSa (Hs:=[]) rfl rfl fun w1 st=>⟨⟨Av,cv,by simp[nO],?_,by simpa[nO] using Vw⟩,st.below (by simp)⟩
      have hlen:(nO SL).length=SL.length:=by simp[nO]
      rw[hlen,List.take_length] at tW;exact aH.le tW (st.mQ (by simp) (hfr (by simp) (by simp)))
end
section
def Wk:Value→Value→Bool
 | .int _ a,.int _ b=>a==b
 | .bool a,.bool b=>a==b
 | _,_=>false
def Jb:List Value→List Value→Bool
 | [],[]=>true
 | x::xs,y::ys=>Wk x y&&Jb xs ys
 | _,_=>false
def Iw(P:Program):List Field→Nat→List Value→List Value→Bool
 | [],_,[],[]=>true
 | f :: fs, i, x :: xs, y :: ys => f.name != "_" && f.offset == i && (match P.underlying f.type, x, y with
   | some (.int _),.int kx _,.int ky _=>decide (kx=ky)
   | some .bool,.bool _,.bool _=>true
   | _,_,_=>false)&&Iw P fs (i+1) xs ys
 | _,_,_,_=>false
section
variable{P:Program}{w:World}
theorem Zm{t:TypeId}{cs:Array Value}{i:Nat}{v:Value}{d:TypeDesc}(hu:P.underlying t=some d)(hd:(∃k,d=.int k)∨d=.bool)(hx:cs[i]? =some v):(part t cs i).run P w=.ok v w:=by
 rcases hd with⟨k,rfl⟩ | rfl<;>simp[part,isAgg,run_underlying hu,hx]
theorem aFn(d:Nat)(xs ys:Array Value):∀(fs:List Field) (i:Nat),Iw P fs i (xs.toList.drop i) (ys.toList.drop i)=true→(Op.eqFields (d+1) xs ys fs).run P w=.ok (Jb (xs.toList.drop i) (ys.toList.drop i)) w
 | [], i, h => by
  cases hx:xs.toList.drop i with
  | nil=>cases hy:ys.toList.drop i with
   | nil=>simp[Op.eqFields,Jb]
   | cons y yr=>rw[hx,hy] at h;simp[Iw] at h
  | cons x xr=>rw[hx] at h;simp[Iw] at h
 | f :: fs, i, h => by
  cases hx:xs.toList.drop i with
  | nil=>rw[hx] at h;simp[Iw] at h
  | cons x xr =>
   cases hy:ys.toList.drop i with
   | nil=>rw[hx,hy] at h;simp[Iw] at h
   | cons y yr =>
    rw[hx,hy] at h;simp only[Iw,Bool.and_eq_true,bne_iff_ne,beq_iff_eq] at h;obtain⟨⟨⟨h1,h2⟩,h3⟩,h4⟩:=h
    have ex:xs[i]? =some x:=by
     have:(xs.toList.drop i)[0]? =some x:=by rw[hx];rfl
     simpa using this
    have ey:ys[i]? =some y:=by
     have:(ys.toList.drop i)[0]? =some y:=by rw[hy];rfl
     simpa using this
    have dx:xr=xs.toList.drop (i+1):=by rw[←List.tail_drop,hx];rfl
    have dy:yr=ys.toList.drop (i+1):=by rw[←List.tail_drop,hy];rfl
    subst dx;subst dy
    have ih:=aFn d xs ys fs (i+1) h4
    have key:∃u,P.underlying f.type=some u∧((∃k,u=.int k)∨u=.bool)∧(Op.equalIn (d+1) f.type x y).run P w=.ok (Wk x y) w:=by
     split at h3
     ·rename_i k kx a ky b hu
      have:=of_decide_eq_true h3
      subst this;exact⟨_,hu,.inl ⟨_,rfl⟩,run_equalIn_int w d f.type kx _ a b hu⟩
     ·rename_i a b hu
      exact⟨_,hu,.inr rfl,run_equalIn_bool' w d f.type a b hu⟩
     ·cases h3
    obtain⟨u,hu,hk,he⟩:=key;simp only[Op.eqFields,if_pos h1,Sem.run_bind,h2,Zm hu hk ex,Zm hu hk ey,Result.andThen_ok,he,Sem.run_ite,Sem.run_pure,ih,Jb];cases Wk x y<;>simp
variable{N:cE}{w0:World}{e:Env}{R:List Piece}{H:List HP}{Q:Exit→Act→World→Prop}{ops:Array Oper}{rest:List Oper}
variable{d:Nat}{ty:TypeId}{pos:String}{aI:Array Edge}
def Mj(P:Program)(t:TypeId)(xs ys:List Value):Bool:=(match P.underlying t with
 | some (.struct fs)=>Iw P fs.toList 0 xs ys
 | _=>false)&& !P.stoodInHeld t&& !P.eqGuardType P.depth t
theorem aFm{t:TypeId}{xs ys:List Value}(h:Mj P t xs ys=true):(Op.equal t (.agg xs.toArray) (.agg ys.toArray)).run P w=.ok (Jb xs ys) w∧∀op x y,(eqGuard op t x y (.agg xs.toArray) (.agg ys.toArray)).run P w=.ok () w:=by
 unfold Mj at h;simp only[Bool.and_eq_true,Bool.not_eq_true'] at h;obtain⟨⟨h1,h2⟩,h3⟩:=h;refine⟨?_,fun op x y=>run_eqGuard_agg w op t x y _ _ h3⟩;split at h1
 ·rename_i fs hu
  have hf:P.fieldsOf t=fs:=by unfold Program.fieldsOf;rw[hu]
  have:=run_equalIn_struct (P:=P) w 9999 t xs.toArray ys.toArray (by rw[hf];exact hu) h2
  unfold Op.equal Op.maxDepth;rw[this,hf]
  have:=aFn (P:=P) (w:=w) 9998 xs.toArray ys.toArray fs.toList 0 (by simpa using h1)
  simpa using this
 ·cases h1
end
end
section
structure eB where
 d:List Bool
 c:List Bool
 l:List Bool
def zD(p:Piece)(x:eB)(v:Value):Prop:=∃A1 k1 A2 k2 A3 k3,v=.agg #[.slice A1 x.d.length k1,.slice A2 x.c.length k2,.slice A3 x.l.length k3]∧
 aH p 1 A1 x.d.length (bF x.d)∧aH p 1 A2 x.c.length (bF x.c)∧aH p 1 A3 x.l.length (bF x.l)
theorem zD.le{p q:Piece}{x:eB}{v:Value}(h:zD p x v)(hl:p.Le q):zD q x v:=by
 obtain⟨A1,k1,A2,k2,A3,k3,h0,h1,h2,h3⟩:=h;exact⟨A1,k1,A2,k2,A3,k3,h0,h1.le hl,h2.le hl,h3.le hl⟩
def Sb(Rl:Value→World→World→Prop)(w:World):Ending→World→Prop:=fun y w'=>(∃v,y=.returned v∧Rl v w w')∧Below w.heap.size w w'
end
section
def Ab(l:List Bool)(id:Int)(b:Bool):List Bool:=l.set id.toNat b
theorem aBW(l:List Bool)(id:Int)(b:Bool):(Ab l id b).length=l.length:=by simp[Ab]
structure eB.sm(x:eB):Prop where
 d:x.d.length≤1000000
 c:x.c.length≤1000000
 l:x.l.length≤1000000
theorem aD5(l:List Bool)(k:Nat)(b:Bool):(bF l).set k (.bool b)=bF (l.set k b):=by simp[bF,List.map_set]
theorem aD6(l:List Bool):(bF l).length=l.length:=by simp[bF]
theorem Rj(l:List Bool):∀u∈bF l,u.oneCell'=true:=by
 intro u hu;simp only[bF,List.mem_map] at hu;obtain⟨x,_,rfl⟩:=hu;rfl
structure fC.ok(p:fC):Prop where
 pr: -9223372036854775808≤p.pr∧p.pr≤9223372036854775807
 msg: -9223372036854775808≤p.msg∧p.msg≤9223372036854775807
 id:0≤p.id∧p.id < 4294967296
 v:0≤p.v∧p.v < 4294967296
end
section
structure qO(p:Piece)(s:aC)(A1:Option Addr)(n1:Nat)(A2:Option Addr)(n2:Nat)(A3:Option Addr)(n3:Nat)(A4:Option Addr)(n4:Nat):Prop where
 uG:jW (fI p) (qS (fI p)) 86 6 A1 n1 s.aF
 dom:jW (fI p) tH 88 3 A2 n2 s.domains
 zW:jW (fI p) xO 90 1 A3 n3 s.aY
 dev:jW (fI p) (pX (fI p)) 93 6 A4 n4 s.aD
section
variable{p q:Piece}{w:World}{s:aC}{A1 A2 A3 A4:Option Addr}{n1 n2 n3 n4:Nat}
theorem qO.le(h:qO p s A1 n1 A2 n2 A3 n3 A4 n4)(hl:p.Le q):qO q s A1 n1 A2 n2 A3 n3 A4 n4:=
 ⟨h.uG.mono (kF hl) (fun _ _=>qS.mono (kF hl)),h.dom.mono (kF hl) (fun _ _ h=>h),h.zW.mono (kF hl) (fun _ _ h=>h),h.dev.mono (kF hl) (fun _ _=>pX.mono (kF hl))⟩
theorem qO.W(h:qO p s A1 n1 A2 n2 A3 n3 A4 n4)(hl:p.Le (all w))(hs:s.small):iE w s A1 n1 A2 n2 A3 n3 A4 n4:=⟨(h.le hl).uG,(h.le hl).dom,(h.le hl).zW,(h.le hl).dev,hs⟩
theorem qO.len(h:qO p s A1 n1 A2 n2 A3 n3 A4 n4):n1=s.aF.length∧n2=s.domains.length∧n3=s.aY.length∧n4=s.aD.length:=by
 obtain⟨⟨_,_,h1,_⟩,⟨_,_,h2,_⟩,⟨_,_,h3,_⟩,⟨_,_,h4,_⟩⟩:=h;exact⟨h1,h2,h3,h4⟩
theorem uL.P{cs:Array Value}(h:uL (fI p) s cs):∃A1 n1 k1 A2 n2 k2 A3 n3 k3 A4 n4 k4,cs=#[.slice A1 n1 k1,.slice A2 n2 k2,.slice A3 n3 k3,.slice A4 n4 k4]∧qO p s A1 n1 A2 n2 A3 n3 A4 n4:=by
 obtain⟨A1,n1,k1,A2,n2,k2,A3,n3,k3,A4,n4,k4,h0,h1,h2,h3,h4⟩:=h;exact⟨A1,n1,k1,A2,n2,k2,A3,n3,k3,A4,n4,k4,h0,h1,h2,h3,h4⟩
end
def allM(s:aC)(x y:eB):List fC:=vJ s (List.range s.domains.length) (List.range s.aF.length) (List.range s.aY.length) x.d x.c x.l y.d y.c y.l
def aI9(l:List fC)(v:Value)(w w':World):Prop:=∃A c,v=.slice A l.length c∧aH (fresh w w') 4 A l.length (l.flatMap fC.cells)∧l.length≤c
theorem aKp{q qx qy:Piece}{s:aC}{A1 A2 A3 A4:Option Addr}{n1 k1 n2 k2 n3 k3 n4 k4:Nat}{x y:eB}{v1 v2:Value}{w:World}(hS:qO q s A1 n1 A2 n2 A3 n3 A4 n4)(hm:s.made)(hq:q.Le (all w))(hx:zD qx x v1)(Fq:qx.Le (all w))(hy:zD qy y v2)(hqy:qy.Le (all w)):
  Cz 247 #[.agg #[.slice A1 n1 k1,.slice A2 n2 k2,.slice A3 n3 k3,.slice A4 n4 k4],v1,v2] w (Sb (aI9 (allM s x y)) w):=by
 obtain⟨o1,o2,o3⟩:=aCx hm;obtain⟨rfl,rfl,rfl,rfl⟩:=hS.len;obtain⟨B1,b1,B2,b2,B3,b3,rfl,hx1,Fj,hx3⟩:=hx;obtain⟨C1,c1,C2,c2,C3,c3,rfl,hy1,hy2,hy3⟩:=hy
 have h1:=hm.nc
 have h2:=hm.nd
 have h:=aKo s A1 A2 A3 A4 B1 B2 B3 C1 C2 C3 _ k1 _ k2 _ k3 _ k4 _ b1 _ b2 _ b3 _ c1 _ c2 _ c3 x.d x.c x.l y.d y.c y.l w (hS.W hq (Um hm)) (aAm hm) (by rw[o2];simp;omega) (by rw[o1];simp;omega)
  (fun i hi=>by rw[o2] at hi;have:=List.mem_range.1 hi;omega) (fun i hi=>by rw[o1] at hi;have:=List.mem_range.1 hi;omega)
  (hx1.le Fq) rfl (hy1.le hqy) rfl (Fj.le Fq) rfl (hy2.le hqy) rfl (hx3.le Fq) rfl (hy3.le hqy) rfl
 rw[o1,o2] at h
 have hL:vJ s ((0:Int),List.range s.domains.length).2 ((0:Int),List.range s.aF.length).2 (List.range s.aY.length) x.d x.c x.l y.d y.c y.l=allM s x y:=rfl
 rw[hL] at h;clear hL;generalize allM s x y=L at h⊢;refine Calls.mono h ?_;rintro z w' ⟨⟨A,c,hz,hs,hc⟩,hb⟩;exact⟨⟨_,hz,⟨A,c,rfl,hs,hc⟩⟩,hb⟩
end
section
theorem jW.uU{α:Type}{p:Piece}{R:α→List Value→Prop}{t:TypeId}{sz n:Nat}{A:Option Addr}{es:List α}(h:jW (fI p) R t sz A n es){k:Nat}{e:α}(hk:es[k]? =some e):
  ∃b off r,A=some ⟨b,off,none⟩∧p.Z b∧r.length=sz∧R e r∧∀f u,r[f]? =some u→p.w.cell? ⟨b,off+k*sz+f,none⟩=some u:=by
 obtain⟨rows,h1,h2,h3⟩:=h
 have hlt:k < n:=by
  rw[h2];rcases Nat.lt_or_ge k es.length with h | h
  ·exact h
  ·rw[List.getElem?_eq_none h] at hk;cases hk
 obtain⟨b,off,hA,hb,hc⟩:=aH.at_ h3 hlt;obtain⟨r,h4,h5,h6⟩:=h1.get hk;refine⟨b,off,r,hA,hb,h4,h5,fun f u hu=>hc f u ?_⟩
 have hf:f < sz:=by
  rw[←h4];rcases Nat.lt_or_ge f r.length with h | h
  ·exact h
  ·rw[List.getElem?_eq_none h] at hu;cases hu
 rw[h6 f hf,hu]
theorem aMN{p:fC}{pr msg:Int}{val:Nat→Int}{ids:List Nat}(h:p∈pN pr msg val ids):∃i∈ids,p=⟨pr,msg,i,val i⟩:=by
 simp only[pN,List.mem_map] at h;obtain⟨i,hi,rfl⟩:=h;exact⟨i,hi,rfl⟩
theorem aLv(s:aC)(k:Nat):zY s k=0∨zY s k=2:=by unfold zY;split<;>simp
theorem Ob{pr msg:Int}{val:Nat→Int}{ids:List Nat}(h1:pr=17∨pr=20∨pr=22)(h2:msg=4∨msg=7)(hv:∀k,val k=0∨val k=1∨val k=2)(hi:∀i∈ids,i < 1000):∀p∈pN pr msg val ids,p.ok:=by
 intro p hp;obtain⟨i,hi',rfl⟩:=aMN hp
 have h3:=hi i hi'
 have h4:=hv i
 exact⟨by dsimp only;omega,by dsimp only;omega,by dsimp only;omega,by dsimp only;omega⟩
theorem aR1{s:aC}(hm:s.made)(x y:eB):∀p∈allM s x y,p.ok:=by
 have h1:=hm.nc
 have h2:=hm.nd
 have h3:=hm.nr
 have mr:∀(n:Nat) (fr to:List Bool),n≤9→∀i∈iO (List.range n) fr to,i < 1000:=fun n fr to hn i hi=>by have:=List.mem_range.1 (List.mem_filter.1 hi).1;omega
 have mv:∀(n:Nat) (fr to:List Bool),n≤9→∀i∈iO (List.range n).reverse fr to,i < 1000:=fun n fr to hn i hi=>by have:=List.mem_range.1 (List.mem_reverse.1 (List.mem_filter.1 hi).1);omega
 intro p hp;simp only[allM,vJ,List.mem_append] at hp;rcases hp with hp | hp | hp | hp | hp | hp
 ·exact Ob (by omega) (by omega) (fun _=>by omega) (mr _ _ _ (by omega)) p hp
 ·exact Ob (by omega) (by omega) (fun _=>by omega) (mr _ _ _ (by omega)) p hp
 ·exact Ob (by omega) (by omega) (fun _=>by omega) (mr _ _ _ (by omega)) p hp
 ·exact Ob (by omega) (by omega) (fun _=>by omega) (mr _ _ _ (by omega)) p hp
 ·exact Ob (by omega) (by omega) (fun _=>by omega) (mv _ _ _ (by omega)) p hp
 ·exact Ob (by omega) (by omega) (fun k=>by have:=aLv s k;omega) (mv _ _ _ (by omega)) p hp
end
section
structure eB.of(x:eB)(s:aC):Prop where
 d:x.d.length=s.domains.length
 c:x.c.length=s.aF.length
 l:x.l.length=s.aY.length
end
section
structure AL where
 d:Nat
 t:TypeId
 cs:List Value
 val:Nat→Value
def rA(al:Nat→AL)(g:Nat→Nat)(ds:List Nat)(e:Env):Env:=ds.map (fun i=>((al i).d,(al i).val (g i)))++e
def vC(al:Nat→AL)(g:Nat→Nat)(ds:List Nat)(H:List HP):List HP:=ds.map (fun i=>HP.aE (g i) (al i).t (al i).cs)++H
def lA(ds:List Nat)(l:Array Bool):Array Bool:=ds.foldr (fun i a=>a.setIfInBounds i true) l
def Ko:List Nat→List (List Nat)
 | []=>[[]]
 | i::l=>(Ko l).map (i:: ·)++Ko l
theorem Nz(p:Nat→Bool):∀l:List Nat,l.filter p∈Ko l
 | []=>by simp[Ko]
 | i::l=>by
  unfold Ko;rw[List.filter_cons];split
  ·exact List.mem_append_left _ (List.mem_map_of_mem (Nz p l))
  ·exact List.mem_append_right _ (Nz p l)
def aL7(ops:Array Oper)(idx:List Nat)(ex:List (List Nat))(listed:Array Bool):Bool:=
 (Ko idx).all fun sub=>ex.contains sub||(!(Region.ready .any ops (lA sub listed)).isEmpty&&(Region.ready .any ops (lA sub listed)).all fun j=>idx.contains j&& !sub.contains j)
theorem aAl{l1 l2:List Nat}(h:l1.Perm l2)(l:Array Bool):lA l1 l=lA l2 l:=by
 induction h with
 | nil=>rfl
 | cons x _ ih=>show(lA _ l).setIfInBounds x true=_;rw[ih];rfl
 | swap x y s=>
  show((lA s l).setIfInBounds x true).setIfInBounds y true=((lA s l).setIfInBounds y true).setIfInBounds x true
  by_cases hxy:x=y
  ·rw[hxy]
  ·exact Array.setIfInBounds_comm _ _ hxy
 | trans _ _ h1 h2=>exact h1.trans h2
section
variable{P:Program}{N:cE}{w0 w:World}{e:Env}{R R0:List Piece}{H H0:List HP}{Q:Exit→Act→World→Prop}{ops:Array Oper}{m fuel:Nat}{listed:Array Bool}{K:Act→World→Prop}
variable{al:Nat→AL}{g g':Nat→Nat}
theorem aA9(k:Nat)(v:Value)(e:Env)(t:Nat):Env.get ((k,v)::e) t=if k=t then some v else e.get t:=by
 show(match Nat.beq k t with | true=>some v | false=>Env.get e t)=_
 by_cases h:k=t
 ·subst h;rw[if_pos rfl,Nat.beq_refl]
 ·rw[if_neg h];cases hb:Nat.beq k t with
  | true=>exact absurd (Nat.eq_of_beq_eq_true hb) h
  | false=>rfl
theorem aHk{l1 l2:List Nat}(h:l1.Perm l2)(hn:(l1.map fun i=>(al i).d).Nodup)(t:Nat):(rA al g l1 e).get t=(rA al g l2 e).get t:=by
 induction h with
 | nil=>rfl
 | cons x _ ih=>
  show Env.get ((_,_)::rA al g _ e) t=Env.get ((_,_)::rA al g _ e) t
  rw[aA9,aA9,ih (List.nodup_cons.1 (show((al x).d::List.map (fun i=>(al i).d) _).Nodup from hn)).2]
 | swap x y s=>
  show Env.get ((_,_)::(_,_)::rA al g s e) t=Env.get ((_,_)::(_,_)::rA al g s e) t
  have hne:(al y).d≠(al x).d:=fun he=>(List.nodup_cons.1 (show((al y).d::(al x).d::List.map (fun i=>(al i).d) s).Nodup from hn)).1 (by rw[he];exact List.mem_cons_self)
  simp only[aA9]
  by_cases h1:(al x).d=t
  ·rw[if_pos h1,if_neg (fun h2=>hne (h2.trans h1.symm)),if_pos h1]
  ·rw[if_neg h1,if_neg h1]
 | trans h1 h2 i1 i2=>exact(i1 hn).trans (i2 ((h1.map _).nodup_iff.1 hn))
theorem aG0{l1 l2:List Nat}(h:l1.Perm l2):∀pre:List HP,St w0 R (pre++vC al g l1 H) w→St w0 R (pre++vC al g l2 H) w:=by
 induction h with
 | nil=>exact fun _ h=>h
 | cons x _ ih=>
  intro pre st
  have:=ih (pre++[HP.aE (g x) (al x).t (al x).cs]) (by rw[List.append_assoc];exact st)
  rw[List.append_assoc] at this;exact this
 | swap x y s =>
  intro pre st;refine st.weak (fun _ hp=>hp) (fun i=>if i=pre.length then pre.length+1 else if i=pre.length+1 then pre.length else i) (fun i j _ _ he=>?_) (fun i p hi=>?_)
  ·split at he<;>split at he<;>(try split at he)<;>(try split at he)<;>omega
  ·change (pre++HP.aE (g x) (al x).t (al x).cs::HP.aE (g y) (al y).t (al y).cs::vC al g s H)[i]? =some p at hi
   show(pre++HP.aE (g y) (al y).t (al y).cs::HP.aE (g x) (al x).t (al x).cs::vC al g s H)[_]? =some p
   rcases Nat.lt_or_ge i pre.length with h | h
   ·rw[if_neg (by omega),if_neg (by omega),List.getElem?_append_left h]
    rwa [List.getElem?_append_left h] at hi
   ·obtain⟨k,rfl⟩:∃k,i=pre.length+k:=⟨i - pre.length,by omega⟩
    rw[List.getElem?_append_right (by omega),Nat.add_sub_cancel_left] at hi
    match k,hi with
    | 0,hi=>
     rw[if_pos (by omega),List.getElem?_append_right (by omega),Nat.add_sub_cancel_left];exact hi
    | 1,hi=>
     rw[if_neg (by omega),if_pos rfl,List.getElem?_append_right (by omega),Nat.sub_self];exact hi
    | k+2,hi=>
     rw[if_neg (by omega),if_neg (by omega),List.getElem?_append_right (by omega),Nat.add_sub_cancel_left];exact hi
 | trans _ _ i1 i2=>exact fun pre st=>i2 pre (i1 pre st)
def aBw(P:Program)(N:cE)(e:Env)(o:Oper)(x:AL):Prop:=∀a w,eC N e a→(execOp a.eval o).run P w=.ok (.value (x.val w.heap.size)) (w.alloc (.cells x.cs.toArray x.t))
theorem aNa{t ty:TypeId}{d:Nat}{pos:String}{aI:Array Edge}{cs:List Value}(ht:Cg P t cs):aBw P N e ⟨some d,.alloc t,ty,pos,aI,none⟩ ⟨d,t,cs,fun g=>.pointer (some ⟨g,0,none⟩)⟩:=fun a w hr=>by
 obtain⟨i,z,hi,hz,rfl⟩:=ht;simp[execOp,Instr.alloc,zeroValue,typeInfo,hi,hz,newVar,newRow]
theorem Oy(bytes:Nat){x y:Operand}{t el ty:TypeId}{d n:Nat}{z:Value}{pos:String}{aI:Array Edge}{kd oX:IntKind}(ht:P.underlying t=some (.slice el))(hT:(P.info? el).map (fun i=>(i.zero,i.size,i.bytes))=some (some z,1,bytes))(Cy:z.cells=#[z])(hx:e.ev x=some (.int kd (n:Int)))(hy:e.ev y=some (.int oX (n:Int)))
  (hb:bytes*n≤281474976710656) (hn:(n:Int)≤9223372036854775807):aBw P N e ⟨some d,.makeSlice t x y,ty,pos,aI,none⟩ ⟨d,el,List.replicate n z,fun g=>.slice (some ⟨g,0,none⟩) n n⟩:=fun a w hr=>by
 obtain⟨i,hi,he⟩:=Option.map_eq_some_iff.1 hT;simp only[Prod.mk.injEq] at he;obtain⟨h1,h2,rfl⟩:=he
 have:=run_make (P:=P) w t el i z ht hi h1 kd oX n n (by omega) (Int.le_refl _) (by rw[←Int.natCast_mul];omega) hn
 have hm:madeCells z.cells (n*i.size)=(List.replicate n z).toArray:=by
  rw[h2,Nat.mul_one,Cy];unfold madeCells;apply Array.ext
  ·simp
  ·intro j h1 h2;simp;rw[Nat.mod_one];rfl
 simp only[Int.toNat_natCast,hm] at this;simp only[execOp,hr.ev hx,hr.ev hy,Sem.run_bind,this,Result.andThen_ok,Sem.run_pure]
structure Ei(P:Program)(N:cE)(ops:Array Oper)(e:Env)(x:AL)(i:Nat):Prop where
 ok:∃o,ops[i]? =some o∧o.guard=none∧o.dst=some x.d∧aBw P N e o x
 lt:x.d < N.n
 new:e.get x.d=none
theorem Ei.of{o:Oper}{x:AL}{i:Nat}(h1:ops[i]? =some o)(h2:o.guard=none)(h3:o.dst=some x.d)(h4:aBw P N e o x)(h5:x.d < N.n)(h6:e.get x.d=none):Ei P N ops e x i:=⟨⟨o,h1,h2,h3,h4⟩,h5,h6⟩
theorem aOW{ds:List Nat}(hn:∀i∈ds,e.get (al i).d=none){t:Nat}{v:Value}(h:e.get t=some v):(rA al g ds e).get t=some v:=by
 induction ds with
 | nil=>exact h
 | cons i ds ih=>
  show Env.get ((_,_)::rA al g ds e) t=some v
  rw[aA9,if_neg (fun he=>by have:=hn i (by simp);rw[he,h] at this;cases this)];exact ih fun j hj=>hn j (by simp[hj])
theorem eC.aOX{a:Act}{ds:List Nat}(hn:∀i∈ds,e.get (al i).d=none)(h:eC N (rA al g ds e) a):eC N e a:=⟨h.size,h.defers,fun t v ht=>h.get t v (aOW hn ht)⟩
theorem St.unA{ds:List Nat}(h:St w0 R (vC al g ds H) w):St w0 R H w:=h.weak (fun _ hp=>hp) (fun i=>i+ds.length) (fun i j _ _ he=>by omega) (fun i p hi=>by
 show(ds.map _++H)[i+ds.length]? =some p
 rw[List.getElem?_append_right (by simp)]
 simpa using hi)
theorem aI3(idx:List Nat)(ex:List (List Nat))(al:Nat→AL)(hok:∀i∈idx,Ei P N ops e (al i) i)(hd:(idx.map fun i=>(al i).d).Nodup)(hr:aL7 ops idx ex listed=true)(hS:∀w,St w0 R H w→St w0 R0 H0 w)
  (k:∀sub∈Ko idx,ex.contains sub=true→∀g:Nat→Nat,XA P N w0 ops Q R0 H0 m (fuel+(idx.length - sub.length)) (lA sub listed) (rA al g sub e) R (vC al g sub H)):XA P N w0 ops Q R0 H0 m (fuel+idx.length) listed e R H:=by
 have hni:idx.Nodup:=(List.pairwise_map.1 hd).imp fun h e=>h (by rw[e])
 have key:∀(n:Nat) (ds:List Nat) (g:Nat→Nat),ds.Nodup→(∀i∈ds,i∈idx)→ds.length+n=idx.length→XA P N w0 ops Q R0 H0 m (fuel+n) (lA ds listed) (rA al g ds e) R (vC al g ds H):=by
  intro n
  induction n with
  | zero =>
   intro ds g hn hin hl
   have Dc:(idx.filter fun i=>ds.contains i).Perm ds:=by
    rw[List.perm_iff_count];intro a;rw[(hni.sublist List.filter_sublist).count,hn.count]
    by_cases ha:a∈ds
    ·rw[if_pos ha,if_pos (by simp[ha,hin a ha])]
    ·rw[if_neg ha,if_neg (by simp[ha])]
   have hlen:=Dc.length_eq
   have heq:(idx.filter fun i=>ds.contains i)=idx:=List.filter_sublist.eq_of_length (by omega)
   have dN:=List.all_eq_true.1 hr _ (Nz (fun i=>ds.contains i) idx)
   rw[Bool.or_eq_true] at dN;rcases dN with hc | hc
   ·have h:=k _ (Nz _ idx) hc g
    rw[aAl Dc,show fuel+(idx.length - (idx.filter fun i=>ds.contains i).length)=fuel+0 by omega] at h;exact fun up a w cR st=>h up a w ⟨cR.size,cR.defers,fun t v ht=>cR.get t v (by rw[←aHk Dc (by rw[heq];exact hd)];exact ht)⟩ (aG0 Dc.symm [] st)
   ·exfalso;rw[Bool.and_eq_true,List.all_eq_true] at hc;obtain⟨h1,h2⟩:=hc;rw[heq] at h1 h2;cases hrd:Region.ready .any ops (lA idx listed) with
    | nil=>rw[hrd] at h1;cases h1
    | cons j js=>
     rw[hrd] at h2
     have:=h2 j (by simp)
     simp at this
  | succ n ih =>
   intro ds g hn hin hl
   have Dc:(idx.filter fun i=>ds.contains i).Perm ds:=by
    rw[List.perm_iff_count];intro a;rw[(hni.sublist List.filter_sublist).count,hn.count]
    by_cases ha:a∈ds
    ·rw[if_pos ha,if_pos (by simp[ha,hin a ha])]
    ·rw[if_neg ha,if_neg (by simp[ha])]
   have hlen:=Dc.length_eq
   have dN:=List.all_eq_true.1 hr _ (Nz (fun i=>ds.contains i) idx)
   rw[Bool.or_eq_true] at dN;rcases dN with hc | hc
   ·have h:=k _ (Nz _ idx) hc g
    rw[aAl Dc,show fuel+(idx.length - (idx.filter fun i=>ds.contains i).length)=fuel+(n+1) by omega] at h
    have hnd:((idx.filter fun i=>ds.contains i).map fun i=>(al i).d).Nodup:=hd.sublist (List.filter_sublist.map _)
    exact fun up a w cR st=>h up a w ⟨cR.size,cR.defers,fun t v ht=>cR.get t v (by rw[←aHk Dc hnd];exact ht)⟩ (aG0 Dc.symm [] st)
   ·rw[Bool.and_eq_true,List.all_eq_true,aAl Dc] at hc;obtain⟨h1,h2⟩:=hc;intro up a w cR st
    show Ki P ops Q (St w0 R0 H0) m ((fuel+n)+1) (lA ds listed) a w
    refine⟨(fun h=>by rw[h] at h1;exact absurd h1 (by decide)),fun j hj=>?_⟩
    have hj2:=h2 j hj
    simp only[Bool.and_eq_true,Bool.not_eq_true',List.contains_eq_mem,decide_eq_true_eq,decide_eq_false_iff_not,List.mem_filter,not_and] at hj2
    have hjd:j∉ds:=hj2.2 hj2.1
    obtain⟨⟨o,ho,hog,hod,hmk⟩,hlt,hnew⟩:=hok j hj2.1
    have hrun:=hmk a w (cR.aOX fun i hi=>(hok i (hin i hi)).new)
    let g':Nat→Nat:=fun i=>if i=j then w.heap.size else g i
    have hg1:rA al g' (j::ds) e=((al j).d,(al j).val w.heap.size)::rA al g ds e:=by
     show((al j).d,(al j).val (g' j))::(ds.map _++e)=_
     rw[show g' j=w.heap.size from if_pos rfl]
     congr 1
     unfold rA
     congr 1
     refine List.map_congr_left fun i hi=>?_;rw[show g' i=g i from if_neg (fun he:i=j=>hjd (he▸hi))]
    have Ly:vC al g' (j::ds) H=HP.aE w.heap.size (al j).t (al j).cs::vC al g ds H:=by
     show HP.aE (g' j) _ _::(ds.map _++H)=_
     rw[show g' j=w.heap.size from if_pos rfl]
     congr 1
     unfold vC
     congr 1
     refine List.map_congr_left fun i hi=>?_;rw[show g' i=g i from if_neg (fun he:i=j=>hjd (he▸hi))]
    have st':St w0 R (vC al g' (j::ds) H) (w.alloc (.cells (al j).cs.toArray (al j).t)):=by
     rw[Ly];exact st.new (Rm w _) (aGS w _ _)
    have h:=ih (j::ds) g' (List.nodup_cons.2 ⟨hjd,hn⟩) (fun i hi=>by
     rcases List.mem_cons.1 hi with rfl | hi
     ·exact hj2.1
     ·exact hin i hi) (by simp only[List.length_cons];omega)
    rw[hg1] at h
    have vE:=h (up.kY hj) (a.put (some (al j).d) ((al j).val w.heap.size)) _ (cR.put hlt _) st'
    unfold wpOp;simp only[ho]
    have hw:Region.wanted o (yielded ops a.tmps)=true:=by simp[Region.wanted,hog]
    simp only[hw,if_true,Oper.wp,hrun,Oper.upon,hod];exact .inl ⟨fun _=>hS _ st'.unA,vE⟩
 have:=key idx.length [] (fun _=>0) List.nodup_nil (fun i hi=>by cases hi) (by simp)
 exact this
end
end
section
def sU(s:aC):Nat→Nat→List Nat
 | 0,_=>[]
 | k + 1, c => match s.aF[c]? with
  | some x=>c::(match x.src with
   | []=>[]
   | f::_=>sU s k f.toNat)
  | none=>[]
def mE(s:aC)(c:Nat):List Nat:=sU s s.aF.length c
theorem aHI(s:aC):∀(k c:Nat),∀i∈sU s k c,i < s.aF.length
 | 0,c,i,h=>by simp[sU] at h
 | k + 1, c, i, h => by
  unfold sU at h;cases hc:s.aF[c]? with
  | none=>rw[hc] at h;simp at h
  | some x =>
   rw[hc] at h;dsimp only at h
   have hlt:=(List.getElem?_eq_some_iff.1 hc).1
   cases hs:x.src with
   | nil=>rw[hs] at h;simp at h;omega
   | cons f fs=>
    rw[hs] at h;rcases List.mem_cons.1 h with rfl | h
    ·exact hlt
    ·exact aHI s k _ i h
theorem aAN(s:aC):∀(k c:Nat),(sU s k c).length≤k
 | 0,c=>by simp[sU]
 | k + 1, c => by
  unfold sU;split
  ·rename_i x hx
   split
   ·simp
   ·rename_i f fs hs
    have:=aAN s k f.toNat
    simp only[List.length_cons];omega
  ·simp
theorem aQB{s:aC}{k c:Nat}{x:eU}(h:s.aF[c]? =some x):sU s (k+1) c=c::(match x.src with
      | []=>[]
      | f::_=>sU s k f.toNat):=by
  show(match s.aF[c]? with | some x=>_ | none=>_)=_
  rw[h]
def Ze(s:aC):Nat→Nat→List Nat
 | 0,_=>[]
 | k+1,d=>match s.domains[d]? with
  | some x=>d::(if x.above= -1 then[] else Ze s k x.above.toNat)
  | none=>[]
def Kj(s:aC)(d:Nat):List Nat:=Ze s (d+1) d
def Yg(s:aC):Int→List Nat→Prop
 | d,[]=>d= -1
 | d,i::r=>d=(i:Int)∧∃x,s.domains[i]? =some x∧Yg s x.above r
theorem aEP{s:aC}(hm:s.made):∀(k d:Nat),d < k→d < s.domains.length→Yg s d (Ze s k d)
 | k + 1, d, hk, hd => by
  have hx:s.domains[d]? =some (s.domains[d]'hd):=List.getElem?_eq_getElem _
  have hf:=(hm.domains d _ hx).1
  show Yg s d (match s.domains[d]? with | some x=>d::(if x.above= -1 then[] else Ze s k x.above.toNat) | none=>[])
  rw[hx];refine⟨rfl,_,hx,?_⟩
  by_cases h1:(s.domains[d]'hd).above= -1
  ·rw[if_pos h1];exact h1
  ·rw[if_neg h1]
   have h2:((s.domains[d]'hd).above.toNat:Int)=(s.domains[d]'hd).above:=by omega
   have:=aEP hm k (s.domains[d]'hd).above.toNat (by omega) (by omega)
   rwa [h2] at this
theorem aJT{s:aC}(hm:s.made){d:Nat}(hd:d < s.domains.length):Yg s d (Kj s d):=aEP hm _ _ (by omega) hd
def uW(ids:List Nat)(l:List Bool):List Bool:=ids.foldl (fun d (i:Nat)=>Ab d (i:Int) true) l
theorem aBX(ids:List Nat)(l:List Bool):(uW ids l).length=l.length:=by
 unfold uW
 induction ids generalizing l with
 | nil=>rfl
 | cons i ids ih=>rw[List.foldl_cons,ih,aBW]
def yE(s:aC)(i:Nat):Bool:=match s.aF[i]? with
 | some c=>decide (c.kind=112∨c.kind=103)
 | none=>false
def jK(s:aC):eB:=⟨List.replicate s.domains.length false,List.replicate s.aF.length false,List.replicate s.aY.length false⟩
def Nw(s:aC)(w:eB)(x:cH):eB:=⟨uW (Kj s x.domain.toNat) w.d,uW ((mE s x.clock.toNat).filter (yE s)) w.c,Ab w.l x.reset true⟩
def nE(s:aC)(act:List Bool):Nat→eB
 | 0=>jK s
 | j+1=>if hasB act j then(match s.aD[j]? with
  | some x=>Nw s (nE s act j) x
  | none=>nE s act j) else nE s act j
def gL(s:aC)(act:List Bool):eB:=nE s act s.aD.length
theorem Zd(s:aC)(act:List Bool):∀j,(nE s act j).of s
 | 0=>⟨by simp[nE,jK],by simp[nE,jK],by simp[nE,jK]⟩
 | j + 1 => by
  have ih:=Zd s act j
  unfold nE;split
  ·split
   ·exact⟨by rw[Nw,aBX];exact ih.d,by rw[Nw,aBX];exact ih.c,by rw[Nw,aBW];exact ih.l⟩
   ·exact ih
  ·exact ih
theorem aJG{s:aC}{act:List Bool}{j:Nat}{x:cH}(hx:s.aD[j]? =some x)(ha:hasB act j=true):nE s act (j+1)=Nw s (nE s act j) x:=by
 show(if hasB act j then _ else _)=_
 rw[if_pos ha,hx]
theorem aJF{s:aC}{act:List Bool}{j:Nat}(ha:hasB act j=false):nE s act (j+1)=nE s act j:=by
 show(if hasB act j then _ else _)=_
 rw[if_neg (by rw[ha];decide)]
end
section
structure aC.dJ(s:aC):Prop where
 t:s.wP
 domains:Fits Dom.fit s.domains
 aY:∀r∈s.aY,0≤r∧r≤3
theorem aC.made.dJ{s:aC}(h:s.made):s.dJ:=⟨h.wP,h.domains,h.aY⟩
structure eN where
 on:Bool
 left:Int
def xK(c:eU):eN:=⟨false,if c.kind=112 then c.lock else 0⟩
def byF(c:eU):Int:=if c.kind=100 then c.div else 0
def yC(c:eU)(x:eN):Bool:=if c.kind=112 then x.on&&decide (x.left=0) else if c.kind=103 then x.on else true
def upK(s:aC)(st:List eN)(i:Nat):Bool:=match s.aF[i]?,st[i]? with
 | some c,some x=>yC c x
 | _,_=>false
def runs(s:aC)(st:List eN)(i:Nat):Bool:=(mE s i).all (upK s st)
theorem aD2{s:aC}(hf:Fits eU.fit s.aF):∀(c k:Nat),c < k→sU s k c=sU s (c+1) c:=by
 intro c
 induction c using Nat.strongRecOn with
 | _ c ih =>
  intro k hk;obtain⟨k,rfl⟩:=Nat.exists_eq_add_of_lt hk;rw[show c+k+1=(c+k)+1 from rfl];unfold sU;cases hc:s.aF[c]? with
  | none=>rfl
  | some x =>
   dsimp only;cases hs:x.src with
   | nil=>rfl
   | cons f fs=>
    have hfit:=(hf c x hc).1 f (by rw[hs];simp)
    have h1:f.toNat < c:=by omega
    dsimp only;rw[ih f.toNat h1 (c+k) (by omega),ih f.toNat h1 c h1]
theorem aQC{s:aC}(hf:Fits eU.fit s.aF){i:Nat}{c:eU}(hc:s.aF[i]? =some c):mE s i=i::(match c.src with
  | []=>[]
  | f::_=>mE s f.toNat):=by
 have hlt:i < s.aF.length:=(List.getElem?_eq_some_iff.1 hc).1
 unfold mE;rw[aD2 hf i _ hlt];rw[sU,hc];dsimp only;cases hs:c.src with
 | nil=>rfl
 | cons f fs=>
  have hfit:=(hf i c hc).1 f (by rw[hs];simp)
  dsimp only;rw[aD2 hf f.toNat i (by omega),aD2 hf f.toNat s.aF.length (by omega)]
theorem aKE{s:aC}(hf:Fits eU.fit s.aF){st:List eN}{i:Nat}{c:eU}{x:eN}(hc:s.aF[i]? =some c)(hx:st[i]? =some x):runs s st i=(yC c x&&(match c.src with
  | []=>true
  | f::_=>runs s st f.toNat)):=by
 unfold runs;rw[aQC hf hc,List.all_cons]
 have:upK s st i=yC c x:=by unfold upK;rw[hc,hx]
 rw[this];cases c.src<;>rfl
def bZ(n:Nat)(i:Int):Bool:=decide (0≤i∧i < (n:Int))
def tN(s:aC)(st:List eN)(i:Int):Bool:=bZ s.aF.length i&&runs s st i.toNat
def Uf(c:eU)(x:eN)(b:Bool):eN:=⟨b,if c.kind=112∧b=false then c.lock else x.left⟩
def lN(s:aC)(st:List eN)(i:Int)(b:Bool):Int×List eN:=
 if bZ s.aF.length i=false then(4,st) else match s.aF[i.toNat]?,st[i.toNat]? with
 | some c,some x=>if c.kind≠112∧c.kind≠103 then(1,st) else(0,st.set i.toNat (Uf c x b))
 | _,_=>(4,st)
def aEW(c:eU):Nat:=(c.src.headD 0).toNat
def zT(s:aC)(st:List eN)(c:eU)(x:eN):eN:=
 if c.kind=112∧x.on=true then(if runs s st (aEW c)=false then⟨true,c.lock⟩ else if 0 < x.left then⟨true,x.left - 1⟩ else x) else x
def mJ(s:aC)(st:List eN):List eN:=List.zipWith (zT s st) s.aF st
structure pK(s:aC)(st:List eN):Prop where
 len:st.length=s.aF.length
 left:∀x∈st,0≤x.left∧x.left≤3
structure fW where
 phase:Int
 left:Int
 kept:Bool
 keep:Bool
def xG:fW:=⟨48,0,false,false⟩
def Qr(x:fW):Bool:=decide (x.phase=48∨x.phase=116)
def sA(st:List fW)(d:Int):Int:=if bZ st.length d then(st[d.toNat]?.map (·.phase)).getD 0 else 0
def Xo(st:List fW)(a:Int):Bool:=decide (a= -1)||decide ((st[a.toNat]?.map (·.phase)).getD 0=49)
def uR(s:aC)(st:List fW)(d:Int):Int×List fW:=
 if bZ st.length d=false then(4,st) else match s.domains[d.toNat]?,st[d.toNat]? with
 | some c,some x=>if Qr x=false∨Xo st c.above=false then(6,st) else(0,st.set d.toNat ⟨114,c.delay,decide (x.phase=116),x.keep⟩)
 | _,_=>(4,st)
def It(d:Int)(c:Dom)(x:fW):Bool:=decide (c.above=d)&& !Qr x
def Is(s:aC)(st:List fW)(d:Int):Bool:=(List.zipWith (It d) s.domains st).any id
def xF(s:aC)(st:List fW)(d:Int)(keep:Bool):Int×List fW:=
 if bZ st.length d=false then(4,st) else match s.domains[d.toNat]?,st[d.toNat]? with
 | some c,some x=>if x.phase≠49 then(6,st) else if keep=true∧c.ret=false then(1,st) else if Is s st d then(7,st) else(0,st.set d.toNat ⟨99,x.left,x.kept,keep⟩)
 | _,_=>(4,st)
def jE(x:fW):Int×fW:=
 if x.phase=114 then(if 0 < x.left then(0,⟨114,x.left - 1,x.kept,x.keep⟩) else(if x.kept then 114 else 110,⟨104,x.left,x.kept,x.keep⟩))
 else if x.phase=104 then(111,⟨49,x.left,x.kept,x.keep⟩)
 else if x.phase=99 then(if x.keep then(115,⟨116,x.left,x.kept,x.keep⟩) else(108,⟨48,x.left,x.kept,x.keep⟩))
 else(0,x)
def kO(st:List fW)(n:Nat):List (Int×Nat):=(List.range n).filterMap fun i=>(st[i]?).bind fun x=>if(jE x).1=0 then none else some ((jE x).1,i)
def pM(st:List fW):List fW:=st.map fun x=>(jE x).2
structure tI(s:aC)(st:List fW):Prop where
 len:st.length=s.domains.length
 left:∀x∈st,0≤x.left∧x.left≤3
 phase:∀x∈st,0≤x.phase∧x.phase < 256
structure jX where
 left:Int
 held:Bool
 wanted:Bool
def qD:jX:=⟨0,true,false⟩
def Ip(st:List jX)(i:Int):Bool:= !bZ st.length i||(st[i.toNat]?.map (·.held)).getD true
def rF(s:aC)(st:List jX)(i:Int):Int×List jX:=
 if bZ st.length i=false then(4,st) else(0,st.set i.toNat ⟨(s.aY[i.toNat]?).getD 0,true,false⟩)
def wM(st:List jX)(i:Int):Int×List jX:=
 if bZ st.length i=false then(4,st) else match st[i.toNat]? with
 | some x=>if x.held=false then(6,st) else(0,st.set i.toNat ⟨x.left,x.held,true⟩)
 | none=>(4,st)
def mV(x:jX):jX:=if x.held=false then x else if 0 < x.left then⟨x.left - 1,x.held,x.wanted⟩ else if x.wanted then⟨x.left,false,false⟩ else x
def Hq(st:List jX):List jX:=st.map mV
structure Ef(s:aC)(st:List jX):Prop where
 len:st.length=s.aY.length
 left:∀x∈st,0≤x.left∧x.left≤3
structure dW where
 now:List Int
 saved:List Int
 kept:Bool
def Dp(d:cH):dW:=⟨d.aS.map (·.reset),d.aS.map fun _=>0,false⟩
def Dw(d:cH)(x:dW):dW:=⟨d.aS.map (·.reset),x.saved,false⟩
def Kt(r:Rg)(p:Int×Int):Int:=if r.kept then p.1 else p.2
def uT(d:cH)(x:dW):dW:=⟨x.now,List.zipWith Kt d.aS (x.now.zip x.saved),true⟩
def Zr(k:Bool)(r:Rg)(v:Int):Int:=if k&&r.kept then v else r.reset
def Hw(d:cH)(x:dW):dW:=⟨List.zipWith (Zr x.kept) d.aS x.saved,x.saved,x.kept⟩
structure xS(d:cH)(x:dW):Prop where
 now:x.now.length=d.aS.length
 saved:x.saved.length=d.aS.length
 u:(∀v∈x.now,0≤v∧v < 4294967296)∧∀v∈x.saved,0≤v∧v < 4294967296
structure fD where
 at_:Int
 denied:Int
def Oi:fD:=⟨0,0⟩
def oU(a:Int):Int:=if a=0 then 114 else if a=1 then 97 else if a=2 then 115 else 100
def sV(x:fD):Int×fD:=if x.at_≠0 then(6,x) else(0,⟨1,x.denied⟩)
def oF(x:fD):Int×fD:=if x.at_≠2∧x.at_≠3 then(6,x) else(0,⟨0,x.denied⟩)
def yD(x:fD)(Mu bG:Bool):fD:=if x.at_≠1 then x else if bG then⟨3,IntKind.i64.wrap (x.denied+1)⟩ else if Mu then x else⟨2,0⟩
def zG(x:fD):Prop:=0≤x.at_∧x.at_≤3
end
section
def Sj(n:Nat)(xs:List Value)(v:Value)(hs:List HP)(_:Piece):Prop:=∃A c,v=.slice A n c∧hs=[HP.own 95 2 (.slice A n c) n xs]
theorem Xf(A:Option Addr)(n c:Nat)(xs:List Value)(w:World)(hs:aH (all w) 2 A n xs)(h1:∀u∈xs,u.oneCell'=true)(hn:n≤1000000):
  Cz 159 #[.slice A n c] w (fun y w'=>(∃v hs q,y=.returned v∧q.w=w'∧Sj n xs v hs q∧fV w hs q)∧Below w.heap.size w w'):=by
 refine aO func159 ntmps159 ?_;refine aA ?_;refine Sq (el:=95) (by kernel_rfl) rfl (by decide) ?_;refine fB ?_;refine pF rfl (fun hA=>?_) (fun hA=>?_)
 ·refine aA ?_
  have hn0:n=0:=by
   rcases Nat.eq_zero_or_pos n with h | h
   ·exact h
   ·obtain⟨b,off,rfl,_⟩:=hs.2 h;cases hA
  subst hn0
  have hx:xs=[]:=List.eq_nil_of_length_eq_zero (by simpa using hs.1)
  subst hx;refine lI 95 2 ?_;refine dB [] [] [0] (by simp) rfl (by decide) (by decide) fun q _ _ hfr=>?_;exact aP (h:=fun w1 st=>⟨_,_,⟨w1,q.Z⟩,rfl,rfl,⟨_,_,rfl,rfl⟩,st.newR (by simp) (by simp) (hfr (by simp) (by simp))⟩)
 ·refine aA ?_;refine Sn (el:=95) (sz:=2) (by kernel_rfl) (by kernel_rfl) (by decide) fun g=>?_;refine Mw 0 2 0 rfl rfl (by omega) ?_;dsimp only[List.set];refine aA ?_;refine gZ 0 2 8 n (n':=n) (el:=95) (by kernel_rfl) (by kernel_rfl) (by decide) rfl rfl rfl (rY (by simp) hs) h1 (by omega) (by omega) (by omega) (by decide) fun A' k'=>?_;dsimp only[List.set,List.nil_append];refine aA ?_;refine dB [] [] [0] (by simp) rfl (by decide) (by decide) fun q _ _ hfr=>?_;exact aP (h:=fun w1 st=>⟨_,_,⟨w1,q.Z⟩,rfl,rfl,⟨_,_,rfl,rfl⟩,st.newR (by simp) (by simp) (hfr (by simp) (by simp))⟩)
def Si(n:Nat)(xs:List Value)(v:Value)(hs:List HP)(_:Piece):Prop:=∃A c,v=.slice A n c∧hs=[HP.own 37 1 (.slice A n c) n xs]
theorem Xe(A:Option Addr)(n c:Nat)(xs:List Value)(w:World)(hs:aH (all w) 1 A n xs)(h1:∀u∈xs,u.oneCell'=true)(hn:n≤1000000):
  Cz 26 #[.slice A n c] w (fun y w'=>(∃v hs q,y=.returned v∧q.w=w'∧Si n xs v hs q∧fV w hs q)∧Below w.heap.size w w'):=by
 refine aO func26 ntmps26 ?_;refine aA ?_;refine Sq (el:=37) (by kernel_rfl) rfl (by decide) ?_;refine fB ?_;refine pF rfl (fun hA=>?_) (fun hA=>?_)
 ·refine aA ?_
  have hn0:n=0:=by
   rcases Nat.eq_zero_or_pos n with h | h
   ·exact h
   ·obtain⟨b,off,rfl,_⟩:=hs.2 h;cases hA
  subst hn0
  have hx:xs=[]:=List.eq_nil_of_length_eq_zero (by simpa using hs.1)
  subst hx;refine lI 37 1 ?_;refine dB [] [] [0] (by simp) rfl (by decide) (by decide) fun q _ _ hfr=>?_;exact aP (h:=fun w1 st=>⟨_,_,⟨w1,q.Z⟩,rfl,rfl,⟨_,_,rfl,rfl⟩,st.newR (by simp) (by simp) (hfr (by simp) (by simp))⟩)
 ·refine aA ?_;refine Sn (el:=37) (sz:=1) (by kernel_rfl) (by kernel_rfl) (by decide) fun g=>?_;refine Mw 0 1 0 rfl rfl (by omega) ?_;dsimp only[List.set];refine aA ?_;refine gZ 0 1 4 n (n':=n) (el:=37) (by kernel_rfl) (by kernel_rfl) (by decide) rfl rfl rfl (rY (by simp) hs) h1 (by omega) (by omega) (by omega) (by decide) fun A' k'=>?_;dsimp only[List.set,List.nil_append];refine aA ?_;refine dB [] [] [0] (by simp) rfl (by decide) (by decide) fun q _ _ hfr=>?_;exact aP (h:=fun w1 st=>⟨_,_,⟨w1,q.Z⟩,rfl,rfl,⟨_,_,rfl,rfl⟩,st.newR (by simp) (by simp) (hfr (by simp) (by simp))⟩)
end
section
def mI(l:List Int):List Value:=l.map (Value.int .u32)
theorem Zf(l:List Int):(mI l).length=l.length:=by simp[mI]
theorem aBE{l:List Int}{i:Nat}{v:Int}(h:l[i]? =some v):(mI l)[i]? =some (.int .u32 v):=by simp[mI,h]
theorem aBD(l:List Int)(i:Nat)(v:Int):(mI l).set i (.int .u32 v)=mI (l.set i v):=by simp[mI,List.map_set]
structure FL where
 f:Nat
 gn:Nat
 gs:Nat
 A:Option Addr
 c:Nat
def rL(d:cH)(A:Option Addr)(p:Piece):Prop:=aH p 2 A d.aS.length (d.aS.flatMap Rg.cells)
theorem rL.le{d:cH}{A:Option Addr}(p q:Piece)(hl:p.Le q)(h:rL d A p):rL d A q:=aH.le h hl
def Iz(L:FL)(d:cH)(k:Bool):List Value:=[.slice L.A d.aS.length L.c,.slice (some ⟨L.gn,0,none⟩) d.aS.length d.aS.length,.slice (some ⟨L.gs,0,none⟩) d.aS.length d.aS.length,.bool k]
def gT(L:FL)(d:cH)(x:dW):HP:=HP.many [HP.aE L.f 264 (Iz L d x.kept),HP.aE L.gn 37 (mI x.now),HP.aE L.gs 37 (mI x.saved),HP.bR (rL d L.A) (rL.le (d:=d) (A:=L.A))]
structure Ce(w:World)(L:FL)(d:cH)(x:dW):Prop where
 r0:dP w L.f 0 (Iz L d x.kept)
 now:dP w L.gn 0 (mI x.now)
 saved:dP w L.gs 0 (mI x.saved)
 made:aH (all w) 2 L.A d.aS.length (d.aS.flatMap Rg.cells)
theorem Ce.below{w w':World}{L:FL}{d:cH}{x:dW}(h:Ce w L d x)(hb:Below w.heap.size w w'):Ce w' L d x:=⟨h.r0.below hb,h.now.below hb,h.saved.below hb,h.made.le (kR hb)⟩
theorem uI{w:World}{g:Nat}{t:TypeId}{cs:List Value}(h:tJ w g t cs.toArray):dP w g 0 cs:=⟨h.lt,fun j v hv=>by rw[h.cell,Nat.zero_add];simpa using hv⟩
theorem Ym{L:FL}{d:cH}{x:dW}{F:Nat→Prop}{w:World}(h:(gT L d x).sat F w)(hF:∀b,F b→b < w.heap.size):Ce w L d x:=by
 obtain⟨G,g1,g2,_⟩:=h;exact⟨uI (g1 0 _ rfl).2,uI (g1 1 _ rfl).2,uI (g1 2 _ rfl).2,aH.le (g1 3 _ rfl) (fun b hb=>⟨hF b (g2 3 b hb),rfl⟩)⟩
section
variable{N:cE}{w0 w:World}{e:Env}{R:List Piece}{H:List HP}{K:Act→World→Prop}{L:FL}{d:cH}{x:dW}
theorem St.aDl(t:St w0 R H w)(i:Nat)(hi:H[i]? =some (gT L d x)):Ce w L d x:=by
 obtain⟨F,h1,h2,_⟩:=t.chunk hi;exact Ym h1 h2
theorem Xy(i:Nat)(hi:H[i]? =some (gT L d x))(h:XK N w0 K e R (HP.aE L.gs 37 (mI x.saved)::HP.aE L.gn 37 (mI x.now)::HP.aE L.f 264 (Iz L d x.kept)::H.set i (HP.many [bU,bU,bU,HP.bR (rL d L.A) (rL.le (d:=d) (A:=L.A))]))):XK N w0 K e R H:=by
 have hlt:=wV hi
 refine qJ i 0 hi rfl ?_;refine qJ (i+1) 1 (by rw[List.getElem?_cons_succ,List.getElem?_set_self hlt]) rfl ?_;refine qJ (i+2) 2 (by simp[hlt];rfl) rfl ?_
 simpa[List.set_cons_succ,List.set_set] using h
theorem Yb(i:Nat)(hi:H[i]? =some (HP.many [bU,bU,bU,HP.bR (rL d L.A) (rL.le (d:=d) (A:=L.A))]))(h:XK N w0 K e R (H.set i (gT L d x))):XK N w0 K e R (HP.aE L.gs 37 (mI x.saved)::HP.aE L.gn 37 (mI x.now)::HP.aE L.f 264 (Iz L d x.kept)::H):=by
 have hlt:=wV hi
 refine qL (i+2) 2 (by simpa using hi) rfl ?_;dsimp only[List.set];refine qL (i+1) 1 (by simp[hlt];rfl) rfl ?_;dsimp only[List.set];refine qL i 0 (by simp[hlt];rfl) rfl ?_
 simpa[List.set_set,gT] using h
end
theorem Tu(L:FL)(d:cH)(x:dW)(w:World)(hR:Ce w L d x):
  Cz 103 #[.pointer (some ⟨L.f,0,none⟩)] w (Rt (iv d.aS.length) w):=by
 have h0:=hR.r0.at_ (j:=0) rfl
 refine aO func103 ntmps103 ?_;refine aA ?_;exact dF
theorem aF2(p:Piece)(S:Nat→HP)(L:FL)(d:cH)(hrl:d.aS.length≤100)(f:FuncId)(hf:eW Tryz.prog f=true)(ca:List Value)
  (hread:∀i,i≤d.aS.length→∀w F,(S i).sat F w→(∀b,F b→b < w.heap.size)→∃x,Ce w L d x)
  (hstep:∀i r,d.aS[i]? =some r→∀w F,(S i).sat F w→(∀b,F b→b < w.heap.size)→p.Le ⟨w,fun b=>b < w.heap.size∧¬F b⟩→
   Cz f (([iv (i:Int),.agg r.cells.toArray]:List Value)++ca).toArray w (Wr (.tuple #[]) (S (i+1)) w F))
  (w:World) (F:Nat→Prop) (hp:(S 0).sat F w) (hF:∀b,F b→b < w.heap.size) (Ft:p.Le ⟨w,fun b=>b < w.heap.size∧¬F b⟩):
  Cz 213 #[.pointer (some ⟨L.f,0,none⟩),.func (.func f) #[] ca.toArray] w (Wr (.tuple #[]) (S d.aS.length) w F):=by
 have hfr:∀{i:Nat} {R:List Piece} {H:List HP} {w1:World},i≤d.aS.length→St w R (S i::H) w1→∃x,Ce w1 L d x:=fun hi t=>by
  obtain⟨G,g1,g2,_⟩:=t.chunk (i:=0) rfl;exact hread _ hi _ G g1 g2
 refine cS func213 ntmps213 hp hF ?_;refine aA ?_
 refine aQ (v:=iv d.aS.length) (fun w1 t=>by
  obtain⟨x,hx⟩:=hfr (Nat.zero_le _) t
  exact Tu L d x w1 hx) ?_
 refine aA ?_;refine bM [(7,iv 0),(6,iv d.aS.length),(1,.func (.func f) #[] ca.toArray),(0,.pointer (some ⟨L.f,0,none⟩))] ?_;refine eT (fun m e R H=>∃i:Nat,i≤d.aS.length∧m=d.aS.length - i∧e=[(7,iv i),(6,iv d.aS.length),(1,.func (.func f) #[] ca.toArray),(0,.pointer (some ⟨L.f,0,none⟩))]∧R=[⟨w,fun b=>b < w.heap.size∧¬F b⟩]∧H=[S i]) d.aS.length ⟨0,by omega,rfl,rfl,rfl,rfl⟩ fun m e R H hI=>?_;obtain⟨i,hi,rfl,rfl,rfl,rfl⟩:=hI;refine aA ?_;refine aG rfl (fun hlt=>?_) (fun hge=>?_)
 ·have hlt:i < d.aS.length:=by omega
  obtain⟨r,hr⟩:=get_some hlt
  have hb0:∃b off,L.A=some ⟨b,off,none⟩:=by
   obtain⟨x,hx⟩:=hread 0 (Nat.zero_le _) w F hp hF;obtain⟨b,off,h,_⟩:=hx.made.2 (by omega);exact⟨b,off,h⟩
  obtain⟨b,off,hA⟩:=hb0
  have aCH:Rd w [⟨w,fun b=>b < w.heap.size∧¬F b⟩] [S i] L.f 0 (.slice (some ⟨b,off,none⟩) d.aS.length L.c):=fun w1 t=>by
   obtain⟨x,hx⟩:=hfr hi t;rw[←hA];exact(hx.r0.at_ (j:=0) rfl).2
  have aS7:aM w [⟨w,fun b=>b < w.heap.size∧¬F b⟩] [S i] b (off+i*2) r.cells:=fun w1 t=>by
   obtain⟨x,hx⟩:=hfr hi t;obtain⟨b',off',pR,hro⟩:=aH.row (rows:=d.aS.map Rg.cells) (by rw[←List.flatMap_def];exact hx.made) (fun r hr=>by obtain⟨q,_,rfl⟩:=List.mem_map.1 hr;rfl) (by rw[List.getElem?_map,hr];rfl) hlt;rw[hA] at pR;cases pR;exact hro.2
  refine aA ?_;refine kd (dat i (off+i*2)) ?_;refine aA ?_
  refine aED 0 (fi:=[]) (ca:=ca) (vs:=[iv (i:Int),.agg r.cells.toArray]) (p:=S i) (S (i+1)) hf rfl rfl rfl ⟨(by decide),rfl⟩ (fun w1 G t hG wW hle=>by
   have hpl:=Piece.Le.trans Ft (hle _ (by simp))
   simpa using hstep i r hr w1 G hG wW hpl) ?_
  dsimp only[List.set];refine aA ?_;exact eR (d.aS.length - (i+1)) ⟨i+1,hlt,rfl,rfl,rfl,rfl⟩
 ·obtain rfl:i=d.aS.length:=by omega
  refine aA ?_;exact fA 0 hF
end
section
def kG(vs old:List Int)(i:Nat):List Int:=vs.take i++old.drop i
theorem Uh(vs old:List Int):kG vs old 0=old:=by simp[kG]
theorem Uk{vs old:List Int}{n:Nat}(h1:vs.length=n)(h2:old.length=n):kG vs old n=vs:=by
 rw[kG,List.drop_eq_nil_of_le (by omega),List.append_nil,List.take_of_length_le (by omega)]
theorem Uj{vs old:List Int}{i n:Nat}(h1:vs.length=n)(h2:old.length=n)(hi:i≤n):(kG vs old i).length=n:=by simp[kG];omega
theorem Ui{vs old:List Int}{i:Nat}{v:Int}(h1:vs.length=old.length)(hv:vs[i]? =some v):(kG vs old i).set i v=kG vs old (i+1):=by
 have hi:=(List.getElem?_eq_some_iff.1 hv).1
 refine List.ext_getElem? fun j=>?_;rw[List.getElem?_set];unfold kG
 by_cases he:i=j
 ·subst he;rw[if_pos rfl,if_pos (by simp;omega),List.getElem?_append_left (by simp;omega),List.getElem?_take_of_lt (by omega),hv]
 ·rw[if_neg he];rcases Nat.lt_or_ge j i with hj | hj
  ·rw[List.getElem?_append_left (by simp;omega),List.getElem?_append_left (by simp;omega),List.getElem?_take_of_lt hj,List.getElem?_take_of_lt (by omega)]
  ·rw[List.getElem?_append_right (by simp;omega),List.getElem?_append_right (by simp;omega),List.getElem?_drop,List.getElem?_drop]
   congr 1
   simp;omega
theorem aMD{vs old:List Int}{i:Nat}{v:Int}(h1:vs.length=old.length)(hi:i < old.length)(hv:old[i]? =some v):(kG vs old i)[i]? =some v:=by
 rw[kG,List.getElem?_append_right (by simp;omega),List.getElem?_drop];simp only[List.length_take];rw[show i+(i - min i vs.length)=i by omega];exact hv
theorem aL4(p:Piece)(L:FL)(d:cH)(x:dW)(f:FuncId)(hf:eW Tryz.prog f=true)(ca:List Value)(g2 g3 i:Nat)(r:Rg)(v:Int)(hr:d.aS[i]? =some r)(qH:x.now.length=d.aS.length)
  (h2:p.Z g2∧p.w.cell? ⟨g2,0,none⟩=some (.pointer (some ⟨L.f,0,none⟩))) (h3:p.Z g3∧p.w.cell? ⟨g3,0,none⟩=some (.func (.func f) #[] ca.toArray))
  (hw:∀w F,(gT L d x).sat F w→(∀b,F b→b < w.heap.size)→p.Le (all w)→Cz f (([iv (i:Int),.agg r.cells.toArray]:List Value)++ca).toArray w (Rt (.int .u32 v) w))
  (w:World) (F:Nat→Prop) (hp:(gT L d x).sat F w) (hF:∀b,F b→b < w.heap.size) (Ft:p.Le ⟨w,fun b=>b < w.heap.size∧¬F b⟩):
  Cz 216 #[iv (i:Int),.agg r.cells.toArray,pt g3,pt g2] w (Wr (.tuple #[]) (gT L d ⟨x.now.set i v,x.saved,x.kept⟩) w F):=by
 have hlt:=(List.getElem?_eq_some_iff.1 hr).1
 obtain⟨c2,e2⟩:=Ft g2 h2.1;obtain⟨c3,e3⟩:=Ft g3 h3.1
 have k2:w.cell? ⟨g2,0,none⟩=some (.pointer (some ⟨L.f,0,none⟩)):=(World.cell?_of_block (w:=p.w) e2).trans h2.2
 have k3:w.cell? ⟨g3,0,none⟩=some (.func (.func f) #[] ca.toArray):=(World.cell?_of_block (w:=p.w) e3).trans h3.2
 refine cS func216 ntmps216 hp hF ?_;refine aA ?_;refine bN fun g1=>?_;refine aA ?_
 have r2:Rd w [⟨w,fun b=>b < w.heap.size∧¬F b⟩] [HP.aE g1 95 r.cells,gT L d x] g2 0 (.pointer (some ⟨L.f,0,none⟩)):=Rd.ro (List.mem_singleton.2 rfl) c2 k2
 have r3:Rd w [⟨w,fun b=>b < w.heap.size∧¬F b⟩] [HP.aE g1 95 r.cells,gT L d x] g3 0 (.func (.func f) #[] ca.toArray):=Rd.ro (List.mem_singleton.2 rfl) c3 k3
 have r4:Rd w [⟨w,fun b=>b < w.heap.size∧¬F b⟩] [HP.aE g1 95 r.cells,gT L d x] L.f 1 (.slice (some ⟨L.gn,0,none⟩) d.aS.length d.aS.length):=fun w1 t=>((t.aDl 1 rfl).r0.at_ (j:=1) rfl).2
 refine qM 9 (by kernel_rfl) (by kernel_rfl) ?_;refine bP 0 ?_;refine bP 1 ?_;refine bP 2 ?_;refine bP 3 ?_;refine bP 4 ?_;refine bP 5 ?_;refine bP 6 ?_;refine bP 7 ?_;refine cJ 8 ?_
 refine aAr (fi:=[]) (ca:=ca) (vs:=[iv (i:Int),.agg r.cells.toArray]) (v:=.int .u32 v) (hf:=hf) (fun w1 t=>by
  obtain⟨G,g1',g2',g3',_⟩:=t.chunk (i:=1) rfl
  have hle:p.Le (all w1):=fun b hb=>by
   obtain⟨a1,a2⟩:=(Piece.Le.trans Ft (g3' _ (List.mem_singleton.2 rfl))) b hb;exact⟨a1.1,a2⟩
  simpa using hw w1 G g1' g2' hle) ?_
 refine mT ?_;refine cJ 9 ?_;refine kd (dat i i) ?_;refine eS ?_;refine cJ 10 ?_;refine Xy 1 rfl ?_;dsimp only[List.set]
 have Pf:=Zf x.now
 refine eO rfl rfl ?_;dsimp only[List.set];rw[aBD];refine Yb (x:=⟨x.now.set i v,x.saved,x.kept⟩) 1 rfl ?_;refine eS ?_;refine kK ?_;refine aA ?_;exact fA 1 hF
theorem aF3(L:FL)(d:cH)(x:dW)(hrl:d.aS.length≤100)(f:FuncId)(hf:eW Tryz.prog f=true)(ca:List Value)(p:Piece)(vs:List Int)(hvl:vs.length=d.aS.length)(qH:x.now.length=d.aS.length)
  (hw:∀(i:Nat) (r:Rg) (v:Int),d.aS[i]? =some r→vs[i]? =some v→∀(now:List Int) w F,(gT L d ⟨now,x.saved,x.kept⟩).sat F w→(∀b,F b→b < w.heap.size)→p.Le (all w)→Cz f (([iv (i:Int),.agg r.cells.toArray]:List Value)++ca).toArray w (Rt (.int .u32 v) w))
  (w:World) (F:Nat→Prop) (hp:(gT L d x).sat F w) (hF:∀b,F b→b < w.heap.size) (Ft:p.Le ⟨w,fun b=>b < w.heap.size∧¬F b⟩):
  Cz 197 #[.pointer (some ⟨L.f,0,none⟩),.func (.func f) #[] ca.toArray] w (Wr (.tuple #[]) (gT L d ⟨vs,x.saved,x.kept⟩) w F):=by
 refine cS func197 ntmps197 hp hF ?_;refine aA ?_;refine bN fun g2=>?_;refine bN fun g3=>?_;refine aA ?_;refine jY (vf:=[]) (vc:=[pt g3,pt g2]) rfl rfl (by decide) ?_;refine dB [⟨w,fun b=>b < w.heap.size∧¬F b⟩] [0,1] [2] (by simp) rfl (by decide) (by decide) fun q hq hLe _=>?_;obtain⟨F3,s3,z3⟩:=hq 0 _ (by simp) rfl;obtain⟨F2,s2,z2⟩:=hq 1 _ (by simp) rfl
 have hpq:p.Le q:=Piece.Le.trans Ft (hLe _ (by simp))
 refine bT 0 (gT L d ⟨vs,x.saved,x.kept⟩) (fun w1 G t hG wW hle=>by
  have key:=aF2 q (fun i=>gT L d ⟨kG vs x.now i,x.saved,x.kept⟩) L d hrl 216 (by kernel_rfl) [pt g3,pt g2]
   (fun i _ w F h1 h2=>⟨_,Ym h1 h2⟩) (fun i r hr w2 F2' h1 h2 h3=>by
    have hlt:=(List.getElem?_eq_some_iff.1 hr).1
    obtain⟨v,hv⟩:=get_some (l:=vs) (i:=i) (by omega)
    have:=aL4 q L d ⟨kG vs x.now i,x.saved,x.kept⟩ f hf ca g2 g3 i r v hr (Uj hvl qH (by omega))
     ⟨z2 _ s2.1,by rw[s2.2.cell];rfl⟩ ⟨z3 _ s3.1,by rw[s3.2.cell];rfl⟩ (fun w3 F3 a1 a2 a3=>hw i r v hr hv _ w3 F3 a1 a2 (Piece.Le.trans hpq a3)) w2 F2' h1 h2 h3
    try dsimp only at this
    rw[Ui (by omega) hv] at this
    exact this) w1 G (by show(gT L d ⟨kG vs x.now 0,x.saved,x.kept⟩).sat G w1;rw[Uh];exact hG) wW (hle q (by simp))
  try dsimp only at key
  rw[Uk hvl qH] at key
  exact key) ?_
 refine aA ?_;exact fA 0 hF
end
section
structure GL where
 t:Nat
 A:Option Addr
 c:Nat
def nS(c:Dom)(x:fW):List Value:=[iv c.above,iv c.delay,.bool c.ret,.int .u8 x.phase,iv x.left,.bool x.kept,.bool x.keep]
def pE(s:aC)(st:List fW):List (List Value):=List.zipWith nS s.domains st
abbrev uN(L:GL)(s:aC)(st:List fW):HP:=Nc 254 256 7 L.t L.A s.domains.length L.c (pE s st)
abbrev aIW(w:World)(L:GL)(s:aC)(st:List fW):Prop:=Bz w 7 L.t L.A s.domains.length L.c (pE s st)
section
variable{s:aC}{st:List fW}
theorem aAI(hok:tI s st):(pE s st).length=s.domains.length∧∀r∈pE s st,r.length=7:=by
 have:=hok.len
 refine⟨by simp[pE];omega,fun r hr=>?_⟩;obtain⟨j,hj⟩:=List.getElem?_of_mem hr;rw[pE,List.getElem?_zipWith] at hj;split at hj<;>cases hj
 rfl
theorem Je{i:Nat}{c:Dom}{x:fW}(hc:s.domains[i]? =some c)(hx:st[i]? =some x):(pE s st)[i]? =some (nS c x):=by
 rw[pE,List.getElem?_zipWith,hc,hx]
theorem aDq{i:Nat}{c:Dom}{x:fW}(hc:s.domains[i]? =some c)(hi:i < st.length):(pE s st).set i (nS c x)=pE s (st.set i x):=by
 refine List.ext_getElem? fun j=>?_;rw[List.getElem?_set]
 by_cases he:i=j
 ·subst he;rw[if_pos rfl,Je hc (x:=x) (by rw[List.getElem?_set_self hi])];rw[if_pos]
  have h1:=(List.getElem?_eq_some_iff.1 hc).1
  simp[pE];omega
 ·rw[if_neg he,pE,pE,List.getElem?_zipWith,List.getElem?_zipWith,List.getElem?_set_ne he]
end
theorem aCa(t n c b off i:Nat)(w:World)(h0:fK w t 0 (.slice (some ⟨b,off,none⟩) n c))(hi:i < n):
  Cz 188 #[pt t,iv (i:Int)] w (Rt (.pointer (some ⟨b,off+i*7,none⟩)) w):=by
 refine aO func188 ntmps188 ?_;refine aA ?_;refine bX (t:=11) rfl (fun h=>absurd h (by omega)) (fun _=>?_);refine aA ?_;refine aG rfl (fun h=>absurd h (by omega)) (fun _=>?_);refine aA ?_;refine kd (dat i (off+i*7)) ?_;refine aA ?_;exact dF
theorem aBZ(t n c:Nat)(A:Option Addr)(i:Int)(w:World)(h0:fK w t 0 (.slice A n c))(hi:bZ n i=false):
  Cz 188 #[pt t,iv i] w (Rt (.pointer none) w):=by
 have hi:=of_decide_eq_false hi
 refine aO func188 ntmps188 ?_;refine aA ?_;refine bX (t:=11) rfl (fun h=>?_) (fun h=>?_)
 ·refine aA ?_;exact dF
 ·refine aA ?_;refine aG rfl (fun h=>?_) (fun h=>absurd hi (by omega));refine aA ?_;exact dF
theorem aFA(g o:Nat)(p:Int)(w:World)(h3:fK w g (o+3) (.int .u8 p)):
  Cz 218 #[.pointer (some ⟨g,o,none⟩)] w (Rt (.bool (decide (p=48∨p=116))) w):=by
 refine aO func218 ntmps218 ?_;refine aA ?_;refine bX (t:=8) rfl (fun h=>?_) (fun h=>?_)
 ·refine aA ?_;refine iS (by simp) ?_;simp[h]
 ·refine aA ?_;refine iS (by simp) ?_;simp[h]
theorem aF9(L:GL)(s:aC)(st:List fW)(hok:tI s st)(d:Int)(w:World)(hR:aIW w L s st):
  Cz 148 #[.pointer (some ⟨L.t,0,none⟩),iv d] w (Rt (.int .u8 (sA st d)) w):=by
 have hl:=hok.len
 cases hi:bZ s.domains.length d
 ·refine aO func148 ntmps148 ?_;refine aA ?_;refine aQ (fun w1 t=>aBZ L.t s.domains.length L.c L.A d w1 ((hR.below (t.below (by simp))).r0) hi) ?_;refine aA ?_;refine iS (by simp) ?_;simp[sA,hl,hi]
 ·obtain⟨n,rfl⟩:∃n:Nat,d=n:=⟨d.toNat,by have:=of_decide_eq_true hi;omega⟩
  have hlt:n < s.domains.length:=by have:=of_decide_eq_true hi;omega
  obtain⟨c,hc⟩:=get_some hlt;obtain⟨x,hx⟩:=get_some (l:=st) (i:=n) (by omega);obtain⟨b,off,hA,hro⟩:=hR.at_ (aAI hok).2 (Je hc hx) hlt
  have h3:=hro.at_ (j:=3) rfl
  refine aO func148 ntmps148 ?_;refine aA ?_;refine aQ (fun w1 t=>aCa L.t s.domains.length L.c b off n w1 (by rw[←hA];exact(hR.below (t.below (by simp))).r0) hlt) ?_;refine aA ?_;refine iS (by simp) ?_;simp[sA,hl,hi,hx]
theorem aLO(L:GL)(s:aC)(st:List fW)(hH:s.dJ)(hok:tI s st)(d:Int)(w:World)(F:Nat→Prop)(hp:(uN L s st).sat F w)(hF:∀b,F b→b < w.heap.size):
  Cz 204 #[.pointer (some ⟨L.t,0,none⟩),iv d] w (Wr (iv (uR s st d).1) (uN L s (uR s st d).2) w F):=by
 have hl:=hok.len
 cases hi:bZ s.domains.length d
 ·have hr:uR s st d=(4,st):=by simp[uR,hl,hi]
  rw[hr];refine cS func204 ntmps204 hp hF ?_;refine aA ?_;refine aQ (fun w1 t=>aBZ L.t s.domains.length L.c L.A d w1 ((t.aBU 0 rfl).r0) hi) ?_;refine aA ?_;exact bO 0 hF
 ·obtain⟨n,rfl⟩:∃n:Nat,d=n:=⟨d.toNat,by have:=of_decide_eq_true hi;omega⟩
  have hlt:n < s.domains.length:=by have:=of_decide_eq_true hi;omega
  obtain⟨c,hc⟩:=get_some hlt;obtain⟨x,hx⟩:=get_some (l:=st) (i:=n) (by omega);obtain⟨fN,gN⟩:=aAI hok
  have hup:uR s st (n:Int)=if Qr x=false∨Xo st c.above=false then(6,st) else(0,st.set n ⟨114,c.delay,decide (x.phase=116),x.keep⟩):=by
   simp[uR,hl,hi,hc,hx]
  obtain⟨hfa,_,_⟩:=hH.domains n c hc;refine cS func204 ntmps204 hp hF ?_;refine aDN 0 rfl (by omega) fun g cs hA h1 h2 h3 h4=>?_;dsimp only[List.set]
  have hs:=Bj h2 fN gN (Je hc hx)
  have hlen:n*7+7≤cs.length:=by omega
  have hs1:=hs.set 5 (.bool (decide (x.phase=116))) (by simp[nS]) (by omega)
  have iH:=hs1.set 3 (.int .u8 114) (by simp[nS]) (by simp;omega)
  have vA:=iH.set 4 (iv c.delay) (by simp[nS]) (by simp;omega)
  have hu3:=(((rJ.refl cs (n*7) 7).set 5 (.bool (decide (x.phase=116))) (by decide)).set 3 (.int .u8 114) (by decide)).set 4 (iv c.delay) (by decide)
  have hf:=yQ (r':=nS c ⟨114,c.delay,decide (x.phase=116),x.keep⟩) h2 fN gN hlt (by omega) rfl vA hu3
  rw[aDq hc (by omega)] at hf;refine aA ?_;refine aQ (fun w1 t=>aCa L.t s.domains.length L.c g 0 n w1 ((t.box (i:=1) rfl).at_ (j:=0) rfl) hlt) ?_;rw[Nat.zero_add];refine aA ?_;refine lJ ?_;refine jD ?_;refine rG (fun w1 t=>aFA g (n*7) x.phase w1 ⟨(t.aE (i:=0) rfl).lt,Rd.sub 0 3 rfl hs rfl rfl w1 t⟩) ?_;refine jD ?_;refine Eb 14 rfl (fun hd=>?_) (fun hd=>?_)
  ·rw[hup,if_pos (.inl (decide_eq_false hd))];refine iY ?_;refine aA ?_;refine Gx 0 hA h1 h2 h3 h4 rfl ?_;exact bO 0 hF
  ·have hdn:Qr x=true:=decide_eq_true (Classical.not_not.1 hd)
   refine jD ?_;refine Eb 21 rfl (fun ha=>?_) (fun ha=>?_)
   ·obtain⟨a,Bf,uA⟩:∃a:Nat,c.above=a∧a < n:=⟨c.above.toNat,by omega,by omega⟩
    obtain⟨ca,hca⟩:=get_some (l:=s.domains) (i:=a) (by omega);obtain⟨xa,hxa⟩:=get_some (l:=st) (i:=a) (by omega)
    have hsa:=Bj h2 fN gN (Je hca hxa)
    refine jD ?_;refine sY (dat a (a*7)) ?_;refine iY ?_
    have hal:Xo st c.above=decide (xa.phase=49):=by
     unfold Xo;rw[Bf,Int.toNat_natCast,hxa]
     first | (simp;done) | (simp;omega)
    refine aG rfl (fun h=>?_) (fun h=>?_)
    ·rw[hup,if_pos (.inr (by rw[hal];exact decide_eq_false h))];refine aA ?_;refine Gx 0 hA h1 h2 h3 h4 rfl ?_;exact bO 0 hF
    ·rw[hup,if_neg (by rw[hal,hdn];simp;exact Classical.not_not.1 h)];refine aA ?_;refine Gx 0 hA (by simpa using h1) hf h3 h4 rfl ?_;exact bO 0 hF
   ·have ha:=Classical.not_not.1 ha
    rw[hup,if_neg (by rw[hdn];simp[Xo,ha])];refine iY ?_;refine aA ?_;refine Gx 0 hA (by simpa using h1) hf h3 h4 rfl ?_;exact bO 0 hF
end
section
theorem aOi{s:aC}{st:List fW}{d:Int}(h:∀(j:Nat) (c:Dom) (x:fW),s.domains[j]? =some c→st[j]? =some x→It d c x=false):Is s st d=false:=by
 unfold Is;rw[List.any_eq_false];intro b hb;obtain⟨j,hj⟩:=List.getElem?_of_mem hb;rw[List.getElem?_zipWith] at hj;cases hc:s.domains[j]? with
 | none=>rw[hc] at hj;cases hj
 | some c =>
  cases hx:st[j]? with
  | none=>rw[hc,hx] at hj;cases hj
  | some x=>
   rw[hc,hx] at hj;cases hj;rw[h j c x hc hx];decide
theorem aOh{s:aC}{st:List fW}{d:Int}{j:Nat}{c:Dom}{x:fW}(hc:s.domains[j]? =some c)(hx:st[j]? =some x)(h:It d c x=true):Is s st d=true:=by
 unfold Is;rw[List.any_eq_true];exact⟨It d c x,List.mem_of_getElem? (i:=j) (by rw[List.getElem?_zipWith,hc,hx]),h⟩
theorem aLT(L:GL)(s:aC)(st:List fW)(hok:tI s st)(hnd:s.domains.length≤1000)(d:Int)(keep:Bool)(w:World)(F:Nat→Prop)(hp:(uN L s st).sat F w)(hF:∀b,F b→b < w.heap.size):
  Cz 208 #[.pointer (some ⟨L.t,0,none⟩),iv d,.bool keep] w (Wr (iv (xF s st d keep).1) (uN L s (xF s st d keep).2) w F):=by
 have hl:=hok.len
 cases hi:bZ s.domains.length d
 ·have hr:xF s st d keep=(4,st):=by simp[xF,hl,hi]
  rw[hr];refine cS func208 ntmps208 hp hF ?_;refine aB ?_;refine aQ (fun w1 t=>aBZ L.t s.domains.length L.c L.A d w1 ((t.aBU 0 rfl).r0) hi) ?_;refine aB ?_;exact bO 0 hF
 ·obtain⟨n,rfl⟩:∃n:Nat,d=n:=⟨d.toNat,by have:=of_decide_eq_true hi;omega⟩
  have hlt:n < s.domains.length:=by have:=of_decide_eq_true hi;omega
  obtain⟨c,hc⟩:=get_some hlt;obtain⟨x,hx⟩:=get_some (l:=st) (i:=n) (by omega);obtain⟨fN,gN⟩:=aAI hok
  have hdn:xF s st (n:Int) keep=if x.phase≠49 then(6,st) else if keep=true∧c.ret=false then(1,st) else if Is s st n then(7,st) else(0,st.set n ⟨99,x.left,x.kept,keep⟩):=by
   simp[xF,hl,hi,hc,hx]
  refine cS func208 ntmps208 hp hF ?_;refine aDN 0 rfl (by omega) fun g cs hA h1 h2 h3 h4=>?_;dsimp only[List.set]
  have hs:=Bj h2 fN gN (Je hc hx)
  have hlen:n*7+7≤cs.length:=by omega
  have hs1:=hs.set 3 (.int .u8 99) (by simp[nS]) (by omega)
  have iH:=hs1.set 6 (.bool keep) (by simp[nS]) (by simp;omega)
  have hu2:=((rJ.refl cs (n*7) 7).set 3 (.int .u8 99) (by decide)).set 6 (.bool keep) (by decide)
  have hf:=yQ (r':=nS c ⟨99,x.left,x.kept,keep⟩) h2 fN gN hlt (by omega) rfl iH hu2
  rw[aDq hc (by omega)] at hf;refine aB ?_;refine aQ (fun w1 t=>aCa L.t s.domains.length L.c g 0 n w1 ((t.box (i:=1) rfl).at_ (j:=0) rfl) hlt) ?_;rw[Nat.zero_add];refine aB ?_;refine aG rfl (fun Db=>?_) (fun Db=>?_)
  ·rw[hdn,if_pos Db];refine aB ?_;refine Gx 0 hA h1 h2 h3 h4 rfl ?_;exact bO 0 hF
  rw[if_neg Db] at hdn;refine nV ?_;refine eJ ?_;refine eA ?_;refine aDQ 27 (keep=true∧c.ret=false) ?_ ?_
  ·cases keep
   ·refine aA ?_;exact aBg
   ·refine aA ?_;cases hrt:c.ret<;>exact aBg
  refine aG rfl (fun hk=>?_) (fun hk=>?_)
  ·rw[hdn,if_pos hk];refine aB ?_;refine Gx 0 hA h1 h2 h3 h4 rfl ?_;exact bO 0 hF
  rw[if_neg hk] at hdn;refine aB ?_;refine bM [(33,iv 0),(32,iv s.domains.length),(7,.pointer (some ⟨g,n*7,none⟩)),(2,.bool keep),(1,iv n),(0,.pointer (some ⟨L.t,0,none⟩))] ?_;refine eT (fun m e R H=>∃i:Nat,i≤s.domains.length∧(∀(j:Nat) (c:Dom) (x:fW),j < i→s.domains[j]? =some c→st[j]? =some x→It n c x=false)∧m=s.domains.length - i∧e=[(33,iv i),(32,iv s.domains.length),(7,.pointer (some ⟨g,n*7,none⟩)),(2,.bool keep),(1,iv n),(0,.pointer (some ⟨L.t,0,none⟩))]∧R=[⟨w,fun b=>b < w.heap.size∧¬F b⟩]∧H=[HP.aE g 256 cs,HP.aE L.t 254 [.slice (some ⟨g,0,none⟩) s.domains.length L.c],HP.many [bU,bU]]) s.domains.length ⟨0,by omega,fun j _ _ hj=>by omega,rfl,rfl,rfl,rfl⟩ fun m e R H hI=>?_;obtain⟨i,hi2,hno,rfl,rfl,rfl,rfl⟩:=hI;refine aB ?_;refine aG rfl (fun uA=>?_) (fun hge=>?_)
  ·have uA:i < s.domains.length:=by omega
   obtain⟨ci,Dj⟩:=get_some uA;obtain⟨xi,hxi⟩:=get_some (l:=st) (i:=i) (by omega)
   have hsi:=Bj h2 fN gN (Je Dj hxi)
   clear hs1 iH;refine aA ?_;refine kd (dat i (i*7)) ?_;refine aB ?_;refine bX (t:=47) rfl (fun ha=>?_) (fun ha=>?_)
   ·refine aA ?_;refine kd (dat i (i*7)) ?_;refine aB ?_;refine aQ (fun w1 t=>aFA g (i*7) xi.phase w1 ⟨(t.aE (i:=0) rfl).lt,Rd.sub 0 3 rfl hsi rfl rfl w1 t⟩) ?_;refine aB ?_;refine aG rfl (fun hd=>?_) (fun hd=>?_)
    ·have hh:Is s st n=true:=aOh Dj hxi (by simp[It,ha,Qr];simpa using hd)
     rw[hdn,if_pos hh];refine aB ?_;refine Gx 0 hA h1 h2 h3 h4 rfl ?_;exact bO 0 hF
    ·refine aB ?_;refine bM [(33,iv (i+1:Nat)),(32,iv s.domains.length),(7,.pointer (some ⟨g,n*7,none⟩)),(2,.bool keep),(1,iv n),(0,.pointer (some ⟨L.t,0,none⟩))] ?_;refine gR (s.domains.length - (i+1)) (by omega) ⟨i+1,uA,fun j c x hj Di Fi=>?_,rfl,rfl,rfl,rfl⟩;rcases Nat.lt_or_ge j i with h | h
     ·exact hno j c x h Di Fi
     ·obtain rfl:j=i:=by omega
      rw[Dj] at Di;rw[hxi] at Fi;cases Di;cases Fi
      have hd:=Classical.not_not.1 hd
      simp[It,Qr,hd]
   ·refine aB ?_;refine bM [(33,iv (i+1:Nat)),(32,iv s.domains.length),(7,.pointer (some ⟨g,n*7,none⟩)),(2,.bool keep),(1,iv n),(0,.pointer (some ⟨L.t,0,none⟩))] ?_;refine gR (s.domains.length - (i+1)) (by omega) ⟨i+1,uA,fun j c x hj Di Fi=>?_,rfl,rfl,rfl,rfl⟩;rcases Nat.lt_or_ge j i with h | h
    ·exact hno j c x h Di Fi
    ·obtain rfl:j=i:=by omega
     rw[Dj] at Di;rw[hxi] at Fi;cases Di;cases Fi;simp[It,ha]
  ·obtain rfl:i=s.domains.length:=by omega
   have hh:Is s st n=false:=aOi fun j c x Di Fi=>hno j c x (List.getElem?_eq_some_iff.1 Di).1 Di Fi
   rw[hdn,if_neg (by rw[hh];decide)];refine aB ?_;refine Gx 0 hA (by simpa using h1) hf h3 h4 rfl ?_;exact bO 0 hF
def mW(cs:List Value)(o:Nat)(x:fW):List Value:=
 if x.phase=114 then(if 0 < x.left then cs.set (o+4) (iv (x.left - 1)) else cs.set (o+3) (.int .u8 104))
 else if x.phase=104 then cs.set (o+3) (.int .u8 49)
 else if x.phase=99 then cs.set (o+3) (.int .u8 (if x.keep then 116 else 48)) else cs
theorem aKf{cs:List Value}{o:Nat}{c:Dom}{x:fW}(h:Sub cs o (nS c x))(hl:o+7≤cs.length):Sub (mW cs o x) o (nS c (jE x).2)∧rJ cs (mW cs o x) o 7:=by
 have hu:=rJ.refl cs o 7
 obtain⟨ph,left,kept,keep⟩:=x
 by_cases h1:ph=114
 ·subst h1
  by_cases h2:0 < left
  ·simp only[mW,jE,if_pos h2,if_true];exact⟨h.set 4 (iv (left - 1)) (by simp[nS]) (by omega),hu.set 4 _ (by decide)⟩
  ·simp only[mW,jE,if_neg h2,if_true];exact⟨h.set 3 (.int .u8 104) (by simp[nS]) (by omega),hu.set 3 _ (by decide)⟩
 ·by_cases h2:ph=104
  ·simp only[mW,jE,if_neg h1,if_pos h2];exact⟨h.set 3 (.int .u8 49) (by simp[nS]) (by omega),hu.set 3 _ (by decide)⟩
  ·by_cases h3:ph=99
   ·simp only[mW,jE,if_neg h1,if_neg h2,if_pos h3];cases keep
    ·exact⟨h.set 3 (.int .u8 48) (by simp[nS]) (by omega),hu.set 3 _ (by decide)⟩
    ·exact⟨h.set 3 (.int .u8 116) (by simp[nS]) (by omega),hu.set 3 _ (by decide)⟩
   ·simp only[mW,jE,if_neg h1,if_neg h2,if_neg h3];exact⟨h,hu⟩
theorem aLQ(g o:Nat)(cs:List Value)(c:Dom)(x:fW)(hs:Sub cs o (nS c x))(hlen:o+7≤cs.length)(hx:0≤x.left∧x.left≤3)(w:World)(F:Nat→Prop)(hp:(HP.aE g 256 cs).sat F w)(hF:∀b,F b→b < w.heap.size):
  Cz 194 #[.pointer (some ⟨g,o,none⟩)] w (Wr (.int .u8 (jE x).1) (HP.aE g 256 (mW cs o x)) w F):=by
 refine cS func194 ntmps194 hp hF ?_;obtain⟨ph,left,kept,keep⟩:=x;dsimp only at hx;dsimp only[nS] at hs;refine aA ?_;refine aG rfl (fun h=>?_) (fun h=>?_)
 ·subst h;refine aA ?_;refine aG rfl (fun hp=>?_) (fun hp=>?_)
  ·refine aA ?_;refine mF rfl rfl fun w1 t=>⟨by simp[jE,mW,hp,if_true],?_⟩
   simp only[jE,mW,if_pos hp,if_true];exact t.turns hF (by simp) (i:=0) rfl
  ·have hs1:=hs.set 3 (.int .u8 104) (by simp) (by omega)
   refine aA ?_;refine pF rfl (fun hk=>?_) (fun hk=>?_)
   ·refine aA ?_;refine mF rfl rfl fun w1 t=>⟨by simp[jE,mW,hp,if_true,hk],?_⟩
    simp only[jE,mW,if_neg hp,if_true,hk];exact t.turns hF (by simp) (i:=0) rfl
   ·refine aA ?_;refine mF rfl rfl fun w1 t=>⟨by simp[jE,mW,hp,if_true,hk],?_⟩
    simp only[jE,mW,if_neg hp,if_true,hk];exact t.turns hF (by simp) (i:=0) rfl
 ·refine aA ?_;refine aG rfl (fun h2=>?_) (fun h2=>?_)
  ·refine aA ?_;refine mF rfl rfl fun w1 t=>⟨by simp[jE,mW,h,h2],?_⟩
   simp only[jE,mW,if_neg h,if_pos h2];exact t.turns hF (by simp) (i:=0) rfl
  ·refine aA ?_;refine aG rfl (fun h3=>?_) (fun h3=>?_)
   ·refine aA ?_;refine pF rfl (fun hk=>?_) (fun hk=>?_)
    ·refine aA ?_;refine mF rfl rfl fun w1 t=>⟨by simp[jE,mW,h,h2,h3,hk,if_true],?_⟩
     simp only[jE,mW,if_neg h,if_neg h2,if_pos h3,hk,if_true];exact t.turns hF (by simp) (i:=0) rfl
    ·refine aA ?_;refine mF rfl rfl fun w1 t=>⟨by simp[jE,mW,h,h2,h3,hk],?_⟩
     simp only[jE,mW,if_neg h,if_neg h2,if_pos h3,hk];exact t.turns hF (by simp) (i:=0) rfl
   ·refine aA ?_;refine mF rfl rfl fun w1 t=>⟨by simp[jE,mW,h,h2,h3],?_⟩
    simp only[jE,mW,if_neg h,if_neg h2,if_neg h3];exact t.turns hF (by simp) (i:=0) rfl
theorem aFd{α:Type}{l:List α}{i:Nat}{x:α}(h:l[i]? =some x):l.set i x=l:=by
 refine List.ext_getElem? fun j=>?_;rw[List.getElem?_set]
 by_cases he:i=j
 ·subst he;rw[if_pos rfl,if_pos (List.getElem?_eq_some_iff.1 h).1,h]
 ·rw[if_neg he]
def Fe(st:List fW)(i:Nat):List fW:=(pM st).take i++st.drop i
theorem aCp{α:Type}(f:α→α)(st:List α){i:Nat}(hi:i < st.length):((st.map f).take i++st.drop i)[i]? =st[i]? :=by
 have:((st.map f).take i).length=i:=by simp;omega
 rw[List.getElem?_append_right (by omega),this,Nat.sub_self,List.getElem?_drop,Nat.add_zero]
theorem aCo{α:Type}(f:α→α)(st:List α){i:Nat}{x:α}(hx:st[i]? =some x):((st.map f).take i++st.drop i).set i (f x)=(st.map f).take (i+1)++st.drop (i+1):=by
 have hi:=(List.getElem?_eq_some_iff.1 hx).1
 refine List.ext_getElem? fun j=>?_;rw[List.getElem?_set]
 by_cases he:i=j
 ·subst he;rw[if_pos rfl,if_pos (by simp;omega),List.getElem?_append_left (by simp;omega),List.getElem?_take_of_lt (by omega),List.getElem?_map,hx];rfl
 ·rw[if_neg he];rcases Nat.lt_or_ge j i with hj | hj
  ·rw[List.getElem?_append_left (by simp;omega),List.getElem?_append_left (by simp;omega),List.getElem?_take_of_lt hj,List.getElem?_take_of_lt (by omega)]
  ·rw[List.getElem?_append_right (by simp;omega),List.getElem?_append_right (by simp;omega),List.getElem?_drop,List.getElem?_drop]
   congr 1
   simp;omega
theorem aES{x:fW}(hl:0≤x.left∧x.left≤3)(hp:0≤x.phase∧x.phase < 256):(0≤(jE x).2.left∧(jE x).2.left≤3)∧(0≤(jE x).2.phase∧(jE x).2.phase < 256):=by
 unfold jE
 repeat' split
 all_goals(dsimp only;constructor<;>omega)
theorem aBH{s:aC}{st:List fW}(hok:tI s st):tI s (pM st):=by
 have hl:=hok.len
 refine⟨by simp[pM];omega,fun x hx=>?_,fun x hx=>?_⟩
 ·obtain⟨y,hy,rfl⟩:=List.mem_map.1 hx;exact(aES (hok.left y hy) (hok.phase y hy)).1
 ·obtain⟨y,hy,rfl⟩:=List.mem_map.1 hx;exact(aES (hok.left y hy) (hok.phase y hy)).2
theorem aMF{s:aC}{st:List fW}(hok:tI s st){i:Nat}(hi:i≤s.domains.length):tI s (Fe st i):=by
 have hl:=hok.len
 have ht:=aBH hok
 refine⟨by simp[Fe,pM];omega,fun x hx=>?_,fun x hx=>?_⟩
 ·rcases List.mem_append.1 hx with h | h
  ·exact ht.left x (List.mem_of_mem_take h)
  ·exact hok.left x (List.mem_of_mem_drop h)
 ·rcases List.mem_append.1 hx with h | h
  ·exact ht.phase x (List.mem_of_mem_take h)
  ·exact hok.phase x (List.mem_of_mem_drop h)
def Dr(p:Int×Nat):List Value:=[.int .u8 p.1,iv (p.2:Int)]
theorem aHj(st:List fW)(n:Nat):(kO st n).length≤n:=by
 unfold kO;exact Nat.le_trans (List.length_filterMap_le _ _) (by simp)
theorem aOU{st:List fW}{i:Nat}{x:fW}(hx:st[i]? =some x):kO st (i+1)=kO st i++(if(jE x).1=0 then[] else[((jE x).1,i)]):=by
 unfold kO;rw[List.range_succ,List.filterMap_append];simp only[List.filterMap_cons,List.filterMap_nil,hx,Option.bind_some]
 by_cases h:(jE x).1=0<;>simp[h]
theorem aLP(L:GL)(s:aC)(st:List fW)(hok:tI s st)(hnd:s.domains.length≤1000)(w:World)(F:Nat→Prop)(hp:(uN L s st).sat F w)(hF:∀b,F b→b < w.heap.size):
  Cz 155 #[.pointer (some ⟨L.t,0,none⟩)] w (fun y w'=>∃a:Option Addr×Nat,y=.returned (.slice a.1 (kO st s.domains.length).length a.2)∧True∧∃F',(HP.many [uN L s (pM st),HP.own 242 2 (.slice a.1 (kO st s.domains.length).length a.2) (kO st s.domains.length).length ((kO st s.domains.length).flatMap Dr)]).sat F' w'∧iD w w' F F'):=by
 have hl:=hok.len
 refine cS func155 ntmps155 hp hF ?_
 have aCH:Rd w [⟨w,fun b=>b < w.heap.size∧¬F b⟩] [uN L s st] L.t 0 (.slice L.A s.domains.length L.c):=Rd.row 0 rfl
 refine aA ?_;refine lI 242 2 ?_;refine bM [(13,iv 0),(12,iv s.domains.length),(3,sn),(0,.pointer (some ⟨L.t,0,none⟩))] ?_;refine eT (fun m e R H=>∃(i:Nat) (A:Option Addr) (k:Nat),i≤s.domains.length∧m=s.domains.length - i∧e=[(13,iv i),(12,iv s.domains.length),(3,.slice A (kO st i).length k),(0,.pointer (some ⟨L.t,0,none⟩))]∧R=[⟨w,fun b=>b < w.heap.size∧¬F b⟩]∧H=[HP.own 242 2 (.slice A (kO st i).length k) (kO st i).length ((kO st i).flatMap Dr),uN L s (Fe st i)]) s.domains.length ⟨0,none,0,by omega,rfl,rfl,rfl,by simp[Fe,kO]⟩ fun m e R H hI=>?_;obtain⟨i,A,k,hi,rfl,rfl,rfl,rfl⟩:=hI;refine aA ?_;refine aG rfl (fun hlt=>?_) (fun hge=>?_)
 ·have hlt:i < s.domains.length:=by omega
  obtain⟨c,hc⟩:=get_some hlt;obtain⟨x,hx⟩:=get_some (l:=st) (i:=i) (by omega)
  have Lw:(Fe st i)[i]? =some x:=by rw[Fe,pM,aCp _ st (by omega)];exact hx
  have Ve:=aMF hok hi
  obtain⟨fN,gN⟩:=aAI Ve
  have hel:=aHj st i
  refine aDN 1 rfl (by omega) fun g cs hA h1 h2 h3 h4=>?_;dsimp only[List.set]
  have hs:=Bj h2 fN gN (Je hc Lw)
  obtain⟨hs1,tU⟩:=aKf hs (by omega)
  have hf:=yQ (r':=nS c (jE x).2) h2 fN gN hlt (by omega) rfl hs1 tU
  rw[aDq hc (by have:=Ve.len;omega),Fe,pM,aCo (fun x=>(jE x).2) st hx] at hf;refine aA ?_;refine kd (dat i (i*7)) ?_;refine Ss 0 (fi:=[]) (ca:=[]) (p:=HP.aE g 256 cs) (HP.aE g 256 (mW cs (i*7) x)) (by kernel_rfl) rfl rfl rfl ⟨(by decide),rfl⟩ (fun w1 G t hG wW=>aLQ g (i*7) cs c x hs (by omega) (hok.left x (List.mem_of_getElem? hx)) w1 G hG wW) ?_;dsimp only[List.set]
  have sI:(mW cs (i*7) x).length=L.c*7:=by rw[tU.1,h1]
  refine Gx 1 hA sI hf h3 h4 rfl ?_;dsimp only[List.set]
  have cX:=aOU hx
  refine aA ?_;refine aG rfl (fun hz=>?_) (fun hz=>?_)
  ·rw[if_neg hz] at cX;refine aB ?_;refine eG fun g2=>?_;refine gZ 1 2 16 1 (el:=242) (by kernel_rfl) (by kernel_rfl) (by decide) rfl rfl rfl (lW 0 rfl rfl) (by simp[Value.oneCell']) rfl (by omega) (by omega) (by decide) fun A' k'=>?_;dsimp only[List.set];refine aA ?_
   have e1:(kO st (i+1)).length=(kO st i).length+1:=by rw[cX];simp
   have e2:(kO st (i+1)).flatMap Dr=(kO st i).flatMap Dr++[.int .u8 (jE x).1,iv (i:Int)]:=by rw[cX,List.flatMap_append];rfl
   refine aT [1,2] rfl (by decide) (fun _ h=>h) ?_;refine bM [(13,iv (i+1:Nat)),(12,iv s.domains.length),(3,.slice A' ((kO st i).length+1) k'),(0,.pointer (some ⟨L.t,0,none⟩))] ?_;exact gR (s.domains.length - (i+1)) (by omega) ⟨i+1,A',k',hlt,rfl,by rw[e1],rfl,by rw[e1,e2];rfl⟩
  ·have hz:=Classical.not_not.1 hz
   rw[if_pos hz,List.append_nil] at cX;refine aA ?_;refine bM [(13,iv (i+1:Nat)),(12,iv s.domains.length),(3,.slice A (kO st i).length k),(0,.pointer (some ⟨L.t,0,none⟩))] ?_;refine gR (s.domains.length - (i+1)) (by omega) ⟨i+1,A,k,hlt,rfl,by rw[cX],rfl,by rw[cX];rfl⟩
 ·obtain rfl:i=s.domains.length:=by omega
  have vE:Fe st s.domains.length=pM st:=by
   rw[Fe,List.drop_eq_nil_of_le (by omega),List.append_nil,List.take_of_length_le (by simp[pM];omega)]
  rw[vE];refine aA ?_;refine aT [1,0] rfl (by decide) (fun _ h=>h) ?_;refine mS ?_;exact mF rfl rfl fun w1 t=>⟨(A,k),rfl,trivial,t.turns hF (by simp) (i:=0) rfl⟩
end
end Go.Proofs.YtkgekojkboingaaGreatDoor
