/- conf: what is right of a clock, a domain, a reset line, a device, and of how many there are. -/
import Derived.KernelRfl
import Derived.Laws.StructEq
import Derived.Test.YtdcdccmpcmjmhaaGreatDoorProg
import Derived.Test.YtdcdccmpcmjmhaaGreatDoorRpmKeepsK2
namespace Go.Proofs.YtdcdccmpcmjmhaaGreatDoor
set_option linter.all false
set_option maxHeartbeats 4000000
set_option maxRecDepth 20000
open Go.RowKit Go.Proofs.Tryz
section
def mE(kind:Int)(n:Nat):Bool:=if kind=111 then decide (n=0) else if kind=112∨kind=100∨kind=103 then decide (n=1) else if kind=109 then iV n 1 4 else false
def uS(kind rate mul div lock:Int):Bool:=
 if kind=111 then decide (1≤rate)&&decide (rate≤1099511627776) else if kind=112 then iV mul 1 1000&&iV div 1 1000&&iV lock 0 20 else if kind=100 then iV div 1 1000 else true
def Nz(n1:Nat)(c:eD):Int:=lI [jF (!mE c.kind c.src.length) 1,lI (c.src.map fun f=>jF (!iV f 0 ((n1:Int) - 1)) 4),jF (!uS c.kind c.rate c.mul c.div c.lock) 3]
def Si(n2:Nat)(d:Dom):Int:=lI [jF (decide (¬d.above= -1)&& !iV d.above 0 ((n2:Int) - 1)) 4,jF (!iV d.delay 0 20) 3]
def aAE(r:Int):Int:=jF (!iV r 0 20) 3
def Sn(n1 n2 n3 n4:Nat)(d:bL):Int:=
 lI [jF (!iV d.clock 0 ((n1:Int) - 1)) 4,jF (!iV d.domain 0 ((n2:Int) - 1)) 4,jF (!iV d.reset 0 ((n3:Int) - 1)) 4,lI (d.iX.map fun f=>jF (!iV f 0 ((n4:Int) - 1)) 4)]
def Qr(d:bL):Int:=jF (decide ((8:Int) < d.aL.length)||decide ((6:Int) < d.iX.length)) 8
theorem aIE(l:List Value):(l.map fun v=>[v]).flatten=l:=by induction l<;>simp_all
theorem aLK(kind rate mul div lock:Int)(A:Option Addr)(n k:Nat)(w:World):
  Cz 196 #[.agg #[.int .u8 kind,.slice A n k,.int .u64 rate,iv mul,iv div,iv lock]] w (Rt (.bool (mE kind n)) w):=by
 refine aN func196 ntmps196 ?_;refine aB ?_;refine bA fun g1=>?_;refine aB ?_;refine aG rfl (fun h=>?_) (fun h=>?_)
 ·
  refine aB ?_;exact aS (h:=fun _ _=>by first | (exfalso;omega) | (simp[mE, *];done) | (simp[mE, *];omega))
 ·
  refine aB ?_;refine aG rfl (fun h=>?_) (fun h=>?_)
  ·
   refine aB ?_;refine aG rfl (fun h=>?_) (fun h=>?_)
   ·
    refine aB ?_;exact aS (h:=fun _ _=>by first | (exfalso;omega) | (simp[mE, *];done) | (simp[mE, *];omega))
   ·
    refine aB ?_;refine aG rfl (fun h=>?_) (fun h=>?_)
    ·
     refine aB ?_;refine dH (fun w1 st=>vK _ _ _ w1) ?_;refine aB ?_;exact aS (h:=fun _ _=>by first | (exfalso;omega) | (simp[mE, *];done) | (simp[mE, *];omega))
    ·
     refine aB ?_;exact aS (h:=fun _ _=>by first | (exfalso;omega) | (simp[mE, *];done) | (simp[mE, *];omega))
  ·
   refine aB ?_;refine aG rfl (fun h=>?_) (fun h=>?_)
   ·
    refine aB ?_;refine aG rfl (fun h=>?_) (fun h=>?_)
    ·
     refine aB ?_;exact aS (h:=fun _ _=>by first | (exfalso;omega) | (simp[mE, *];done) | (simp[mE, *];omega))
    ·
     refine aB ?_;refine aG rfl (fun h=>?_) (fun h=>?_)
     ·
      refine aB ?_;refine dH (fun w1 st=>vK _ _ _ w1) ?_;refine aB ?_;exact aS (h:=fun _ _=>by first | (exfalso;omega) | (simp[mE, *];done) | (simp[mE, *];omega))
     ·
      refine aB ?_;exact aS (h:=fun _ _=>by first | (exfalso;omega) | (simp[mE, *];done) | (simp[mE, *];omega))
   ·
    refine aB ?_;refine aG rfl (fun h=>?_) (fun h=>?_)
    ·
     refine aB ?_;exact aS (h:=fun _ _=>by first | (exfalso;omega) | (simp[mE, *];done) | (simp[mE, *];omega))
    ·
     refine aB ?_;refine aG rfl (fun h=>?_) (fun h=>?_)
     ·
      refine aB ?_;refine dH (fun w1 st=>vK _ _ _ w1) ?_;refine aB ?_;exact aS (h:=fun _ _=>by first | (exfalso;omega) | (simp[mE, *];done) | (simp[mE, *];omega))
     ·
      refine aB ?_;exact aS (h:=fun _ _=>by first | (exfalso;omega) | (simp[mE, *];done) | (simp[mE, *];omega))
theorem aOf(kind rate mul div lock:Int)(A:Option Addr)(n k:Nat)(w:World):
  Cz 202 #[.agg #[.int .u8 kind,.slice A n k,.int .u64 rate,iv mul,iv div,iv lock]] w (Rt (.bool (uS kind rate mul div lock)) w):=by
 refine aN func202 ntmps202 ?_;refine aB ?_;refine bA fun g1=>?_;refine aB ?_;refine aG rfl (fun h=>?_) (fun h=>?_)
 ·
  refine aB ?_;refine sL (t:=10) rfl (fun hg=>?_) (fun hg=>?_)
  ·
   refine aB ?_;exact aS (h:=fun _ _=>by simp[uS, *])
  ·
   refine aB ?_;exact aS (h:=fun _ _=>by simp[uS, *])
 ·
  refine aB ?_;refine aG rfl (fun h=>?_) (fun h=>?_)
  ·
   refine aB ?_;refine dH (fun w1 st=>vK _ _ _ w1) ?_;refine aB ?_;refine sL (t:=20) rfl (fun hg=>?_) (fun hg=>?_)
   ·
    refine aB ?_;refine dH (fun w1 st=>vK _ _ _ w1) ?_;refine aB ?_;refine sL (t:=25) rfl (fun hg=>?_) (fun hg=>?_)
    ·
     refine aB ?_;refine dH (fun w1 st=>vK _ _ _ w1) ?_;refine aB ?_;exact aS (h:=fun _ _=>by simp[uS, *])
    ·
     refine aB ?_;exact aS (h:=fun _ _=>by simp[uS, *])
   ·
    refine aB ?_;exact aS (h:=fun _ _=>by simp[uS, *])
  ·
   refine aB ?_;refine aG rfl (fun h=>?_) (fun h=>?_)
   ·
    refine aB ?_;refine dH (fun w1 st=>vK _ _ _ w1) ?_;refine aB ?_;exact aS (h:=fun _ _=>by simp[uS, *])
   ·
    refine aB ?_;exact aS (h:=fun _ _=>by simp[uS, *])
theorem aSt(kind rate mul div lock:Int)(A:Option Addr)(n k:Nat)(gc:Nat)(w:World)(hb:eG w gc 0 [.int .u8 kind,.slice A n k,.int .u64 rate,iv mul,iv div,iv lock]):
  Cz 195 #[pt gc] w (Rt (iv (jF (!mE kind n) 1)) w):=by
 refine aN func195 ntmps195 ?_;refine aB ?_;refine dH (fun w1 st=>aLK _ _ _ _ _ _ _ _ w1) ?_;refine aB ?_;refine dH (fun w1 st=>wQ _ _ w1) ?_;refine aB ?_;exact aS (h:=fun _ _=>rfl)
theorem aSq(kind rate mul div lock:Int)(A:Option Addr)(n k:Nat)(gc:Nat)(w:World)(hb:eG w gc 0 [.int .u8 kind,.slice A n k,.int .u64 rate,iv mul,iv div,iv lock]):
  Cz 201 #[pt gc] w (Rt (iv (jF (!uS kind rate mul div lock) 3)) w):=by
 refine aN func201 ntmps201 ?_;refine aB ?_;refine dH (fun w1 st=>aOf _ _ _ _ _ _ _ _ w1) ?_;refine aB ?_;refine dH (fun w1 st=>wQ _ _ w1) ?_;refine aB ?_;exact aS (h:=fun _ _=>rfl)
theorem aSr(f:Int)(A1 A2 A3 A4:Option Addr)(n1 k1 n2 k2 n3 k3 n4 k4:Nat)(gs:Nat)(w:World)(hs:eG w gs 0 [.slice A1 n1 k1,.slice A2 n2 k2,.slice A3 n3 k3,.slice A4 n4 k4])(mN:(n1:Int)≤9223372036854775806):
  Cz 199 #[iv f,pt gs] w (Rt (iv (jF (!iV f 0 ((n1:Int) - 1)) 4)) w):=by
 refine aN func199 ntmps199 ?_;refine aB ?_;refine dH (fun w1 st=>vK _ _ _ w1) ?_;refine aB ?_;refine dH (fun w1 st=>wQ _ _ w1) ?_;refine aB ?_;exact aS (h:=fun _ _=>rfl)
theorem aSs(kind rate mul div lock:Int)(A:Option Addr)(n k:Nat)(A1 A2 A3 A4:Option Addr)(n1 k1 n2 k2 n3 k3 n4 k4:Nat)(gc gs:Nat)(w:World)(hb:eG w gc 0 [.int .u8 kind,.slice A n k,.int .u64 rate,iv mul,iv div,iv lock])(hs:eG w gs 0 [.slice A1 n1 k1,.slice A2 n2 k2,.slice A3 n3 k3,.slice A4 n4 k4])(mN:(n1:Int)≤9223372036854775806)(zs:List Int)(hA:aI (all w) 1 A n (aK zs))(hn:n=zs.length)(hz:(n:Int)≤9223372036854775806):
  Cz 197 #[pt gc,pt gs] w (Rt (iv (lI (zs.map fun f=>jF (!iV f 0 ((n1:Int) - 1)) 4))) w):=by
 refine aN func197 ntmps197 ?_;refine aA ?_;refine kO (vf:=[]) (vc:=[pt gs]) rfl rfl (by decide) ?_
 refine dH (fun w1 st=>aIR _ _ _ 199 [pt gs] ((aK zs).map fun v=>[v]) (zs.map fun f=>jF (!iV f 0 ((n1:Int) - 1)) 4) w1 (by rw[aIE];exact hA.le (jS (st.started (by simp)))) (by simp) (by simp[aK];omega) (by simp;omega) (by omega) (by kernel_rfl) (fun i r x hr hx w2 eY=>by
  obtain⟨f,hf,rfl⟩:∃f,zs[i]? =some f∧r=[iv f]:=by
   rw[List.getElem?_map,aK,List.getElem?_map] at hr;cases hq:zs[i]? with
   | none=>simp[hq] at hr
   | some f=>simp[hq] at hr;exact⟨f,rfl,hr.symm⟩
  rw[List.getElem?_map,hf] at hx;cases hx
  exact aSr f A1 A2 A3 A4 n1 k1 n2 k2 n3 k3 n4 k4 gs w2 ((hs.below (st.started (by simp))).below eY) mN)) ?_
 refine aA ?_;exact aS (h:=fun _ _=>rfl)
theorem aSp(kind rate mul div lock:Int)(A:Option Addr)(n k:Nat)(A1 A2 A3 A4:Option Addr)(n1 k1 n2 k2 n3 k3 n4 k4:Nat)(w:World)(mN:(n1:Int)≤9223372036854775806)(zs:List Int)(hA:aI (all w) 1 A n (aK zs))(hn:n=zs.length)(hz:(n:Int)≤9223372036854775806):
  Cz 122 #[.agg #[.slice A1 n1 k1,.slice A2 n2 k2,.slice A3 n3 k3,.slice A4 n4 k4],.agg #[.int .u8 kind,.slice A n k,.int .u64 rate,iv mul,iv div,iv lock]] w (Rt (iv (Nz n1 ⟨kind,zs,rate,mul,div,lock⟩)) w):=by
 refine aN func122 ntmps122 ?_;refine aA ?_;refine bA fun g1=>?_;refine bA fun g2=>?_;refine aA ?_;refine kO (vf:=[]) (vc:=[pt g2]) rfl rfl (by decide) ?_;refine kO (vf:=[]) (vc:=[pt g2,pt g1]) rfl rfl (by decide) ?_;refine kO (vf:=[]) (vc:=[pt g2]) rfl rfl (by decide) ?_;refine eH fun g3=>?_
 refine dH (fun w1 st=>aB1 _ _ _ [(195,[pt g2]),(197,[pt g2,pt g1]),(201,[pt g2])] [jF (!mE kind n) 1,lI (zs.map fun f=>jF (!iV f 0 ((n1:Int) - 1)) 4),jF (!uS kind rate mul div lock) 3] w1 (st.rQ (i:=0) (n:=3) (sz:=1) (cs:=[.func (.func 195) #[] #[pt g2],.func (.func 197) #[] #[pt g2,pt g1],.func (.func 201) #[] #[pt g2]]) rfl rfl) rfl rfl (by decide) (by simp only[List.mem_cons,List.not_mem_nil,or_false];rintro f (rfl | rfl | rfl)<;>kernel_rfl) (fun i f x hf hx w2 eY=>by
  have jV:=(st.started (by simp)).trans (eY.mono st.size)
  match i,hf,hx with
  | 0,hf,hx=>cases hf;cases hx;exact aSt kind rate mul div lock A n k g2 w2 (st.box (cs:=[.int .u8 kind,.slice A n k,.int .u64 rate,.int .i64 mul,.int .i64 div,.int .i64 lock]) (i:=1) rfl|>.below eY)
  | 1,hf,hx=>cases hf;cases hx;exact aSs kind rate mul div lock A n k A1 A2 A3 A4 n1 k1 n2 k2 n3 k3 n4 k4 g2 g1 w2 (st.box (cs:=[.int .u8 kind,.slice A n k,.int .u64 rate,.int .i64 mul,.int .i64 div,.int .i64 lock]) (i:=1) rfl|>.below eY) (st.box (cs:=[.slice A1 n1 k1,.slice A2 n2 k2,.slice A3 n3 k3,.slice A4 n4 k4]) (i:=2) rfl|>.below eY) mN zs (hA.le (jS jV)) hn hz
  | 2,hf,hx=>cases hf;cases hx;exact aSq kind rate mul div lock A n k g2 w2 (st.box (cs:=[.int .u8 kind,.slice A n k,.int .u64 rate,.int .i64 mul,.int .i64 div,.int .i64 lock]) (i:=1) rfl|>.below eY)
  | i+3,hf,_=>simp at hf)) ?_
 refine aA ?_;exact aS (h:=fun _ _=>by simp[Nz,hn])
theorem aRB(above delay:Int)(ret:Bool)(A1 A2 A3 A4:Option Addr)(n1 k1 n2 k2 n3 k3 n4 k4:Nat)(gd gs:Nat)(w:World)(hd:eG w gd 0 [iv above,iv delay,.bool ret])(hs:eG w gs 0 [.slice A1 n1 k1,.slice A2 n2 k2,.slice A3 n3 k3,.slice A4 n4 k4])(oP:(n2:Int)≤9223372036854775806):
  Cz 204 #[pt gd,pt gs] w (Rt (iv (jF (decide (¬above= -1)&& !iV above 0 ((n2:Int) - 1)) 4)) w):=by
 refine aN func204 ntmps204 ?_;refine aB ?_;refine bX (t:=6) rfl (fun hg=>?_) (fun hg=>?_)
 ·
  refine aB ?_;refine dH (fun w1 st=>vK _ _ _ w1) ?_;refine aB ?_;refine dH (fun w1 st=>wQ _ _ w1) ?_;refine aB ?_;exact aS (h:=fun _ _=>by simp[hg])
 ·
  refine aB ?_;refine dH (fun w1 st=>wQ _ _ w1) ?_;refine aB ?_;exact aS (h:=fun _ _=>by simp[hg])
theorem aRA(above delay:Int)(ret:Bool)(gd:Nat)(w:World)(hd:eG w gd 0 [iv above,iv delay,.bool ret]):
  Cz 205 #[pt gd] w (Rt (iv (jF (!iV delay 0 20) 3)) w):=by
 refine aN func205 ntmps205 ?_;refine aB ?_;refine dH (fun w1 st=>vK _ _ _ w1) ?_;refine aB ?_;refine dH (fun w1 st=>wQ _ _ w1) ?_;refine aB ?_;exact aS (h:=fun _ _=>rfl)
theorem aR9(above delay:Int)(ret:Bool)(A1 A2 A3 A4:Option Addr)(n1 k1 n2 k2 n3 k3 n4 k4:Nat)(w:World)(oP:(n2:Int)≤9223372036854775806):
  Cz 129 #[.agg #[.slice A1 n1 k1,.slice A2 n2 k2,.slice A3 n3 k3,.slice A4 n4 k4],.agg #[iv above,iv delay,.bool ret]] w (Rt (iv (Si n2 ⟨above,delay,ret⟩)) w):=by
 refine aN func129 ntmps129 ?_;refine aA ?_;refine bA fun g1=>?_;refine bA fun g2=>?_;refine aA ?_;refine kO (vf:=[]) (vc:=[pt g2,pt g1]) rfl rfl (by decide) ?_;refine kO (vf:=[]) (vc:=[pt g2]) rfl rfl (by decide) ?_;refine eH fun g3=>?_
 refine dH (fun w1 st=>aB1 _ _ _ [(204,[pt g2,pt g1]),(205,[pt g2])] [jF (decide (¬above= -1)&& !iV above 0 ((n2:Int) - 1)) 4,jF (!iV delay 0 20) 3] w1 (st.rQ (i:=0) (n:=2) (sz:=1) (cs:=[.func (.func 204) #[] #[pt g2,pt g1],.func (.func 205) #[] #[pt g2]]) rfl rfl) rfl rfl (by decide) (by simp only[List.mem_cons,List.not_mem_nil,or_false];rintro f (rfl | rfl)<;>kernel_rfl) (fun i f x hf hx w2 eY=>by
  have jV:=(st.started (by simp)).trans (eY.mono st.size)
  match i,hf,hx with
  | 0,hf,hx=>cases hf;cases hx;exact aRB above delay ret A1 A2 A3 A4 n1 k1 n2 k2 n3 k3 n4 k4 g2 g1 w2 (st.box (cs:=[.int .i64 above,.int .i64 delay,.bool ret]) (i:=1) rfl|>.below eY) (st.box (cs:=[.slice A1 n1 k1,.slice A2 n2 k2,.slice A3 n3 k3,.slice A4 n4 k4]) (i:=2) rfl|>.below eY) oP
  | 1,hf,hx=>cases hf;cases hx;exact aRA above delay ret g2 w2 (st.box (cs:=[.int .i64 above,.int .i64 delay,.bool ret]) (i:=1) rfl|>.below eY)
  | i+2,hf,_=>simp at hf)) ?_
 refine aA ?_;exact aS (h:=fun _ _=>rfl)
theorem aMI(r:Int)(w:World):
  Cz 134 #[.agg #[iv r]] w (Rt (iv (aAE r)) w):=by
 refine aN func134 ntmps134 ?_;refine aB ?_;refine bA fun g1=>?_;refine aB ?_;refine dH (fun w1 st=>vK _ _ _ w1) ?_;refine aB ?_;refine dH (fun w1 st=>wQ _ _ w1) ?_;refine aB ?_;exact aS (h:=fun _ _=>rfl)
theorem aRW(clock domain reset iT:Int)(A B:Option Addr)(n k nb kb:Nat)(A1 A2 A3 A4:Option Addr)(n1 k1 n2 k2 n3 k3 n4 k4:Nat)(gd gs:Nat)(w:World)(hd:eG w gd 0 [iv clock,iv domain,iv reset,.int .u32 iT,.slice B nb kb,.slice A n k])(hs:eG w gs 0 [.slice A1 n1 k1,.slice A2 n2 k2,.slice A3 n3 k3,.slice A4 n4 k4])(mN:(n1:Int)≤9223372036854775806):
  Cz 206 #[pt gd,pt gs] w (Rt (iv (jF (!iV clock 0 ((n1:Int) - 1)) 4)) w):=by
 refine aN func206 ntmps206 ?_;refine aB ?_;refine dH (fun w1 st=>vK _ _ _ w1) ?_;refine aB ?_;refine dH (fun w1 st=>wQ _ _ w1) ?_;refine aB ?_;exact aS (h:=fun _ _=>rfl)
theorem aRV(clock domain reset iT:Int)(A B:Option Addr)(n k nb kb:Nat)(A1 A2 A3 A4:Option Addr)(n1 k1 n2 k2 n3 k3 n4 k4:Nat)(gd gs:Nat)(w:World)(hd:eG w gd 0 [iv clock,iv domain,iv reset,.int .u32 iT,.slice B nb kb,.slice A n k])(hs:eG w gs 0 [.slice A1 n1 k1,.slice A2 n2 k2,.slice A3 n3 k3,.slice A4 n4 k4])(oP:(n2:Int)≤9223372036854775806):
  Cz 207 #[pt gd,pt gs] w (Rt (iv (jF (!iV domain 0 ((n2:Int) - 1)) 4)) w):=by
 refine aN func207 ntmps207 ?_;refine aB ?_;refine dH (fun w1 st=>vK _ _ _ w1) ?_;refine aB ?_;refine dH (fun w1 st=>wQ _ _ w1) ?_;refine aB ?_;exact aS (h:=fun _ _=>rfl)
theorem aRU(clock domain reset iT:Int)(A B:Option Addr)(n k nb kb:Nat)(A1 A2 A3 A4:Option Addr)(n1 k1 n2 k2 n3 k3 n4 k4:Nat)(gd gs:Nat)(w:World)(hd:eG w gd 0 [iv clock,iv domain,iv reset,.int .u32 iT,.slice B nb kb,.slice A n k])(hs:eG w gs 0 [.slice A1 n1 k1,.slice A2 n2 k2,.slice A3 n3 k3,.slice A4 n4 k4])(Mm:(n3:Int)≤9223372036854775806):
  Cz 208 #[pt gd,pt gs] w (Rt (iv (jF (!iV reset 0 ((n3:Int) - 1)) 4)) w):=by
 refine aN func208 ntmps208 ?_;refine aB ?_;refine dH (fun w1 st=>vK _ _ _ w1) ?_;refine aB ?_;refine dH (fun w1 st=>wQ _ _ w1) ?_;refine aB ?_;exact aS (h:=fun _ _=>rfl)
theorem aRS(f:Int)(A1 A2 A3 A4:Option Addr)(n1 k1 n2 k2 n3 k3 n4 k4:Nat)(gs:Nat)(w:World)(hs:eG w gs 0 [.slice A1 n1 k1,.slice A2 n2 k2,.slice A3 n3 k3,.slice A4 n4 k4])(Fe:(n4:Int)≤9223372036854775806):
  Cz 210 #[iv f,pt gs] w (Rt (iv (jF (!iV f 0 ((n4:Int) - 1)) 4)) w):=by
 refine aN func210 ntmps210 ?_;refine aB ?_;refine dH (fun w1 st=>vK _ _ _ w1) ?_;refine aB ?_;refine dH (fun w1 st=>wQ _ _ w1) ?_;refine aB ?_;exact aS (h:=fun _ _=>rfl)
theorem aRT(clock domain reset iT:Int)(A B:Option Addr)(n k nb kb:Nat)(A1 A2 A3 A4:Option Addr)(n1 k1 n2 k2 n3 k3 n4 k4:Nat)(gd gs:Nat)(w:World)(hd:eG w gd 0 [iv clock,iv domain,iv reset,.int .u32 iT,.slice B nb kb,.slice A n k])(hs:eG w gs 0 [.slice A1 n1 k1,.slice A2 n2 k2,.slice A3 n3 k3,.slice A4 n4 k4])(Fe:(n4:Int)≤9223372036854775806)(zs:List Int)(hA:aI (all w) 1 A n (aK zs))(hn:n=zs.length)(hz:(n:Int)≤9223372036854775806):
  Cz 209 #[pt gd,pt gs] w (Rt (iv (lI (zs.map fun f=>jF (!iV f 0 ((n4:Int) - 1)) 4))) w):=by
 refine aN func209 ntmps209 ?_;refine aA ?_;refine kO (vf:=[]) (vc:=[pt gs]) rfl rfl (by decide) ?_
 refine dH (fun w1 st=>aIR _ _ _ 210 [pt gs] ((aK zs).map fun v=>[v]) (zs.map fun f=>jF (!iV f 0 ((n4:Int) - 1)) 4) w1 (by rw[aIE];exact hA.le (jS (st.started (by simp)))) (by simp) (by simp[aK];omega) (by simp;omega) (by omega) (by kernel_rfl) (fun i r x hr hx w2 eY=>by
  obtain⟨f,hf,rfl⟩:∃f,zs[i]? =some f∧r=[iv f]:=by
   rw[List.getElem?_map,aK,List.getElem?_map] at hr;cases hq:zs[i]? with
   | none=>simp[hq] at hr
   | some f=>simp[hq] at hr;exact⟨f,rfl,hr.symm⟩
  rw[List.getElem?_map,hf] at hx;cases hx
  exact aRS f A1 A2 A3 A4 n1 k1 n2 k2 n3 k3 n4 k4 gs w2 ((hs.below (st.started (by simp))).below eY) Fe)) ?_
 refine aA ?_;exact aS (h:=fun _ _=>rfl)
theorem aRR(rg:List Rg)(clock domain reset iT:Int)(A B:Option Addr)(n k nb kb:Nat)(A1 A2 A3 A4:Option Addr)(n1 k1 n2 k2 n3 k3 n4 k4:Nat)(w:World)(mN:(n1:Int)≤9223372036854775806)(oP:(n2:Int)≤9223372036854775806)(Mm:(n3:Int)≤9223372036854775806)(Fe:(n4:Int)≤9223372036854775806)(zs:List Int)(hA:aI (all w) 1 A n (aK zs))(hn:n=zs.length)(hz:(n:Int)≤9223372036854775806):
  Cz 138 #[.agg #[.slice A1 n1 k1,.slice A2 n2 k2,.slice A3 n3 k3,.slice A4 n4 k4],.agg #[iv clock,iv domain,iv reset,.int .u32 iT,.slice B nb kb,.slice A n k]] w (Rt (iv (Sn n1 n2 n3 n4 ⟨clock,domain,reset,iT,rg,zs⟩)) w):=by
 refine aN func138 ntmps138 ?_;refine aA ?_;refine bA fun g1=>?_;refine bA fun g2=>?_;refine aA ?_;refine kO (vf:=[]) (vc:=[pt g2,pt g1]) rfl rfl (by decide) ?_;refine kO (vf:=[]) (vc:=[pt g2,pt g1]) rfl rfl (by decide) ?_;refine kO (vf:=[]) (vc:=[pt g2,pt g1]) rfl rfl (by decide) ?_;refine kO (vf:=[]) (vc:=[pt g2,pt g1]) rfl rfl (by decide) ?_;refine eH fun g3=>?_
 refine dH (fun w1 st=>aB1 _ _ _ [(206,[pt g2,pt g1]),(207,[pt g2,pt g1]),(208,[pt g2,pt g1]),(209,[pt g2,pt g1])] [jF (!iV clock 0 ((n1:Int) - 1)) 4,jF (!iV domain 0 ((n2:Int) - 1)) 4,jF (!iV reset 0 ((n3:Int) - 1)) 4,lI (zs.map fun f=>jF (!iV f 0 ((n4:Int) - 1)) 4)] w1 (st.rQ (i:=0) (n:=4) (sz:=1) (cs:=[.func (.func 206) #[] #[pt g2,pt g1],.func (.func 207) #[] #[pt g2,pt g1],.func (.func 208) #[] #[pt g2,pt g1],.func (.func 209) #[] #[pt g2,pt g1]]) rfl rfl) rfl rfl (by decide) (by simp only[List.mem_cons,List.not_mem_nil,or_false];rintro f (rfl | rfl | rfl | rfl)<;>kernel_rfl) (fun i f x hf hx w2 eY=>by
  have jV:=(st.started (by simp)).trans (eY.mono st.size)
  match i,hf,hx with
  | 0,hf,hx=>cases hf;cases hx;exact aRW clock domain reset iT A B n k nb kb A1 A2 A3 A4 n1 k1 n2 k2 n3 k3 n4 k4 g2 g1 w2 (st.box (cs:=[.int .i64 clock,.int .i64 domain,.int .i64 reset,.int .u32 iT,.slice B nb kb,.slice A n k]) (i:=1) rfl|>.below eY) (st.box (cs:=[.slice A1 n1 k1,.slice A2 n2 k2,.slice A3 n3 k3,.slice A4 n4 k4]) (i:=2) rfl|>.below eY) mN
  | 1,hf,hx=>cases hf;cases hx;exact aRV clock domain reset iT A B n k nb kb A1 A2 A3 A4 n1 k1 n2 k2 n3 k3 n4 k4 g2 g1 w2 (st.box (cs:=[.int .i64 clock,.int .i64 domain,.int .i64 reset,.int .u32 iT,.slice B nb kb,.slice A n k]) (i:=1) rfl|>.below eY) (st.box (cs:=[.slice A1 n1 k1,.slice A2 n2 k2,.slice A3 n3 k3,.slice A4 n4 k4]) (i:=2) rfl|>.below eY) oP
  | 2,hf,hx=>cases hf;cases hx;exact aRU clock domain reset iT A B n k nb kb A1 A2 A3 A4 n1 k1 n2 k2 n3 k3 n4 k4 g2 g1 w2 (st.box (cs:=[.int .i64 clock,.int .i64 domain,.int .i64 reset,.int .u32 iT,.slice B nb kb,.slice A n k]) (i:=1) rfl|>.below eY) (st.box (cs:=[.slice A1 n1 k1,.slice A2 n2 k2,.slice A3 n3 k3,.slice A4 n4 k4]) (i:=2) rfl|>.below eY) Mm
  | 3,hf,hx=>cases hf;cases hx;exact aRT clock domain reset iT A B n k nb kb A1 A2 A3 A4 n1 k1 n2 k2 n3 k3 n4 k4 g2 g1 w2 (st.box (cs:=[.int .i64 clock,.int .i64 domain,.int .i64 reset,.int .u32 iT,.slice B nb kb,.slice A n k]) (i:=1) rfl|>.below eY) (st.box (cs:=[.slice A1 n1 k1,.slice A2 n2 k2,.slice A3 n3 k3,.slice A4 n4 k4]) (i:=2) rfl|>.below eY) Fe zs (hA.le (jS jV)) hn hz
  | i+4,hf,_=>simp at hf)) ?_
 refine aA ?_;exact aS (h:=fun _ _=>rfl)
theorem aQ9(rg:List Rg)(zs:List Int)(clock domain reset iT:Int)(A B:Option Addr)(n k nb kb:Nat)(w:World)(uW:nb=rg.length)(hn:n=zs.length):
  Cz 193 #[.agg #[iv clock,iv domain,iv reset,.int .u32 iT,.slice B nb kb,.slice A n k]] w (Rt (iv (Qr ⟨clock,domain,reset,iT,rg,zs⟩)) w):=by
 refine aN func193 ntmps193 ?_;refine aB ?_;refine bA fun g1=>?_;refine aB ?_;refine bX (t:=7) rfl (fun hg=>?_) (fun hg=>?_)
 ·
  refine aB ?_;refine dH (fun w1 st=>wQ _ _ w1) ?_;refine aB ?_;exact aS (h:=fun _ _=>by subst uW hn;simp[Qr,hg])
 ·
  refine aB ?_;refine dH (fun w1 st=>wQ _ _ w1) ?_;refine aB ?_;exact aS (h:=fun _ _=>by subst uW hn;simp[Qr,hg])
end
section
def aC.small(s:aC):Prop:=s.aF.length≤1000000∧s.domains.length≤1000000∧s.aT.length≤1000000∧s.aD.length≤1000000∧(∀c∈s.aF,c.src.length≤1000000)∧∀d∈s.aD,d.iX.length≤1000000
structure fL(w:World)(s:aC)(A1:Option Addr)(n1:Nat)(A2:Option Addr)(n2:Nat)(A3:Option Addr)(n3:Nat)(A4:Option Addr)(n4:Nat):Prop where
 jK:jN (fF (all w)) (uI (fF (all w))) 86 6 A1 n1 s.aF
 dom:jN (fF (all w)) vF 50 3 A2 n2 s.domains
 Ct:jN (fF (all w)) zH 88 1 A3 n3 s.aT
 dev:jN (fF (all w)) (tJ (fF (all w))) 38 6 A4 n4 s.aD
 small:s.small
section
variable{w w':World}{s:aC}{A1 A2 A3 A4:Option Addr}{n1 n2 n3 n4:Nat}
theorem fL.le(h:fL w s A1 n1 A2 n2 A3 n3 A4 n4)(hb:Below w.heap.size w w'):fL w' s A1 n1 A2 n2 A3 n3 A4 n4:=
 ⟨h.jK.mono (nW (jS hb)) (fun _ _=>uI.mono (nW (jS hb))),h.dom.mono (nW (jS hb)) (fun _ _ h=>h),h.Ct.mono (nW (jS hb)) (fun _ _ h=>h),h.dev.mono (nW (jS hb)) (fun _ _=>tJ.mono (nW (jS hb))),h.small⟩
theorem fL.nB(h:fL w s A1 n1 A2 n2 A3 n3 A4 n4):n1=s.aF.length:=by obtain⟨_,_,h,_⟩:=h.jK;exact h
theorem fL.nM(h:fL w s A1 n1 A2 n2 A3 n3 A4 n4):n2=s.domains.length:=by obtain⟨_,_,h,_⟩:=h.dom;exact h
theorem fL.pO(h:fL w s A1 n1 A2 n2 A3 n3 A4 n4):n3=s.aT.length:=by obtain⟨_,_,h,_⟩:=h.Ct;exact h
theorem fL.nZ(h:fL w s A1 n1 A2 n2 A3 n3 A4 n4):n4=s.aD.length:=by obtain⟨_,_,h,_⟩:=h.dev;exact h
end
theorem jN.row{α:Type}{w:World}{R:α→List Value→Prop}{t:TypeId}{sz n:Nat}{A:Option Addr}{es:List α}(h:jN (fF (all w)) R t sz A n es){k:Nat}{e:α}(hk:es[k]? =some e):
  ∃b off r,A=some ⟨b,off,none⟩∧r.length=sz∧R e r∧eG w b (off+k*sz) r:=by
 obtain⟨rows,h1,h2,h3⟩:=h
 have hke:=(List.getElem?_eq_some_iff.1 hk).1
 have hl:=h1.len.1
 obtain⟨r,hr⟩:∃r,rows[k]? =some r:=⟨_,List.getElem?_eq_getElem (by omega)⟩
 obtain⟨e',he,hrl,hR⟩:=h1.at_ hr;rw[hk] at he;cases he;obtain⟨b,off,hA,hro⟩:=aI.row h3 h1.Ze hr (by omega);exact⟨b,off,r,hA,hrl,hR,hro⟩
def gO(s:aC):List (List Int):=s.aF.map (·.src)
def gM(s:aC):List (List Int):=s.domains.map fun d=>if d.above= -1 then[] else[d.above]
def cZ(s:aC):List (List Int):=s.aD.map (·.iX)
def Gg(g:List (List Int)):Int:=jF (decide ((fS g).1=5)) 5
theorem aEp{vs:List Value}{v z:Value}{k n:Nat}(h:vs.length=k)(hk:k < n):(vs++List.replicate (n - k) z).set k v=(vs++[v])++List.replicate (n - (k+1)) z:=by
 rw[List.set_append_right _ _ (by omega),h,Nat.sub_self,show n - k=(n - (k+1))+1 by omega,List.replicate_succ,List.set_cons_zero,List.append_assoc];rfl
theorem aQX{vs:List Value}{z:Value}{k n:Nat}(hk:k < n):vs++List.replicate (n - k) z=(vs++[z])++List.replicate (n - (k+1)) z:=by
 rw[show n - k=(n - (k+1))+1 by omega,List.replicate_succ,List.append_assoc];rfl
theorem Jh{g:List (List Int)}{k:Nat}{vs:List Value}{q q':Piece}{l:List Int}{v:Value}(h:Rows (qP (fF q)) 1 (g.take k) (vs.map fun v=>[v]))(hl:q.Le q')(hg:g[k]? =some l)(hv:qP (fF q') l [v]):Rows (qP (fF q')) 1 (g.take (k+1)) ((vs++[v]).map fun v=>[v]):=by
 rw[List.take_add_one,hg,Option.toList_some,List.map_append];exact(h.mono (fun _ _=>qP.mono (nW hl))).snoc rfl hv
theorem aFq{q q2:Piece}{g:List (List Int)}{vs:List Value}{gG n:Nat}{t:TypeId}(h:Rows (qP (fF q)) 1 g (vs.map fun v=>[v]))(hl:q.Le q2)(h1:∃F,(HP.aE gG t vs).sat F q2.w∧∀b,F b→q2.Z b)(hn:n=g.length):mX q2 (some ⟨gG,0,none⟩) n g:=by
 obtain⟨F,hs,hz⟩:=h1;refine⟨_,h.mono (fun _ _=>qP.mono (nW hl)),hn,?_⟩;rw[show(vs.map fun v=>[v]).flatten=vs by clear h hs;induction vs<;>simp_all];refine tI (c:=0) hs hz ?_
 have:=h.len.1
 simp at this;omega
def aFl(zs:List Int)(v:Value)(w w':World):Prop:=∃A c,v=.slice A zs.length c∧aI (fresh w w') 1 A zs.length (aK zs)
def wO(g:List (List Int))(v:Value)(w w':World):Prop:=∃A c,v=.slice A g.length c∧mX (fresh w w') A g.length g
theorem aS6(A:Option Addr)(n c:Nat)(g:List (List Int))(w:World)(hg:mX (all w) A n g)(hn:n=g.length)(hn2:(n:Int)≤9223372036854775806)(hlen:∀l∈g,(l.length:Int)≤9223372036854775806):
  Cz 203 #[.slice A n c] w (Rt (iv (fS g).1) w):=by
 refine aN func203 ntmps203 ?_;refine aB ?_;refine uU (fun v=>∃A m c,v=.tuple #[.slice A m c,iv (fS g).1]) (fun w1 st=>(aAK A n c g w1 (hg.le (jS (st.started (by simp)))) hn hn2 hlen).mono fun y w2 h=>?_) ?_
 ·obtain⟨⟨A',m,c',hy,_,_⟩,hb⟩:=h;exact⟨⟨_,hy,A',m,c',rfl⟩,hb⟩
 rintro _ ⟨A',m,c',rfl⟩;refine aB ?_;exact aS (h:=fun _ _=>rfl)
theorem aE5(A:Option Addr)(n c:Nat)(g:List (List Int))(w:World)(hg:mX (all w) A n g)(hn:n=g.length)(hn2:(n:Int)≤9223372036854775806)(hlen:∀l∈g,(l.length:Int)≤9223372036854775806):
  Cz 124 #[.slice A n c] w (Rt (iv (Gg g)) w):=by
 refine aN func124 ntmps124 ?_;refine aB ?_;refine dH (fun w1 st=>aS6 A n c g w1 (hg.le (jS (st.started (by simp)))) hn hn2 hlen) ?_;refine aB ?_;refine dH (fun w1 st=>wQ _ _ w1) ?_;refine aB ?_;exact aS (h:=fun _ _=>rfl)
theorem aHn(A:Option Addr)(n c:Nat)(zs:List Int)(w:World)(hs:aI (all w) 1 A n (aK zs))(hn:n=zs.length)(hn2:n≤1000000):
  Cz 140 #[.slice A n c] w (fun y w'=>(∃v,y=.returned v∧aFl zs v w w')∧Below w.heap.size w w'):=by
 refine aN func140 ntmps140 ?_;refine aB ?_;refine iP 3 1 ?_;refine gH 0 1 8 n (n':=n) (v:=sn) (el:=3) (by kernel_rfl) (by kernel_rfl) (by decide) rfl rfl rfl (qW (by simp) hs) (by simp[aK,Value.oneCell']) (by omega) (by omega) (by omega) (by decide) fun A' k'=>?_;refine aB ?_;refine dO [] [0] [] (by simp) rfl (by decide) (by decide) fun q hq _ hfr=>?_;subst hn;exact aS (h:=fun w1 st=>⟨_,rfl,A',k',rfl,(aI.own (hq 0 _ (by simp) rfl)).le (st.mH (by simp) (hfr (by simp) (by simp)))⟩)
theorem aJr(s:aC)(A1 A2 A3 A4:Option Addr)(n1 k1 n2 k2 n3 k3 n4 k4:Nat)(w:World)(hW:fL w s A1 n1 A2 n2 A3 n3 A4 n4):
  Cz 125 #[.agg #[.slice A1 n1 k1,.slice A2 n2 k2,.slice A3 n3 k3,.slice A4 n4 k4]] w (fun y w'=>(∃v,y=.returned v∧wO (gO s) v w w')∧Below w.heap.size w w'):=by
 have hn:=hW.nB
 have cS:=hW.small
 unfold aC.small at cS;obtain⟨hs1,fX,sA,tQ,oA,oQ⟩:=cS;refine aN func125 ntmps125 ?_;refine aB ?_;refine bA fun g1=>?_;refine aB ?_;refine mA 24 (el:=22) (z:=sn) (by kernel_rfl) (by kernel_rfl) rfl rfl rfl (by omega) (by omega) (by decide) fun g2=>?_;refine aB ?_;refine bK [(13,iv 0),(12,iv n1),(11,.slice A1 n1 k1),(3,.slice (some ⟨g2,0,none⟩) n1 n1),(1,pt g1)] ?_;refine dO [] [] [0,1] (by simp) rfl (by decide) (by decide) fun q0 _ _ Dg=>?_;refine aB ?_;refine eJ (fun m e R H=>∃(k:Nat) (vs:List Value) (q:Piece),k≤n1∧m=n1 - k∧qR w q∧Rows (qP (fF q)) 1 ((gO s).take k) (vs.map fun v=>[v])∧vs.length=k∧e=[(13,iv k),(12,iv n1),(11,.slice A1 n1 k1),(3,.slice (some ⟨g2,0,none⟩) n1 n1),(1,pt g1)]∧R=[q,all w]∧H=[HP.aE g2 22 (vs++List.replicate (n1 - k) (sn)),HP.aE g1 30 [.slice A1 n1 k1,.slice A2 n2 k2,.slice A3 n3 k3,.slice A4 n4 k4]]) n1 ⟨0,[],_,by omega,rfl,Dg (by simp) (by simp),trivial,rfl,rfl,rfl,rfl⟩ fun m e R H hI=>?_;obtain⟨k,vs,q,hk,rfl,rA,hrows,hvl,rfl,rfl,rfl⟩:=hI;refine aB ?_;refine aG rfl (fun h=>?_) (fun h=>?_)
 ·
  refine aB ?_
  have hkn:k < s.aF.length:=by omega
  obtain⟨e,he⟩:∃e,s.aF[k]? =some e:=⟨_,List.getElem?_eq_getElem hkn⟩
  obtain⟨b,off,r,rfl,hrl,hR,hro⟩:=hW.jK.row he;obtain⟨Af,nf,kf,rfl,hnf,pP⟩:=hR
  have yS:(gO s)[k]? =some (e.src):=by simp[gO,he]
  refine aB ?_;refine bU fun g3=>?_;refine fQ rfl (by decide) ?_;refine uK rfl rfl ?_;simp only[iI,Value.cells,List.set,List.take,List.drop,List.nil_append,List.append_nil,List.length_cons,List.length_nil,List.cons_append,Nat.reduceAdd];refine aB ?_;refine jQ [q] (aFl e.src) (fun w1 st=>aHn Af nf kf e.src w1 (aI.le pP (jS (st.started (by simp)))) hnf (by have:=oA e (List.mem_of_getElem? he);omega)) ?_;rintro _ w1 q' ⟨Ao,co,rfl,Db⟩ hf' hle aDP;refine kd (dat (k) (k)) ?_;refine tL 1 rfl (by kernel_rfl) rfl rfl rfl (by simp;omega) ?_;dsimp only[List.set];rw[aEp hvl (by omega)];refine aB ?_;exact dW (n1 - (k+1)) ⟨k+1,vs++[_],q',by omega,rfl,aDP (by simpa using rA),Jh hrows (hle q (by simp)) yS ⟨Ao,_,co,rfl,rfl,aI.le Db hf'⟩,by simp[hvl],rfl,rfl,rfl⟩
 ·
  refine aB ?_;obtain rfl:k=n1:=by omega
  rw[Nat.sub_self,List.replicate_zero,List.append_nil];rw[List.take_of_length_le (by simp[gO];omega)] at hrows;refine aB ?_;refine dO [q] [0] [] (by simp) rfl (by decide) (by decide) fun q2 hq hle hfr=>?_
  have kL:k=(gO s).length:=by simp[gO];omega
  exact aS (h:=fun w1 st=>⟨_,rfl,some ⟨g2,0,none⟩,k,by rw[←kL],by rw[←kL];exact(aFq hrows (hle q (by simp)) (hq 0 _ (by simp) rfl) kL).le (st.mH (by simp) (hfr (by simp) (by simpa using rA)))⟩)
theorem aHy(s:aC)(A1 A2 A3 A4:Option Addr)(n1 k1 n2 k2 n3 k3 n4 k4:Nat)(w:World)(hW:fL w s A1 n1 A2 n2 A3 n3 A4 n4):
  Cz 63 #[.agg #[.slice A1 n1 k1,.slice A2 n2 k2,.slice A3 n3 k3,.slice A4 n4 k4]] w (fun y w'=>(∃v,y=.returned v∧wO (cZ s) v w w')∧Below w.heap.size w w'):=by
 have hn:=hW.nZ
 have cS:=hW.small
 unfold aC.small at cS;obtain⟨hs1,fX,sA,tQ,oA,oQ⟩:=cS;refine aN func63 ntmps63 ?_;refine aB ?_;refine bA fun g1=>?_;refine aB ?_;refine mA 24 (el:=22) (z:=sn) (by kernel_rfl) (by kernel_rfl) rfl rfl rfl (by omega) (by omega) (by decide) fun g2=>?_;refine aB ?_;refine bK [(13,iv 0),(12,iv n4),(11,.slice A4 n4 k4),(3,.slice (some ⟨g2,0,none⟩) n4 n4),(1,pt g1)] ?_;refine dO [] [] [0,1] (by simp) rfl (by decide) (by decide) fun q0 _ _ Dg=>?_;refine aB ?_;refine eJ (fun m e R H=>∃(k:Nat) (vs:List Value) (q:Piece),k≤n4∧m=n4 - k∧qR w q∧Rows (qP (fF q)) 1 ((cZ s).take k) (vs.map fun v=>[v])∧vs.length=k∧e=[(13,iv k),(12,iv n4),(11,.slice A4 n4 k4),(3,.slice (some ⟨g2,0,none⟩) n4 n4),(1,pt g1)]∧R=[q,all w]∧H=[HP.aE g2 22 (vs++List.replicate (n4 - k) (sn)),HP.aE g1 30 [.slice A1 n1 k1,.slice A2 n2 k2,.slice A3 n3 k3,.slice A4 n4 k4]]) n4 ⟨0,[],_,by omega,rfl,Dg (by simp) (by simp),trivial,rfl,rfl,rfl,rfl⟩ fun m e R H hI=>?_;obtain⟨k,vs,q,hk,rfl,rA,hrows,hvl,rfl,rfl,rfl⟩:=hI;refine aB ?_;refine aG rfl (fun h=>?_) (fun h=>?_)
 ·
  refine aB ?_
  have hkn:k < s.aD.length:=by omega
  obtain⟨e,he⟩:∃e,s.aD[k]? =some e:=⟨_,List.getElem?_eq_getElem hkn⟩
  obtain⟨b,off,r,rfl,hrl,hR,hro⟩:=hW.dev.row he;obtain⟨Ar,nr,kr,Af,nf,kf,rfl,_,hnf,_,pP⟩:=hR
  have yS:(cZ s)[k]? =some (e.iX):=by simp[cZ,he]
  refine aB ?_;refine bU fun g3=>?_;refine fQ rfl (by decide) ?_;refine uK rfl rfl ?_;simp only[iI,Value.cells,List.set,List.take,List.drop,List.nil_append,List.append_nil,List.length_cons,List.length_nil,List.cons_append,Nat.reduceAdd];refine aB ?_;refine jQ [q] (aFl e.iX) (fun w1 st=>aHn Af nf kf e.iX w1 (aI.le pP (jS (st.started (by simp)))) hnf (by have:=oQ e (List.mem_of_getElem? he);omega)) ?_;rintro _ w1 q' ⟨Ao,co,rfl,Db⟩ hf' hle aDP;refine kd (dat (k) (k)) ?_;refine tL 1 rfl (by kernel_rfl) rfl rfl rfl (by simp;omega) ?_;dsimp only[List.set];rw[aEp hvl (by omega)];refine aB ?_;exact dW (n4 - (k+1)) ⟨k+1,vs++[_],q',by omega,rfl,aDP (by simpa using rA),Jh hrows (hle q (by simp)) yS ⟨Ao,_,co,rfl,rfl,aI.le Db hf'⟩,by simp[hvl],rfl,rfl,rfl⟩
 ·
  refine aB ?_;obtain rfl:k=n4:=by omega
  rw[Nat.sub_self,List.replicate_zero,List.append_nil];rw[List.take_of_length_le (by simp[cZ];omega)] at hrows;refine aB ?_;refine dO [q] [0] [] (by simp) rfl (by decide) (by decide) fun q2 hq hle hfr=>?_
  have kL:k=(cZ s).length:=by simp[cZ];omega
  exact aS (h:=fun w1 st=>⟨_,rfl,some ⟨g2,0,none⟩,k,by rw[←kL],by rw[←kL];exact(aFq hrows (hle q (by simp)) (hq 0 _ (by simp) rfl) kL).le (st.mH (by simp) (hfr (by simp) (by simpa using rA)))⟩)
theorem aIX(s:aC)(A1 A2 A3 A4:Option Addr)(n1 k1 n2 k2 n3 k3 n4 k4:Nat)(w:World)(hW:fL w s A1 n1 A2 n2 A3 n3 A4 n4):
  Cz 131 #[.agg #[.slice A1 n1 k1,.slice A2 n2 k2,.slice A3 n3 k3,.slice A4 n4 k4]] w (fun y w'=>(∃v,y=.returned v∧wO (gM s) v w w')∧Below w.heap.size w w'):=by
 have hn:=hW.nM
 have cS:=hW.small
 unfold aC.small at cS;obtain⟨hs1,fX,sA,tQ,oA,oQ⟩:=cS;refine aN func131 ntmps131 ?_;refine aB ?_;refine bA fun g1=>?_;refine aB ?_;refine mA 24 (el:=22) (z:=sn) (by kernel_rfl) (by kernel_rfl) rfl rfl rfl (by omega) (by omega) (by decide) fun g2=>?_;refine aB ?_;refine bK [(13,iv 0),(12,iv n2),(11,.slice A2 n2 k2),(3,.slice (some ⟨g2,0,none⟩) n2 n2),(1,pt g1)] ?_;refine dO [] [] [0,1] (by simp) rfl (by decide) (by decide) fun q0 _ _ Dg=>?_;refine aB ?_;refine eJ (fun m e R H=>∃(k:Nat) (vs:List Value) (q:Piece),k≤n2∧m=n2 - k∧qR w q∧Rows (qP (fF q)) 1 ((gM s).take k) (vs.map fun v=>[v])∧vs.length=k∧e=[(13,iv k),(12,iv n2),(11,.slice A2 n2 k2),(3,.slice (some ⟨g2,0,none⟩) n2 n2),(1,pt g1)]∧R=[q,all w]∧H=[HP.aE g2 22 (vs++List.replicate (n2 - k) (sn)),HP.aE g1 30 [.slice A1 n1 k1,.slice A2 n2 k2,.slice A3 n3 k3,.slice A4 n4 k4]]) n2 ⟨0,[],_,by omega,rfl,Dg (by simp) (by simp),trivial,rfl,rfl,rfl,rfl⟩ fun m e R H hI=>?_;obtain⟨k,vs,q,hk,rfl,rA,hrows,hvl,rfl,rfl,rfl⟩:=hI;refine aB ?_;refine aG rfl (fun h=>?_) (fun h=>?_)
 ·
  refine aB ?_
  have hkn:k < s.domains.length:=by omega
  obtain⟨e,he⟩:∃e,s.domains[k]? =some e:=⟨_,List.getElem?_eq_getElem hkn⟩
  obtain⟨b,off,r,rfl,hrl,hR,hro⟩:=hW.dom.row he;obtain rfl:=hR
  have yS:(gM s)[k]? =some (if e.above= -1 then[] else[e.above]):=by simp[gM,he]
  refine aB ?_;refine bU fun g3=>?_;refine fQ rfl (by decide) ?_;refine uK rfl rfl ?_;simp only[iI,Value.cells,List.set,List.take,List.drop,List.nil_append,List.append_nil,List.length_cons,List.length_nil,List.cons_append,Nat.reduceAdd];refine aB ?_;refine aG rfl (fun h=>?_) (fun h=>?_)
  ·
   refine aB ?_;refine eH fun g4=>?_;refine kd (dat (k) (k)) ?_;refine tL 2 rfl (by kernel_rfl) rfl rfl rfl (by simp;omega) ?_;dsimp only[List.set];rw[aEp hvl (by omega)];refine aB ?_;refine dO [q] [0] [2,3] (by simp) rfl (by decide) (by decide) fun q' lF hle Fp=>?_;obtain⟨Fg,Ms,Ml⟩:=lF 0 _ (by simp) rfl
   have Db:=tI (n:=1) (sz:=1) (c:=0) Ms Ml rfl
   exact dW (n2 - (k+1)) ⟨k+1,vs++[_],q',by omega,rfl,Fp (by simp) (by simpa using rA),Jh hrows (hle q (by simp)) yS (by rw[if_neg h];exact⟨_,1,1,rfl,rfl,Db⟩),by simp[hvl],rfl,rfl,rfl⟩
  ·
   refine aB ?_;rw[aQX (k:=k) (by omega)];exact dW (n2 - (k+1)) ⟨k+1,vs++[_],q,by omega,rfl,rA,Jh hrows (fun b hb=>⟨hb,rfl⟩) yS (by rw[if_pos (Classical.not_not.1 h)];exact⟨_,0,0,rfl,rfl,aI.nil _ 1⟩),by simp[hvl],rfl,rfl,rfl⟩
 ·
  refine aB ?_;obtain rfl:k=n2:=by omega
  rw[Nat.sub_self,List.replicate_zero,List.append_nil];rw[List.take_of_length_le (by simp[gM];omega)] at hrows;refine aB ?_;refine dO [q] [0] [] (by simp) rfl (by decide) (by decide) fun q2 hq hle hfr=>?_
  have kL:k=(gM s).length:=by simp[gM];omega
  exact aS (h:=fun w1 st=>⟨_,rfl,some ⟨g2,0,none⟩,k,by rw[←kL],by rw[←kL];exact(aFq hrows (hle q (by simp)) (hq 0 _ (by simp) rfl) kL).le (st.mH (by simp) (hfr (by simp) (by simpa using rA)))⟩)
end
section
def Hw(s:aC):Int:=if(12:Int) < s.aF.length∨(6:Int) < s.domains.length∨(6:Int) < s.aT.length∨(6:Int) < s.aD.length then 8 else lI (s.aD.map Qr)
def aB9(s:aC):List Int:=[Hw s,lI (s.aF.map (Nz s.aF.length)),Gg (gO s),lI (s.domains.map (Si s.domains.length)),Gg (gM s),lI (s.aT.map aAE),
 lI (s.aD.map (Sn s.aF.length s.domains.length s.aT.length s.aD.length)),Gg (cZ s)]
def Yx(s:aC):Int:=lI (aB9 s)
theorem jN.rows{α:Type}{w:World}{R:α→List Value→Prop}{t:TypeId}{sz n:Nat}{A:Option Addr}{es:List α}(h:jN (fF (all w)) R t sz A n es)(h1:∀e r,R e r→∀u∈r,u.oneCell'=true):
  ∃rows:List (List Value),aI (all w) sz A n rows.flatten∧(∀r∈rows,r.length=sz)∧(∀r∈rows,∀u∈r,u.oneCell'=true)∧rows.length=n∧n=es.length∧∀(i:Nat) (r:List Value),rows[i]? =some r→∃e,es[i]? =some e∧R e r:=by
 obtain⟨rows,h2,h3,h4⟩:=h;refine⟨rows,h4,h2.Ze,fun r hr=>?_,by rw[h2.len.1,h3],h3,fun i r hr=>?_⟩
 ·obtain⟨i,hi⟩:=List.getElem?_of_mem hr;obtain⟨e,_,_,hR⟩:=h2.at_ hi;exact h1 e r hR
 ·obtain⟨e,he,_,hR⟩:=h2.at_ hr;exact⟨e,he,hR⟩
theorem uI.one{S:xO}(e:eD)(r:List Value)(h:uI S e r):∀u∈r,u.oneCell'=true:=by obtain⟨A,n,k,rfl,_⟩:=h;simp[Value.oneCell']
theorem vF.one(e:Dom)(r:List Value)(h:vF e r):∀u∈r,u.oneCell'=true:=by cases h;simp[Value.oneCell']
theorem zH.one(e:Int)(r:List Value)(h:zH e r):∀u∈r,u.oneCell'=true:=by cases h;simp[Value.oneCell']
theorem tJ.one{S:xO}(e:bL)(r:List Value)(h:tJ S e r):∀u∈r,u.oneCell'=true:=by obtain⟨A,n,k,A',n',k',rfl,_⟩:=h;simp[Value.oneCell']
theorem aQ8(s : aC)(A1 A2 A3 A4 : Option Addr)(n1 k1 n2 k2 n3 k3 n4 k4 : Nat)(w : World)(hW : fL w s A1 n1 A2 n2 A3 n3 A4 n4) :
    Cz 118 #[.agg #[.slice A1 n1 k1,.slice A2 n2 k2,.slice A3 n3 k3,.slice A4 n4 k4]] w (Rt (iv (Hw s)) w):=by
  have qI:=hW.nB
  have hn2:=hW.nM
  have oU:=hW.pO
  have qZ:=hW.nZ
  have cS:=hW.small
  unfold aC.small at cS;obtain⟨hs1,fX,sA,tQ,oA,oQ⟩:=cS;obtain⟨rows,eI,iJ,yO,Hj,hr5,Hi⟩:=hW.dev.rows tJ.one;refine aN func118 ntmps118 ?_;refine aB ?_;refine bA fun g1=>?_;refine aB ?_;refine bX (t:=7) rfl (fun hg=>?_) (fun hg=>?_)
  ·
    refine aB ?_;exact aS (h:=fun _ _=>by rw[Hw,if_pos (by omega)])
  ·
    refine aB ?_;refine bX (t:=13) rfl (fun hg=>?_) (fun hg=>?_)
    ·
      refine aB ?_;exact aS (h:=fun _ _=>by rw[Hw,if_pos (by omega)])
    ·
      refine aB ?_;refine bX (t:=19) rfl (fun hg=>?_) (fun hg=>?_)
      ·
        refine aB ?_;exact aS (h:=fun _ _=>by rw[Hw,if_pos (by omega)])
      ·
        refine aB ?_;refine aG rfl (fun h=>?_) (fun h=>?_)
        ·
          refine aB ?_;exact aS (h:=fun _ _=>by rw[Hw,if_pos (by omega)])
        ·
          refine aB ?_
          refine dH (fun w1 st=>aIS A4 n4 k4 193 [] rows (s.aD.map Qr) w1 (eI.le (jS (st.started (by simp)))) iJ yO Hj (by simp;omega) (by omega) (by kernel_rfl) (fun i r x hr hx w2 eY=>by
    have jV:=(st.started (by simp)).trans (eY.mono st.size)
    obtain⟨e,he,hR⟩:=Hi i r hr;rw[List.getElem?_map,he] at hx;cases hx;obtain⟨Ar,nr,kr,Af,nf,kf,rfl,iK,hnf,_,pP⟩:=hR
    exact aQ9 e.aL e.iX _ _ _ _ _ _ _ _ _ _ w2 iK hnf)) ?_
          refine aB ?_;exact aS (h:=fun _ _=>by rw[Hw,if_neg (by omega)])
theorem check_1(s:aC)(A1 A2 A3 A4:Option Addr)(n1 k1 n2 k2 n3 k3 n4 k4:Nat)(w:World)(hW:fL w s A1 n1 A2 n2 A3 n3 A4 n4)(gs:Nat)(hs:eG w gs 0 [.slice A1 n1 k1,.slice A2 n2 k2,.slice A3 n3 k3,.slice A4 n4 k4]):
  Cz 117 #[pt gs] w (Rt (iv (Hw s)) w):=by
 have qI:=hW.nB
 have hn2:=hW.nM
 have oU:=hW.pO
 have qZ:=hW.nZ
 have cS:=hW.small
 unfold aC.small at cS;obtain⟨hs1,fX,sA,tQ,oA,oQ⟩:=cS;refine aN func117 ntmps117 ?_;refine aB ?_;refine dH (fun w1 st=>aQ8 s A1 A2 A3 A4 n1 k1 n2 k2 n3 k3 n4 k4 w1 (hW.le (st.started (by simp)))) ?_;refine aB ?_;exact aS (h:=fun _ _=>rfl)
theorem aSF(kind rate mul div lock:Int)(A:Option Addr)(n k:Nat)(A1 A2 A3 A4:Option Addr)(n1 k1 n2 k2 n3 k3 n4 k4:Nat)(gs:Nat)(w:World)(hs:eG w gs 0 [.slice A1 n1 k1,.slice A2 n2 k2,.slice A3 n3 k3,.slice A4 n4 k4])(mN:(n1:Int)≤9223372036854775806)(zs:List Int)(hA:aI (all w) 1 A n (aK zs))(hn:n=zs.length)(hz:(n:Int)≤9223372036854775806):
  Cz 121 #[.agg #[.int .u8 kind,.slice A n k,.int .u64 rate,iv mul,iv div,iv lock],pt gs] w (Rt (iv (Nz n1 ⟨kind,zs,rate,mul,div,lock⟩)) w):=by
 refine aN func121 ntmps121 ?_;refine aB ?_;refine bA fun g1=>?_;refine aB ?_;refine dH (fun w1 st=>aSp kind rate mul div lock A n k A1 A2 A3 A4 n1 k1 n2 k2 n3 k3 n4 k4 w1 mN zs (hA.le (jS (st.started (by simp)))) hn hz) ?_;refine aB ?_;exact aS (h:=fun _ _=>rfl)
theorem aSC(above delay:Int)(ret:Bool)(A1 A2 A3 A4:Option Addr)(n1 k1 n2 k2 n3 k3 n4 k4:Nat)(gs:Nat)(w:World)(hs:eG w gs 0 [.slice A1 n1 k1,.slice A2 n2 k2,.slice A3 n3 k3,.slice A4 n4 k4])(oP:(n2:Int)≤9223372036854775806):
  Cz 128 #[.agg #[iv above,iv delay,.bool ret],pt gs] w (Rt (iv (Si n2 ⟨above,delay,ret⟩)) w):=by
 refine aN func128 ntmps128 ?_;refine aB ?_;refine bA fun g1=>?_;refine aB ?_;refine dH (fun w1 st=>aR9 above delay ret A1 A2 A3 A4 n1 k1 n2 k2 n3 k3 n4 k4 w1 oP) ?_;refine aB ?_;exact aS (h:=fun _ _=>rfl)
theorem aS8(rg:List Rg)(clock domain reset iT:Int)(A B:Option Addr)(n k nb kb:Nat)(A1 A2 A3 A4:Option Addr)(n1 k1 n2 k2 n3 k3 n4 k4:Nat)(gs:Nat)(w:World)(hs:eG w gs 0 [.slice A1 n1 k1,.slice A2 n2 k2,.slice A3 n3 k3,.slice A4 n4 k4])(mN:(n1:Int)≤9223372036854775806)(oP:(n2:Int)≤9223372036854775806)(Mm:(n3:Int)≤9223372036854775806)(Fe:(n4:Int)≤9223372036854775806)(zs:List Int)(hA:aI (all w) 1 A n (aK zs))(hn:n=zs.length)(hz:(n:Int)≤9223372036854775806):
  Cz 137 #[.agg #[iv clock,iv domain,iv reset,.int .u32 iT,.slice B nb kb,.slice A n k],pt gs] w (Rt (iv (Sn n1 n2 n3 n4 ⟨clock,domain,reset,iT,rg,zs⟩)) w):=by
 refine aN func137 ntmps137 ?_;refine aB ?_;refine bA fun g1=>?_;refine aB ?_;refine dH (fun w1 st=>aRR rg clock domain reset iT A B n k nb kb A1 A2 A3 A4 n1 k1 n2 k2 n3 k3 n4 k4 w1 mN oP Mm Fe zs (hA.le (jS (st.started (by simp)))) hn hz) ?_;refine aB ?_;exact aS (h:=fun _ _=>rfl)
theorem aSG(s:aC)(A1 A2 A3 A4:Option Addr)(n1 k1 n2 k2 n3 k3 n4 k4:Nat)(w:World)(hW:fL w s A1 n1 A2 n2 A3 n3 A4 n4)(gs:Nat)(hs:eG w gs 0 [.slice A1 n1 k1,.slice A2 n2 k2,.slice A3 n3 k3,.slice A4 n4 k4]):
  Cz 119 #[pt gs] w (Rt (iv (lI (s.aF.map (Nz s.aF.length)))) w):=by
 have qI:=hW.nB
 have hn2:=hW.nM
 have oU:=hW.pO
 have qZ:=hW.nZ
 have cS:=hW.small
 unfold aC.small at cS;obtain⟨hs1,fX,sA,tQ,oA,oQ⟩:=cS;obtain⟨rows,eI,iJ,yO,Hj,hr5,Hi⟩:=hW.jK.rows uI.one;rw[←qI];refine aN func119 ntmps119 ?_;refine aA ?_;refine kO (vf:=[]) (vc:=[pt gs]) rfl rfl (by decide) ?_
 refine dH (fun w1 st=>aRq A1 n1 k1 121 [pt gs] rows (s.aF.map (Nz n1)) w1 (eI.le (jS (st.started (by simp)))) iJ yO Hj (by simp;omega) (by omega) (by kernel_rfl) (fun i r x hr hx w2 eY=>by
  have jV:=(st.started (by simp)).trans (eY.mono st.size)
  obtain⟨e,he,hR⟩:=Hi i r hr;rw[List.getElem?_map,he] at hx;cases hx;obtain⟨Af,nf,kf,rfl,hnf,pP⟩:=hR
  exact aSF _ _ _ _ _ _ _ _ A1 A2 A3 A4 n1 k1 n2 k2 n3 k3 n4 k4 gs w2 (hs.below jV) (by omega) e.src (aI.le pP (jS jV)) hnf (by have:=oA e (List.mem_of_getElem? he);omega))) ?_
 refine aA ?_;exact aS (h:=fun _ _=>rfl)
theorem aSD(s:aC)(A1 A2 A3 A4:Option Addr)(n1 k1 n2 k2 n3 k3 n4 k4:Nat)(w:World)(hW:fL w s A1 n1 A2 n2 A3 n3 A4 n4)(gs:Nat)(hs:eG w gs 0 [.slice A1 n1 k1,.slice A2 n2 k2,.slice A3 n3 k3,.slice A4 n4 k4]):
  Cz 126 #[pt gs] w (Rt (iv (lI (s.domains.map (Si s.domains.length)))) w):=by
 have qI:=hW.nB
 have hn2:=hW.nM
 have oU:=hW.pO
 have qZ:=hW.nZ
 have cS:=hW.small
 unfold aC.small at cS;obtain⟨hs1,fX,sA,tQ,oA,oQ⟩:=cS;obtain⟨rows,eI,iJ,yO,Hj,hr5,Hi⟩:=hW.dom.rows vF.one;rw[←hn2];refine aN func126 ntmps126 ?_;refine aA ?_;refine kO (vf:=[]) (vc:=[pt gs]) rfl rfl (by decide) ?_
 refine dH (fun w1 st=>aRp A2 n2 k2 128 [pt gs] rows (s.domains.map (Si n2)) w1 (eI.le (jS (st.started (by simp)))) iJ yO Hj (by simp;omega) (by omega) (by kernel_rfl) (fun i r x hr hx w2 eY=>by
  have jV:=(st.started (by simp)).trans (eY.mono st.size)
  obtain⟨e,he,hR⟩:=Hi i r hr;rw[List.getElem?_map,he] at hx;cases hx;obtain rfl:=hR
  exact aSC _ _ _ A1 A2 A3 A4 n1 k1 n2 k2 n3 k3 n4 k4 gs w2 (hs.below jV) (by omega))) ?_
 refine aA ?_;exact aS (h:=fun _ _=>rfl)
theorem aSA(s:aC)(A1 A2 A3 A4:Option Addr)(n1 k1 n2 k2 n3 k3 n4 k4:Nat)(w:World)(hW:fL w s A1 n1 A2 n2 A3 n3 A4 n4)(gs:Nat)(hs:eG w gs 0 [.slice A1 n1 k1,.slice A2 n2 k2,.slice A3 n3 k3,.slice A4 n4 k4]):
  Cz 132 #[pt gs] w (Rt (iv (lI (s.aT.map aAE))) w):=by
 have qI:=hW.nB
 have hn2:=hW.nM
 have oU:=hW.pO
 have qZ:=hW.nZ
 have cS:=hW.small
 unfold aC.small at cS;obtain⟨hs1,fX,sA,tQ,oA,oQ⟩:=cS;obtain⟨rows,eI,iJ,yO,Hj,hr5,Hi⟩:=hW.Ct.rows zH.one;refine aN func132 ntmps132 ?_;refine aB ?_
 refine dH (fun w1 st=>aRo A3 n3 k3 134 [] rows (s.aT.map aAE) w1 (eI.le (jS (st.started (by simp)))) iJ yO Hj (by simp;omega) (by omega) (by kernel_rfl) (fun i r x hr hx w2 eY=>by
  have jV:=(st.started (by simp)).trans (eY.mono st.size)
  obtain⟨e,he,hR⟩:=Hi i r hr;rw[List.getElem?_map,he] at hx;cases hx;obtain rfl:=hR
  exact aMI _ w2)) ?_
 refine aB ?_;exact aS (h:=fun _ _=>rfl)
theorem aS9(s:aC)(A1 A2 A3 A4:Option Addr)(n1 k1 n2 k2 n3 k3 n4 k4:Nat)(w:World)(hW:fL w s A1 n1 A2 n2 A3 n3 A4 n4)(gs:Nat)(hs:eG w gs 0 [.slice A1 n1 k1,.slice A2 n2 k2,.slice A3 n3 k3,.slice A4 n4 k4]):
  Cz 135 #[pt gs] w (Rt (iv (lI (s.aD.map (Sn s.aF.length s.domains.length s.aT.length s.aD.length)))) w):=by
 have qI:=hW.nB
 have hn2:=hW.nM
 have oU:=hW.pO
 have qZ:=hW.nZ
 have cS:=hW.small
 unfold aC.small at cS;obtain⟨hs1,fX,sA,tQ,oA,oQ⟩:=cS;obtain⟨rows,eI,iJ,yO,Hj,hr5,Hi⟩:=hW.dev.rows tJ.one;rw[←qI,←hn2,←oU,←qZ];refine aN func135 ntmps135 ?_;refine aA ?_;refine kO (vf:=[]) (vc:=[pt gs]) rfl rfl (by decide) ?_
 refine dH (fun w1 st=>aIS A4 n4 k4 137 [pt gs] rows (s.aD.map (Sn n1 n2 n3 n4)) w1 (eI.le (jS (st.started (by simp)))) iJ yO Hj (by simp;omega) (by omega) (by kernel_rfl) (fun i r x hr hx w2 eY=>by
  have jV:=(st.started (by simp)).trans (eY.mono st.size)
  obtain⟨e,he,hR⟩:=Hi i r hr;rw[List.getElem?_map,he] at hx;cases hx;obtain⟨Ar,nr,kr,Af,nf,kf,rfl,iK,hnf,_,pP⟩:=hR
  exact aS8 e.aL _ _ _ _ _ _ _ _ _ _ A1 A2 A3 A4 n1 k1 n2 k2 n3 k3 n4 k4 gs w2 (hs.below jV) (by omega) (by omega) (by omega) (by omega) e.iX (aI.le pP (jS jV)) hnf (by have:=oQ e (List.mem_of_getElem? he);omega))) ?_
 refine aA ?_;exact aS (h:=fun _ _=>rfl)
theorem aSE(s:aC)(A1 A2 A3 A4:Option Addr)(n1 k1 n2 k2 n3 k3 n4 k4:Nat)(w:World)(hW:fL w s A1 n1 A2 n2 A3 n3 A4 n4)(gs:Nat)(hs:eG w gs 0 [.slice A1 n1 k1,.slice A2 n2 k2,.slice A3 n3 k3,.slice A4 n4 k4]):
  Cz 123 #[pt gs] w (Rt (iv (Gg (gO s))) w):=by
 have qI:=hW.nB
 have hn2:=hW.nM
 have oU:=hW.pO
 have qZ:=hW.nZ
 have cS:=hW.small
 unfold aC.small at cS;obtain⟨hs1,fX,sA,tQ,oA,oQ⟩:=cS;refine aN func123 ntmps123 ?_;refine aB ?_;refine jQ [] (wO (gO s)) (fun w1 st=>aJr s A1 A2 A3 A4 n1 k1 n2 k2 n3 k3 n4 k4 w1 (hW.le (st.started (by simp)))) ?_;rintro _ w1 q ⟨Ag,cg,rfl,lH⟩ hf' _ Fp
 have Wv:=lH.le hf'
 have kL:(gO s).length=n1:=by simp[gO];omega
 refine dH (fun w1 st=>aE5 Ag _ cg (gO s) w1 (Wv.le (st.le (by simp))) rfl (by omega) (fun l hl=>by
  simp only[gO,List.mem_map] at hl;obtain⟨x,hx,rfl⟩:=hl
  have:=oA x hx;omega)) ?_
 refine aB ?_;exact aS (h:=fun _ _=>rfl)
theorem aSB(s:aC)(A1 A2 A3 A4:Option Addr)(n1 k1 n2 k2 n3 k3 n4 k4:Nat)(w:World)(hW:fL w s A1 n1 A2 n2 A3 n3 A4 n4)(gs:Nat)(hs:eG w gs 0 [.slice A1 n1 k1,.slice A2 n2 k2,.slice A3 n3 k3,.slice A4 n4 k4]):
  Cz 130 #[pt gs] w (Rt (iv (Gg (gM s))) w):=by
 have qI:=hW.nB
 have hn2:=hW.nM
 have oU:=hW.pO
 have qZ:=hW.nZ
 have cS:=hW.small
 unfold aC.small at cS;obtain⟨hs1,fX,sA,tQ,oA,oQ⟩:=cS;refine aN func130 ntmps130 ?_;refine aB ?_;refine jQ [] (wO (gM s)) (fun w1 st=>aIX s A1 A2 A3 A4 n1 k1 n2 k2 n3 k3 n4 k4 w1 (hW.le (st.started (by simp)))) ?_;rintro _ w1 q ⟨Ag,cg,rfl,lH⟩ hf' _ Fp
 have Wv:=lH.le hf'
 have kL:(gM s).length=n2:=by simp[gM];omega
 refine dH (fun w1 st=>aE5 Ag _ cg (gM s) w1 (Wv.le (st.le (by simp))) rfl (by omega) (fun l hl=>by
  simp only[gM,List.mem_map] at hl;obtain⟨x,hx,rfl⟩:=hl
  split<;>simp)) ?_
 refine aB ?_;exact aS (h:=fun _ _=>rfl)
theorem aS7(s:aC)(A1 A2 A3 A4:Option Addr)(n1 k1 n2 k2 n3 k3 n4 k4:Nat)(w:World)(hW:fL w s A1 n1 A2 n2 A3 n3 A4 n4)(gs:Nat)(hs:eG w gs 0 [.slice A1 n1 k1,.slice A2 n2 k2,.slice A3 n3 k3,.slice A4 n4 k4]):
  Cz 139 #[pt gs] w (Rt (iv (Gg (cZ s))) w):=by
 have qI:=hW.nB
 have hn2:=hW.nM
 have oU:=hW.pO
 have qZ:=hW.nZ
 have cS:=hW.small
 unfold aC.small at cS;obtain⟨hs1,fX,sA,tQ,oA,oQ⟩:=cS;refine aN func139 ntmps139 ?_;refine aB ?_;refine jQ [] (wO (cZ s)) (fun w1 st=>aHy s A1 A2 A3 A4 n1 k1 n2 k2 n3 k3 n4 k4 w1 (hW.le (st.started (by simp)))) ?_;rintro _ w1 q ⟨Ag,cg,rfl,lH⟩ hf' _ Fp
 have Wv:=lH.le hf'
 have kL:(cZ s).length=n4:=by simp[cZ];omega
 refine dH (fun w1 st=>aE5 Ag _ cg (cZ s) w1 (Wv.le (st.le (by simp))) rfl (by omega) (fun l hl=>by
  simp only[cZ,List.mem_map] at hl;obtain⟨x,hx,rfl⟩:=hl
  have:=oQ x hx;omega)) ?_
 refine aB ?_;exact aS (h:=fun _ _=>rfl)
theorem aB8(s:aC)(A1 A2 A3 A4:Option Addr)(n1 k1 n2 k2 n3 k3 n4 k4:Nat)(w:World)(hW:fL w s A1 n1 A2 n2 A3 n3 A4 n4):
  Cz 62 #[.agg #[.slice A1 n1 k1,.slice A2 n2 k2,.slice A3 n3 k3,.slice A4 n4 k4]] w (Rt (iv (Yx s)) w):=by
 refine aN func62 ntmps62 ?_;refine aA ?_;refine bA fun g1=>?_;refine aA ?_;refine kO (vf:=[]) (vc:=[pt g1]) rfl rfl (by decide) ?_;refine kO (vf:=[]) (vc:=[pt g1]) rfl rfl (by decide) ?_;refine kO (vf:=[]) (vc:=[pt g1]) rfl rfl (by decide) ?_;refine kO (vf:=[]) (vc:=[pt g1]) rfl rfl (by decide) ?_;refine kO (vf:=[]) (vc:=[pt g1]) rfl rfl (by decide) ?_;refine kO (vf:=[]) (vc:=[pt g1]) rfl rfl (by decide) ?_;refine kO (vf:=[]) (vc:=[pt g1]) rfl rfl (by decide) ?_;refine kO (vf:=[]) (vc:=[pt g1]) rfl rfl (by decide) ?_;refine eH fun g2=>?_
 refine dH (fun w1 st=>aB1 _ _ _ [(117,[pt g1]),(119,[pt g1]),(123,[pt g1]),(126,[pt g1]),(130,[pt g1]),(132,[pt g1]),(135,[pt g1]),(139,[pt g1])] (aB9 s) w1 (st.rQ (i:=0) (n:=8) (sz:=1) (cs:=[.func (.func 117) #[] #[pt g1],.func (.func 119) #[] #[pt g1],.func (.func 123) #[] #[pt g1],.func (.func 126) #[] #[pt g1],.func (.func 130) #[] #[pt g1],.func (.func 132) #[] #[pt g1],.func (.func 135) #[] #[pt g1],.func (.func 139) #[] #[pt g1]]) rfl rfl) rfl rfl (by decide) (by simp only[List.mem_cons,List.not_mem_nil,or_false];rintro f (rfl | rfl | rfl | rfl | rfl | rfl | rfl | rfl)<;>kernel_rfl) (fun i f x hf hx w2 eY=>by
  have jV:=(st.started (by simp)).trans (eY.mono st.size)
  unfold aB9 at hx
  match i,hf,hx with
  | 0,hf,hx=>cases hf;cases hx;exact check_1 s A1 A2 A3 A4 n1 k1 n2 k2 n3 k3 n4 k4 w2 (hW.le jV) g1 (st.box (cs:=[.slice A1 n1 k1,.slice A2 n2 k2,.slice A3 n3 k3,.slice A4 n4 k4]) (i:=1) rfl|>.below eY)
  | 1,hf,hx=>cases hf;cases hx;exact aSG s A1 A2 A3 A4 n1 k1 n2 k2 n3 k3 n4 k4 w2 (hW.le jV) g1 (st.box (cs:=[.slice A1 n1 k1,.slice A2 n2 k2,.slice A3 n3 k3,.slice A4 n4 k4]) (i:=1) rfl|>.below eY)
  | 2,hf,hx=>cases hf;cases hx;exact aSE s A1 A2 A3 A4 n1 k1 n2 k2 n3 k3 n4 k4 w2 (hW.le jV) g1 (st.box (cs:=[.slice A1 n1 k1,.slice A2 n2 k2,.slice A3 n3 k3,.slice A4 n4 k4]) (i:=1) rfl|>.below eY)
  | 3,hf,hx=>cases hf;cases hx;exact aSD s A1 A2 A3 A4 n1 k1 n2 k2 n3 k3 n4 k4 w2 (hW.le jV) g1 (st.box (cs:=[.slice A1 n1 k1,.slice A2 n2 k2,.slice A3 n3 k3,.slice A4 n4 k4]) (i:=1) rfl|>.below eY)
  | 4,hf,hx=>cases hf;cases hx;exact aSB s A1 A2 A3 A4 n1 k1 n2 k2 n3 k3 n4 k4 w2 (hW.le jV) g1 (st.box (cs:=[.slice A1 n1 k1,.slice A2 n2 k2,.slice A3 n3 k3,.slice A4 n4 k4]) (i:=1) rfl|>.below eY)
  | 5,hf,hx=>cases hf;cases hx;exact aSA s A1 A2 A3 A4 n1 k1 n2 k2 n3 k3 n4 k4 w2 (hW.le jV) g1 (st.box (cs:=[.slice A1 n1 k1,.slice A2 n2 k2,.slice A3 n3 k3,.slice A4 n4 k4]) (i:=1) rfl|>.below eY)
  | 6,hf,hx=>cases hf;cases hx;exact aS9 s A1 A2 A3 A4 n1 k1 n2 k2 n3 k3 n4 k4 w2 (hW.le jV) g1 (st.box (cs:=[.slice A1 n1 k1,.slice A2 n2 k2,.slice A3 n3 k3,.slice A4 n4 k4]) (i:=1) rfl|>.below eY)
  | 7,hf,hx=>cases hf;cases hx;exact aS7 s A1 A2 A3 A4 n1 k1 n2 k2 n3 k3 n4 k4 w2 (hW.le jV) g1 (st.box (cs:=[.slice A1 n1 k1,.slice A2 n2 k2,.slice A3 n3 k3,.slice A4 n4 k4]) (i:=1) rfl|>.below eY)
  | i+8,hf,_=>simp at hf)) ?_
 refine aA ?_;exact aS (h:=fun _ _=>rfl)
end
section
attribute [local irreducible] KC KI KQ
def bE(l:List Bool):List Value:=l.map .bool
theorem aJ5{l:List Bool}{i:Nat}{b:Bool}(h:l[i]? =some b):(bE l)[i]? =some (.bool b):=by simp[bE,h]
def hasB(l:List Bool)(i:Nat):Bool:=l[i]?.getD false
def RP(p:Piece)(g o:Nat)(v:Value):Prop:=p.Z g∧p.w.cell? ⟨g,o,none⟩=some v
theorem RP.le{p q:Piece}{g o:Nat}{v:Value}(h:RP p g o v)(hl:p.Le q):RP q g o v:=⟨(hl g h.1).1,(World.cell?_of_block (w:=p.w) (a:=⟨g,o,none⟩) (hl g h.1).2).trans h.2⟩
theorem RP.rd{w0:World}{R:List Piece}{H:List HP}{p:Piece}{g o:Nat}{v:Value}(h:RP p g o v)(hp:p∈R):Rd w0 R H g o v:=Rd.ro hp h.1 h.2
theorem Iter.le{P:Program}{g:FuncId}{lb:List Value}{encs:List (List Value)}{p q:Piece}(h:Iter P g lb encs p)(hl:p.Le q):Iter P g lb encs q:=fun l J Jx W F hq hd=>h l J Jx W F (fun b hb=>⟨(hq b (hl b hb).1).1,((hq b (hl b hb).1).2).trans (hl b hb).2⟩) (fun b hb=>hd b (hl b hb).1)
theorem aQW{α:Type}{l:List α}{s:α→Bool}{k:Nat}{x:α}(hx:l[k]? =some x)(hs:s x=true):(l.filter s)[((l.take k).filter s).length]? =some x∧((l.take (k+1)).filter s).length=((l.take k).filter s).length+1:=by
 have h1:l.take (k+1)=l.take k++[x]:=by rw[List.take_add_one,hx];rfl
 have h2:l=l.take k++x::l.drop (k+1):=by
  have hlt:=(List.getElem?_eq_some_iff.1 hx).1
  have hv:=(List.getElem?_eq_some_iff.1 hx).2
  rw[←hv,List.getElem_cons_drop hlt,List.take_append_drop]
 refine⟨?_,by rw[h1,List.filter_append];simp[hs]⟩
 have h3:l.filter s=(l.take k).filter s++(x::l.drop (k+1)).filter s:=by rw[←List.filter_append,←h2]
 rw[h3,List.getElem?_append_right (Nat.le_refl _),Nat.sub_self,List.filter_cons_of_pos hs];rfl
theorem aIH{α:Type}{l:List α}{s:α→Bool}{k:Nat}{x:α}(hx:l[k]? =some x)(hs:s x=false):((l.take (k+1)).filter s).length=((l.take k).filter s).length:=by
 rw[List.take_add_one,hx,Option.toList_some,List.filter_append];simp[hs]
def sO(fr to:List Bool)(i:Nat):Bool:=hasB to i&& !hasB fr i
def eW(order:List Nat)(fr to:List Bool):List Nat:=order.filter (sO fr to)
def xB(ids:List Nat):List (List Value):=ids.map fun(i:Nat)=>[iv (i:Int)]
theorem aDZ(A:Option Addr)(n c i:Nat)(bs:List Bool)(w:World)(hs:aI (all w) 1 A n (bE bs))(hn:n=bs.length)(hi:(i:Int)≤9223372036854775807):
  Cz 152 #[.slice A n c,iv i] w (Rt (.bool (hasB bs i)) w):=by
 refine aN func152 ntmps152 ?_;refine aB ?_;refine bX (t:=9) rfl (fun hg=>?_) (fun hg=>?_)
 ·
  refine aB ?_
  have hin:i < bs.length:=by omega
  obtain⟨b,off,rfl,hz,hc⟩:=hs.2 (by omega);obtain⟨v,hv⟩:∃v,bs[i]? =some v:=⟨_,List.getElem?_eq_getElem hin⟩
  have c1:fR w b (off+i) (.bool v):=⟨hz,hc i _ (aJ5 hv)⟩
  refine aB ?_;exact aS (h:=fun _ _=>by rw[hasB,hv];rfl)
 ·
  refine aB ?_;exact aS (h:=fun _ _=>by rw[hasB,List.getElem?_eq_none (by omega)];rfl)
theorem aOs(p:Piece)(g1 g2 g3 n Jm nf c ct cf:Nat)(A At Af:Option Addr)(order:List Nat)(fr to:List Bool)(h1:RP p g1 0 (.slice A n c))(h2:RP p g2 0 (.slice At Jm ct))(h3:RP p g3 0 (.slice Af nf cf))
  (hs:aI p 1 A n (aK (dL order))) (hn:n=order.length) (hn2:(n:Int)≤9223372036854775806) (hst:aI p 1 At Jm (bE to)) (hnt:Jm=to.length) (pP:aI p 1 Af nf (bE fr)) (hnf:nf=fr.length) (My:∀i∈order,(i:Int)≤9223372036854775807):
  Iter Tryz.prog 288 [pt g1,pt g2,pt g3] (xB (eW order fr to)) p:=by
 unfold Iter;intro l J Jx W F hp hd hJ hF hY;refine aCd (vs:=[.func (.yield l) #[] #[],pt g1,pt g2,pt g3]) func288 rfl ntmps288 (by simp) (aFg hp hd hJ hF) ?_;dsimp only[List.cons_append,List.nil_append];refine kE ?_;refine kV (by kernel_rfl) ?_;refine jE (by kernel_rfl) rfl (h1.rd (by simp)) (by decide) ?_;refine Ei (el:=3) (by kernel_rfl) rfl (by decide) ?_;refine cQ rfl (by decide) ?_;refine kW ?_;refine eU ?_;refine bK [(9,iv 0),(8,iv n),(7,.slice A n c),(3,pt g3),(2,pt g2),(0,.func (.yield l) #[] #[])] ?_;refine Bx ?_;refine aEV (fun m L e R H=>∃k:Nat,k≤n∧m=n - k∧L=[]∧e=[(9,iv k),(8,iv n),(7,.slice A n c),(3,pt g3),(2,pt g2),(0,.func (.yield l) #[] #[])]∧R=[p,nt W F]∧H=[J (((order.take k).filter (sO fr to)).length),uG []]) n ⟨0,by omega,rfl,rfl,rfl,rfl,rfl⟩ fun m L e R H hI=>?_;obtain⟨k,hk,rfl,rfl,rfl,rfl,rfl⟩:=hI;refine kE ?_;refine kV (by kernel_rfl) ?_;refine Pp rfl rfl (by decide) ?_;refine kW ?_;refine eU ?_;refine kE ?_;refine aCc rfl (fun h=>?_) (fun h=>?_)
 ·
  refine Is ?_;refine eU ?_;refine kE ?_;refine Bx ?_;refine kE ?_
  have hkn:k < order.length:=by omega
  obtain⟨b,off,rfl,hz,hc⟩:=hs.2 (by omega);obtain⟨i,hi⟩:∃i,order[k]? =some i:=⟨_,List.getElem?_eq_getElem hkn⟩
  have hib:=My i (List.mem_of_getElem? hi)
  refine kV (by kernel_rfl) ?_;refine kd (dat (k) (off+k)) ?_;refine jE (by kernel_rfl) rfl (Rd.ro (p:=p) (by simp) hz (hc k (iv (i:Int)) (by simp[aK,dL,hi]))) (by decide) ?_;refine fQ rfl (by decide) ?_;refine kW ?_;refine eU ?_;refine kE ?_;refine aKe ?_;refine jI (by kernel_rfl) ?_;refine jE (by kernel_rfl) rfl (h2.rd (by simp)) (by decide) ?_;refine jJ ?_;refine jI (by kernel_rfl) ?_;refine cQ rfl (by decide) ?_;refine jJ ?_;refine jI (by kernel_rfl) ?_;refine dH (fun w1 st=>aDZ _ _ _ i to w1 (hst.le (st.le (by simp))) hnt (by omega)) ?_;refine jJ ?_;refine jI (by kernel_rfl) ?_;refine cQ rfl (by decide) ?_;refine jJ ?_;refine sL (t:=16) rfl (fun hg=>?_) (fun hg=>?_)
  ·
   refine jI (by kernel_rfl) ?_;refine fP rfl rfl ?_;refine jE (by kernel_rfl) rfl (h3.rd (by simp)) (by decide) ?_;refine jJ ?_;refine jI (by kernel_rfl) ?_;refine fP rfl rfl ?_;refine cQ rfl (by decide) ?_;refine jJ ?_;refine jI (by kernel_rfl) ?_;refine fP rfl rfl ?_;refine dH (fun w1 st=>aDZ _ _ _ i fr w1 (pP.le (st.le (by simp))) hnf (by omega)) ?_;refine jJ ?_;refine jI (by kernel_rfl) ?_;refine fP rfl rfl ?_;(first | refine Lu rfl (by decide) ?_ | refine zP rfl (by decide) ?_);refine jJ ?_;refine jI (by kernel_rfl) ?_;(first | refine pY rfl rfl (by decide) ?_ | refine pZ rfl rfl (by decide) ?_);refine jJ ?_;refine jI (by kernel_rfl) ?_;refine cQ rfl (by decide) ?_;refine jJ ?_;refine sL (t:=22) rfl (fun Fo=>?_) (fun Fo=>?_)
   ·
    refine jI (by kernel_rfl) ?_;refine fP rfl rfl ?_;refine cQ rfl (by decide) ?_;refine jJ ?_;refine jI (by kernel_rfl) ?_;refine fP rfl rfl ?_;refine cQ rfl (by decide) ?_;refine jJ ?_
    have hsel:sO fr to i=true:=by rw[sO,hg,Fo];rfl
    obtain⟨gL,nR⟩:=aQW hi hsel;refine aTL rfl rfl ?_;refine aET 0 rfl rfl (by decide) (by simp:nt W F∈[p,nt W F]) (xP.refl W) rfl (fun W1 F1 h1 h2 h3=>hY _ [iv i] W1 F1 (by simp[xB,eW,gL]) h1 h2 h3) ?_ ?_
    rotate_left
    ·
     refine jI (by kernel_rfl) ?_;refine fP rfl rfl ?_;refine zP rfl (by decide) ?_;refine jJ ?_;refine jI (by kernel_rfl) ?_;(first | refine pY rfl rfl (by decide) ?_ | refine pZ rfl rfl (by decide) ?_);refine jJ ?_;refine Lf ?_;refine eU ?_;refine It rfl (fun _=>?_) (fun h=>by cases h);refine Oq ?_;refine eU ?_;refine To (Hs:=[Jx (((order.take k).filter (sO fr to)).length+1)]) (.inl rfl) rfl fun w1 st=>?_;obtain⟨F',h1,h2⟩:=st.turns hF (by simp[nt]) (i:=0) rfl;exact⟨⟨_,rfl⟩,F',h2,.inr ⟨_,by simp[xB,eW];exact(List.getElem?_eq_some_iff.1 gL).1,h1⟩⟩
    dsimp only[List.set];refine jI (by kernel_rfl) ?_;refine fP rfl rfl ?_;refine zP rfl (by decide) ?_;refine jJ ?_;refine jI (by kernel_rfl) ?_;(first | refine pY rfl rfl (by decide) ?_ | refine pZ rfl rfl (by decide) ?_);refine jJ ?_;refine Lf ?_;refine eU ?_;refine It rfl (fun h=>by cases h) (fun _=>?_)
    ·skip
     refine Is ?_;refine eU ?_;refine kV (by kernel_rfl) ?_;refine zU rfl rfl (iR (by omega)) (by decide) ?_;refine cQ rfl (by decide) ?_;refine kW ?_;refine eU ?_;exact bK [(9,iv (k+1)),(8,iv n),(7,.slice (some ⟨b,off,none⟩) n c),(3,pt g3),(2,pt g2),(0,.func (.yield l) #[] #[])] (Zy (n - (k+1)) (by omega) ⟨k+1,by omega,rfl,rfl,rfl,rfl,by rw[nR]⟩)
   ·
    refine jI (by kernel_rfl) ?_;refine fV rfl rfl rfl (by decide) ?_;refine jJ ?_;refine jI (by kernel_rfl) ?_;refine fV rfl rfl rfl (by decide) ?_;refine jJ ?_;refine jI (by kernel_rfl) ?_;refine fV rfl rfl rfl (by decide) ?_;refine jJ ?_;refine jI (by kernel_rfl) ?_;refine fV rfl rfl rfl (by decide) ?_;refine jJ ?_;refine jI (by kernel_rfl) ?_;(first | refine pY rfl rfl (by decide) ?_ | refine pZ rfl rfl (by decide) ?_);refine jJ ?_;refine Lf ?_;refine eU ?_;refine It rfl (fun h=>by cases h) (fun _=>?_);refine Is ?_;refine eU ?_;refine kV (by kernel_rfl) ?_;refine zU rfl rfl (iR (by omega)) (by decide) ?_;refine cQ rfl (by decide) ?_;refine kW ?_;refine eU ?_
    have hsel:sO fr to i=false:=by rw[sO,hg];simpa using Fo
    exact bK [(9,iv (k+1)),(8,iv n),(7,.slice (some ⟨b,off,none⟩) n c),(3,pt g3),(2,pt g2),(0,.func (.yield l) #[] #[])] (Zy (n - (k+1)) (by omega) ⟨k+1,by omega,rfl,rfl,rfl,rfl,by rw[aIH hi hsel]⟩)
  ·
   refine jI (by kernel_rfl) ?_;refine fV rfl rfl rfl (by decide) ?_;refine jJ ?_;refine jI (by kernel_rfl) ?_;refine fV rfl rfl rfl (by decide) ?_;refine jJ ?_;refine jI (by kernel_rfl) ?_;refine fV rfl rfl rfl (by decide) ?_;refine jJ ?_;refine jI (by kernel_rfl) ?_;refine fV rfl rfl rfl (by decide) ?_;refine jJ ?_;refine jI (by kernel_rfl) ?_;(first | refine pY rfl rfl (by decide) ?_ | refine pZ rfl rfl (by decide) ?_);refine jJ ?_;refine jI (by kernel_rfl) ?_;refine cQ rfl (by decide) ?_;refine jJ ?_;refine jI (by kernel_rfl) ?_;refine fV rfl rfl rfl (by decide) ?_;refine jJ ?_;refine jI (by kernel_rfl) ?_;refine fV rfl rfl rfl (by decide) ?_;refine jJ ?_;refine jI (by kernel_rfl) ?_;refine fV rfl rfl rfl (by decide) ?_;refine jJ ?_;refine jI (by kernel_rfl) ?_;refine fV rfl rfl rfl (by decide) ?_;refine jJ ?_;refine jI (by kernel_rfl) ?_;(first | refine pY rfl rfl (by decide) ?_ | refine pZ rfl rfl (by decide) ?_);refine jJ ?_;refine Lf ?_;refine eU ?_;refine It rfl (fun h=>by cases h) (fun _=>?_);refine Is ?_;refine eU ?_;refine kV (by kernel_rfl) ?_;refine zU rfl rfl (iR (by omega)) (by decide) ?_;refine cQ rfl (by decide) ?_;refine kW ?_;refine eU ?_
   have hsel:sO fr to i=false:=by rw[sO,hg];rfl
   exact bK [(9,iv (k+1)),(8,iv n),(7,.slice (some ⟨b,off,none⟩) n c),(3,pt g3),(2,pt g2),(0,.func (.yield l) #[] #[])] (Zy (n - (k+1)) (by omega) ⟨k+1,by omega,rfl,rfl,rfl,rfl,by rw[aIH hi hsel]⟩)
 ·
  refine aEW ?_;refine eU ?_;refine To (Hs:=[J (((order.take k).filter (sO fr to)).length)]) (.inr rfl) rfl fun w1 st=>?_;obtain⟨F',h1,h2⟩:=st.turns hF (by simp[nt]) (i:=0) rfl;rw[List.take_of_length_le (by omega)] at h1;exact⟨⟨_,rfl⟩,F',h2,.inl (by simpa[xB,eW] using h1)⟩
end
section
attribute [local irreducible] KC KI KQ
def aKm(pr msg i v:Int):Value:=.agg #[iv pr,iv msg,.int .u32 i,.int .u32 v]
def yD(pr msg:Int)(val:Nat→Int)(ids:List Nat):List (List Value):=ids.map fun(i:Nat)=>[aKm pr msg i (val i)]
def Ot(p:Piece)(wS:FuncId)(zV:List Value)(ids:List Nat)(val:Nat→Int):Prop:=∀i∈ids,∀w',p.Le (all w')→Cz wS (Value.int .i64 (i:Int)::zV).toArray w' (Rt (.int .u32 (val i)) w')
theorem Piece.Le.trans'{p q r:Piece}(h:p.Le q)(k:q.Le r):p.Le r:=fun b hb=>⟨(k b (h b hb).1).1,(k b (h b hb).1).2.trans (h b hb).2⟩
theorem Ot.le{p q:Piece}{wS:FuncId}{zV:List Value}{ids:List Nat}{val:Nat→Int}(h:Ot p wS zV ids val)(hl:p.Le q):Ot q wS zV ids val:=fun i hi w' hq=>h i hi w' (hl.trans' hq)
theorem uF{q:Piece}{g o:Nat}{t:TypeId}{cs:List Value}{v:Value}(h:∃F,(HP.aE g t cs).sat F q.w∧∀b,F b→q.Z b)(hv:cs[o]? =some v):RP q g o v:=by
 obtain⟨F,hs,hz⟩:=h;refine⟨hz g hs.1,?_⟩
 have:vH q.w g t cs.toArray:=hs.2
 rw[this.cell]
 simpa using hv
theorem aTn(i v:Int)(g:Nat)(w:World)(h:fR w g 0 (.int .u32 v)):Cz 289 #[iv i,pt g] w (Rt (.int .u32 v) w):=by
 refine aN func289 ntmps289 ?_;refine aB ?_;exact aS (h:=fun _ _=>rfl)
def Ua(v:Int)(y:Value)(w w':World):Prop:=∃g,y=.func (.func 289) #[] #[pt g]∧∀q,(fresh w w').Le q→∀ids,Ot q 289 [pt g] ids fun _=>v
theorem Zd(v:Int)(w:World):Cz 284 #[.int .u32 v] w (fun y w'=>(∃x,y=.returned x∧Ua v x w w')∧Below w.heap.size w w'):=by
 refine aN func284 ntmps284 ?_;refine aA ?_;refine bA fun g1=>?_;refine aA ?_;refine kO (vf:=[]) (vc:=[pt g1]) rfl rfl (by decide) ?_;refine aA ?_;refine dO [] [0] [] (by simp) rfl (by decide) (by decide) fun q hq _ hfr=>?_;refine nS rfl rfl fun w1 st=>⟨⟨_,rfl,g1,rfl,fun q2 hf ids i hi=>?_⟩,st.below (by simp)⟩
 have cT:=(uF (o:=0) (v:=.int .u32 v) (hq 0 _ (by simp) rfl) rfl).le ((st.mH (by simp) (hfr (by simp) (by simp))).trans' hf)
 intro w' hw'
 have:=cT.le hw'
 exact aTn _ v g1 w' this
def Pf(p0:Piece)(ids:List Nat)(y:Value)(w w':World):Prop:=∃g1 g2 g3,y=.func (.func 288) #[] #[pt g1,pt g2,pt g3]∧∀q,p0.Le q→(fresh w w').Le q→Iter Tryz.prog 288 [pt g1,pt g2,pt g3] (xB ids) q
theorem Qm(p0:Piece)(n Jm nf c ct cf:Nat)(A At Af:Option Addr)(order:List Nat)(fr to:List Bool)(w:World)
  (hs:aI p0 1 A n (aK (dL order))) (hn:n=order.length) (hn2:(n:Int)≤9223372036854775806) (hst:aI p0 1 At Jm (bE to)) (hnt:Jm=to.length) (pP:aI p0 1 Af nf (bE fr)) (hnf:nf=fr.length) (My:∀i∈order,(i:Int)≤9223372036854775807):
  Cz 283 #[.slice A n c,.slice Af nf cf,.slice At Jm ct] w (fun y w'=>(∃x,y=.returned x∧Pf p0 (eW order fr to) x w w')∧Below w.heap.size w w'):=by
 refine aN func283 ntmps283 ?_;refine aA ?_;refine bA fun g1=>?_;refine bA fun g2=>?_;refine bA fun g3=>?_;refine aA ?_;refine kO (vf:=[]) (vc:=[pt g1,pt g3,pt g2]) rfl rfl (by decide) ?_;refine aA ?_;refine dO [] [0,1,2] [] (by simp) rfl (by decide) (by decide) fun q hq _ hfr=>?_;refine nS rfl rfl fun w1 st=>⟨⟨_,rfl,g1,g3,g2,rfl,fun q2 Fk hf=>?_⟩,st.below (by simp)⟩
 have hle:=(st.mH (by simp) (hfr (by simp) (by simp))).trans' hf
 exact aOs q2 g1 g3 g2 n Jm nf c ct cf A At Af order fr to ((uF (hq 2 _ (by simp) rfl) rfl).le hle) ((uF (hq 0 _ (by simp) rfl) rfl).le hle) ((uF (hq 1 _ (by simp) rfl) rfl).le hle) (hs.le Fk) hn hn2 (hst.le Fk) hnt (pP.le Fk) hnf My
theorem aLE(p:Piece)(g1 g2 g3 g4:Nat)(gf wS:FuncId)(lb zV:List Value)(pr msg:Int)(val:Nat→Int)(ids:List Nat)(h1:RP p g1 0 (.func (.func gf) #[] lb.toArray))(h2:RP p g2 0 (iv pr))(h3:RP p g3 0 (iv msg))(h4:RP p g4 0 (.func (.func wS) #[] zV.toArray))
  (hit:Iter Tryz.prog gf lb (xB ids) p) (Ww:fH Tryz.prog gf=true) (hvc:fH Tryz.prog wS=true) (hval:Ot p wS zV ids val) (Wt:∀i∈ids,i < 4294967296):
  Iter Tryz.prog 287 [pt g1,pt g2,pt g3,pt g4] (yD pr msg val ids) p:=by
 unfold Iter;intro l J Jx W F hp hd hJ hF hY;refine aCd (vs:=[.func (.yield l) #[] #[],pt g1,pt g2,pt g3,pt g4]) func287 rfl ntmps287 (by simp) (aFg hp hd hJ hF) ?_;dsimp only[List.cons_append,List.nil_append];refine kE ?_;refine kV (by kernel_rfl) ?_;refine bA fun g5=>?_;refine kW ?_;refine eU ?_;refine kE ?_;refine kV (by kernel_rfl) ?_;refine jE (by kernel_rfl) rfl (h1.rd (by simp)) (by decide) ?_;refine kW ?_;refine eU ?_;refine bK [(7,.func (.func gf) #[] lb.toArray),(5,pt g5),(4,pt g4),(3,pt g3),(2,pt g2)] ?_;refine Bx ?_
 refine aEU (gf:=gf) (lb:=lb) (encs:=xB ids) (p:=p) rfl Ww hit (by simp) (fun vs hvs=>?_) (by decide) (fun k=>[HP.aE g5 416 [.func (.yield l) #[] #[]],J k]) (fun k=>[HP.aE g5 416 [.func (.yield l) #[] #[]],Jx k])
  (fun k vs e1 H1=>e1=[(6,vs.headD (.tuple #[])),(5,pt g5),(4,pt g4),(3,pt g3),(2,pt g2)]∧H1=[HP.aE g5 416 [.func (.yield l) #[] #[]],J k]) rfl ?_ ?_ ?_ ?_
 ·simp only[xB,List.mem_map] at hvs;obtain⟨i,_,rfl⟩:=hvs;rfl
 ·
  intro l2 k vs W1 q X hvs cS
  obtain⟨i,hi,rfl⟩:∃i,ids[k]? =some i∧vs=[iv (i:Int)]:=by
   simp only[xB,List.getElem?_map,Option.map_eq_some_iff] at hvs;obtain⟨i,h,e⟩:=hvs;exact⟨i,h,e.symm⟩
  refine kV (by kernel_rfl) ?_;refine fQ rfl (by decide) ?_;refine kW ?_;refine bK [(6,iv (i:Int)),(5,pt g5),(4,pt g4),(3,pt g3),(2,pt g2)] ?_;exact aEY ⟨rfl,rfl⟩
 ·
  rintro l2 k vs W1 q X _ _ hvs cS ⟨rfl,rfl⟩
  obtain⟨i,hik,rfl⟩:∃i,ids[k]? =some i∧vs=[iv (i:Int)]:=by
   simp only[xB,List.getElem?_map,Option.map_eq_some_iff] at hvs;obtain⟨i,h,e⟩:=hvs;exact⟨i,h,e.symm⟩
  have hi:=List.mem_of_getElem? hik
  have hib:=Wt i hi
  dsimp only[List.cons_append,List.nil_append,List.headD_cons];refine Bx ?_;refine kE ?_;refine aTT 9 (by kernel_rfl) (by kernel_rfl) ?_;simp only[List.take_succ_cons,List.take_zero,List.drop_succ_cons,List.drop_zero];refine gD 0 rfl rfl rfl (Ks (by kernel_rfl) rfl (Rd.aE 0 rfl rfl)) ?_;refine gD 1 rfl rfl rfl (Ks (by kernel_rfl) rfl (h2.rd (by simp))) ?_;refine gD 2 rfl rfl rfl (Ks (by kernel_rfl) rfl (h3.rd (by simp))) ?_;refine gD 3 rfl rfl rfl (mV rfl) ?_;refine gD 4 rfl rfl rfl (Ku (ds:=.int .i64) (by kernel_rfl) (by kernel_rfl) rfl (wrap_u32 (by omega))) ?_;refine gD 5 rfl rfl rfl (Ks (by kernel_rfl) rfl (h4.rd (by simp))) ?_;refine gD 6 rfl rfl rfl (mV rfl) ?_;refine cG 7 ?_;refine zR (f:=wS) (fi:=[]) (ca:=zV) hvc rfl rfl (by decide) (fun w1 st=>hval i hi w1 (st.le (by simp))) ?_;refine nT ?_;refine gD 8 rfl rfl rfl (lW (zs:=[iv 0,iv 0,.int .u32 0,.int .u32 0]) (L:=[(0,1),(1,1),(2,1),(3,1)]) (iG (by kernel_rfl)) (by kernel_rfl) rfl (by simp[fI,gI,Value.cells];rfl)) ?_;refine kG ?_;refine aTK ?_;refine aET 1 rfl rfl (by decide) (by simp:nt W F∈[p,nt W F,q]) cS rfl (fun W2 F2 h1 h2 h3=>hY k _ W2 F2 (by simp[yD,hik];rfl) h1 h2 h3) ?_ ?_
  ·dsimp only[List.set];refine jI (by kernel_rfl) ?_;refine zP rfl (by decide) ?_;refine jJ ?_;refine Lf ?_;refine eU ?_;refine It rfl (fun h=>by cases h) (fun _=>?_);refine Is ?_;refine eU ?_;exact aEX
  ·dsimp only[List.set];refine jI (by kernel_rfl) ?_;refine zP rfl (by decide) ?_;refine jJ ?_;refine Lf ?_;refine eU ?_;refine It rfl (fun _=>?_) (fun h=>by cases h);refine Oq ?_;refine eU ?_;exact aKf
 ·
  intro D;dsimp only[List.cons_append,List.nil_append];refine eU ?_;refine To (Hs:=[HP.aE g5 416 [.func (.yield l) #[] #[]],J (xB ids).length]) (.inr rfl) rfl fun w1 st=>?_;obtain⟨F',h1,h2⟩:=st.turns hF (by simp[nt]) (i:=1) rfl;exact⟨⟨_,rfl⟩,F',h2,.inl (by simpa[xB,yD] using h1)⟩
 ·intro D k hk;dsimp only[List.cons_append,List.nil_append];refine Oq ?_;refine eU ?_;refine To (Hs:=[HP.aE g5 416 [.func (.yield l) #[] #[]],Jx (k+1)]) (.inl rfl) rfl fun w1 st=>?_;obtain⟨F',h1,h2⟩:=st.turns hF (by simp[nt]) (i:=1) rfl;exact⟨⟨_,rfl⟩,F',h2,.inr ⟨k,by simpa[xB,yD] using hk,h1⟩⟩
def Ow(p0:Piece)(encs:List (List Value))(y:Value)(w w':World):Prop:=∃g1 g2 g3 g4,y=.func (.func 287) #[] #[pt g1,pt g2,pt g3,pt g4]∧∀q,p0.Le q→(fresh w w').Le q→Iter Tryz.prog 287 [pt g1,pt g2,pt g3,pt g4] encs q
theorem Pz(p0:Piece)(gf wS:FuncId)(lb zV:List Value)(pr msg:Int)(val:Nat→Int)(ids:List Nat)(w:World)(hit:Iter Tryz.prog gf lb (xB ids) p0)(Ww:fH Tryz.prog gf=true)(hvc:fH Tryz.prog wS=true)(hval:Ot p0 wS zV ids val)(Wt:∀i∈ids,i < 4294967296):
  Cz 282 #[.func (.func gf) #[] lb.toArray,iv pr,iv msg,.func (.func wS) #[] zV.toArray] w (fun y w'=>(∃x,y=.returned x∧Ow p0 (yD pr msg val ids) x w w')∧Below w.heap.size w w'):=by
 refine aN func282 ntmps282 ?_;refine aA ?_;refine bA fun g1=>?_;refine bA fun g2=>?_;refine bA fun g3=>?_;refine bA fun g4=>?_;refine aA ?_;refine kO (vf:=[]) (vc:=[pt g1,pt g2,pt g3,pt g4]) rfl rfl (by decide) ?_;refine aA ?_;refine dO [] [0,1,2,3] [] (by simp) rfl (by decide) (by decide) fun q hq _ hfr=>?_;refine nS rfl rfl fun w1 st=>⟨⟨_,rfl,g1,g2,g3,g4,rfl,fun q2 Fk hf=>?_⟩,st.below (by simp)⟩
 have hle:=(st.mH (by simp) (hfr (by simp) (by simp))).trans' hf
 exact aLE q2 g1 g2 g3 g4 gf wS lb zV pr msg val ids ((uF (hq 3 _ (by simp) rfl) rfl).le hle) ((uF (hq 2 _ (by simp) rfl) rfl).le hle) ((uF (hq 1 _ (by simp) rfl) rfl).le hle) ((uF (hq 0 _ (by simp) rfl) rfl).le hle) (hit.le Fk) Ww hvc (hval.le Fk) Wt
end
section
attribute [local irreducible] KC KI KQ
structure cY where
 pr:Int
 msg:Int
 id:Int
 v:Int
def cY.cells(s:cY):List Value:=[iv s.pr,iv s.msg,.int .u32 s.id,.int .u32 s.v]
def tM(s:cY):Value:=.agg s.cells.toArray
def pM(l:List cY):List (List Value):=l.map fun s=>[tM s]
def jO(pr msg:Int)(val:Nat→Int)(ids:List Nat):List cY:=ids.map fun(i:Nat)=>⟨pr,msg,i,val i⟩
theorem Qc(pr msg:Int)(val:Nat→Int)(ids:List Nat):yD pr msg val ids=pM (jO pr msg val ids):=by
 simp[yD,pM,jO,tM,aKm,cY.cells]
structure zI where
 gf:FuncId
 lb:List Value
 Es:List cY
def zI.fn(r:zI):Value:=.func (.func r.gf) #[] r.lb.toArray
def Ev(rows:List zI):List cY:=rows.flatMap (·.Es)
def uR(rows:List zI)(i:Nat):Nat:=(Ev (rows.take i)).length
theorem aOd{rows:List zI}{i:Nat}{r:zI}(h:rows[i]? =some r):uR rows (i+1)=uR rows i+r.Es.length:=by
 simp[uR,Ev,List.take_add_one,h]
theorem aHs{rows:List zI}{i k:Nat}{r:zI}{s:cY}(h:rows[i]? =some r)(hs:r.Es[k]? =some s):(Ev rows)[uR rows i+k]? =some s:=by
 have hlt:=(List.getElem?_eq_some_iff.1 h).1
 have hv:=(List.getElem?_eq_some_iff.1 h).2
 have h2:rows=rows.take i++r::rows.drop (i+1):=by
  rw[←hv,List.getElem_cons_drop hlt,List.take_append_drop]
 have h3:Ev rows=Ev (rows.take i)++(r.Es++Ev (rows.drop (i+1))):=by
  conv=>lhs;rw[h2]
  simp[Ev]
 have hk:=(List.getElem?_eq_some_iff.1 hs).1
 rw[h3,uR,List.getElem?_append_right (by omega),Nat.add_sub_cancel_left,List.getElem?_append_left hk];exact hs
theorem aOe{rows:List zI}{i:Nat}(h:rows.length≤i):uR rows i=(Ev rows).length:=by rw[uR,List.take_of_length_le h]
theorem aTv(p:Piece)(g1 n c:Nat)(A:Option Addr)(rows:List zI)(h1:RP p g1 0 (.slice A n c))(hs:aI p 1 A n (rows.map zI.fn))(hn:n=rows.length)(hn2:(n:Int)≤1000000)
  (hrows:∀r∈rows,fH Tryz.prog r.gf=true∧Iter Tryz.prog r.gf r.lb (pM r.Es) p):
  Iter Tryz.prog 286 [pt g1] (pM (Ev rows)) p:=by
 unfold Iter;intro l J Jx W F hp hd hJ hF hY;refine aCd (vs:=[.func (.yield l) #[] #[],pt g1]) func286 rfl ntmps286 (by simp) (aFg hp hd hJ hF) ?_;dsimp only[List.cons_append,List.nil_append];refine kE ?_;refine kV (by kernel_rfl) ?_;refine bA fun g2=>?_;refine kW ?_;refine eU ?_;refine kE ?_;refine kV (by kernel_rfl) ?_;refine jE (by kernel_rfl) rfl (h1.rd (by simp)) (by decide) ?_;refine Ei (el:=407) (by kernel_rfl) rfl (by decide) ?_;refine cQ rfl (by decide) ?_;refine kW ?_;refine eU ?_;refine bK [(8,iv 0),(7,iv n),(6,.slice A n c),(2,pt g2)] ?_;refine Bx ?_;refine aEV (fun m L e R H=>∃i:Nat,i≤n∧m=n - i∧e=[(8,iv i),(7,iv n),(6,.slice A n c),(2,pt g2)]∧R=[p,nt W F]∧H=[HP.aE g2 416 [.func (.yield l) #[] #[]],J (uR rows i),uG L]) n ⟨0,by omega,rfl,rfl,rfl,rfl⟩ fun m L e R H hI=>?_;obtain⟨i,hi,rfl,rfl,rfl,rfl⟩:=hI;refine kE ?_;refine kV (by kernel_rfl) ?_;refine Pp rfl rfl (by decide) ?_;refine kW ?_;refine eU ?_;refine kE ?_;refine aCc rfl (fun h=>?_) (fun h=>?_)
 ·
  refine Is ?_;refine eU ?_;refine kE ?_;refine Bx ?_;refine kE ?_
  have hin:i < rows.length:=by omega
  obtain⟨b,off,rfl,hz,hc⟩:=hs.2 (by omega);obtain⟨r,hr⟩:∃r,rows[i]? =some r:=⟨_,List.getElem?_eq_getElem hin⟩
  obtain⟨hcb,hit⟩:=hrows r (List.mem_of_getElem? hr)
  have hoff:=aOd hr
  refine kV (by kernel_rfl) ?_;refine kd (dat (i) (off+i)) ?_;refine jE (by kernel_rfl) rfl (Rd.ro (p:=p) (by simp) hz (hc i (zI.fn r) (by simp[hr]))) (by decide) ?_;refine fQ rfl (by decide) ?_;refine kW ?_;refine eU ?_;refine kE ?_;refine kV (by kernel_rfl) ?_;refine cQ rfl (by decide) ?_;refine kW ?_;refine eU ?_;refine Bx ?_;refine bK [(12,zI.fn r),(8,iv i),(7,iv n),(6,.slice (some ⟨b,off,none⟩) n c),(2,pt g2)] ?_
  refine aEU (gf:=r.gf) (lb:=r.lb) (encs:=pM r.Es) (p:=p) rfl hcb hit (by simp) (fun vs hvs=>?_) (by decide) (fun k=>[HP.aE g2 416 [.func (.yield l) #[] #[]],J (uR rows i+k)]) (fun k=>[HP.aE g2 416 [.func (.yield l) #[] #[]],Jx (uR rows i+k)])
   (fun k vs e1 H1=>∃(g3:Nat) (s:cY),vs=[tM s]∧e1=[(5,pt g3),(2,pt g2)]∧H1=[HP.aE g3 247 s.cells,HP.aE g2 416 [.func (.yield l) #[] #[]],J (uR rows i+k)]) rfl ?_ ?_ ?_ ?_
  ·simp only[pM,List.mem_map] at hvs;obtain⟨s,_,rfl⟩:=hvs;rfl
  ·
   intro l2 k vs W1 q X hvs cS
   obtain⟨s,rfl⟩:∃s,vs=[tM s]:=by
    simp only[pM,List.getElem?_map,Option.map_eq_some_iff] at hvs;obtain⟨s,_,e⟩:=hvs;exact⟨s,e.symm⟩
   dsimp only[List.cons_append,List.nil_append];refine kV (by kernel_rfl) ?_;refine bU fun g3=>?_;refine rO 0 rfl rfl rfl (by kernel_rfl) (by simp[tM,cY.cells,Value.cells,Value.oneCell']) (by simp[tM,cY.cells,Value.cells]) ?_;rw[show iI [Value.int .i64 0,iv 0,.int .u32 0,.int .u32 0] 0 (tM s).cells.toList=s.cells by simp[iI,tM,cY.cells,Value.cells]];dsimp only[List.set];refine kW ?_;refine bK [(5,pt g3),(2,pt g2)] ?_;exact aEY (H1:=[HP.aE g3 247 s.cells,HP.aE g2 416 [.func (.yield l) #[] #[]],J (uR rows i+k)]) ⟨g3,s,rfl,rfl,rfl⟩
  ·
   rintro l2 k vs W1 q X _ _ hvs cS ⟨g3,s,rfl,rfl,rfl⟩
   have hsk:r.Es[k]? =some s:=by
    simp only[pM,List.getElem?_map,Option.map_eq_some_iff] at hvs;obtain⟨s',h,e⟩:=hvs
    have:s'=s:=by
     cases s;cases s';simp[tM,cY.cells] at e;simp[e]
    exact this▸h
   have Df:=aHs hr hsk
   dsimp only[List.cons_append,List.nil_append];refine Bx ?_;refine kE ?_;refine aKe ?_;refine jI (by kernel_rfl) ?_;refine jE (by kernel_rfl) rfl (Rd.aE 1 rfl rfl) (by decide) ?_;refine jJ ?_;refine jI (by kernel_rfl) ?_;refine zQ 4 (by kernel_rfl) rfl (aR.whole 0 rfl) rfl (by decide) ?_;refine jJ ?_;refine aET 2 rfl rfl (by decide) (by simp:nt W F∈[p,nt W F,q]) cS rfl (fun W2 F2 h1 h2 h3=>hY (uR rows i+k) [tM s] W2 F2 (by simp[pM,Df]) h1 h2 h3) ?_ ?_
   ·dsimp only[List.set];refine jI (by kernel_rfl) ?_;refine zP rfl (by decide) ?_;refine jJ ?_;refine Lf ?_;refine eU ?_;refine It rfl (fun h=>by cases h) (fun _=>?_);refine Is ?_;refine eU ?_;refine aY [1,2,3] rfl (by decide) (fun _ hp=>hp) ?_;exact aEX
   ·dsimp only[List.set];refine jI (by kernel_rfl) ?_;refine zP rfl (by decide) ?_;refine jJ ?_;refine Lf ?_;refine eU ?_;refine It rfl (fun _=>?_) (fun h=>by cases h);refine Oq ?_;refine eU ?_;refine aY [1,2,3] rfl (by decide) (fun _ hp=>hp) ?_;exact aKf
  rotate_left
  ·
   intro D k hk;dsimp only[List.cons_append,List.nil_append];refine Oq ?_;refine eU ?_;refine To (Hs:=[HP.aE g2 416 [.func (.yield l) #[] #[]],Jx (uR rows i+(k+1))]) (.inl rfl) rfl fun w1 st=>?_;obtain⟨F',h1,h2⟩:=st.turns hF (by simp[nt]) (i:=1) rfl;obtain⟨s,fX⟩:∃s,r.Es[k]? =some s:=⟨_,List.getElem?_eq_getElem (by simpa[pM] using hk)⟩
   have:=(List.getElem?_eq_some_iff.1 (aHs hr fX)).1
   exact⟨⟨_,rfl⟩,F',h2,.inr ⟨uR rows i+k,by simpa[pM] using this,h1⟩⟩
  intro D;dsimp only[List.cons_append,List.nil_append];refine eU ?_;refine kV (by kernel_rfl) ?_;refine zU rfl rfl (iR (by omega)) (by decide) ?_;refine cQ rfl (by decide) ?_;refine kW ?_;refine eU ?_;exact bK [(8,iv (i+1)),(7,iv n),(6,.slice (some ⟨b,off,none⟩) n c),(2,pt g2)] (Zy (n - (i+1)) (by omega) ⟨i+1,by omega,rfl,rfl,rfl,by rw[hoff];simp[pM]⟩)
 ·
  refine aEW ?_;refine eU ?_;refine To (Hs:=[HP.aE g2 416 [.func (.yield l) #[] #[]],J (uR rows i)]) (.inr rfl) rfl fun w1 st=>?_;obtain⟨F',h1,h2⟩:=st.turns hF (by simp[nt]) (i:=1) rfl;rw[aOe (by omega)] at h1;exact⟨⟨_,rfl⟩,F',h2,.inl (by simpa[pM] using h1)⟩
def lB(s:aC)(d:Nat):Int:=if(s.domains[d]?.map (·.ret)).getD false then 2 else 0
theorem aTx(d gs n2 k2:Nat)(s:aC)(A2:Option Addr)(w:World)(h2:fR w gs 1 (.slice A2 n2 k2))(Rr:jN (fF (all w)) vF 50 3 A2 n2 s.domains)(hn2:(n2:Int)≤1000000)(hd:d < n2):
  Cz 285 #[iv d,pt gs] w (Rt (.int .u32 (lB s d)) w):=by
 have hl:n2=s.domains.length:=by obtain⟨_,_,h,_⟩:=Rr;exact h
 obtain⟨x,hx⟩:∃x,s.domains[d]? =some x:=⟨_,List.getElem?_eq_getElem (by omega)⟩
 obtain⟨b,off,r,rfl,hrl,rfl,hro⟩:=Rr.row hx;refine aN func285 ntmps285 ?_;refine cP ?_;refine eA ?_;refine fQ rfl (by decide) ?_;refine dN ?_;refine cP ?_;refine cP ?_;refine eA ?_;refine qA (off:=1) (by kernel_rfl) rfl (by decide) ?_;refine jE (by kernel_rfl) rfl (Cb (by simp) h2) (by decide) ?_;refine cQ rfl (by decide) ?_;refine kd (dat (d) (off+d*3)) ?_;refine qA (off:=2) (by kernel_rfl) rfl (by decide) ?_;refine jE (by kernel_rfl) rfl (Cb (by simp) (hro.at_ (j:=2) (v:=.bool x.ret) rfl)) (by decide) ?_;refine dN ?_;refine pV rfl (fun h=>?_) (fun h=>?_)
 ·
  refine aB ?_;exact aS (h:=fun _ _=>by rw[lB,hx];simp[h])
 ·
  refine aB ?_;exact aS (h:=fun _ _=>by rw[lB,hx];simp[h])
theorem aTw(p:Piece)(gs n2 k2:Nat)(s:aC)(A2:Option Addr)(h2:RP p gs 1 (.slice A2 n2 k2))(Rr:jN (fF p) vF 50 3 A2 n2 s.domains)(hn2:(n2:Int)≤1000000)(ids:List Nat)(Wt:∀i∈ids,i < n2):Ot p 285 [pt gs] ids (lB s):=fun i hi w' hw'=>
 aTx i gs n2 k2 s A2 w' (h2.le hw') (Rr.mono (nW hw') (fun _ _ h=>h)) hn2 (Wt i hi)
end
section
def aFw(n:Nat)(xs:List Value)(v:Value)(hs:List HP)(_:Piece):Prop:=∃A c,v=.slice A n c∧hs=[HP.own 3 1 (.slice A n c) n xs]
theorem aJq(A:Option Addr)(n c:Nat)(xs:List Value)(w:World)(hs:aI (all w) 1 A n xs)(h1:∀u∈xs,u.oneCell'=true)(hn:n≤1000000):
  Cz 280 #[.slice A n c] w (fun y w'=>(∃v hs q,y=.returned v∧q.w=w'∧aFw n xs v hs q∧kA w hs q)∧Below w.heap.size w w'):=by
 refine aN func280 ntmps280 ?_;refine aB ?_;refine aAq (el:=3) (by kernel_rfl) rfl (by decide) ?_;refine aB ?_;refine pV rfl (fun hA=>?_) (fun hA=>?_)
 ·
  refine aB ?_
  have hn0:n=0:=by
   rcases Nat.eq_zero_or_pos n with h | h
   ·exact h
   ·obtain⟨b,off,rfl,_⟩:=hs.2 h;cases hA
  subst hn0
  have hx:xs=[]:=List.eq_nil_of_length_eq_zero (by simpa using hs.1)
  subst hx;refine iP 3 1 ?_;refine dO [] [] [0] (by simp) rfl (by decide) (by decide) fun q _ _ hfr=>?_;exact aS (h:=fun w1 st=>⟨_,_,⟨w1,q.Z⟩,rfl,rfl,⟨_,_,rfl,rfl⟩,st.newR (by simp) (by simp) (hfr (by simp) (by simp))⟩)
 ·
  refine aB ?_;refine Eh (el:=3) (sz:=1) (by kernel_rfl) (by kernel_rfl) (by decide) fun g=>?_;refine Bw 0 1 0 rfl rfl (by omega) ?_;dsimp only[List.set];refine aB ?_;refine gH 0 1 8 n (n':=n) (el:=3) (by kernel_rfl) (by kernel_rfl) (by decide) rfl rfl rfl (qW (by simp) hs) h1 (by omega) (by omega) (by omega) (by decide) fun A' k'=>?_;dsimp only[List.set,List.nil_append];refine aB ?_;refine dO [] [] [0] (by simp) rfl (by decide) (by decide) fun q _ _ hfr=>?_;exact aS (h:=fun w1 st=>⟨_,_,⟨w1,q.Z⟩,rfl,rfl,⟨_,_,rfl,rfl⟩,st.newR (by simp) (by simp) (hfr (by simp) (by simp))⟩)
def Pj(n:Nat)(xs:List Value)(v:Value)(hs:List HP)(_:Piece):Prop:=∃A c,v=.slice A n c∧hs=[HP.own 4 1 (.slice A n c) n xs]
theorem Sq(A:Option Addr)(n c:Nat)(xs:List Value)(w:World)(hs:aI (all w) 1 A n xs)(h1:∀u∈xs,u.oneCell'=true)(hn:n≤1000000):
  Cz 171 #[.slice A n c] w (fun y w'=>(∃v hs q,y=.returned v∧q.w=w'∧Pj n xs v hs q∧kA w hs q)∧Below w.heap.size w w'):=by
 refine aN func171 ntmps171 ?_;refine aB ?_;refine aAq (el:=4) (by kernel_rfl) rfl (by decide) ?_;refine aB ?_;refine pV rfl (fun hA=>?_) (fun hA=>?_)
 ·
  refine aB ?_
  have hn0:n=0:=by
   rcases Nat.eq_zero_or_pos n with h | h
   ·exact h
   ·obtain⟨b,off,rfl,_⟩:=hs.2 h;cases hA
  subst hn0
  have hx:xs=[]:=List.eq_nil_of_length_eq_zero (by simpa using hs.1)
  subst hx;refine iP 4 1 ?_;refine dO [] [] [0] (by simp) rfl (by decide) (by decide) fun q _ _ hfr=>?_;exact aS (h:=fun w1 st=>⟨_,_,⟨w1,q.Z⟩,rfl,rfl,⟨_,_,rfl,rfl⟩,st.newR (by simp) (by simp) (hfr (by simp) (by simp))⟩)
 ·
  refine aB ?_;refine Eh (el:=4) (sz:=1) (by kernel_rfl) (by kernel_rfl) (by decide) fun g=>?_;refine Bw 0 1 0 rfl rfl (by omega) ?_;dsimp only[List.set];refine aB ?_;refine gH 0 1 1 n (n':=n) (el:=4) (by kernel_rfl) (by kernel_rfl) (by decide) rfl rfl rfl (qW (by simp) hs) h1 (by omega) (by omega) (by omega) (by decide) fun A' k'=>?_;dsimp only[List.set,List.nil_append];refine aB ?_;refine dO [] [] [0] (by simp) rfl (by decide) (by decide) fun q _ _ hfr=>?_;exact aS (h:=fun w1 st=>⟨_,_,⟨w1,q.Z⟩,rfl,rfl,⟨_,_,rfl,rfl⟩,st.newR (by simp) (by simp) (hfr (by simp) (by simp))⟩)
theorem aGK(A:Option Addr)(n c:Nat)(xs:List Value)(w:World)(F:Nat→Prop)(hp:(HP.own 3 1 (.slice A n c) n xs).sat F w)(hF:∀b,F b→b < w.heap.size)(h1:∀u∈xs,u.oneCell'=true)(hn:xs.length=n)(hn2:n≤1000000)(hA:0 < n→∃g,A=some ⟨g,0,none⟩):
  Cz 281 #[.slice A n c] w (Wr (.tuple #[]) (HP.own 3 1 (.slice A n c) n xs.reverse) w F):=by
 refine dK func281 ntmps281 hp hF ?_;refine aB ?_;refine bK [(3,iv ((n:Int) - 1)),(2,iv 0),(0,.slice A n c)] ?_;refine aB ?_;refine eJ (fun m e R H=>∃(k:Nat) (l:List Value),m=n - k∧2*k≤n∧Ll xs k l∧e=[(3,iv ((n:Int) - 1 - k)),(2,iv k),(0,.slice A n c)]∧R=[⟨w,fun b=>b < w.heap.size∧¬F b⟩]∧H=[HP.own 3 1 (.slice A n c) n l]) n ⟨0,xs,by omega,by omega,.zero xs,by simp,rfl,rfl⟩ fun m e R H hI=>?_;obtain⟨k,l,rfl,hk,hl,rfl,rfl,rfl⟩:=hI;refine aB ?_;refine aG rfl (fun h=>?_) (fun h=>?_)
 ·
  refine lX ?_;refine dV ?_;refine cP ?_
  have h':(k:Int) < (n:Int) - 1 - k:=h
  have Fm:=hl.1
  obtain⟨g,rfl⟩:∃g,A=some ⟨g,0,none⟩:=hA (by omega);obtain⟨u,hu⟩:∃u,l[xs.length - 1 - k]? =some u:=⟨_,List.getElem?_eq_getElem (by omega)⟩
  obtain⟨v,hv⟩:∃u,l[k]? =some u:=⟨_,List.getElem?_eq_getElem (by omega)⟩
  have hou:u.oneCell'=true:=by
   have:=hl.2 _ (by omega:xs.length - 1 - k < xs.length);rw[hu] at this
   split at this<;>exact h1 _ (List.mem_of_getElem? this.symm)
  have hov:v.oneCell'=true:=by
   have:=hl.2 _ (by omega:k < xs.length);rw[hv] at this
   split at this<;>exact h1 _ (List.mem_of_getElem? this.symm)
  refine Ta 0 rfl fun cs Ng oB Xj Xi=>?_;dsimp only[List.set];rw[Nat.mul_one] at Ng oB
  have hcu:=aGh oB hu
  have Xg:=aGh oB hv
  refine sJ ?_;refine aTH 16 (by kernel_rfl) (by kernel_rfl) ?_;refine fM 0 rfl rfl rfl (by decide) (mV rfl) (by kernel_rfl) (fun _ _ _ h=>h) (fun _ h=>h.bare) ?_;refine fM 1 rfl rfl rfl (by decide) (mV rfl) (by kernel_rfl) (fun _ _ _ h=>h) (fun _ h=>h.bare) ?_;refine fM 2 rfl rfl rfl (by decide) (mV rfl) (by kernel_rfl) (fun _ _ _ h=>h) (fun _ h=>h.bare) ?_;refine fM 3 rfl rfl rfl (by decide) (mV rfl) (by kernel_rfl) (fun _ _ _ h=>h) (fun _ h=>h.bare) ?_;refine fM 4 rfl rfl rfl (by decide) (mV rfl) (by kernel_rfl) (fun _ _ _ h=>h) (fun _ h=>h.bare) ?_;refine fM 5 rfl rfl rfl (by decide) (mV rfl) (by kernel_rfl) (fun _ _ _ h=>h) (fun _ h=>h.bare) ?_;refine fM 8 rfl rfl rfl (by decide) (mV rfl) (by kernel_rfl) (fun _ _ _ h=>h) (fun _ h=>h.bare) ?_;refine fM 9 rfl rfl rfl (by decide) (mV rfl) (by kernel_rfl) (fun _ _ _ h=>h) (fun _ h=>h.bare) ?_;refine fM 6 rfl rfl rfl (by decide) (aEy (n - 1 - k) (n - 1 - k) (el:=3) (sz:=1) (by kernel_rfl) (by kernel_rfl) rfl rfl (by omega) (by omega) (by omega)) (by kernel_rfl) (fun _ _ _ h=>h) (fun _ h=>h.bare) ?_;refine fM 10 rfl rfl rfl (by decide) (aEy (k) (k) (el:=3) (sz:=1) (by kernel_rfl) (by kernel_rfl) rfl rfl (by omega) (by omega) (by omega)) (by kernel_rfl) (fun _ _ _ h=>h) (fun _ h=>h.bare) ?_;refine Li 7 11 rfl rfl (by kernel_rfl) ?_ ?_
  ·refine jE (by kernel_rfl) rfl (Rd.aE 0 rfl (by rw[←hn];exact hcu)) (by decide) ?_;refine iD ?_;refine gQ ?_;refine kX (fun _ h=>h.bare) ?_;refine cG 11 ?_;refine jE (by kernel_rfl) rfl (Rd.aE 0 rfl Xg) (by decide) ?_;refine iD ?_;refine gQ ?_;refine kX (fun _ h=>h.bare) ?_;refine cG 12 ?_;refine kd (dat (k) (k)) ?_;refine iD ?_;refine gQ ?_;refine kX (fun _ h=>h.bare) ?_;refine cG 13 ?_;refine tL 0 rfl (by kernel_rfl) rfl rfl hou (by omega) ?_;dsimp only[List.set];refine iD ?_;refine gQ ?_;refine kX (fun _ h=>h.bare) ?_;refine cG 14 ?_;refine kd (dat (n - 1 - k) (n - 1 - k)) ?_;refine iD ?_;refine gQ ?_;refine kX (fun _ h=>h.bare) ?_;refine cG 15 ?_;refine tL 0 rfl (by kernel_rfl) rfl rfl hov (by simp;omega) ?_;dsimp only[List.set];refine iD ?_;refine gQ ?_;refine kX (fun _ h=>h.bare) ?_;refine kG ?_;refine dV ?_;refine eA ?_;refine cQ rfl (by decide) ?_;refine zU rfl rfl (iR (by omega)) (by decide) ?_;refine cQ rfl (by decide) ?_;refine aAk rfl rfl (iR (by omega)) (by decide) ?_;refine fQ rfl (by decide) ?_;refine fQ rfl (by decide) ?_;refine dN ?_;refine Oo 0 (n:=n) (c:=c) (sz:=1) (xs:=(l.set k u).set (xs.length - 1 - k) v) rfl (by simp;omega) (by rw[Nat.mul_one,hn];exact take_set (take_set oB)) Xj Xi ?_;dsimp only[List.set];exact bK [(3,iv ((n:Int) - 1 - k - 1)),(2,iv ((k:Int)+1)),(0,.slice (some ⟨g,0,none⟩) n c)] (iC (n - (k+1)) (by omega) ⟨k+1,_,rfl,by omega,hl.next (by omega) hu hv,(by rw[show(n:Int) - 1 - k - 1=(n:Int) - 1 - ((k+1:Nat):Int) by omega];rfl),rfl,rfl⟩)
  ·refine jE (by kernel_rfl) rfl (Rd.aE 0 rfl Xg) (by decide) ?_;refine iD ?_;refine gQ ?_;refine kX (fun _ h=>h.bare) ?_;refine cG 7 ?_;refine jE (by kernel_rfl) rfl (Rd.aE 0 rfl (by rw[←hn];exact hcu)) (by decide) ?_;refine iD ?_;refine gQ ?_;refine kX (fun _ h=>h.bare) ?_;refine cG 12 ?_;refine kd (dat (k) (k)) ?_;refine iD ?_;refine gQ ?_;refine kX (fun _ h=>h.bare) ?_;refine cG 13 ?_;refine tL 0 rfl (by kernel_rfl) rfl rfl hou (by omega) ?_;dsimp only[List.set];refine iD ?_;refine gQ ?_;refine kX (fun _ h=>h.bare) ?_;refine cG 14 ?_;refine kd (dat (n - 1 - k) (n - 1 - k)) ?_;refine iD ?_;refine gQ ?_;refine kX (fun _ h=>h.bare) ?_;refine cG 15 ?_;refine tL 0 rfl (by kernel_rfl) rfl rfl hov (by simp;omega) ?_;dsimp only[List.set];refine iD ?_;refine gQ ?_;refine kX (fun _ h=>h.bare) ?_;refine kG ?_;refine dV ?_;refine eA ?_;refine cQ rfl (by decide) ?_;refine zU rfl rfl (iR (by omega)) (by decide) ?_;refine cQ rfl (by decide) ?_;refine aAk rfl rfl (iR (by omega)) (by decide) ?_;refine fQ rfl (by decide) ?_;refine fQ rfl (by decide) ?_;refine dN ?_;refine Oo 0 (n:=n) (c:=c) (sz:=1) (xs:=(l.set k u).set (xs.length - 1 - k) v) rfl (by simp;omega) (by rw[Nat.mul_one,hn];exact take_set (take_set oB)) Xj Xi ?_;dsimp only[List.set];exact bK [(3,iv ((n:Int) - 1 - k - 1)),(2,iv ((k:Int)+1)),(0,.slice (some ⟨g,0,none⟩) n c)] (iC (n - (k+1)) (by omega) ⟨k+1,_,rfl,by omega,hl.next (by omega) hu hv,(by rw[show(n:Int) - 1 - k - 1=(n:Int) - 1 - ((k+1:Nat):Int) by omega];rfl),rfl,rfl⟩)
 ·
  refine aB ?_
  have h':¬(k:Int) < (n:Int) - 1 - k:=h
  have:=hl.all (by omega)
  subst this;exact jZ 0 hF
end
section
theorem Qy(l:List Int):∀u∈aK l,u.oneCell'=true:=by
 intro u hu;simp only[aK,List.mem_map] at hu;obtain⟨x,_,rfl⟩:=hu;rfl
theorem aHm{F:Nat→Prop}{w:World}{el:TypeId}{sz n c:Nat}{A:Option Addr}{xs:List Value}(h:(HP.own el sz (.slice A n c) n xs).sat F w)(hn:0 < n):∃g,A=some ⟨g,0,none⟩:=by
 rcases h.2.2 with⟨_,h0⟩ | ⟨g,cap,cur,hv,_⟩
 ·omega
 ·injection hv with hA
  exact⟨g,hA⟩
theorem aGL(l:List Nat):(aK (dL l)).reverse=aK (dL l.reverse):=by simp[aK,dL]
section
variable{P:Program}{N:cF}{w0:World}{e:Env}{R R' R0:List Piece}{H H0:List HP}{Q:Exit→Act→World→Prop}{ops:Array Oper}{m fuel dA d:Nat}{listed:Array Bool}{t ty:TypeId}{pos:String}{aH:Array Edge}{cs:List Value}{v:Value}
theorem Bk{x:Operand}{g o:Nat}{p:Piece}(h:RP p g o v)(hp:p∈R:=by simp)(ht:vQ P t=true:=by kernel_rfl)(hx:e.ev x=some (.pointer (some ⟨g,o,none⟩)):=by rfl):bQ P N w0 e R H ⟨some d,.load t x,ty,pos,aH,none⟩ v:=Ks ht hx (h.rd hp)
theorem uB{i j:Nat}{M:Option Nat}(i':Nat)(R':List Piece){oi:Oper}(step:∀M,XK N w0 (wpList P ops (Exit.then (uC P w0 ops Q R0 H0 m (Fy M fuel) (Ak M j (listed.setIfInBounds i true)) i') Q) [oi]) (wB M dA ((d,v)::e)) R' (yP M t cs H))(hi:ops[i']? =some oi:=by rfl)(hj:ops[j]? =some ⟨some dA,.alloc t,ty,pos,aH,none⟩:=by rfl)(ht:Eg P t cs:=by exact iG (by kernel_rfl))(hd:dA < N.n:=by decide)
  (Ay:Region.ready .any ops (listed.setIfInBounds i true)=[i',j]:=by kernel_rfl) (eI:Region.ready .any ops ((listed.setIfInBounds i true).setIfInBounds j true)=[i']:=by kernel_rfl) (hS:∀w,St w0 R' H w→St w0 R0 H0 w:=by exact fun _ h=>h.aZ) (hR:∀p∈R',p∈R:=by simp) (hij:i≠j:=by decide) (hb:Nat.beq d dA=false:=by rfl):
  XK N w0 (wpList P ops (Exit.then (uC P w0 ops Q R0 H0 m (Fy M (fuel+1)) (Ak M j listed) i) Q) []) ((d,v)::wB M dA e) R (yP M t cs H):=aBR hR (iD (gQ (aAa hij hb hS (Tp i' j hi hj ht hd Ay eI hS step))))
end
def tY(s:aC)(dl cl ll:List Nat)(fd fc fl td tc tl:List Bool):List cY:=
 jO 17 4 (fun _=>1) (eW (dl) fd td)++(jO 20 7 (fun _=>1) (eW (cl) fc tc)++(jO 22 4 (fun _=>0) (eW (ll) fl tl)++(jO 22 4 (fun _=>1) (eW (ll) tl fl)++(jO 20 7 (fun _=>0) (eW (cl.reverse) tc fc)++(jO 17 4 (lB s) (eW (dl.reverse) td fd))))))
def aKH(p0:Piece)(Es:List cY)(y:Value)(w w':World):Prop:=∃g,y=.func (.func 286) #[] #[pt g]∧∀q,p0.Le q→(fresh w w').Le q→Iter Tryz.prog 286 [pt g] (pM Es) q in
theorem aTp(p0:Piece)(s:aC)(A1 A2 A3 A4 Ad Ac Al Fd Fc Fl Td Tc Tl:Option Addr)(n1 k1 n2 k2 n3 k3 n4 k4 nd cd nc cc nl kl yZ Ia zA Ib yY Hy yB Gw yC Gx yA Gt:Nat)(dl cl ll:List Nat)(fd fc fl td tc tl:List Bool)(w:World)
  (Fk:p0.Le (all w)) (Rr:jN (fF p0) vF 50 3 A2 n2 s.domains) (hn2:(n2:Int)≤1000000)
  (jA:aI p0 1 Ad nd (aK (dL dl))) (hnd:nd=dl.length) (aIk:nd≤1000000) (Xd:∀i∈dl,i < n2)
  (gZ:aI p0 1 Ac nc (aK (dL cl))) (hnc:nc=cl.length) (aIl:nc≤1000000) (aBs:∀i∈cl,i < 1000000)
  (pQ:aI p0 1 Al nl (aK (dL ll))) (iL:nl=ll.length) (aIi:nl≤1000000) (aBk:∀i∈ll,i < 1000000)
  (Rp:aI p0 1 Fd yZ (bE fd)) (aBq:yZ=fd.length) (Re:aI p0 1 Td yB (bE td)) (aBh:yB=td.length) (Rq:aI p0 1 Fc zA (bE fc)) (aBr:zA=fc.length) (Rf:aI p0 1 Tc yC (bE tc)) (aBi:yC=tc.length) (hfl:aI p0 1 Fl yY (bE fl)) (aBp:yY=fl.length) (nP:aI p0 1 Tl yA (bE tl)) (aBf:yA=tl.length):
  Cz 279 #[.agg #[.slice A1 n1 k1,.slice A2 n2 k2,.slice A3 n3 k3,.slice A4 n4 k4],.slice Ad nd cd,.slice Ac nc cc,.slice Al nl kl,.agg #[.slice Fd yZ Ia,.slice Fc zA Ib,.slice Fl yY Hy],.agg #[.slice Td yB Gw,.slice Tc yC Gx,.slice Tl yA Gt]] w (fun y w'=>(∃x,y=.returned x∧aKH p0 (tY s dl cl ll fd fc fl td tc tl) x w w')∧Below w.heap.size w w'):=by
 have aU0:=hnd
 refine aN func279 ntmps279 ?_;refine Br p0 (by simp) Fk ?_;refine aB ?_;refine bA fun g1=>?_;refine bA fun g2=>?_;refine bA fun g3=>?_;refine aB ?_;refine iY (aFw nc (aK (dL cl))) (fun w1 st=>aJq Ac nc cc _ w1 (gZ.le (st.le (by simp))) (Qy _) aIl) ?_;rintro _ _ q13 ⟨A13,c13,rfl,rfl⟩ _;refine aB ?_;refine Uf (f:=281) (fi:=[]) (ca:=[]) 0 (HP.own 3 1 (.slice A13 nc c13) nc (aK (dL cl)).reverse) (by kernel_rfl) rfl rfl rfl ⟨by decide,rfl⟩ (fun w1 F st hp hF=>aGK A13 nc c13 _ w1 F hp hF (Qy _) (by simp[aK,dL,hnc]) aIl (aHm hp)) ?_;dsimp only[List.set,List.cons_append,List.nil_append];rw[aGL];refine aB ?_;refine iY (aFw nd (aK (dL dl))) (fun w1 st=>aJq Ad nd cd _ w1 (jA.le (st.le (by simp))) (Qy _) aIk) ?_;rintro _ _ Qi ⟨A14,c14,rfl,rfl⟩ _;refine aB ?_;refine Uf (f:=281) (fi:=[]) (ca:=[]) 0 (HP.own 3 1 (.slice A14 nd c14) nd (aK (dL dl)).reverse) (by kernel_rfl) rfl rfl rfl ⟨by decide,rfl⟩ (fun w1 F st hp hF=>aGK A14 nd c14 _ w1 F hp hF (Qy _) (by simp[aK,dL,hnd]) aIk (aHm hp)) ?_;dsimp only[List.set,List.cons_append,List.nil_append];rw[aGL];refine dN ?_;refine aY [0,1,2,3,4] rfl (by decide) (R':=[p0,all w]) (by simp) ?_;refine aJV p0 p0 [0,1,2,3,4] [] (by simp) (by simp) (fun b h=>.inl h) rfl (by decide) (by decide) fun q0 hq Cx N0=>?_
 have f14:=aI.own (hq 0 _ (by simp) rfl)
 have f13:=aI.own (hq 1 _ (by simp) rfl)
 have t_d:RP q0 g3 0 (.slice Td yB Gw):=uF (hq 2 _ (by simp) rfl) rfl
 have f_d:RP q0 g2 0 (.slice Fd yZ Ia):=uF (hq 3 _ (by simp) rfl) rfl
 have t_c:RP q0 g3 1 (.slice Tc yC Gx):=uF (hq 2 _ (by simp) rfl) rfl
 have f_c:RP q0 g2 1 (.slice Fc zA Ib):=uF (hq 3 _ (by simp) rfl) rfl
 have t_l:RP q0 g3 2 (.slice Tl yA Gt):=uF (hq 2 _ (by simp) rfl) rfl
 have f_l:RP q0 g2 2 (.slice Fl yY Hy):=uF (hq 3 _ (by simp) rfl) rfl
 have b1:RP q0 g1 1 (.slice A2 n2 k2):=uF (hq 4 _ (by simp) rfl) rfl
 have E0:q0.Le q0:=fun b hb=>⟨hb,rfl⟩
 have aLq:=aTw q0 g1 n2 k2 s A2 b1 (Rr.mono (nW Cx) (fun _ _ h=>h)) hn2
 have jA:=jA.le Cx
 have gZ:=gZ.le Cx
 have pQ:=pQ.le Cx
 have Rp:=Rp.le Cx
 have Rq:=Rq.le Cx
 have hfl:=hfl.le Cx
 have Re:=Re.le Cx
 have Rf:=Rf.le Cx
 have nP:=nP.le Cx
 refine cP ?_;refine rF 50 (by kernel_rfl) (by kernel_rfl) ?_;refine bB 0 ?_;refine bB 1 ?_;refine bB 2 ?_ (dI:=Bk f_d);refine bB 3 ?_;refine bB 4 ?_ (dI:=Bk t_d);refine bB 8 ?_;refine bB 9 ?_;refine bB 10 ?_ (dI:=Bk f_c);refine bB 11 ?_;refine bB 12 ?_ (dI:=Bk t_c);refine bB 16 ?_;refine bB 17 ?_;refine bB 18 ?_ (dI:=Bk f_l);refine bB 19 ?_;refine bB 20 ?_ (dI:=Bk t_l);refine bB 24 ?_;refine bB 25 ?_;refine bB 26 ?_ (dI:=Bk t_l);refine bB 27 ?_;refine bB 28 ?_ (dI:=Bk f_l);refine bB 32 ?_;refine bB 33 ?_;refine bB 34 ?_ (dI:=Bk t_c);refine bB 35 ?_;refine bB 36 ?_ (dI:=Bk f_c);refine bB 40 ?_;refine bB 41 ?_;refine bB 42 ?_ (dI:=Bk t_d);refine bB 43 ?_;refine bB 44 ?_ (dI:=Bk f_d);refine gD 46 rfl rfl rfl (aJf (vf:=[]) (vc:=[pt g1]) rfl rfl) ?_;refine aKh (j:=49) 15 415 [sn] fun M=>?_;refine Tp 5 49 rfl rfl (iG (by kernel_rfl)) (by decide) (by kernel_rfl) (by kernel_rfl) (fun _ h=>h) (fun M=>?_);refine tP p0 q0 (Pf q0 (eW (dl) fd td)) (fun w1 st=>Qm q0 nd yB yZ cd Gw Ia Ad Td Fd (dl) fd td w1 (jA.le E0) hnd (by omega) (Re.le E0) aBh (Rp.le E0) aBq (fun i hi=>by have:=Xd i hi;omega)) ?_;rintro _ w1 q1 ⟨x0,y0,z0,rfl,hit⟩ hf L1 N1
 have it0:=hit q1 L1 hf
 have E1:=E0.trans' L1
 refine uB 6 [q1,q0,p0,all w] fun M=>?_;refine tP p0 q1 (Ua 1) (fun w1 st=>Zd 1 w1) ?_;rintro _ w1 q2 ⟨u0,rfl,Hg⟩ hf L2 N2
 have va0:=Hg q2 hf
 have E2:=E1.trans' L2
 refine uB 7 [q2,q0,p0,all w] fun M=>?_;refine tP p0 q2 (Ow q2 (yD 17 4 (fun _=>1) (eW (dl) fd td))) (fun w1 st=>Pz q2 288 289 [pt x0,pt y0,pt z0] [pt u0] 17 4 (fun _=>1) (eW (dl) fd td) w1 (it0.le L2) (by kernel_rfl) (by kernel_rfl) (va0 _) (fun i hi=>by have:=Xd i (List.mem_filter.1 hi).1;omega)) ?_;rintro _ w1 q3 ⟨c0,d0,e0,f0,rfl,hst⟩ hf L3 N3
 have st0:=hst q3 L3 hf
 have E3:=E2.trans' L3
 refine uB 13 [q3,q0,p0,all w] fun M=>?_;refine tP p0 q3 (Pf q3 (eW (cl) fc tc)) (fun w1 st=>Qm q3 nc yC zA cc Gx Ib Ac Tc Fc (cl) fc tc w1 (gZ.le E3) hnc (by omega) (Rf.le E3) aBi (Rq.le E3) aBr (fun i hi=>by have:=aBs i hi;omega)) ?_;rintro _ w1 q4 ⟨x1,y1,z1,rfl,hit⟩ hf L4 N4
 have it1:=hit q4 L4 hf
 have E4:=E3.trans' L4
 refine uB 14 [q4,q0,p0,all w] fun M=>?_;refine tP p0 q4 (Ua 1) (fun w1 st=>Zd 1 w1) ?_;rintro _ w1 q5 ⟨u1,rfl,Hg⟩ hf L5 N5
 have va1:=Hg q5 hf
 have E5:=E4.trans' L5
 refine uB 15 [q5,q0,p0,all w] fun M=>?_;refine tP p0 q5 (Ow q5 (yD 20 7 (fun _=>1) (eW (cl) fc tc))) (fun w1 st=>Pz q5 288 289 [pt x1,pt y1,pt z1] [pt u1] 20 7 (fun _=>1) (eW (cl) fc tc) w1 (it1.le L5) (by kernel_rfl) (by kernel_rfl) (va1 _) (fun i hi=>by have:=aBs i (List.mem_filter.1 hi).1;omega)) ?_;rintro _ w1 q6 ⟨c1,d1,e1,f1,rfl,hst⟩ hf L6 N6
 have mM:=hst q6 L6 hf
 have E6:=E5.trans' L6
 refine uB 21 [q6,q0,p0,all w] fun M=>?_;refine tP p0 q6 (Pf q6 (eW (ll) fl tl)) (fun w1 st=>Qm q6 nl yA yY kl Gt Hy Al Tl Fl (ll) fl tl w1 (pQ.le E6) iL (by omega) (nP.le E6) aBf (hfl.le E6) aBp (fun i hi=>by have:=aBk i hi;omega)) ?_;rintro _ w1 q7 ⟨x2,y2,z2,rfl,hit⟩ hf L7 N7
 have it2:=hit q7 L7 hf
 have E7:=E6.trans' L7
 refine uB 22 [q7,q0,p0,all w] fun M=>?_;refine tP p0 q7 (Ua 0) (fun w1 st=>Zd 0 w1) ?_;rintro _ w1 q8 ⟨u2,rfl,Hg⟩ hf L8 N8
 have va2:=Hg q8 hf
 have E8:=E7.trans' L8
 refine uB 23 [q8,q0,p0,all w] fun M=>?_;refine tP p0 q8 (Ow q8 (yD 22 4 (fun _=>0) (eW (ll) fl tl))) (fun w1 st=>Pz q8 288 289 [pt x2,pt y2,pt z2] [pt u2] 22 4 (fun _=>0) (eW (ll) fl tl) w1 (it2.le L8) (by kernel_rfl) (by kernel_rfl) (va2 _) (fun i hi=>by have:=aBk i (List.mem_filter.1 hi).1;omega)) ?_;rintro _ w1 q9 ⟨c2,d2,e2,f2,rfl,hst⟩ hf L9 N9
 have yE:=hst q9 L9 hf
 have E9:=E8.trans' L9
 refine uB 29 [q9,q0,p0,all w] fun M=>?_;refine tP p0 q9 (Pf q9 (eW (ll) tl fl)) (fun w1 st=>Qm q9 nl yY yA kl Hy Gt Al Fl Tl (ll) tl fl w1 (pQ.le E9) iL (by omega) (hfl.le E9) aBp (nP.le E9) aBf (fun i hi=>by have:=aBk i hi;omega)) ?_;rintro _ w1 q10 ⟨x3,y3,z3,rfl,hit⟩ hf L10 N10
 have it3:=hit q10 L10 hf
 have E10:=E9.trans' L10
 refine uB 30 [q10,q0,p0,all w] fun M=>?_;refine tP p0 q10 (Ua 1) (fun w1 st=>Zd 1 w1) ?_;rintro _ w1 Vj ⟨u3,rfl,Hg⟩ hf L11 N11
 have va3:=Hg Vj hf
 have E11:=E10.trans' L11
 refine uB 31 [Vj,q0,p0,all w] fun M=>?_;refine tP p0 Vj (Ow Vj (yD 22 4 (fun _=>1) (eW (ll) tl fl))) (fun w1 st=>Pz Vj 288 289 [pt x3,pt y3,pt z3] [pt u3] 22 4 (fun _=>1) (eW (ll) tl fl) w1 (it3.le L11) (by kernel_rfl) (by kernel_rfl) (va3 _) (fun i hi=>by have:=aBk i (List.mem_filter.1 hi).1;omega)) ?_;rintro _ w1 Vi ⟨c3,d3,e3,f3,rfl,hst⟩ hf L12 N12
 have Mb:=hst Vi L12 hf
 have E12:=E11.trans' L12
 refine uB 37 [Vi,q0,p0,all w] fun M=>?_;refine tP p0 Vi (Pf Vi (eW (cl.reverse) tc fc)) (fun w1 st=>Qm Vi nc zA yC c13 Ib Gx A13 Fc Tc (cl.reverse) tc fc w1 (f13.le E12) (by simpa using hnc) (by omega) (Rq.le E12) aBr (Rf.le E12) aBi (fun i hi=>by have:=(fun i hi=>aBs i (by simpa using hi)) i hi;omega)) ?_;rintro _ w1 q13 ⟨x4,y4,z4,rfl,hit⟩ hf L13 N13
 have it4:=hit q13 L13 hf
 have E13:=E12.trans' L13
 refine uB 38 [q13,q0,p0,all w] fun M=>?_;refine tP p0 q13 (Ua 0) (fun w1 st=>Zd 0 w1) ?_;rintro _ w1 Qi ⟨u4,rfl,Hg⟩ hf L14 N14
 have va4:=Hg Qi hf
 have E14:=E13.trans' L14
 refine uB 39 [Qi,q0,p0,all w] fun M=>?_;refine tP p0 Qi (Ow Qi (yD 20 7 (fun _=>0) (eW (cl.reverse) tc fc))) (fun w1 st=>Pz Qi 288 289 [pt x4,pt y4,pt z4] [pt u4] 20 7 (fun _=>0) (eW (cl.reverse) tc fc) w1 (it4.le L14) (by kernel_rfl) (by kernel_rfl) (va4 _) (fun i hi=>by have:=(fun i hi=>aBs i (by simpa using hi)) i (List.mem_filter.1 hi).1;omega)) ?_;rintro _ w1 Vh ⟨c4,d4,e4,f4,rfl,hst⟩ hf L15 N15
 have st4:=hst Vh L15 hf
 have E15:=E14.trans' L15
 refine uB 45 [Vh,q0,p0,all w] fun M=>?_;refine tP p0 Vh (Pf Vh (eW (dl.reverse) td fd)) (fun w1 st=>Qm Vh nd yZ yB c14 Ia Gw A14 Fd Td (dl.reverse) td fd w1 (f14.le E15) (by simpa using hnd) (by omega) (Rp.le E15) aBq (Re.le E15) aBh (fun i hi=>by have:=(fun i hi=>Xd i (by simpa using hi)) i hi;omega)) ?_;rintro _ w1 Vg ⟨x5,y5,z5,rfl,hit⟩ hf L16 N16
 have it5:=hit Vg L16 hf
 have E16:=E15.trans' L16
 refine uB 47 [Vg,q0,p0,all w] fun M=>?_;refine tP p0 Vg (Ow Vg (yD 17 4 (lB s) (eW (dl.reverse) td fd))) (fun w1 st=>Pz Vg 288 285 [pt x5,pt y5,pt z5] [pt g1] 17 4 (lB s) (eW (dl.reverse) td fd) w1 (it5.le (Piece.Le.refl _)) (by kernel_rfl) (by kernel_rfl) ((aLq (eW (dl.reverse) td fd) (fun i hi=>by have:=(fun i hi=>Xd i (by simpa using hi)) i (List.mem_filter.1 hi).1;omega)).le E16) (fun i hi=>by have:=(fun i hi=>Xd i (by simpa using hi)) i (List.mem_filter.1 hi).1;omega)) ?_;rintro _ w1 q17 ⟨c5,d5,e5,f5,rfl,hst⟩ hf L17 N17
 have Ma:=hst q17 L17 hf
 have E17:=E16.trans' L17
 refine uB 48 [q17,q0,p0,all w] fun M=>?_;rcases M with _ | g15
 all_goals
  dsimp only[wB,yP,Ak,Fy];refine eH fun gS=>?_;refine iD ?_;refine gQ ?_
 refine kX (fun _ h=>h.tail.aZ) ?_;refine cG 49 ?_;refine bU fun g15=>?_;refine iD ?_;refine gQ ?_
 rotate_left
 refine aY [1,0] rfl (by decide) (fun _ h=>h) ?_
 all_goals
  refine kX (fun _ h=>h.tail.tail.aZ) ?_;refine cG 50 ?_;refine aF4 rfl rfl ?_;dsimp only[List.set];refine fA ?_;refine kG ?_;refine dV ?_;refine cP ?_;refine eA ?_;refine kO (vf:=[]) (vc:=[pt g15]) rfl rfl (by decide) ?_;refine aB ?_;refine aJV p0 q17 [0,1] [] (by simp) (by simp) N17 rfl (by decide) (by decide) fun qs hqs Ls Ns=>?_
  have r15:=uF (o:=0) (hqs 0 _ (by simp) rfl) rfl
  obtain⟨FS,sS,zS⟩:=hqs 1 _ (by simp) rfl
  have rS:=tI (n:=6) (sz:=1) (c:=6) sS zS rfl
  refine nS rfl rfl fun w1 st=>⟨⟨_,rfl,g15,rfl,fun q2 Mx nR=>?_⟩,st.below (by simp)⟩
  have Lq:=aOn (p0:=p0) st (by simp:qs∈_) Ns (((Cx.trans' E17).trans' Ls)) Mx nR
  have T17:=Ls.trans' Lq
  have T16:=L17.trans' T17
  have T15:=L16.trans' T16
  have T14:=L15.trans' T15
  have T13:=L14.trans' T14
  have T12:=L13.trans' T13
  have T11:=L12.trans' T12
  have T10:=L11.trans' T11
  have T9:=L10.trans' T10
  have T8:=L9.trans' T9
  have T7:=L8.trans' T8
  have T6:=L7.trans' T7
  have T5:=L6.trans' T6
  have T4:=L5.trans' T5
  have T3:=L4.trans' T4
  have hall:=aTv q2 g15 6 6 _ [⟨287,[pt c0,pt d0,pt e0,pt f0],jO 17 4 (fun _=>1) (eW (dl) fd td)⟩,⟨287,[pt c1,pt d1,pt e1,pt f1],jO 20 7 (fun _=>1) (eW (cl) fc tc)⟩,⟨287,[pt c2,pt d2,pt e2,pt f2],jO 22 4 (fun _=>0) (eW (ll) fl tl)⟩,⟨287,[pt c3,pt d3,pt e3,pt f3],jO 22 4 (fun _=>1) (eW (ll) tl fl)⟩,⟨287,[pt c4,pt d4,pt e4,pt f4],jO 20 7 (fun _=>0) (eW (cl.reverse) tc fc)⟩,⟨287,[pt c5,pt d5,pt e5,pt f5],jO 17 4 (lB s) (eW (dl.reverse) td fd)⟩] (r15.le Lq) (rS.le Lq) rfl (by omega) (fun r hr=>by
   simp only[List.mem_cons,List.not_mem_nil,or_false] at hr;rcases hr with rfl | rfl | rfl | rfl | rfl | rfl
   ·exact⟨by kernel_rfl,by have h:=st0.le T3;rw[Qc] at h;exact h⟩
   ·exact⟨by kernel_rfl,by have h:=mM.le T6;rw[Qc] at h;exact h⟩
   ·exact⟨by kernel_rfl,by have h:=yE.le T9;rw[Qc] at h;exact h⟩
   ·exact⟨by kernel_rfl,by have h:=Mb.le T12;rw[Qc] at h;exact h⟩
   ·exact⟨by kernel_rfl,by have h:=st4.le T15;rw[Qc] at h;exact h⟩
   ·exact⟨by kernel_rfl,by have h:=Ma.le T17;rw[Qc] at h;exact h⟩)
  simpa[Ev,tY] using hall
end
section
def Cd(g:List (List Int)):Prop:=∀(k:Nat) (l:List Int),g[k]? =some l→∀u∈l,0≤u∧u < (k:Int)
theorem Cd.in{g:List (List Int)}(h:Cd g):zK g:=by
 intro l hl u hu;obtain⟨k,hk⟩:=List.getElem?_of_mem hl
 have:=h k l hk u hu
 have:=(List.getElem?_eq_some_iff.1 hk).1
 omega
theorem Cd.next{g:List (List Int)}(h:Cd g){k:Nat}(hk:k < g.length):Jn g (List.range k)=some k:=by
 refine aHw hk (fun j hj=>aDj (by simpa using hj)) ?_;unfold vR;obtain⟨l,hl⟩:∃l,g[k]? =some l:=⟨_,List.getElem?_eq_getElem hk⟩
 rw[hl];simp only[Option.getD_some,Bool.and_eq_true,Bool.not_eq_true',List.all_eq_true];refine⟨by simp,fun u hu=>?_⟩
 have:=h k l hl u hu
 simp;omega
theorem Cd.order{g:List (List Int)}(h:Cd g):∀(m k:Nat),k+m=g.length→uQ g m (List.range k)=some (List.range g.length)
 | 0,k,hk=>by rw[uQ];simp at hk;rw[hk]
 | m+1,k,hk=>by
  rw[uQ,h.next (by omega)]
  have:=Cd.order h m (k+1) (by omega)
  rw[List.range_succ] at this;exact this
theorem Cd.fS{g:List (List Int)}(h:Cd g)(hl:g.length≤100):fS g=(0,List.range g.length):=by
 have h1:Gh g=false:=aJ7 fun k l hk j u hj=>by
  have:=h.in l (List.mem_of_getElem? hk) u (List.mem_of_getElem? hj)
  exact this
 have h2:rX g=0:=by unfold rX;rw[if_neg (by omega),h1];rfl
 have h3:=h.order g.length 0 (by omega)
 unfold Go.Proofs.YtdcdccmpcmjmhaaGreatDoor.fS;rw[if_neg (by simp[h2])];simp only[List.range_zero] at h3;rw[h3]
end
section
theorem Dp{es:List Int}(h:∀e∈es,e=0):lI es=0:=Km fun j hj=>by rw[List.getElem?_eq_getElem hj,h _ (List.getElem_mem hj)]
theorem Jb{n lo hi:Int}(h1:lo≤n)(h2:n≤hi):iV n lo hi=true:=by simp[iV,h1,h2]
theorem Cp{b:Bool}{e:Int}(h:b=false):jF b e=0:=by rw[h];rfl
section
variable{s:aC}(h:s.made)
include h
theorem aHF:Cd (gO s):=by
 intro k l hl u hu;simp only[gO,List.getElem?_map,Option.map_eq_some_iff] at hl;obtain⟨c,hc,rfl⟩:=hl;exact(h.aF k c hc).1 u hu
theorem aHD:Cd (gM s):=by
 intro k l hl u hu;simp only[gM,List.getElem?_map,Option.map_eq_some_iff] at hl;obtain⟨d,hd,rfl⟩:=hl
 have:=(h.domains k d hd).1
 split at hu
 ·cases hu
 ·rename_i hne
  simp at hu;subst hu;exact this.resolve_left hne
theorem aHC:Cd (cZ s):=by
 intro k l hl u hu;simp only[cZ,List.getElem?_map,Option.map_eq_some_iff] at hl;obtain⟨d,hd,rfl⟩:=hl;obtain⟨_,_,_,_,_,_,_,_,_,_,_,h1⟩:=h.aD k d hd;exact h1 u hu
theorem Vw:s.small:=by
 refine⟨by have:=h.nc;omega,by have:=h.nd;omega,by have:=h.nr;omega,by have:=h.nv;omega,fun c hc=>?_,fun d hd=>?_⟩
 ·obtain⟨k,hk⟩:=List.getElem?_of_mem hc;rcases(h.aF k c hk).2 with h1 | h1 | h1 | h1 | h1
  ·rw[h1.2.1];simp
  all_goals(have:=h1.2.1;omega)
 ·obtain⟨k,hk⟩:=List.getElem?_of_mem hd;obtain⟨_,_,_,_,_,_,_,_,_,_,h1,_⟩:=h.aD k d hk;omega
theorem aDv:fS (gO s)=(0,List.range s.aF.length)∧fS (gM s)=(0,List.range s.domains.length)∧fS (cZ s)=(0,List.range s.aD.length):=by
 refine⟨?_,?_,?_⟩
 ·have:=(aHF h).fS (by simp[gO];have:=h.nc;omega)
  simpa[gO] using this
 ·have:=(aHD h).fS (by simp[gM];have:=h.nd;omega)
  simpa[gM] using this
 ·have:=(aHC h).fS (by simp[cZ];have:=h.nv;omega)
  simpa[cZ] using this
theorem aOH{k:Nat}{c:eD}(hc:s.aF[k]? =some c):Nz s.aF.length c=0:=by
 have hk:=(List.getElem?_eq_some_iff.1 hc).1
 obtain⟨h1,h2⟩:=h.aF k c hc;refine Dp fun e he=>?_;simp only[List.mem_cons,List.not_mem_nil,or_false] at he;rcases he with rfl | rfl | rfl
 ·refine Cp ?_;rcases h2 with h2 | h2 | h2 | h2 | h2
  ·simp[mE,h2.1,h2.2.1]
  ·simp[mE,h2.1,h2.2.1]
  ·simp[mE,h2.1,h2.2.1]
  ·simp[mE,h2.1,h2.2.1]
  ·simp[mE,h2.1,h2.2.1,iV]
 ·refine Dp fun e he=>?_;simp only[List.mem_map] at he;obtain⟨f,hf,rfl⟩:=he
  have:=h1 f hf
  exact Cp (by rw[Jb (by omega) (by omega)];rfl)
 ·refine Cp ?_;rcases h2 with h2 | h2 | h2 | h2 | h2
  ·obtain⟨h3,_,h4,h5,_⟩:=h2;simp[uS,h3];omega
  ·obtain⟨h3,_,_,h4,h5,h6,h7,h8,h9⟩:=h2;simp[uS,h3,iV];omega
  ·obtain⟨h3,_,_,_,h4,h5,_⟩:=h2;simp[uS,h3,iV];omega
  ·simp[uS,h2.1]
  ·simp[uS,h2.1]
theorem aOG{k:Nat}{d:Dom}(hd:s.domains[k]? =some d):Si s.domains.length d=0:=by
 have hk:=(List.getElem?_eq_some_iff.1 hd).1
 obtain⟨h1,h2,h3⟩:=h.domains k d hd;refine Dp fun e he=>?_;simp only[List.mem_cons,List.not_mem_nil,or_false] at he;rcases he with rfl | rfl
 ·refine Cp ?_;rcases h1 with h1 | h1
  ·simp[h1]
  ·rw[Jb (by omega) (by omega)];simp
 ·exact Cp (by rw[Jb (by omega) (by omega)];rfl)
theorem aHE{k:Nat}{d:bL}(hd:s.aD[k]? =some d):Sn s.aF.length s.domains.length s.aT.length s.aD.length d=0∧Qr d=0:=by
 have hk:=(List.getElem?_eq_some_iff.1 hd).1
 obtain⟨a1,a2,a3,a4,a5,a6,_,_,a7,_,a8,a9⟩:=h.aD k d hd;refine⟨Dp fun e he=>?_,?_⟩
 ·simp only[List.mem_cons,List.not_mem_nil,or_false] at he;rcases he with rfl | rfl | rfl | rfl
  ·exact Cp (by rw[Jb (by omega) (by omega)];rfl)
  ·exact Cp (by rw[Jb (by omega) (by omega)];rfl)
  ·exact Cp (by rw[Jb (by omega) (by omega)];rfl)
  ·refine Dp fun e he=>?_;simp only[List.mem_map] at he;obtain⟨f,hf,rfl⟩:=he
   have:=a9 f hf
   exact Cp (by rw[Jb (by omega) (by omega)];rfl)
 ·refine Cp ?_;simp;omega
theorem aAU:Yx s=0:=by
 obtain⟨o1,o2,o3⟩:=aDv h;refine Dp fun e he=>?_;simp only[aB9,List.mem_cons,List.not_mem_nil,or_false] at he
 have h1:=h.nc
 have h2:=h.nd
 have h3:=h.nr
 have h4:=h.nv
 rcases he with rfl | rfl | rfl | rfl | rfl | rfl | rfl | rfl
 ·rw[Hw,if_neg (by omega)];refine Dp fun e he=>?_;obtain⟨d,hd,rfl⟩:=List.mem_map.1 he;obtain⟨k,hk⟩:=List.getElem?_of_mem hd;exact(aHE h hk).2
 ·refine Dp fun e he=>?_;obtain⟨d,hd,rfl⟩:=List.mem_map.1 he;obtain⟨k,hk⟩:=List.getElem?_of_mem hd;exact aOH h hk
 ·rw[Gg,o1];rfl
 ·refine Dp fun e he=>?_;obtain⟨d,hd,rfl⟩:=List.mem_map.1 he;obtain⟨k,hk⟩:=List.getElem?_of_mem hd;exact aOG h hk
 ·rw[Gg,o2];rfl
 ·refine Dp fun e he=>?_;obtain⟨d,hd,rfl⟩:=List.mem_map.1 he
  have:=h.aT d hd
  exact Cp (by rw[Jb (by omega) (by omega)];rfl)
 ·refine Dp fun e he=>?_;obtain⟨d,hd,rfl⟩:=List.mem_map.1 he;obtain⟨k,hk⟩:=List.getElem?_of_mem hd;exact(aHE h hk).1
 ·rw[Gg,o3];rfl
end
structure aC.wY(s:aC):Prop where
 aF:Fits eD.fit s.aF
 aD:Fits (bL.fit s.aF.length s.domains.length s.aT.length) s.aD
 nc:s.aF.length≤9
 nd:s.domains.length≤4
 nr:s.aT.length≤3
 nv:s.aD.length≤4
 Su:Yx s=0
 small:s.small
theorem aC.made.wY{s:aC}(h:s.made):s.wY:=⟨h.aF,h.aD,h.nc.2,h.nd.2,h.nr.2,h.nv.2,aAU h,Vw h⟩
end
section
attribute [local irreducible] KC KI KQ
def Tw(g:List (List Int))(v:Value)(w w':World):Prop:=∃A m c,v=.tuple #[.slice A m c,iv (fS g).1]∧m=(fS g).2.length∧aI (fresh w w') 1 A m (aK (dL (fS g).2))
theorem Pc.aDf{w w':World}{g:List (List Int)}{y:Ending}(h:Pc w (fS g).2 (fS g).1 y w'):(∃v,y=.returned v∧Tw g v w w')∧Below w.heap.size w w':=by
 obtain⟨⟨A,m,c,hy,hm,hs⟩,hb⟩:=h;exact⟨⟨_,hy,A,m,c,rfl,hm,hs⟩,hb⟩
theorem aOL{k n:Nat}(h:k < n):(aK ((dL (List.range k))++List.replicate (n - k) 0)).set k (iv (k:Int))=aK ((dL (List.range (k+1)))++List.replicate (n - (k+1)) 0):=by
 rw[aBa,List.set_append_right _ _ (by simp[dL])];rw[show k - (dL (List.range k)).length=0 by simp[dL],show n - k=(n - (k+1))+1 by omega,List.replicate_succ,List.set_cons_zero,List.range_succ,aDm,List.append_assoc];rfl
theorem aJG(s:aC)(dl cl ll:List Nat)(fd fc fl td tc tl:List Bool):(tY s dl cl ll fd fc fl td tc tl).length≤2*(dl.length+cl.length+ll.length):=by
 have h:=fun(a:List Nat) (x y:List Bool)=>List.length_filter_le (sO x y) a
 have h1:=h dl fd td;have h2:=h cl fc tc;have h3:=h ll fl tl;have h4:=h ll tl fl;have h5:=h cl.reverse tc fc;have h6:=h dl.reverse td fd
 rw[List.length_reverse] at h5 h6;simp only[tY,jO,eW,List.length_append,List.length_map];omega
theorem aUi{Y:Nat→Prop}{w:World}{F:Nat→Prop}{e:TypeId}{sz n:Nat}{v:Value}{xs:List Value}(h:(HP.own e sz v n xs).sat F w)(hF:∀b,F b→Y b):∃A c,v=.slice A n c∧aI ⟨w,Y⟩ sz A n xs∧n≤c:=by
 obtain⟨A,c,hv,hs⟩:=vC (Y:=Y) h hF;refine⟨A,c,hv,hs,?_⟩;obtain⟨_,ho⟩:=h;rcases ho.2 with⟨rfl,hn⟩ | ⟨g,cap,cur,rfl,_,_,h3,_⟩
 ·omega
 ·cases hv;exact h3
set_option maxHeartbeats 1000000 in
theorem aLC(s:aC)(A1 A2 A3 A4 Fd Fc Fl Td Tc Tl:Option Addr)(n1 k1 n2 k2 n3 k3 n4 k4 yZ Ia zA Ib yY Hy yB Gw yC Gx yA Gt:Nat)(fd fc fl td tc tl:List Bool)(w:World)(hW:fL w s A1 n1 A2 n2 A3 n3 A4 n4)(aDX:Yx s=0)(hD3:(fS (gM s)).2.length≤1000000)(hC3:(fS (gO s)).2.length≤1000000)(hDb:∀i∈(fS (gM s)).2,i < n2)(hCb:∀i∈(fS (gO s)).2,i < 1000000)
    (Rp:aI (all w) 1 Fd yZ (bE fd)) (aBq:yZ=fd.length) (Re:aI (all w) 1 Td yB (bE td)) (aBh:yB=td.length) (Rq:aI (all w) 1 Fc zA (bE fc)) (aBr:zA=fc.length) (Rf:aI (all w) 1 Tc yC (bE tc)) (aBi:yC=tc.length) (hfl:aI (all w) 1 Fl yY (bE fl)) (aBp:yY=fl.length) (nP:aI (all w) 1 Tl yA (bE tl)) (aBf:yA=tl.length):
    Cz 278 #[.agg #[.slice A1 n1 k1,.slice A2 n2 k2,.slice A3 n3 k3,.slice A4 n4 k4],.agg #[.slice Fd yZ Ia,.slice Fc zA Ib,.slice Fl yY Hy],.agg #[.slice Td yB Gw,.slice Tc yC Gx,.slice Tl yA Gt]] w (fun y w'=>(∃A c,y=.returned (.slice A (tY s (fS (gM s)).2 (fS (gO s)).2 (List.range n3) fd fc fl td tc tl).length c)∧aI (fresh w w') 4 A (tY s (fS (gM s)).2 (fS (gO s)).2 (List.range n3) fd fc fl td tc tl).length ((tY s (fS (gM s)).2 (fS (gO s)).2 (List.range n3) fd fc fl td tc tl).flatMap cY.cells)∧(tY s (fS (gM s)).2 (fS (gO s)).2 (List.range n3) fd fc fl td tc tl).length≤c)∧Below w.heap.size w w'):=by
  have qI:=hW.nB
  have hn2:=hW.nM
  have oU:=hW.pO
  have cS:=hW.small
  unfold aC.small at cS;obtain⟨hs1,fX,sA,tQ,oA,oQ⟩:=cS;refine aCd (vs:=[.agg #[.slice A1 n1 k1,.slice A2 n2 k2,.slice A3 n3 k3,.slice A4 n4 k4],.agg #[.slice Fd yZ Ia,.slice Fc zA Ib,.slice Fl yY Hy],.agg #[.slice Td yB Gw,.slice Tc yC Gx,.slice Tl yA Gt]]) func278 rfl ntmps278 (by simp) (St.start w) ?_;dsimp only[List.cons_append,List.nil_append];refine kE ?_;refine kV (by kernel_rfl) ?_;refine bA fun g1=>?_;refine bA fun g2=>?_;refine bA fun g3=>?_;refine bH ?_;refine kW ?_;refine eU ?_;refine kE ?_;refine kE ?_;refine kV (by kernel_rfl) ?_;refine bH ?_;refine dH (fun w1 st=>aB8 s A1 A2 A3 A4 n1 k1 n2 k2 n3 k3 n4 k4 w1 (hW.le (st.started (by simp)))) ?_;refine bH ?_;refine kW ?_;refine eU ?_;refine aCc rfl (fun h=>?_) (fun h=>?_)
  ·
    refine kE ?_;refine kV (by kernel_rfl) ?_;refine bH ?_;refine kW ?_;refine eU ?_;refine Oq ?_;refine eU ?_;exact absurd aDX h
  ·
    refine Is ?_;refine eU ?_;refine kE ?_;refine kV (by kernel_rfl) ?_;refine bH ?_;refine jQ [(all w)] (wO (gM s)) (fun w1 st=>aIX s A1 A2 A3 A4 n1 k1 n2 k2 n3 k3 n4 k4 w1 (hW.le (st.started (by simp)))) ?_;rintro _ w1 qda ⟨Ag,cg,rfl,lH⟩ hf Lq _
    have lH:=lH.le hf
    have aUq:=Lq (all w) (by simp)
    clear hf Lq
    refine jQ [qda] (Tw (gM s)) (fun w1 st=>(aAK Ag _ cg (gM s) w1 (lH.le (st.le (by simp))) rfl (by simp[gM];omega) (fun l hl=>by
        simp only[gM,List.mem_map] at hl;obtain⟨x,_,rfl⟩:=hl
        split<;>simp)).mono fun y w2 h=>h.aDf) ?_
    rintro _ w1 qd ⟨AD,mD,cD,rfl,hmD,hsD⟩ hf Lq _
    have hsD:=hsD.le hf
    have Lqd:=Lq qda (by simp)
    clear hf Lq lH;refine bH ?_;refine bH ?_;refine bH ?_;refine bH ?_;refine bH ?_;refine kW ?_;refine eU ?_;refine kE ?_;refine kV (by kernel_rfl) ?_;refine bH ?_;refine jQ [qd] (wO (gO s)) (fun w1 st=>aJr s A1 A2 A3 A4 n1 k1 n2 k2 n3 k3 n4 k4 w1 (hW.le (st.started (by simp)))) ?_;rintro _ w1 qca ⟨Ag,cg,rfl,lH⟩ hf Lq _
    have lH:=lH.le hf
    have aKy:=Lq qd (by simp)
    clear hf Lq
    refine jQ [qca] (Tw (gO s)) (fun w1 st=>(aAK Ag _ cg (gO s) w1 (lH.le (st.le (by simp))) rfl (by simp[gO];omega) (fun l hl=>by
        simp only[gO,List.mem_map] at hl;obtain⟨x,hx,rfl⟩:=hl
        have:=oA x hx;omega)).mono fun y w2 h=>h.aDf) ?_
    rintro _ w1 qc ⟨AC,mC,cC,rfl,hmC,hsC⟩ hf Lq _
    have hsC:=hsC.le hf
    have Lqc:=Lq qca (by simp)
    clear hf Lq lH;refine bH ?_;refine bH ?_;refine bH ?_;refine bH ?_;refine bH ?_;refine kW ?_;refine eU ?_;refine kE ?_;refine kV (by kernel_rfl) ?_;refine bH ?_;refine bH ?_;refine bH ?_;refine mA 8 (el:=3) (z:=iv 0) (by kernel_rfl) (by kernel_rfl) rfl rfl rfl (by omega) (by omega) (by decide) fun g4=>?_;refine bH ?_;refine kW ?_;refine eU ?_;refine kE ?_;refine kE ?_;refine kV (by kernel_rfl) ?_;refine bH ?_;refine bH ?_;refine bH ?_;refine kW ?_;refine eU ?_;refine bK [(36,iv 0),(35,iv n3),(11,.slice (some ⟨g4,0,none⟩) n3 n3),(9,.slice AC mC cC),(7,.slice AD mD cD),(5,pt g3),(4,pt g2),(3,pt g1)] ?_;refine aY (R':=[qc,all w]) [0,1,2,3,4] rfl (by decide) (by simp) ?_;refine Bx ?_;refine aEV (fun m L e R H=>∃k:Nat,k≤n3∧m=n3 - k∧L=[]∧e=[(36,iv k),(35,iv n3),(11,.slice (some ⟨g4,0,none⟩) n3 n3),(9,.slice AC mC cC),(7,.slice AD mD cD),(5,pt g3),(4,pt g2),(3,pt g1)]∧R=[qc,all w]∧H=[HP.aE g4 3 (aK ((dL (List.range k))++List.replicate (n3 - k) 0)),HP.aE g3 116 [.slice Td yB Gw,.slice Tc yC Gx,.slice Tl yA Gt],HP.aE g2 116 [.slice Fd yZ Ia,.slice Fc zA Ib,.slice Fl yY Hy],HP.aE g1 30 [.slice A1 n1 k1,.slice A2 n2 k2,.slice A3 n3 k3,.slice A4 n4 k4],uG []]) n3 ⟨0,by omega,rfl,rfl,rfl,rfl,by simp[aK,dL,Value.cells]⟩ fun m L e R H hI=>?_;obtain⟨k,hk,rfl,rfl,rfl,rfl,rfl⟩:=hI;refine kE ?_;refine kV (by kernel_rfl) ?_;refine bH ?_;refine kW ?_;refine eU ?_;refine kE ?_;refine aCc rfl (fun h=>?_) (fun h=>?_)
    ·
      refine Is ?_;refine eU ?_;refine kE ?_;refine Bx ?_;refine kE ?_;refine kV (by kernel_rfl) ?_;refine bH ?_;refine bH ?_;refine kW ?_;refine eU ?_;refine kV (by kernel_rfl) ?_;refine bH ?_;refine bH ?_;refine bH ?_;refine kd (dat (k) (k)) ?_;refine tL 0 rfl (by kernel_rfl) rfl rfl rfl (by simp[aK,dL];omega) ?_;dsimp only[List.set];rw[aOL (by omega)];refine kW ?_;refine eU ?_;refine kV (by kernel_rfl) ?_;refine bH ?_;refine bH ?_;refine kW ?_;refine eU ?_;exact bK [(36,iv (k+1)),(35,iv n3),(11,.slice (some ⟨g4,0,none⟩) n3 n3),(9,.slice AC mC cC),(7,.slice AD mD cD),(5,pt g3),(4,pt g2),(3,pt g1)] (Zy (n3 - (k+1)) (by omega) ⟨k+1,by omega,rfl,rfl,rfl,rfl,rfl⟩)
    ·
      refine aEW ?_;refine eU ?_;refine kE ?_;refine kV (by kernel_rfl) ?_;refine bU fun g5=>?_;refine kW ?_;refine eU ?_;refine kE ?_;refine kE ?_;refine dO [qc] [1] [0,2,3,4,5] (by simp) rfl (by decide) (by decide) fun q5 Mw L5 _=>?_
      have L5:=L5 qc (by simp)
      have hk3:k=n3:=by omega
      have aIm:=tI (n:=n3) (sz:=1) (c:=n3) (Mw 1 _ (by simp) rfl).choose_spec.1 (Mw 1 _ (by simp) rfl).choose_spec.2 (by simp[aK,dL];omega)
      rw[hk3,Nat.sub_self,List.replicate_zero,List.append_nil] at aIm
      have L0:(all w).Le q5:=(((aUq.trans' Lqd).trans' aKy).trans' Lqc).trans' L5
      refine aY (R':=[q5,all w]) [0,1,2,3,4] rfl (by decide) (by simp) ?_;refine kV (by kernel_rfl) ?_;refine bH ?_;refine bH ?_;refine bH ?_;refine bH ?_;refine bH ?_;refine bH ?_;refine jQ [q5] (aKH q5 (tY s (fS (gM s)).2 (fS (gO s)).2 (List.range n3) fd fc fl td tc tl)) (fun w1 st=>aTp q5 s A1 A2 A3 A4 AD AC (some ⟨g4,0,none⟩) Fd Fc Fl Td Tc Tl n1 k1 n2 k2 n3 k3 n4 k4 mD cD mC cC n3 n3 yZ Ia zA Ib yY Hy yB Gw yC Gx yA Gt (fS (gM s)).2 (fS (gO s)).2 (List.range n3) fd fc fl td tc tl w1 (st.le (by simp)) (hW.dom.mono (nW L0) (fun _ _ h=>h)) (by omega) (hsD.le ((aKy.trans' Lqc).trans' L5)) hmD (by omega) hDb (hsC.le L5) hmC (by omega) hCb aIm (by simp) (by omega) (fun i hi=>by have:=List.mem_range.1 hi;omega) (Rp.le L0) aBq (Re.le L0) aBh (Rq.le L0) aBr (Rf.le L0) aBi (hfl.le L0) aBp (nP.le L0) aBf) ?_;rintro _ w1 q6 ⟨g6,rfl,hall⟩ hf L6 _
      have hit:=hall q6 (L6 q5 (by simp)) hf
      refine kW ?_;refine eU ?_;refine Bx ?_;refine iP 247 4 ?_;refine nH ?_;generalize hSL:tY s (fS (gM s)).2 (fS (gO s)).2 (List.range n3) fd fc fl td tc tl=SL at hit;refine xL 0 (f:=fun v=>HP.many [HP.own 247 4 v 0 ((SL.take 0).flatMap cY.cells),HP.aE g5 121 [v]]) (sn) rfl ?_;dsimp only[List.set];refine aY (R':=[q6,all w]) [0,4] rfl (by decide) (by simp) ?_;refine bK [(50,.func (.func 286) #[] #[pt g6]),(13,pt g5)] ?_
      refine aEU (gf:=286) (lb:=[pt g6]) (encs:=pM SL) (p:=q6) rfl (by kernel_rfl) hit (by simp) (fun vs hvs=>?_) (by decide) (fun k=>[(HP.ex fun v=>HP.many [HP.own 247 4 v k ((SL.take k).flatMap cY.cells),HP.aE g5 121 [v]])]) (fun _=>[HP.ex fun(_:Empty)=>cH])
        (fun k vs e1 H1=>∃(g7:Nat) (s:cY),vs=[tM s]∧e1=[(14,pt g7),(13,pt g5)]∧H1=[HP.aE g7 247 s.cells,(HP.ex fun v=>HP.many [HP.own 247 4 v k ((SL.take k).flatMap cY.cells),HP.aE g5 121 [v]])]) rfl ?_ ?_ ?_ ?_
      · simp only[pM,List.mem_map] at hvs
        obtain⟨s,_,rfl⟩:=hvs;rfl
      · intro l2 k vs W1 q X hvs cS
        obtain⟨s,rfl⟩:∃s,vs=[tM s]:=by
          simp only[pM,List.getElem?_map,Option.map_eq_some_iff] at hvs;obtain⟨s,_,e⟩:=hvs;exact⟨s,e.symm⟩
        dsimp only[List.cons_append,List.nil_append];refine kV (by kernel_rfl) ?_;refine bU fun g7=>?_;refine rO 0 rfl rfl rfl (by kernel_rfl) (by simp[tM,cY.cells,Value.cells,Value.oneCell']) (by simp[tM,cY.cells,Value.cells]) ?_;rw[show iI [Value.int .i64 0,iv 0,.int .u32 0,.int .u32 0] 0 (tM s).cells.toList=s.cells by simp[iI,tM,cY.cells,Value.cells]];dsimp only[List.set];refine kW ?_;refine bK [(14,pt g7),(13,pt g5)] ?_;exact aEY (H1:=[HP.aE g7 247 s.cells,(HP.ex fun v=>HP.many [HP.own 247 4 v k ((SL.take k).flatMap cY.cells),HP.aE g5 121 [v]])]) ⟨g7,s,rfl,rfl,rfl⟩
      · rintro l2 k vs W1 q X _ _ hvs cS ⟨g7,s,rfl,rfl,rfl⟩
        have hsk:SL[k]? =some s:=by
          simp only[pM,List.getElem?_map,Option.map_eq_some_iff] at hvs;obtain⟨s',h,e⟩:=hvs
          have:s'=s:=by
            cases s;cases s';simp[tM,cY.cells] at e;simp[e]
          exact this▸h
        have Wq:=(List.getElem?_eq_some_iff.1 hsk).1
        have aUG:SL.length≤6000000:=by rw[←hSL];refine Nat.le_trans (aJG _ _ _ _ _ _ _ _ _ _) ?_;simp only[List.length_range];omega
        have mO:((SL.take (k+1)).flatMap cY.cells)=((SL.take k).flatMap cY.cells)++s.cells:=by
          rw[List.take_add_one,hsk];simp
        dsimp only[List.cons_append,List.nil_append];refine Bx ?_;refine lY 1 fun v=>?_;refine bF 1 0 ?_;refine bF 2 1 ?_;refine kV (by kernel_rfl) ?_;refine jE (by kernel_rfl) rfl (Rd.aE 0 rfl rfl) (by decide) ?_;refine zQ 4 (by kernel_rfl) rfl (aR.whole 2 rfl) rfl (by decide) ?_;refine aF5 (cs:=s.cells) (el:=247) (sz:=4) (zs:=[iv 0,iv 0,.int .u32 0,.int .u32 0]) (by kernel_rfl) (iG (by kernel_rfl)) (by kernel_rfl) rfl (by decide) (by decide) rfl (by simp[fI,gI,Value.cells,List.range_succ,List.set,cY.cells]) (by decide) fun g8=>?_;refine gH 2 4 24 1 (n':=k+1) (el:=247) (by kernel_rfl) (by kernel_rfl) (by decide) rfl rfl rfl (nL 0 rfl rfl) (by simp[cY.cells,Value.oneCell']) rfl (by omega) (by omega) (by decide) fun A' k'=>?_;dsimp only[List.set];refine tL 1 rfl (by kernel_rfl) rfl rfl rfl (by simp) ?_;dsimp only[List.set];refine kW ?_;refine aY [2,1,4,5] rfl (by decide) (fun _ hp=>hp) ?_;refine aP 1 0 ?_;refine aP 0 1 ?_;refine xL 0 (f:=fun v=>HP.many [HP.own 247 4 v (k+1) ((SL.take (k+1)).flatMap cY.cells),HP.aE g5 121 [v]]) (.slice A' (k+1) k') (by rw[mO];rfl) ?_;dsimp only[List.set];refine eU ?_;exact aEX
      rotate_left
      · intro D k hk
        exact aBW 0 rfl fun a=>a.elim
      intro D;dsimp only[List.cons_append,List.nil_append];refine lY 0 fun v=>?_;refine bF 0 0 ?_;refine bF 1 1 ?_;refine eU ?_;refine kE ?_;refine kV (by kernel_rfl) ?_;refine bH ?_;refine bH ?_;refine kW ?_;refine eU ?_;refine Oq ?_;refine eU ?_;refine dO [] [1] [3] (by simp) rfl (by decide) (by decide) fun qf Wj _ hfr=>?_;obtain⟨Ff,sf,zf⟩:=Wj 1 _ (by simp) rfl;obtain⟨Av,cv,rfl,vX,Xg⟩:=aUi (Y:=qf.Z) sf zf;refine aTP (Hs:=[]) rfl rfl fun w1 st=>⟨⟨Av,cv,by simp[pM],?_,by simpa[pM] using Xg⟩,st.below (by simp)⟩
      have hlen:(pM SL).length=SL.length:=by simp[pM]
      rw[hlen,List.take_length] at vX;exact aI.le vX (st.mH (by simp) (hfr (by simp) (by simp)))
end
section
def eqV:Value→Value→Bool
 | .int _ a,.int _ b=>a==b
 | .bool a,.bool b=>a==b
 | _,_=>false
def Sf:List Value→List Value→Bool
 | [],[]=>true
 | x::xs,y::ys=>eqV x y&&Sf xs ys
 | _,_=>false
def Kl(P:Program):List Field→Nat→List Value→List Value→Bool
 | [],_,[],[]=>true
 | f :: fs, i, x :: xs, y :: ys => f.name != "_" && f.offset == i && (match P.underlying f.type, x, y with
   | some (.int _),.int kx _,.int ky _=>decide (kx=ky)
   | some .bool,.bool _,.bool _=>true
   | _,_,_=>false)&&Kl P fs (i+1) xs ys
 | _,_,_,_=>false
section
variable{P:Program}{w:World}
theorem aA4{t:TypeId}{cs:Array Value}{i:Nat}{v:Value}{d:TypeDesc}(hu:P.underlying t=some d)(hd:(∃k,d=.int k)∨d=.bool)(hx:cs[i]? =some v):(part t cs i).run P w=.ok v w:=by
 rcases hd with⟨k,rfl⟩ | rfl<;>simp[part,isAgg,run_underlying hu,hx]
theorem aG5(d:Nat)(xs ys:Array Value):∀(fs:List Field) (i:Nat),Kl P fs i (xs.toList.drop i) (ys.toList.drop i)=true→(Op.eqFields (d+1) xs ys fs).run P w=.ok (Sf (xs.toList.drop i) (ys.toList.drop i)) w
 | [], i, h => by
  cases hx:xs.toList.drop i with
  | nil=>cases hy:ys.toList.drop i with
   | nil=>simp[Op.eqFields,Sf]
   | cons y yr=>rw[hx,hy] at h;simp[Kl] at h
  | cons x xr=>rw[hx] at h;simp[Kl] at h
 | f :: fs, i, h => by
  cases hx:xs.toList.drop i with
  | nil=>rw[hx] at h;simp[Kl] at h
  | cons x xr =>
   cases hy:ys.toList.drop i with
   | nil=>rw[hx,hy] at h;simp[Kl] at h
   | cons y yr =>
    rw[hx,hy] at h;simp only[Kl,Bool.and_eq_true,bne_iff_ne,beq_iff_eq] at h;obtain⟨⟨⟨h1,h2⟩,h3⟩,h4⟩:=h
    have ex:xs[i]? =some x:=by
     have:(xs.toList.drop i)[0]? =some x:=by rw[hx];rfl
     simpa using this
    have ey:ys[i]? =some y:=by
     have:(ys.toList.drop i)[0]? =some y:=by rw[hy];rfl
     simpa using this
    have dx:xr=xs.toList.drop (i+1):=by rw[←List.tail_drop,hx];rfl
    have dy:yr=ys.toList.drop (i+1):=by rw[←List.tail_drop,hy];rfl
    subst dx;subst dy
    have ih:=aG5 d xs ys fs (i+1) h4
    have key:∃u,P.underlying f.type=some u∧((∃k,u=.int k)∨u=.bool)∧(Op.equalIn (d+1) f.type x y).run P w=.ok (eqV x y) w:=by
     split at h3
     ·rename_i k kx a ky b hu
      have:=of_decide_eq_true h3
      subst this;exact⟨_,hu,.inl ⟨_,rfl⟩,run_equalIn_int w d f.type kx _ a b hu⟩
     ·rename_i a b hu
      exact⟨_,hu,.inr rfl,run_equalIn_bool' w d f.type a b hu⟩
     ·cases h3
    obtain⟨u,hu,hk,he⟩:=key;simp only[Op.eqFields,if_pos h1,Sem.run_bind,h2,aA4 hu hk ex,aA4 hu hk ey,Result.andThen_ok,he,Sem.run_ite,Sem.run_pure,ih,Sf];cases eqV x y<;>simp
variable{N:cF}{w0:World}{e:Env}{R:List Piece}{H:List HP}{Q:Exit→Act→World→Prop}{ops:Array Oper}{rest:List Oper}
variable{d:Nat}{ty:TypeId}{pos:String}{aH:Array Edge}
def Sb(P:Program)(t:TypeId)(xs ys:List Value):Bool:=(match P.underlying t with
 | some (.struct fs)=>Kl P fs.toList 0 xs ys
 | _=>false)&& !P.stoodInHeld t&& !P.eqGuardType P.depth t
theorem aMi{t:TypeId}{xs ys:List Value}(h:Sb P t xs ys=true):(Op.equal t (.agg xs.toArray) (.agg ys.toArray)).run P w=.ok (Sf xs ys) w∧∀op x y,(eqGuard op t x y (.agg xs.toArray) (.agg ys.toArray)).run P w=.ok () w:=by
 unfold Sb at h;simp only[Bool.and_eq_true,Bool.not_eq_true'] at h;obtain⟨⟨h1,h2⟩,h3⟩:=h;refine⟨?_,fun op x y=>run_eqGuard_agg w op t x y _ _ h3⟩;split at h1
 ·rename_i fs hu
  have hf:P.fieldsOf t=fs:=by unfold Program.fieldsOf;rw[hu]
  have:=run_equalIn_struct (P:=P) w 9999 t xs.toArray ys.toArray (by rw[hf];exact hu) h2
  unfold Op.equal Op.maxDepth;rw[this,hf]
  have:=aG5 (P:=P) (w:=w) 9998 xs.toArray ys.toArray fs.toList 0 (by simpa using h1)
  simpa using this
 ·cases h1
end
end
section
structure bJ where
 d:List Bool
 c:List Bool
 l:List Bool
def By(p:Piece)(x:bJ)(v:Value):Prop:=∃A1 k1 A2 k2 A3 k3,v=.agg #[.slice A1 x.d.length k1,.slice A2 x.c.length k2,.slice A3 x.l.length k3]∧
 aI p 1 A1 x.d.length (bE x.d)∧aI p 1 A2 x.c.length (bE x.c)∧aI p 1 A3 x.l.length (bE x.l)
theorem By.le{p q:Piece}{x:bJ}{v:Value}(h:By p x v)(hl:p.Le q):By q x v:=by
 obtain⟨A1,k1,A2,k2,A3,k3,h0,h1,h2,h3⟩:=h;exact⟨A1,k1,A2,k2,A3,k3,h0,h1.le hl,h2.le hl,h3.le hl⟩
def Tr(Rl:Value→World→World→Prop)(w:World):Ending→World→Prop:=fun y w'=>(∃v,y=.returned v∧Rl v w w')∧Below w.heap.size w w'
end
section
def gX(l:List Bool)(id:Int)(b:Bool):List Bool:=l.set id.toNat b
theorem Mf(l:List Bool)(id:Int)(b:Bool):(gX l id b).length=l.length:=by simp[gX]
def gP(x:bJ)(p:cY):bJ:=
 if p.pr=17∧p.msg=4∧p.v≤2 then⟨gX x.d p.id (decide (p.v=1)),x.c,x.l⟩
 else if p.pr=20∧p.msg=7∧p.v≤1 then⟨x.d,gX x.c p.id (decide (p.v=1)),x.l⟩
 else if p.pr=22∧p.msg=4∧p.v≤1 then⟨x.d,x.c,gX x.l p.id (decide (p.v=0))⟩ else x
structure bJ.sm(x:bJ):Prop where
 d:x.d.length≤1000000
 c:x.c.length≤1000000
 l:x.l.length≤1000000
theorem aSY(x:bJ)(p:cY):(gP x p).d.length=x.d.length∧(gP x p).c.length=x.c.length∧(gP x p).l.length=x.l.length:=by
 unfold gP;split
 ·simp[Mf]
 ·split
  ·simp[Mf]
  ·split<;>simp[Mf]
theorem aEF(l:List Bool)(k:Nat)(b:Bool):(bE l).set k (.bool b)=bE (l.set k b):=by simp[bE,List.map_set]
theorem aEG(l:List Bool):(bE l).length=l.length:=by simp[bE]
theorem Sw(l:List Bool):∀u∈bE l,u.oneCell'=true:=by
 intro u hu;simp only[bE,List.mem_map] at hu;obtain⟨x,_,rfl⟩:=hu;rfl
structure cY.ok(p:cY):Prop where
 pr: -9223372036854775808≤p.pr∧p.pr≤9223372036854775807
 msg: -9223372036854775808≤p.msg∧p.msg≤9223372036854775807
 id:0≤p.id∧p.id < 4294967296
 v:0≤p.v∧p.v < 4294967296
end
section
structure pW(p:Piece)(s:aC)(A1:Option Addr)(n1:Nat)(A2:Option Addr)(n2:Nat)(A3:Option Addr)(n3:Nat)(A4:Option Addr)(n4:Nat):Prop where
 jK:jN (fF p) (uI (fF p)) 86 6 A1 n1 s.aF
 dom:jN (fF p) vF 50 3 A2 n2 s.domains
 Ct:jN (fF p) zH 88 1 A3 n3 s.aT
 dev:jN (fF p) (tJ (fF p)) 38 6 A4 n4 s.aD
section
variable{p q:Piece}{w:World}{s:aC}{A1 A2 A3 A4:Option Addr}{n1 n2 n3 n4:Nat}
theorem pW.le(h:pW p s A1 n1 A2 n2 A3 n3 A4 n4)(hl:p.Le q):pW q s A1 n1 A2 n2 A3 n3 A4 n4:=
 ⟨h.jK.mono (nW hl) (fun _ _=>uI.mono (nW hl)),h.dom.mono (nW hl) (fun _ _ h=>h),h.Ct.mono (nW hl) (fun _ _ h=>h),h.dev.mono (nW hl) (fun _ _=>tJ.mono (nW hl))⟩
theorem pW.W(h:pW p s A1 n1 A2 n2 A3 n3 A4 n4)(hl:p.Le (all w))(hs:s.small):fL w s A1 n1 A2 n2 A3 n3 A4 n4:=⟨(h.le hl).jK,(h.le hl).dom,(h.le hl).Ct,(h.le hl).dev,hs⟩
theorem pW.len(h:pW p s A1 n1 A2 n2 A3 n3 A4 n4):n1=s.aF.length∧n2=s.domains.length∧n3=s.aT.length∧n4=s.aD.length:=by
 obtain⟨⟨_,_,h1,_⟩,⟨_,_,h2,_⟩,⟨_,_,h3,_⟩,⟨_,_,h4,_⟩⟩:=h;exact⟨h1,h2,h3,h4⟩
theorem wH.P{cs:Array Value}(h:wH (fF p) s cs):∃A1 n1 k1 A2 n2 k2 A3 n3 k3 A4 n4 k4,cs=#[.slice A1 n1 k1,.slice A2 n2 k2,.slice A3 n3 k3,.slice A4 n4 k4]∧pW p s A1 n1 A2 n2 A3 n3 A4 n4:=by
 obtain⟨A1,n1,k1,A2,n2,k2,A3,n3,k3,A4,n4,k4,h0,h1,h2,h3,h4⟩:=h;exact⟨A1,n1,k1,A2,n2,k2,A3,n3,k3,A4,n4,k4,h0,h1,h2,h3,h4⟩
end
def allM(s:aC)(x y:bJ):List cY:=tY s (List.range s.domains.length) (List.range s.aF.length) (List.range s.aT.length) x.d x.c x.l y.d y.c y.l
def aKl(l:List cY)(v:Value)(w w':World):Prop:=∃A c,v=.slice A l.length c∧aI (fresh w w') 4 A l.length (l.flatMap cY.cells)∧l.length≤c
theorem aLD{q qx qy:Piece}{s:aC}{A1 A2 A3 A4:Option Addr}{n1 k1 n2 k2 n3 k3 n4 k4:Nat}{x y:bJ}{v1 v2:Value}{w:World}(hS:pW q s A1 n1 A2 n2 A3 n3 A4 n4)(hm:s.made)(hq:q.Le (all w))(hx:By qx x v1)(Hl:qx.Le (all w))(hy:By qy y v2)(hqy:qy.Le (all w)):
  Cz 278 #[.agg #[.slice A1 n1 k1,.slice A2 n2 k2,.slice A3 n3 k3,.slice A4 n4 k4],v1,v2] w (Tr (aKl (allM s x y)) w):=by
 obtain⟨o1,o2,o3⟩:=aDv hm;obtain⟨rfl,rfl,rfl,rfl⟩:=hS.len;obtain⟨B1,b1,B2,b2,B3,b3,rfl,hx1,vU,hx3⟩:=hx;obtain⟨C1,c1,C2,c2,C3,c3,rfl,hy1,Au,Ra⟩:=hy
 have h1:=hm.nc
 have h2:=hm.nd
 have h:=aLC s A1 A2 A3 A4 B1 B2 B3 C1 C2 C3 _ k1 _ k2 _ k3 _ k4 _ b1 _ b2 _ b3 _ c1 _ c2 _ c3 x.d x.c x.l y.d y.c y.l w (hS.W hq (Vw hm)) (aAU hm) (by rw[o2];simp;omega) (by rw[o1];simp;omega)
  (fun i hi=>by rw[o2] at hi;have:=List.mem_range.1 hi;omega) (fun i hi=>by rw[o1] at hi;have:=List.mem_range.1 hi;omega)
  (hx1.le Hl) rfl (hy1.le hqy) rfl (vU.le Hl) rfl (Au.le hqy) rfl (hx3.le Hl) rfl (Ra.le hqy) rfl
 rw[o1,o2] at h
 have hL:tY s ((0:Int),List.range s.domains.length).2 ((0:Int),List.range s.aF.length).2 (List.range s.aT.length) x.d x.c x.l y.d y.c y.l=allM s x y:=rfl
 rw[hL] at h;clear hL;generalize allM s x y=L at h⊢;refine Calls.mono h ?_;rintro z w' ⟨⟨A,c,hz,hs,hc⟩,hb⟩;exact⟨⟨_,hz,⟨A,c,rfl,hs,hc⟩⟩,hb⟩
end
section
theorem jN.zW{α:Type}{p:Piece}{R:α→List Value→Prop}{t:TypeId}{sz n:Nat}{A:Option Addr}{es:List α}(h:jN (fF p) R t sz A n es){k:Nat}{e:α}(hk:es[k]? =some e):
  ∃b off r,A=some ⟨b,off,none⟩∧p.Z b∧r.length=sz∧R e r∧∀f u,r[f]? =some u→p.w.cell? ⟨b,off+k*sz+f,none⟩=some u:=by
 obtain⟨rows,h1,h2,h3⟩:=h
 have hlt:k < n:=by
  rw[h2];rcases Nat.lt_or_ge k es.length with h | h
  ·exact h
  ·rw[List.getElem?_eq_none h] at hk;cases hk
 obtain⟨b,off,hA,hb,hc⟩:=aI.at_ h3 hlt;obtain⟨r,h4,h5,h6⟩:=h1.get hk;refine⟨b,off,r,hA,hb,h4,h5,fun f u hu=>hc f u ?_⟩
 have hf:f < sz:=by
  rw[←h4];rcases Nat.lt_or_ge f r.length with h | h
  ·exact h
  ·rw[List.getElem?_eq_none h] at hu;cases hu
 rw[h6 f hf,hu]
theorem aO4{p:cY}{pr msg:Int}{val:Nat→Int}{ids:List Nat}(h:p∈jO pr msg val ids):∃i∈ids,p=⟨pr,msg,i,val i⟩:=by
 simp only[jO,List.mem_map] at h;obtain⟨i,hi,rfl⟩:=h;exact⟨i,hi,rfl⟩
theorem aCV(s:aC)(k:Nat):lB s k=0∨lB s k=2:=by unfold lB;split<;>simp
theorem Qa{pr msg:Int}{val:Nat→Int}{ids:List Nat}(h1:pr=17∨pr=20∨pr=22)(h2:msg=4∨msg=7)(hv:∀k,val k=0∨val k=1∨val k=2)(hi:∀i∈ids,i < 1000):∀p∈jO pr msg val ids,p.ok:=by
 intro p hp;obtain⟨i,hi',rfl⟩:=aO4 hp
 have h3:=hi i hi'
 have h4:=hv i
 exact⟨by dsimp only;omega,by dsimp only;omega,by dsimp only;omega,by dsimp only;omega⟩
theorem aTr{s:aC}(hm:s.made)(x y:bJ):∀p∈allM s x y,p.ok:=by
 have h1:=hm.nc
 have h2:=hm.nd
 have h3:=hm.nr
 have mr:∀(n:Nat) (fr to:List Bool),n≤9→∀i∈eW (List.range n) fr to,i < 1000:=fun n fr to hn i hi=>by have:=List.mem_range.1 (List.mem_filter.1 hi).1;omega
 have mv:∀(n:Nat) (fr to:List Bool),n≤9→∀i∈eW (List.range n).reverse fr to,i < 1000:=fun n fr to hn i hi=>by have:=List.mem_range.1 (List.mem_reverse.1 (List.mem_filter.1 hi).1);omega
 intro p hp;simp only[allM,tY,List.mem_append] at hp;rcases hp with hp | hp | hp | hp | hp | hp
 ·exact Qa (by omega) (by omega) (fun _=>by omega) (mr _ _ _ (by omega)) p hp
 ·exact Qa (by omega) (by omega) (fun _=>by omega) (mr _ _ _ (by omega)) p hp
 ·exact Qa (by omega) (by omega) (fun _=>by omega) (mr _ _ _ (by omega)) p hp
 ·exact Qa (by omega) (by omega) (fun _=>by omega) (mr _ _ _ (by omega)) p hp
 ·exact Qa (by omega) (by omega) (fun _=>by omega) (mv _ _ _ (by omega)) p hp
 ·exact Qa (by omega) (by omega) (fun k=>by have:=aCV s k;omega) (mv _ _ _ (by omega)) p hp
theorem aTt{s:aC}(hm:s.made)(x y:bJ):(allM s x y).length≤32:=by
 have h1:=hm.nc
 have h2:=hm.nd
 have h3:=hm.nr
 refine Nat.le_trans (aJG _ _ _ _ _ _ _ _ _ _) ?_;simp only[List.length_range];omega
end
section
theorem aHd(l:List Bool)(i j:Nat)(b:Bool):(gX l (i:Int) b)[j]? =if i=j then(l[j]?).map (fun _=>b) else l[j]? :=by
 unfold gX;rw[Int.toNat_natCast,List.getElem?_set]
 by_cases h:i=j
 ·subst h;rw[if_pos rfl,if_pos rfl]
  by_cases hl:i < l.length
  ·rw[if_pos hl,List.getElem?_eq_getElem hl];rfl
  ·rw[if_neg hl,List.getElem?_eq_none (by omega)];rfl
 ·rw[if_neg h,if_neg h]
theorem Vl(b:Bool):∀(ids:List Nat) (l:List Bool) (j:Nat),(ids.foldl (fun d (i:Nat)=>gX d (i:Int) b) l)[j]? =if j∈ids then(l[j]?).map (fun _=>b) else l[j]?
 | [],l,j=>by simp
 | i :: ids, l, j => by
  rw[List.foldl_cons,Vl b ids,aHd]
  by_cases h2:i=j
  ·subst h2
   by_cases h1:i∈ids<;>simp[h1]<;>(cases l[i]? <;>rfl)
  ·have h3:¬j=i:=fun e=>h2 e.symm
   by_cases h1:j∈ids<;>simp[h1,h2,h3]
theorem Xy{val:Nat→Int}{b:Bool}(h:∀k,val k≤2∧decide (val k=1)=b):∀(ids:List Nat) (x:bJ),(jO 17 4 val ids).foldl gP x=⟨ids.foldl (fun d (i:Nat)=>gX d (i:Int) b) x.d,x.c,x.l⟩
 | [],x=>rfl
 | i :: ids, x => by
  have h1:=h i
  have e:gP x ⟨17,4,(i:Int),val i⟩=⟨gX x.d (i:Int) b,x.c,x.l⟩:=by
   unfold gP;dsimp only;rw[if_pos ⟨rfl,rfl,h1.1⟩,h1.2]
  show(jO 17 4 val ids).foldl gP (gP x ⟨17,4,(i:Int),val i⟩)=_
  rw[e,Xy h ids];rfl
theorem Xz{val:Nat→Int}{b:Bool}(h:∀k,val k≤1∧decide (val k=1)=b):∀(ids:List Nat) (x:bJ),(jO 20 7 val ids).foldl gP x=⟨x.d,ids.foldl (fun d (i:Nat)=>gX d (i:Int) b) x.c,x.l⟩
 | [],x=>rfl
 | i :: ids, x => by
  have h1:=h i
  have e:gP x ⟨20,7,(i:Int),val i⟩=⟨x.d,gX x.c (i:Int) b,x.l⟩:=by
   unfold gP;dsimp only;rw[if_neg (by omega),if_pos ⟨rfl,rfl,h1.1⟩,h1.2]
  show(jO 20 7 val ids).foldl gP (gP x ⟨20,7,(i:Int),val i⟩)=_
  rw[e,Xz h ids];rfl
theorem Xx{val:Nat→Int}{b:Bool}(h:∀k,val k≤1∧decide (val k=0)=b):∀(ids:List Nat) (x:bJ),(jO 22 4 val ids).foldl gP x=⟨x.d,x.c,ids.foldl (fun d (i:Nat)=>gX d (i:Int) b) x.l⟩
 | [],x=>rfl
 | i :: ids, x => by
  have h1:=h i
  have e:gP x ⟨22,4,(i:Int),val i⟩=⟨x.d,x.c,gX x.l (i:Int) b⟩:=by
   unfold gP;dsimp only;rw[if_neg (by omega),if_neg (by omega),if_pos ⟨rfl,rfl,h1.1⟩,h1.2]
  show(jO 22 4 val ids).foldl gP (gP x ⟨22,4,(i:Int),val i⟩)=_
  rw[e,Xx h ids];rfl
theorem xA{n i:Nat}{a b:List Bool}:i∈eW (List.range n) a b↔i < n∧sO a b i=true:=by simp[eW]
theorem Jo{n i:Nat}{a b:List Bool}:i∈eW (List.range n).reverse a b↔i < n∧sO a b i=true:=by simp[eW]
theorem aCE{n:Nat}{a b:List Bool}{up dn:List Nat}(ha:a.length=n)(hb:b.length=n)(hu:∀i,i∈up↔i < n∧sO a b i=true)(hd:∀i,i∈dn↔i < n∧sO b a i=true):
  dn.foldl (fun d (i:Nat)=>gX d (i:Int) false) (up.foldl (fun d (i:Nat)=>gX d (i:Int) true) a)=b:=by
 apply List.ext_getElem?;intro j;rw[Vl,Vl];rcases Nat.lt_or_ge j n with h | h
 ·have h1:=hu j
  have h2:=hd j
  have e1:a[j]? =some (a[j]'(by omega)):=List.getElem?_eq_getElem _
  have e2:b[j]? =some (b[j]'(by omega)):=List.getElem?_eq_getElem _
  simp only[sO,hasB,e1,e2,Option.getD_some] at h1 h2⊢;cases yW:a[j]'(by omega)<;>cases hb':b[j]'(by omega)<;>simp[yW,hb',h,h1,h2] at h1 h2⊢ <;>simp[h1,h2]
 ·rw[List.getElem?_eq_none (by omega),List.getElem?_eq_none (by omega)];simp
structure bJ.of(x:bJ)(s:aC):Prop where
 d:x.d.length=s.domains.length
 c:x.c.length=s.aF.length
 l:x.l.length=s.aT.length
theorem aQE{s:aC}{x y:bJ}(hx:x.of s)(hy:y.of s):(allM s x y).foldl gP x=y:=by
 unfold allM tY;simp only[List.foldl_append]
 rw[Xy (val:=fun _=>1) (b:=true) (fun _=>⟨by decide,rfl⟩),Xz (val:=fun _=>1) (b:=true) (fun _=>⟨by decide,rfl⟩),Xx (val:=fun _=>0) (b:=true) (fun _=>⟨by decide,rfl⟩),Xx (val:=fun _=>1) (b:=false) (fun _=>⟨by decide,rfl⟩),Xz (val:=fun _=>0) (b:=false) (fun _=>⟨by decide,rfl⟩),
  Xy (val:=lB s) (b:=false) (fun k=>by have:=aCV s k;exact⟨by omega,decide_eq_false (by omega)⟩)]
 dsimp only;rw[aCE hx.d hy.d (fun i=>xA) (fun i=>Jo),aCE hx.c hy.c (fun i=>xA) (fun i=>Jo),aCE hx.l hy.l (fun i=>xA) (fun i=>xA)]
end
section
structure AL where
 d:Nat
 t:TypeId
 cs:List Value
 val:Nat→Value
def rB(al:Nat→AL)(g:Nat→Nat)(ds:List Nat)(e:Env):Env:=ds.map (fun i=>((al i).d,(al i).val (g i)))++e
def tR(al:Nat→AL)(g:Nat→Nat)(ds:List Nat)(H:List HP):List HP:=ds.map (fun i=>HP.aE (g i) (al i).t (al i).cs)++H
def kT(ds:List Nat)(l:Array Bool):Array Bool:=ds.foldr (fun i a=>a.setIfInBounds i true) l
def Lz:List Nat→List (List Nat)
 | []=>[[]]
 | i::l=>(Lz l).map (i:: ·)++Lz l
theorem Py(p:Nat→Bool):∀l:List Nat,l.filter p∈Lz l
 | []=>by simp[Lz]
 | i::l=>by
  unfold Lz;rw[List.filter_cons];split
  ·exact List.mem_append_left _ (List.mem_map_of_mem (Py p l))
  ·exact List.mem_append_right _ (Py p l)
def aNn(ops:Array Oper)(idx:List Nat)(ex:List (List Nat))(listed:Array Bool):Bool:=
 (Lz idx).all fun sub=>ex.contains sub||(!(Region.ready .any ops (kT sub listed)).isEmpty&&(Region.ready .any ops (kT sub listed)).all fun j=>idx.contains j&& !sub.contains j)
theorem aAT{l1 l2:List Nat}(h:l1.Perm l2)(l:Array Bool):kT l1 l=kT l2 l:=by
 induction h with
 | nil=>rfl
 | cons x _ ih=>show(kT _ l).setIfInBounds x true=_;rw[ih];rfl
 | swap x y s=>
  show((kT s l).setIfInBounds x true).setIfInBounds y true=((kT s l).setIfInBounds y true).setIfInBounds x true
  by_cases hxy:x=y
  ·rw[hxy]
  ·exact Array.setIfInBounds_comm _ _ hxy
 | trans _ _ h1 h2=>exact h1.trans h2
section
variable{P:Program}{N:cF}{w0 w:World}{e:Env}{R R0:List Piece}{H H0:List HP}{Q:Exit→Act→World→Prop}{ops:Array Oper}{m fuel:Nat}{listed:Array Bool}{K:Act→World→Prop}
variable{al:Nat→AL}{g g':Nat→Nat}
theorem aBw(k:Nat)(v:Value)(e:Env)(t:Nat):Env.get ((k,v)::e) t=if k=t then some v else e.get t:=by
 show(match Nat.beq k t with | true=>some v | false=>Env.get e t)=_
 by_cases h:k=t
 ·subst h;rw[if_pos rfl,Nat.beq_refl]
 ·rw[if_neg h];cases hb:Nat.beq k t with
  | true=>exact absurd (Nat.eq_of_beq_eq_true hb) h
  | false=>rfl
theorem aIP{l1 l2:List Nat}(h:l1.Perm l2)(hn:(l1.map fun i=>(al i).d).Nodup)(t:Nat):(rB al g l1 e).get t=(rB al g l2 e).get t:=by
 induction h with
 | nil=>rfl
 | cons x _ ih=>
  show Env.get ((_,_)::rB al g _ e) t=Env.get ((_,_)::rB al g _ e) t
  rw[aBw,aBw,ih (List.nodup_cons.1 (show((al x).d::List.map (fun i=>(al i).d) _).Nodup from hn)).2]
 | swap x y s=>
  show Env.get ((_,_)::(_,_)::rB al g s e) t=Env.get ((_,_)::(_,_)::rB al g s e) t
  have hne:(al y).d≠(al x).d:=fun he=>(List.nodup_cons.1 (show((al y).d::(al x).d::List.map (fun i=>(al i).d) s).Nodup from hn)).1 (by rw[he];exact List.mem_cons_self)
  simp only[aBw]
  by_cases h1:(al x).d=t
  ·rw[if_pos h1,if_neg (fun h2=>hne (h2.trans h1.symm)),if_pos h1]
  ·rw[if_neg h1,if_neg h1]
 | trans h1 h2 i1 i2=>exact(i1 hn).trans (i2 ((h1.map _).nodup_iff.1 hn))
theorem aIf{l1 l2:List Nat}(h:l1.Perm l2):∀pre:List HP,St w0 R (pre++tR al g l1 H) w→St w0 R (pre++tR al g l2 H) w:=by
 induction h with
 | nil=>exact fun _ h=>h
 | cons x _ ih=>
  intro pre st
  have:=ih (pre++[HP.aE (g x) (al x).t (al x).cs]) (by rw[List.append_assoc];exact st)
  rw[List.append_assoc] at this;exact this
 | swap x y s =>
  intro pre st;refine st.weak (fun _ hp=>hp) (fun i=>if i=pre.length then pre.length+1 else if i=pre.length+1 then pre.length else i) (fun i j _ _ he=>?_) (fun i p hi=>?_)
  ·split at he<;>split at he<;>(try split at he)<;>(try split at he)<;>omega
  ·change (pre++HP.aE (g x) (al x).t (al x).cs::HP.aE (g y) (al y).t (al y).cs::tR al g s H)[i]? =some p at hi
   show(pre++HP.aE (g y) (al y).t (al y).cs::HP.aE (g x) (al x).t (al x).cs::tR al g s H)[_]? =some p
   rcases Nat.lt_or_ge i pre.length with h | h
   ·rw[if_neg (by omega),if_neg (by omega),List.getElem?_append_left h]
    rwa [List.getElem?_append_left h] at hi
   ·obtain⟨k,rfl⟩:∃k,i=pre.length+k:=⟨i - pre.length,by omega⟩
    rw[List.getElem?_append_right (by omega),Nat.add_sub_cancel_left] at hi
    match k,hi with
    | 0,hi=>
     rw[if_pos (by omega),List.getElem?_append_right (by omega),Nat.add_sub_cancel_left];exact hi
    | 1,hi=>
     rw[if_neg (by omega),if_pos rfl,List.getElem?_append_right (by omega),Nat.sub_self];exact hi
    | k+2,hi=>
     rw[if_neg (by omega),if_neg (by omega),List.getElem?_append_right (by omega),Nat.add_sub_cancel_left];exact hi
 | trans _ _ i1 i2=>exact fun pre st=>i2 pre (i1 pre st)
def aCm(P:Program)(N:cF)(e:Env)(o:Oper)(x:AL):Prop:=∀a w,eN N e a→(execOp a.eval o).run P w=.ok (.value (x.val w.heap.size)) (w.alloc (.cells x.cs.toArray x.t))
theorem aHB{t ty:TypeId}{d:Nat}{pos:String}{aH:Array Edge}{cs:List Value}(ht:Eg P t cs):aCm P N e ⟨some d,.alloc t,ty,pos,aH,none⟩ ⟨d,t,cs,fun g=>.pointer (some ⟨g,0,none⟩)⟩:=fun a w hr=>by
 obtain⟨i,z,hi,hz,rfl⟩:=ht;simp[execOp,Instr.alloc,zeroValue,typeInfo,hi,hz,newVar,newRow]
theorem Aj(bytes:Nat){x y:Operand}{t el ty:TypeId}{d n:Nat}{z:Value}{pos:String}{aH:Array Edge}{kd uT:IntKind}(ht:P.underlying t=some (.slice el))(hT:(P.info? el).map (fun i=>(i.zero,i.size,i.bytes))=some (some z,1,bytes))(Wa:z.cells=#[z])(hx:e.ev x=some (.int kd (n:Int)))(hy:e.ev y=some (.int uT (n:Int)))
  (hb:bytes*n≤281474976710656) (hn:(n:Int)≤9223372036854775807):aCm P N e ⟨some d,.makeSlice t x y,ty,pos,aH,none⟩ ⟨d,el,List.replicate n z,fun g=>.slice (some ⟨g,0,none⟩) n n⟩:=fun a w hr=>by
 obtain⟨i,hi,he⟩:=Option.map_eq_some_iff.1 hT;simp only[Prod.mk.injEq] at he;obtain⟨h1,h2,rfl⟩:=he
 have:=run_make (P:=P) w t el i z ht hi h1 kd uT n n (by omega) (Int.le_refl _) (by rw[←Int.natCast_mul];omega) hn
 have hm:madeCells z.cells (n*i.size)=(List.replicate n z).toArray:=by
  rw[h2,Nat.mul_one,Wa];unfold madeCells;apply Array.ext
  ·simp
  ·intro j h1 h2;simp;rw[Nat.mod_one];rfl
 simp only[Int.toNat_natCast,hm] at this;simp only[execOp,hr.ev hx,hr.ev hy,Sem.run_bind,this,Result.andThen_ok,Sem.run_pure]
structure uJ(P:Program)(N:cF)(ops:Array Oper)(e:Env)(x:AL)(i:Nat):Prop where
 ok:∃o,ops[i]? =some o∧o.guard=none∧o.dst=some x.d∧aCm P N e o x
 lt:x.d < N.n
 new:e.get x.d=none
theorem uJ.of{o:Oper}{x:AL}{i:Nat}(h1:ops[i]? =some o)(h2:o.guard=none)(h3:o.dst=some x.d)(h4:aCm P N e o x)(h5:x.d < N.n)(h6:e.get x.d=none):uJ P N ops e x i:=⟨⟨o,h1,h2,h3,h4⟩,h5,h6⟩
theorem aRh{ds:List Nat}(hn:∀i∈ds,e.get (al i).d=none){t:Nat}{v:Value}(h:e.get t=some v):(rB al g ds e).get t=some v:=by
 induction ds with
 | nil=>exact h
 | cons i ds ih=>
  show Env.get ((_,_)::rB al g ds e) t=some v
  rw[aBw,if_neg (fun he=>by have:=hn i (by simp);rw[he,h] at this;cases this)];exact ih fun j hj=>hn j (by simp[hj])
theorem eN.aRi{a:Act}{ds:List Nat}(hn:∀i∈ds,e.get (al i).d=none)(h:eN N (rB al g ds e) a):eN N e a:=⟨h.size,h.defers,fun t v ht=>h.get t v (aRh hn ht)⟩
theorem St.unA{ds:List Nat}(h:St w0 R (tR al g ds H) w):St w0 R H w:=h.weak (fun _ hp=>hp) (fun i=>i+ds.length) (fun i j _ _ he=>by omega) (fun i p hi=>by
 show(ds.map _++H)[i+ds.length]? =some p
 rw[List.getElem?_append_right (by simp)]
 simpa using hi)
theorem aCe(idx:List Nat)(ex:List (List Nat))(al:Nat→AL)(hok:∀i∈idx,uJ P N ops e (al i) i)(hd:(idx.map fun i=>(al i).d).Nodup)(hr:aNn ops idx ex listed=true)(hS:∀w,St w0 R H w→St w0 R0 H0 w)
  (k:∀sub∈Lz idx,ex.contains sub=true→∀g:Nat→Nat,XA P N w0 ops Q R0 H0 m (fuel+(idx.length - sub.length)) (kT sub listed) (rB al g sub e) R (tR al g sub H)):XA P N w0 ops Q R0 H0 m (fuel+idx.length) listed e R H:=by
 have hni:idx.Nodup:=(List.pairwise_map.1 hd).imp fun h e=>h (by rw[e])
 have key:∀(n:Nat) (ds:List Nat) (g:Nat→Nat),ds.Nodup→(∀i∈ds,i∈idx)→ds.length+n=idx.length→XA P N w0 ops Q R0 H0 m (fuel+n) (kT ds listed) (rB al g ds e) R (tR al g ds H):=by
  intro n
  induction n with
  | zero =>
   intro ds g hn hin hl
   have Fj:(idx.filter fun i=>ds.contains i).Perm ds:=by
    rw[List.perm_iff_count];intro a;rw[(hni.sublist List.filter_sublist).count,hn.count]
    by_cases ha:a∈ds
    ·rw[if_pos ha,if_pos (by simp[ha,hin a ha])]
    ·rw[if_neg ha,if_neg (by simp[ha])]
   have hlen:=Fj.length_eq
   have heq:(idx.filter fun i=>ds.contains i)=idx:=List.filter_sublist.eq_of_length (by omega)
   have eI:=List.all_eq_true.1 hr _ (Py (fun i=>ds.contains i) idx)
   rw[Bool.or_eq_true] at eI;rcases eI with hc | hc
   ·have h:=k _ (Py _ idx) hc g
    rw[aAT Fj,show fuel+(idx.length - (idx.filter fun i=>ds.contains i).length)=fuel+0 by omega] at h;exact fun up a w cT st=>h up a w ⟨cT.size,cT.defers,fun t v ht=>cT.get t v (by rw[←aIP Fj (by rw[heq];exact hd)];exact ht)⟩ (aIf Fj.symm [] st)
   ·exfalso;rw[Bool.and_eq_true,List.all_eq_true] at hc;obtain⟨h1,h2⟩:=hc;rw[heq] at h1 h2;cases hrd:Region.ready .any ops (kT idx listed) with
    | nil=>rw[hrd] at h1;cases h1
    | cons j js=>
     rw[hrd] at h2
     have:=h2 j (by simp)
     simp at this
  | succ n ih =>
   intro ds g hn hin hl
   have Fj:(idx.filter fun i=>ds.contains i).Perm ds:=by
    rw[List.perm_iff_count];intro a;rw[(hni.sublist List.filter_sublist).count,hn.count]
    by_cases ha:a∈ds
    ·rw[if_pos ha,if_pos (by simp[ha,hin a ha])]
    ·rw[if_neg ha,if_neg (by simp[ha])]
   have hlen:=Fj.length_eq
   have eI:=List.all_eq_true.1 hr _ (Py (fun i=>ds.contains i) idx)
   rw[Bool.or_eq_true] at eI;rcases eI with hc | hc
   ·have h:=k _ (Py _ idx) hc g
    rw[aAT Fj,show fuel+(idx.length - (idx.filter fun i=>ds.contains i).length)=fuel+(n+1) by omega] at h
    have hnd:((idx.filter fun i=>ds.contains i).map fun i=>(al i).d).Nodup:=hd.sublist (List.filter_sublist.map _)
    exact fun up a w cT st=>h up a w ⟨cT.size,cT.defers,fun t v ht=>cT.get t v (by rw[←aIP Fj hnd];exact ht)⟩ (aIf Fj.symm [] st)
   ·rw[Bool.and_eq_true,List.all_eq_true,aAT Fj] at hc;obtain⟨h1,h2⟩:=hc;intro up a w cT st
    show Lv P ops Q (St w0 R0 H0) m ((fuel+n)+1) (kT ds listed) a w
    refine⟨(fun h=>by rw[h] at h1;exact absurd h1 (by decide)),fun j hj=>?_⟩
    have hj2:=h2 j hj
    simp only[Bool.and_eq_true,Bool.not_eq_true',List.contains_eq_mem,decide_eq_true_eq,decide_eq_false_iff_not,List.mem_filter,not_and] at hj2
    have hjd:j∉ds:=hj2.2 hj2.1
    obtain⟨⟨o,ho,hog,hod,hmk⟩,hlt,hnew⟩:=hok j hj2.1
    have hrun:=hmk a w (cT.aRi fun i hi=>(hok i (hin i hi)).new)
    let g':Nat→Nat:=fun i=>if i=j then w.heap.size else g i
    have Wx:rB al g' (j::ds) e=((al j).d,(al j).val w.heap.size)::rB al g ds e:=by
     show((al j).d,(al j).val (g' j))::(ds.map _++e)=_
     rw[show g' j=w.heap.size from if_pos rfl]
     congr 1
     unfold rB
     congr 1
     refine List.map_congr_left fun i hi=>?_;rw[show g' i=g i from if_neg (fun he:i=j=>hjd (he▸hi))]
    have Fo:tR al g' (j::ds) H=HP.aE w.heap.size (al j).t (al j).cs::tR al g ds H:=by
     show HP.aE (g' j) _ _::(ds.map _++H)=_
     rw[show g' j=w.heap.size from if_pos rfl]
     congr 1
     unfold tR
     congr 1
     refine List.map_congr_left fun i hi=>?_;rw[show g' i=g i from if_neg (fun he:i=j=>hjd (he▸hi))]
    have st':St w0 R (tR al g' (j::ds) H) (w.alloc (.cells (al j).cs.toArray (al j).t)):=by
     rw[Fo];exact st.new (Sx w _) (aI5 w _ _)
    have h:=ih (j::ds) g' (List.nodup_cons.2 ⟨hjd,hn⟩) (fun i hi=>by
     rcases List.mem_cons.1 hi with rfl | hi
     ·exact hj2.1
     ·exact hin i hi) (by simp only[List.length_cons];omega)
    rw[Wx] at h
    have xC:=h (up.mF hj) (a.put (some (al j).d) ((al j).val w.heap.size)) _ (cT.put hlt _) st'
    unfold wpOp;simp only[ho]
    have hw:Region.wanted o (yielded ops a.tmps)=true:=by simp[Region.wanted,hog]
    simp only[hw,if_true,Oper.wp,hrun,Oper.upon,hod];exact .inl ⟨fun _=>hS _ st'.unA,xC⟩
 have:=key idx.length [] (fun _=>0) List.nodup_nil (fun i hi=>by cases hi) (by simp)
 exact this
end
end
section
def lJ(s:aC):Nat→Nat→List Nat
 | 0,_=>[]
 | k + 1, c => match s.aF[c]? with
  | some x=>c::(match x.src with
   | []=>[]
   | f::_=>lJ s k f.toNat)
  | none=>[]
def fU(s:aC)(c:Nat):List Nat:=lJ s s.aF.length c
theorem aEA(s:aC):∀(k c:Nat),∀i∈lJ s k c,i < s.aF.length
 | 0,c,i,h=>by simp[lJ] at h
 | k + 1, c, i, h => by
  unfold lJ at h;cases hc:s.aF[c]? with
  | none=>rw[hc] at h;simp at h
  | some x =>
   rw[hc] at h;dsimp only at h
   have hlt:=(List.getElem?_eq_some_iff.1 hc).1
   cases hs:x.src with
   | nil=>rw[hs] at h;simp at h;omega
   | cons f fs=>
    rw[hs] at h;rcases List.mem_cons.1 h with rfl | h
    ·exact hlt
    ·exact aEA s k _ i h
theorem aBB(s:aC):∀(k c:Nat),(lJ s k c).length≤k
 | 0,c=>by simp[lJ]
 | k + 1, c => by
  unfold lJ;split
  ·rename_i x hx
   split
   ·simp
   ·rename_i f fs hs
    have:=aBB s k f.toNat
    simp only[List.length_cons];omega
  ·simp
theorem aJy{s:aC}{k c:Nat}{x:eD}(h:s.aF[c]? =some x):lJ s (k+1) c=c::(match x.src with
      | []=>[]
      | f::_=>lJ s k f.toNat):=by
  show(match s.aF[c]? with | some x=>_ | none=>_)=_
  rw[h]
def aAx(s:aC):Nat→Nat→List Nat
 | 0,_=>[]
 | k+1,d=>match s.domains[d]? with
  | some x=>d::(if x.above= -1 then[] else aAx s k x.above.toNat)
  | none=>[]
def Eo(s:aC)(d:Nat):List Nat:=aAx s (d+1) d
def Bz(s:aC):Int→List Nat→Prop
 | d,[]=>d= -1
 | d,i::r=>d=(i:Int)∧∃x,s.domains[i]? =some x∧Bz s x.above r
theorem aFV{s:aC}(hm:s.made):∀(k d:Nat),d < k→d < s.domains.length→Bz s d (aAx s k d)
 | k + 1, d, hk, hd => by
  have hx:s.domains[d]? =some (s.domains[d]'hd):=List.getElem?_eq_getElem _
  have hf:=(hm.domains d _ hx).1
  show Bz s d (match s.domains[d]? with | some x=>d::(if x.above= -1 then[] else aAx s k x.above.toNat) | none=>[])
  rw[hx];refine⟨rfl,_,hx,?_⟩
  by_cases h1:(s.domains[d]'hd).above= -1
  ·rw[if_pos h1];exact h1
  ·rw[if_neg h1]
   have h2:((s.domains[d]'hd).above.toNat:Int)=(s.domains[d]'hd).above:=by omega
   have:=aFV hm k (s.domains[d]'hd).above.toNat (by omega) (by omega)
   rwa [h2] at this
theorem aAw{s:aC}(hm:s.made){d:Nat}(hd:d < s.domains.length):Bz s d (Eo s d):=aFV hm _ _ (by omega) hd
theorem Bz.in_{s:aC}:∀{l:List Nat} {d:Int},Bz s d l→∀i∈l,i < s.domains.length
 | [],_,_,i,h=>by cases h
 | j::l,_,⟨_,x,hx,hr⟩,i,h=>by
  rcases List.mem_cons.1 h with rfl | h
  ·exact(List.getElem?_eq_some_iff.1 hx).1
  ·exact hr.in_ i h
theorem Bz.up{s:aC}:∀{l:List Nat} {d:Int},Bz s d l→∀i∈l,∀x,s.domains[i]? =some x→0≤x.above→x.above.toNat∈l
 | [],_,_,i,h,_,_,_=>by cases h
 | j :: l, _, ⟨_, y, hy, hr⟩, i, h, x, hx, h0 => by
  rcases List.mem_cons.1 h with rfl | h
  ·rw[hy] at hx;cases hx;cases l with
   | nil=>have h2:y.above= -1:=hr;omega
   | cons k l=>
    have h2:y.above=(k:Int):=hr.1
    rw[h2];simp
  ·exact List.mem_cons_of_mem _ (hr.up i h x hx h0)
theorem Bz.head{s:aC}{d:Nat}{l:List Nat}(h:Bz s (d:Int) l):d∈l:=by
 cases l with
 | nil=>have h2:(d:Int)= -1:=h;omega
 | cons i r=>have h2:(d:Int)=(i:Int):=h.1;rw[show d=i by omega];simp
def sU(ids:List Nat)(l:List Bool):List Bool:=ids.foldl (fun d (i:Nat)=>gX d (i:Int) true) l
theorem aDb(ids:List Nat)(l:List Bool):(sU ids l).length=l.length:=by
 unfold sU
 induction ids generalizing l with
 | nil=>rfl
 | cons i ids ih=>rw[List.foldl_cons,ih,Mf]
theorem aHe(ids:List Nat)(l:List Bool)(j:Nat)(hj:j < l.length):(sU ids l)[j]?.getD false=(decide (j∈ids)||l[j]?.getD false):=by
 unfold sU;rw[Vl,List.getElem?_eq_getElem hj]
 by_cases h:j∈ids<;>simp[h]
def mL(s:aC)(i:Nat):Bool:=match s.aF[i]? with
 | some c=>decide (c.kind=112∨c.kind=103)
 | none=>false
def dP(s:aC):bJ:=⟨List.replicate s.domains.length false,List.replicate s.aF.length false,List.replicate s.aT.length false⟩
def Pq(s:aC)(w:bJ)(x:bL):bJ:=⟨sU (Eo s x.domain.toNat) w.d,sU ((fU s x.clock.toNat).filter (mL s)) w.c,gX w.l x.reset true⟩
def iM(s:aC)(act:List Bool):Nat→bJ
 | 0=>dP s
 | j+1=>if hasB act j then(match s.aD[j]? with
  | some x=>Pq s (iM s act j) x
  | none=>iM s act j) else iM s act j
def eT(s:aC)(act:List Bool):bJ:=iM s act s.aD.length
theorem En(s:aC)(act:List Bool):∀j,(iM s act j).of s
 | 0=>⟨by simp[iM,dP],by simp[iM,dP],by simp[iM,dP]⟩
 | j + 1 => by
  have ih:=En s act j
  unfold iM;split
  ·split
   ·exact⟨by rw[Pq,aDb];exact ih.d,by rw[Pq,aDb];exact ih.c,by rw[Pq,Mf];exact ih.l⟩
   ·exact ih
  ·exact ih
theorem Ui{s:aC}{act:List Bool}{j:Nat}{x:bL}(hx:s.aD[j]? =some x)(ha:hasB act j=true):iM s act (j+1)=Pq s (iM s act j) x:=by
 show(if hasB act j then _ else _)=_
 rw[if_pos ha,hx]
theorem Pr{s:aC}{act:List Bool}{j:Nat}(ha:hasB act j=false):iM s act (j+1)=iM s act j:=by
 show(if hasB act j then _ else _)=_
 rw[if_neg (by rw[ha];decide)]
end
section
def vB(p:Piece)(x y:bJ)(v:Value):Prop:=∃A1 k1 A2 k2 A3 k3 B1 m1 B2 m2 B3 m3,v=.agg #[.slice A1 x.d.length k1,.slice A2 x.c.length k2,.slice A3 x.l.length k3,.slice B1 y.d.length m1,.slice B2 y.c.length m2,.slice B3 y.l.length m3]∧
 aI p 1 A1 x.d.length (bE x.d)∧aI p 1 A2 x.c.length (bE x.c)∧aI p 1 A3 x.l.length (bE x.l)∧aI p 1 B1 y.d.length (bE y.d)∧aI p 1 B2 y.c.length (bE y.c)∧aI p 1 B3 y.l.length (bE y.l)
def Ox(s:aC)(p:Piece):Nat→List Value→Prop
 | 0,cs=>cs=[.slice none 0 0,.slice none 0 0,.slice none 0 0,.slice none 0 0,.slice none 0 0,.slice none 0 0]
 | 1,cs=>∃a b c,cs=[a,b,c,.slice none 0 0,.slice none 0 0,.slice none 0 0]∧By p (dP s) (.agg #[a,b,c])
 | _,cs=>∃a b c a' b' c',cs=[a,b,c,a',b',c']∧By p (dP s) (.agg #[a,b,c])∧By p (dP s) (.agg #[a',b',c'])
theorem Ox.len{s:aC}{p:Piece}:∀{i:Nat} {cs:List Value},Ox s p i cs→cs.length=6
 | 0,_,h=>by rw[show _=_ from h];rfl
 | 1,_,⟨_,_,_,h,_⟩=>by rw[h];rfl
 | _+2,_,⟨_,_,_,_,_,_,h,_⟩=>by rw[h];rfl
theorem Ox.next{s:aC}{p q:Piece}(hl:p.Le q){a b c:Value}(hw:By q (dP s) (.agg #[a,b,c])){i:Nat}{cs:List Value}(hi:i < 2)(h:Ox s p i cs):Ox s q (i+1) (iI cs (i*3) [a,b,c]):=by
 obtain rfl | rfl:i=0∨i=1:=by omega
 ·have h0:cs=[sn,sn,sn,sn,sn,sn]:=h
  subst h0;exact⟨a,b,c,rfl,hw⟩
 ·obtain⟨a1,b1,c1,h0,h1⟩:=h;subst h0;exact⟨a1,b1,c1,a,b,c,rfl,By.le h1 hl,hw⟩
theorem aLH(s:aC)(A1 A2 A3 A4:Option Addr)(k1 k2 k3 k4:Nat)(w:World)(hm:s.wY):
  Cz 76 #[.agg #[.slice A1 s.aF.length k1,.slice A2 s.domains.length k2,.slice A3 s.aT.length k3,.slice A4 s.aD.length k4]] w (Tr (fun v w w'=>vB (fresh w w') (dP s) (dP s) v) w):=by
 have hn9:=hm.nc
 have qZ:=hm.nd
 have oU:=hm.nr
 refine aN func76 ntmps76 ?_;refine aB ?_;refine bA fun g1=>?_;refine bU fun g2=>?_;refine aB ?_;refine bU fun g3=>?_;refine aB ?_;refine bK [(5,iv 0),(3,pt g3),(2,pt g2),(1,pt g1)] ?_;refine Br ⟨w,fun _=>False⟩ (by simp) (fun _ h=>h.elim) ?_;refine aB ?_;refine eJ (fun m e R H=>∃(i:Nat) (cs:List Value) (qs:Piece),i≤2∧m=2 - i∧Ox s qs i cs∧qR w qs∧e=[(5,iv i),(3,pt g3),(2,pt g2),(1,pt g1)]∧R=[qs,all w]∧H=[HP.aE g3 130 cs,HP.aE g2 130 [sn,sn,sn,sn,sn,sn],HP.aE g1 30 [.slice A1 s.aF.length k1,.slice A2 s.domains.length k2,.slice A3 s.aT.length k3,.slice A4 s.aD.length k4]]) 2 ⟨0,_,⟨w,fun _=>False⟩,by omega,rfl,rfl,(fun _ h=>h.elim),rfl,rfl,rfl⟩ fun m e R H hI=>?_;obtain⟨i,cs,qs,hi2,rfl,hcs,aIp,rfl,rfl,rfl⟩:=hI;refine aB ?_;refine aG rfl (fun h=>?_) (fun h=>?_)
 ·
  refine lX ?_;refine dV ?_;refine cP ?_;refine sJ ?_;refine cP ?_;refine eA ?_;refine cQ rfl (by decide) ?_;refine fQ rfl (by decide) ?_;refine dN ?_;refine rF 15 (by kernel_rfl) (by kernel_rfl) ?_;refine gD 0 rfl rfl rfl (mV rfl) ?_;refine gD 1 rfl rfl rfl (Gf (off:=1) (by kernel_rfl) rfl) ?_;refine gD 2 rfl rfl rfl (Kt rfl) ?_;refine gD 3 rfl rfl rfl (Nx (el:=50) (by kernel_rfl) rfl) ?_;refine gD 5 rfl rfl rfl (Gf (off:=0) (by kernel_rfl) rfl) ?_;refine gD 6 rfl rfl rfl (Kt rfl) ?_;refine gD 7 rfl rfl rfl (Nx (el:=86) (by kernel_rfl) rfl) ?_;refine gD 9 rfl rfl rfl (Gf (off:=2) (by kernel_rfl) rfl) ?_;refine gD 10 rfl rfl rfl (Kt rfl) ?_;refine gD 11 rfl rfl rfl (Nx (el:=88) (by kernel_rfl) rfl) ?_;refine gD 14 rfl rfl rfl (Gf (off:=0) (by kernel_rfl) rfl) ?_;refine aCe (fuel:=3) [4,8,12] [[4,8,12]] (fun i=>match i with | 4=>⟨12,4,List.replicate s.domains.length (.bool false),fun g=>.slice (some ⟨g,0,none⟩) s.domains.length s.domains.length⟩ | 8=>⟨16,4,List.replicate s.aF.length (.bool false),fun g=>.slice (some ⟨g,0,none⟩) s.aF.length s.aF.length⟩ | _=>⟨20,4,List.replicate s.aT.length (.bool false),fun g=>.slice (some ⟨g,0,none⟩) s.aT.length s.aT.length⟩) (fun i hi=>?_) (by show[12,16,20].Nodup;decide) (by kernel_rfl) (fun _ h=>h) (fun sub hsub hex g=>?_)
  ·simp only[List.mem_cons,List.not_mem_nil,or_false] at hi;rcases hi with rfl | rfl | rfl
   ·exact uJ.of rfl rfl rfl (Aj 1 (el:=4) (z:=.bool false) (by kernel_rfl) (by kernel_rfl) rfl rfl rfl (by omega) (by omega)) (Nat.le_of_ble_eq_true rfl) rfl
   ·exact uJ.of rfl rfl rfl (Aj 1 (el:=4) (z:=.bool false) (by kernel_rfl) (by kernel_rfl) rfl rfl rfl (by omega) (by omega)) (Nat.le_of_ble_eq_true rfl) rfl
   ·exact uJ.of rfl rfl rfl (Aj 1 (el:=4) (z:=.bool false) (by kernel_rfl) (by kernel_rfl) rfl rfl rfl (by omega) (by omega)) (Nat.le_of_ble_eq_true rfl) rfl
  have fX:sub=[4,8,12]:=by simpa using hex
  have er:∀n:Nat,List.replicate n (Value.bool false)=bE (List.replicate n false):=fun n=>by simp[bE]
  have hi:i < 2:=by have h':(i:Int) < 2:=h;omega
  have hlen:=hcs.len
  subst fX;dsimp only[rB,tR,kT,List.map,List.foldr,List.cons_append,List.nil_append,List.length_cons,List.length_nil,Nat.reduceAdd,Nat.reduceSub];refine fM 13 rfl rfl rfl (by decide) (lW (zs:=[sn,sn,sn]) (L:=[(0,1),(1,1),(2,1)]) (iG (by kernel_rfl)) (by kernel_rfl) rfl (by simp[fI,gI,Value.cells];rfl)) (by kernel_rfl) (fun _ _ _ h=>h) (fun _ h=>h.tail.tail.tail) ?_;refine cG 15 ?_;refine aFI i (i*3) (el:=116) (sz:=3) (by kernel_rfl) (by kernel_rfl) rfl rfl rfl hi (by omega) (by decide) ?_;refine fA ?_;refine cG 16 ?_;refine rO 3 rfl rfl rfl (by kernel_rfl) (by simp[Value.cells,Value.oneCell']) (by simp[Value.cells];omega) ?_;dsimp only[List.set];rw[show(Value.agg [.slice (some ⟨g 4,0,none⟩) s.domains.length s.domains.length,.slice (some ⟨g 8,0,none⟩) s.aF.length s.aF.length,.slice (some ⟨g 12,0,none⟩) s.aT.length s.aT.length].toArray).cells.toList=[.slice (some ⟨g 4,0,none⟩) s.domains.length s.domains.length,.slice (some ⟨g 8,0,none⟩) s.aF.length s.aF.length,.slice (some ⟨g 12,0,none⟩) s.aT.length s.aT.length] from rfl];refine fA ?_;refine kG ?_;refine dV ?_;refine eA ?_;refine zU rfl rfl (iR (by omega)) (by decide) ?_;refine cQ rfl (by decide) ?_;refine dN ?_;refine dO [qs] [0,1,2] [3,4,5] (by simp) rfl (by decide) (by decide) fun qn Ri hle hfr=>?_
  have hfn:=hfr (by simp) (fun p hp=>by simp only[List.mem_cons,List.not_mem_nil,or_false] at hp;subst hp;exact aIp)
  have b1:aI qn 1 (some ⟨g 4,0,none⟩) (s.domains.length) (List.replicate (s.domains.length) (Value.bool false)):=tI (n:=s.domains.length) (sz:=1) (c:=0) (Ri 0 _ (by simp) rfl).choose_spec.1 (Ri 0 _ (by simp) rfl).choose_spec.2 (by simp)
  have b2:aI qn 1 (some ⟨g 8,0,none⟩) (s.aF.length) (List.replicate (s.aF.length) (Value.bool false)):=tI (n:=s.aF.length) (sz:=1) (c:=0) (Ri 1 _ (by simp) rfl).choose_spec.1 (Ri 1 _ (by simp) rfl).choose_spec.2 (by simp)
  have b3:aI qn 1 (some ⟨g 12,0,none⟩) (s.aT.length) (List.replicate (s.aT.length) (Value.bool false)):=tI (n:=s.aT.length) (sz:=1) (c:=0) (Ri 2 _ (by simp) rfl).choose_spec.1 (Ri 2 _ (by simp) rfl).choose_spec.2 (by simp)
  rw[er] at b1 b2 b3
  have hww:By qn (dP s) (.agg #[.slice (some ⟨g 4,0,none⟩) s.domains.length s.domains.length,.slice (some ⟨g 8,0,none⟩) s.aF.length s.aF.length,.slice (some ⟨g 12,0,none⟩) s.aT.length s.aT.length]):=by
   unfold By dP;simp only[List.length_replicate];exact⟨_,_,_,_,_,_,rfl,b1,b2,b3⟩
  refine aBR (R':=[qn,all w]) (by simp) ?_;exact dW (2 - (i+1)) ⟨i+1,_,qn,by omega,rfl,Ox.next (hle qs (by simp)) hww hi hcs,hfn,rfl,rfl,rfl⟩
 ·
  refine Zt ?_;refine dV ?_;refine cP ?_
  have hie:i=2:=by have h':¬(i:Int) < 2:=h;omega
  subst hie;obtain⟨a,b,c,a',b',c',rfl,hw1,hw2⟩:=hcs;obtain⟨D1,d1,D2,d2,D3,d3,e1,x1,x2,x3⟩:=hw1;obtain⟨F1,f1,F2,f2,F3,f3,e2,y1,y2,y3⟩:=hw2;cases e1;cases e2;refine eA ?_;refine Uc 6 rfl ?_;refine uK rfl rfl ?_;simp only[iI,Value.cells,List.set,List.take,List.drop,List.nil_append,List.append_nil,List.length_cons,List.length_nil,List.cons_append,Nat.reduceAdd];refine aB ?_
  exact Oj rfl (by kernel_rfl) rfl rfl (aR.whole 1 rfl) fun w1 st=>⟨⟨_,rfl,by
   have hl:=st.mH (by simp) aIp
   exact⟨_,_,_,_,_,_,_,_,_,_,_,_,rfl,x1.le hl,x2.le hl,x3.le hl,y1.le hl,y2.le hl,y3.le hl⟩⟩,st.below (by simp)⟩
end
section
open Go.RowKit Go.Shelf
attribute [local go_sem] Oper.semAt_some
def qU(zs:List Int):List Value:=zs.map (Value.int .u32)
end
section
section
variable{P:Program}{N:cF}{w0:World}{e:Env}{R:List Piece}{H:List HP}{Q:Exit→Act→World→Prop}{ops:Array Oper}{rest:List Oper}
variable{d:Nat}{ty:TypeId}{pos:String}{aH:Array Edge}
end
def fE(l:List (Int×Int))(k:Int):Int:=((l.find? fun p=>decide (p.1=k)).map (·.2)).getD 0
def yI:List (Int×Int)→Int→Int→List (Int×Int)
 | [],k,v=>[(k,v)]
 | (a,b)::r,k,v=>if a=k then(k,v)::r else(a,b)::yI r k v
def xH(l:List (Int×Int)):List (Int×Value):=l.map fun p=>(p.1,iv p.2)
theorem aH9:∀(l:List (Int×Int)) (k:Int),(nA (xH l) k).getD (iv 0)=iv (fE l k)
 | [],k=>rfl
 | (a, b) :: l, k => by
  have ih:=aH9 l k
  show(nA ((a,iv b)::xH l) k).getD _=_
  rw[Qn];unfold fE;rw[List.find?_cons]
  by_cases h:a=k
  ·simp[h]
  ·simp only[h,if_false,decide_false,Bool.false_eq_true];exact ih
theorem aH3:∀(l:List (Int×Int)) (k v:Int),oN (xH l) k (iv v)=xH (yI l k v)
 | [],k,v=>rfl
 | (a,b)::l,k,v=>by
  show oN ((a,iv b)::xH l) k _=xH (if a=k then _ else _)
  unfold oN
  by_cases h:a=k
  ·rw[if_pos h,if_pos h];rfl
  ·rw[if_neg h,if_neg h,aH3 l k v];rfl
end
section
def rW(k:Int):Prop:=k=117∨k=99∨k=114
instance(k:Int):Decidable (rW k):=by unfold rW;infer_instance
def tN(s:aC)(p:Int):Nat:=if p=17 then s.domains.length else if p=20 then s.aF.length else if p=22 then s.aT.length else 0
def gJ(k:Int)(v0 v1 v2:Value):Value:=if k=117∨k=100∨k=107 then v0 else if k=99∨k=111 then v1 else if k=114∨k=97 then v2 else sn
def Aq(k:Int)(x:bJ):List Bool:=if k=117∨k=100∨k=107 then x.d else if k=99∨k=111 then x.c else if k=114∨k=97 then x.l else[]
def pK(x:bJ)(k id:Int):Bool:=decide (0≤id)&&hasB (Aq k x) id.toNat
theorem fR.thn{w w':World}{g o:Nat}{v:Value}(h:fR w g o v)(hb:Below w.heap.size w w'):fR w' g o v:=⟨Nat.lt_of_lt_of_le h.1 hb.size,(hb.cell (p:=⟨g,o,none⟩) h.1).trans h.2⟩
def aAb(w:World)(g o:Nat)(x:bJ):Prop:=∃A1 k1 A2 k2 A3 k3,fR w g o (.slice A1 x.d.length k1)∧fR w g (o+1) (.slice A2 x.c.length k2)∧fR w g (o+2) (.slice A3 x.l.length k3)∧
 aI (all w) 1 A1 x.d.length (bE x.d)∧aI (all w) 1 A2 x.c.length (bE x.c)∧aI (all w) 1 A3 x.l.length (bE x.l)
theorem aOK{w:World}{x:bJ}{A1 A2 A3:Option Addr}{k1 k2 k3:Nat}(h1:aI (all w) 1 A1 x.d.length (bE x.d))(h2:aI (all w) 1 A2 x.c.length (bE x.c))(h3:aI (all w) 1 A3 x.l.length (bE x.l))(k:Int):
  ∃A c,gJ k (.slice A1 x.d.length k1) (.slice A2 x.c.length k2) (.slice A3 x.l.length k3)=.slice A (Aq k x).length c∧aI (all w) 1 A (Aq k x).length (bE (Aq k x)):=by
 unfold gJ Aq;split
 ·exact⟨_,_,rfl,h1⟩
 ·split
  ·exact⟨_,_,rfl,h2⟩
  ·split
   ·exact⟨_,_,rfl,h3⟩
   ·exact⟨_,_,rfl,aI.nil _ _⟩
theorem aDi(k:Int)(w:World):
  Cz 167 #[.int .u8 k] w (Rt (.bool (decide (rW k))) w):=by
 refine aN func167 ntmps167 ?_;refine aB ?_
 (first | refine bX (t:=5) rfl (fun hg=>?_) (fun hg=>?_) | refine sL (t:=5) rfl (fun hg=>?_) (fun hg=>?_))
 ·
  refine aB ?_;exact aS (h:=fun _ _=>by simp_all [rW])
 ·
  refine aB ?_
  (first | refine bX (t:=9) rfl (fun hg=>?_) (fun hg=>?_) | refine sL (t:=9) rfl (fun hg=>?_) (fun hg=>?_))
  ·
   refine aB ?_;exact aS (h:=fun _ _=>by simp_all [rW])
  ·
   refine aB ?_;exact aS (h:=fun _ _=>by simp_all [rW])
theorem aOi(s:aC)(A1 A2 A3 A4:Option Addr)(k1 k2 k3 k4:Nat)(p:Int)(w:World):
  Cz 220 #[.agg #[.slice A1 s.aF.length k1,.slice A2 s.domains.length k2,.slice A3 s.aT.length k3,.slice A4 s.aD.length k4],iv p] w (Rt (iv (tN s p)) w):=by
 refine aN func220 ntmps220 ?_;refine aB ?_;refine bA fun g1=>?_;refine aB ?_;refine aG rfl (fun h=>?_) (fun h=>?_)
 ·
  refine aB ?_;exact aS (h:=fun _ _=>by simp_all [tN])
 ·
  refine aB ?_;refine aG rfl (fun h=>?_) (fun h=>?_)
  ·
   refine aB ?_;exact aS (h:=fun _ _=>by simp_all [tN])
  ·
   refine aB ?_;refine aG rfl (fun h=>?_) (fun h=>?_)
   ·
    refine aB ?_;exact aS (h:=fun _ _=>by simp_all [tN])
   ·
    refine aB ?_;exact aS (h:=fun _ _=>by simp_all [tN])
theorem aDy(g o:Nat)(k:Int)(v0 v1 v2:Value)(w:World)(h0:fR w g o v0)(h1:fR w g (o+1) v1)(h2:fR w g (o+2) v2):
  Cz 172 #[.pointer (some ⟨g,o,none⟩),.int .u8 k] w (Rt (gJ k v0 v1 v2) w):=by
 refine aN func172 ntmps172 ?_;refine aB ?_;refine aG rfl (fun h=>?_) (fun h=>?_)
 ·
  refine aB ?_;refine aG rfl (fun h=>?_) (fun h=>?_)
  ·
   refine aB ?_;exact aS (h:=fun _ _=>by simp_all [gJ])
  ·
   refine aB ?_;refine aG rfl (fun h=>?_) (fun h=>?_)
   ·
    refine aB ?_;refine aG rfl (fun h=>?_) (fun h=>?_)
    ·
     refine aB ?_;exact aS (h:=fun _ _=>by simp_all [gJ])
    ·
     refine aB ?_;refine aG rfl (fun h=>?_) (fun h=>?_)
     ·
      refine aB ?_;refine aG rfl (fun h=>?_) (fun h=>?_)
      ·
       refine aB ?_;exact aS (h:=fun _ _=>by simp_all [gJ])
      ·
       refine aB ?_;exact aS (h:=fun _ _=>by simp_all [gJ])
     ·
      refine aB ?_;refine aG rfl (fun h=>?_) (fun h=>?_)
      ·
       refine aB ?_;exact aS (h:=fun _ _=>by simp_all [gJ])
      ·
       refine aB ?_;exact aS (h:=fun _ _=>by simp_all [gJ])
   ·
    refine aB ?_;refine aG rfl (fun h=>?_) (fun h=>?_)
    ·
     refine aB ?_;exact aS (h:=fun _ _=>by simp_all [gJ])
    ·
     refine aB ?_;refine aG rfl (fun h=>?_) (fun h=>?_)
     ·
      refine aB ?_;refine aG rfl (fun h=>?_) (fun h=>?_)
      ·
       refine aB ?_;exact aS (h:=fun _ _=>by simp_all [gJ])
      ·
       refine aB ?_;exact aS (h:=fun _ _=>by simp_all [gJ])
     ·
      refine aB ?_;refine aG rfl (fun h=>?_) (fun h=>?_)
      ·
       refine aB ?_;exact aS (h:=fun _ _=>by simp_all [gJ])
      ·
       refine aB ?_;exact aS (h:=fun _ _=>by simp_all [gJ])
 ·
  refine aB ?_;refine aG rfl (fun h=>?_) (fun h=>?_)
  ·
   refine aB ?_;refine aG rfl (fun h=>?_) (fun h=>?_)
   ·
    refine aB ?_;exact aS (h:=fun _ _=>by simp_all [gJ])
   ·
    refine aB ?_;refine aG rfl (fun h=>?_) (fun h=>?_)
    ·
     refine aB ?_;refine aG rfl (fun h=>?_) (fun h=>?_)
     ·
      refine aB ?_;exact aS (h:=fun _ _=>by simp_all [gJ])
     ·
      refine aB ?_;refine aG rfl (fun h=>?_) (fun h=>?_)
      ·
       refine aB ?_;refine aG rfl (fun h=>?_) (fun h=>?_)
       ·
        refine aB ?_;exact aS (h:=fun _ _=>by simp_all [gJ])
       ·
        refine aB ?_;exact aS (h:=fun _ _=>by simp_all [gJ])
      ·
       refine aB ?_;refine aG rfl (fun h=>?_) (fun h=>?_)
       ·
        refine aB ?_;exact aS (h:=fun _ _=>by simp_all [gJ])
       ·
        refine aB ?_;exact aS (h:=fun _ _=>by simp_all [gJ])
    ·
     refine aB ?_;refine aG rfl (fun h=>?_) (fun h=>?_)
     ·
      refine aB ?_;exact aS (h:=fun _ _=>by simp_all [gJ])
     ·
      refine aB ?_;refine aG rfl (fun h=>?_) (fun h=>?_)
      ·
       refine aB ?_;refine aG rfl (fun h=>?_) (fun h=>?_)
       ·
        refine aB ?_;exact aS (h:=fun _ _=>by simp_all [gJ])
       ·
        refine aB ?_;exact aS (h:=fun _ _=>by simp_all [gJ])
      ·
       refine aB ?_;refine aG rfl (fun h=>?_) (fun h=>?_)
       ·
        refine aB ?_;exact aS (h:=fun _ _=>by simp_all [gJ])
       ·
        refine aB ?_;exact aS (h:=fun _ _=>by simp_all [gJ])
  ·
   refine aB ?_;refine aG rfl (fun h=>?_) (fun h=>?_)
   ·
    refine aB ?_;exact aS (h:=fun _ _=>by simp_all [gJ])
   ·
    refine aB ?_;refine aG rfl (fun h=>?_) (fun h=>?_)
    ·
     refine aB ?_;refine aG rfl (fun h=>?_) (fun h=>?_)
     ·
      refine aB ?_;exact aS (h:=fun _ _=>by simp_all [gJ])
     ·
      refine aB ?_;refine aG rfl (fun h=>?_) (fun h=>?_)
      ·
       refine aB ?_;refine aG rfl (fun h=>?_) (fun h=>?_)
       ·
        refine aB ?_;exact aS (h:=fun _ _=>by simp_all [gJ])
       ·
        refine aB ?_;exact aS (h:=fun _ _=>by simp_all [gJ])
      ·
       refine aB ?_;refine aG rfl (fun h=>?_) (fun h=>?_)
       ·
        refine aB ?_;exact aS (h:=fun _ _=>by simp_all [gJ])
       ·
        refine aB ?_;exact aS (h:=fun _ _=>by simp_all [gJ])
    ·
     refine aB ?_;refine aG rfl (fun h=>?_) (fun h=>?_)
     ·
      refine aB ?_;exact aS (h:=fun _ _=>by simp_all [gJ])
     ·
      refine aB ?_;refine aG rfl (fun h=>?_) (fun h=>?_)
      ·
       refine aB ?_;refine aG rfl (fun h=>?_) (fun h=>?_)
       ·
        refine aB ?_;exact aS (h:=fun _ _=>by simp_all [gJ])
       ·
        refine aB ?_;exact aS (h:=fun _ _=>by simp_all [gJ])
      ·
       refine aB ?_;refine aG rfl (fun h=>?_) (fun h=>?_)
       ·
        refine aB ?_;exact aS (h:=fun _ _=>by simp_all [gJ])
       ·
        refine aB ?_;exact aS (h:=fun _ _=>by simp_all [gJ])
theorem aC5(g ag:Nat)(x:bJ)(k id:Int)(w:World)(hag:ag < 2)(hM:aAb w g (ag*3) x):
  Cz 166 #[pt g,iv (ag:Int),.int .u8 k,iv id] w (Rt (.bool (pK x k id)) w):=by
 obtain⟨A1,k1,A2,k2,A3,k3,h1,h2,h3,s1,s2,s3⟩:=hM;obtain⟨A,c,hL,hS⟩:=aOK (k1:=k1) (k2:=k2) (k3:=k3) s1 s2 s3 k;refine aN func166 ntmps166 ?_;refine aA ?_;refine aFI (ag) (ag*3) (n:=2) (el:=116) (sz:=3) (by kernel_rfl) (by kernel_rfl) rfl rfl (by omega) (by omega) (by omega) (by decide) ?_;refine aB ?_;refine dH (fun w1 st=>aDy g (ag*3) k _ _ _ w1 (h1.thn (st.below (by simp))) (h2.thn (st.below (by simp))) (h3.thn (st.below (by simp)))) ?_;rw[hL];refine aB ?_
 (first | refine bX (t:=19) rfl (fun hg=>?_) (fun hg=>?_) | refine sL (t:=19) rfl (fun hg=>?_) (fun hg=>?_))
 ·
  refine aB ?_
  (first | refine bX (t:=25) rfl (fun hg=>?_) (fun hg=>?_) | refine sL (t:=25) rfl (fun hg=>?_) (fun hg=>?_))
  ·
   obtain⟨i,rfl⟩:∃i:Nat,id=(i:Int):=⟨id.toNat,by omega⟩
   have hil:i < (Aq k x).length:=by omega
   obtain⟨b,off,rfl,hz,hc⟩:=hS.2 (by omega);obtain⟨v,hv⟩:∃v,(Aq k x)[i]? =some v:=⟨_,List.getElem?_eq_getElem hil⟩
   refine fP rfl rfl ?_;refine cQ rfl (by decide) ?_;refine fP rfl rfl ?_;refine cQ rfl (by decide) ?_;refine fP rfl rfl ?_;refine kd (dat (i) (off+i)) ?_;refine fP rfl rfl ?_;refine jE (by kernel_rfl) rfl (Rd.ro (p:=all w) (by simp) hz (hc i _ (aJ5 hv))) (by decide) ?_
   (first | refine pY rfl rfl (by decide) ?_ | refine pZ rfl rfl (by decide) ?_)
   refine fQ rfl (by decide) ?_;refine dN ?_;refine Lc ?_;refine dV ?_;exact aS (h:=fun _ _=>by simp[pK,hasB,hv])
  ·
   refine aB ?_
   have hn:hasB (Aq k x) id.toNat=false:=by rw[hasB,List.getElem?_eq_none (by omega)];rfl
   exact aS (h:=fun _ _=>by simp[pK,hn])
 ·
  refine aB ?_
  have hn:decide (0≤id)=false:=by simp;omega
  exact aS (h:=fun _ _=>by simp[pK,hn])
end
section
def StM(w:World)(g:Nat)(x y:bJ):Prop:=∀i,i < 2→aAb w g (i*3) (if i=0 then x else y)
def sM(x y:bJ)(k id:Int):Bool:=pK x k id||pK y k id
theorem aAb.thn{w w':World}{g o:Nat}{x:bJ}(h:aAb w g o x)(hb:Below w.heap.size w w'):aAb w' g o x:=by
 obtain⟨A1,k1,A2,k2,A3,k3,h1,h2,h3,s1,s2,s3⟩:=h
 have hl:(all w).Le (all w'):=fun b hb'=>⟨Nat.lt_of_lt_of_le hb' hb.size,hb.block b hb'⟩
 exact⟨A1,k1,A2,k2,A3,k3,h1.thn hb,h2.thn hb,h3.thn hb,s1.le hl,s2.le hl,s3.le hl⟩
theorem aC7(g:Nat)(x y:bJ)(k id:Int)(w:World)(hM:StM w g x y):
  Cz 168 #[pt g,.int .u8 k,iv id] w (Rt (.bool (sM x y k id)) w):=by
 refine aN func168 ntmps168 ?_;refine aB ?_;refine bK [(8,iv 0),(2,iv id),(1,.int .u8 k),(0,pt g)] ?_;refine aB ?_;refine eJ (fun m e R H=>∃(i:Nat),i≤2∧m=2 - i∧(∀j,j < i→pK (if j=0 then x else y) k id=false)∧e=[(8,iv i),(2,iv id),(1,.int .u8 k),(0,pt g)]∧R=[all w]∧H=[]) 2 ⟨0,by omega,rfl,(fun j hj=>absurd hj (Nat.not_lt_zero j)),rfl,rfl,rfl⟩ fun m e R H hI=>?_;obtain⟨i,hi,rfl,hno,rfl,rfl,rfl⟩:=hI;refine aB ?_;refine aG rfl (fun h=>?_) (fun h=>?_)
 ·
  refine aB ?_
  have hi2:i < 2:=by have h':(i:Int) < 2:=h;omega
  refine dH (fun w1 st=>aC5 g i (if i=0 then x else y) k id w1 hi2 ((hM i hi2).thn (st.below (by simp)))) ?_;refine aB ?_;refine pV rfl (fun hw=>?_) (fun hw=>?_)
  ·
   refine aB ?_
   have hr:sM x y k id=true:=by
    unfold sM;rcases(by omega:i=0∨i=1) with rfl | rfl
    ·simp at hw;simp[hw]
    ·simp at hw;simp[hw]
   exact aS (h:=fun _ _=>by rw[hr])
  ·
   refine aB ?_
   exact dW (2 - (i+1)) ⟨i+1,by omega,rfl,(fun j hj=>by
    rcases Nat.lt_or_ge j i with h1 | h1
    ·exact hno j h1
    ·obtain rfl:j=i:=by omega
     exact hw),rfl,rfl,rfl⟩
 ·
  refine aB ?_
  have hi2:i=2:=by have h':¬(i:Int) < 2:=h;omega
  subst hi2
  have e0:=hno 0 (by omega)
  have e1:=hno 1 (by omega)
  have hr:sM x y k id=false:=by
   unfold sM;simp at e0 e1;simp[e0,e1]
  exact aS (h:=fun _ _=>by rw[hr])
theorem aL8(k:Int)(A:Option Addr)(n c:Nat)(r m d l:Int)(w:World):
  Cz 221 #[.agg #[.int .u8 k,.slice A n c,.int .u64 r,iv m,iv d,iv l]] w (Rt (.bool (decide (k=112∨k=103))) w):=by
 refine aN func221 ntmps221 ?_;refine aB ?_;refine bA fun g1=>?_;refine aB ?_
 (first | refine bX (t:=6) rfl (fun hg=>?_) (fun hg=>?_) | refine sL (t:=6) rfl (fun hg=>?_) (fun hg=>?_))
 ·
  refine aB ?_;exact aS (h:=fun _ _=>by simp_all)
 ·
  refine aB ?_;exact aS (h:=fun _ _=>by simp_all)
end
section
def kP(p:Int×Int):Value:=.agg #[.int .i64 p.1,.int .i64 p.2]
def Lm(w:World)(r:Nat)(l:List ((Int×Int)×Value)):Prop:=∃es clock,w.heap[r]? =some (.map es clock)∧es.toList.map (fun x=>(x.key,x.val))=l.map fun p=>(kP p.1,p.2)
def lR(l:List ((Int×Int)×Value))(k:Int×Int):Option Value:=(l.find? fun p=>decide (p.1=k)).map (·.2)
theorem Mh(a:Int×Int)(b:Value)(l:List ((Int×Int)×Value))(k:Int×Int):lR ((a,b)::l) k=if a=k then some b else lR l k:=by
 unfold lR;rw[List.find?_cons]
 by_cases h:a=k<;>simp[h]
section
variable{P:Program}{w:World}{kt:TypeId}
theorem aRg(hfl:∀a b c d:Int,Sb P kt [.int .i64 a,.int .i64 b] [.int .i64 c,.int .i64 d]=true)(p q:Int×Int):(Op.equal kt (kP p) (kP q)).run P w=.ok (decide (q=p)) w:=by
 obtain⟨h,_⟩:=aMi (P:=P) (w:=w) (hfl p.1 p.2 q.1 q.2);rw[show kP p=.agg [Value.int .i64 p.1,.int .i64 p.2].toArray from rfl,show kP q=.agg [Value.int .i64 q.1,.int .i64 q.2].toArray from rfl,h]
 congr 1
 obtain⟨a,b⟩:=p;obtain⟨c,d⟩:=q;simp only[Sf,eqV,Prod.mk.injEq]
 by_cases h1:a=c
 ·subst h1
  by_cases h2:b=d
  ·subst h2;simp
  ·have h3:¬d=b:=fun e=>h2 e.symm
   simp[h2,h3]
 ·have h3:¬c=a:=fun e=>h1 e.symm
  simp[h1,h3]
theorem aJ9(hfl:∀a b c d:Int,Sb P kt [.int .i64 a,.int .i64 b] [.int .i64 c,.int .i64 d]=true)(k:Int×Int):∀(es:List MapEntry) (l:List ((Int×Int)×Value)) (i:Nat),es.map (fun x=>(x.key,x.val))=l.map (fun p=>(kP p.1,p.2))→
  ∃q,(Instr.findAsking kt (kP k) es i).run P w=.ok q w∧q.map (·.2)=lR l k
 | [],l,i,h=>by
  cases l with
  | nil=>exact⟨none,by simp[Instr.findAsking],rfl⟩
  | cons _ _=>cases h
 | e :: es, l, i, h => by
  cases l with
  | nil=>cases h
  | cons p l =>
   simp only[List.map_cons,List.cons.injEq,Prod.mk.injEq] at h;obtain⟨⟨h1,h2⟩,h3⟩:=h;obtain⟨q,Dc,uX⟩:=aJ9 hfl k es l (i+1) h3;obtain⟨a,b⟩:=p
   have he:=aRg (w:=w) hfl k a
   rw[←h1] at he
   by_cases hk:a=k
   ·refine⟨some (i,e.val),?_,?_⟩
    ·unfold Instr.findAsking;simp[Sem.run_bind,he,hk]
    ·rw[Mh,if_pos hk];simp[h2]
   ·refine⟨q,?_,?_⟩
    ·unfold Instr.findAsking;simp[Sem.run_bind,he,hk,Dc]
    ·rw[Mh,if_neg hk];exact uX
theorem aJu{f0 f1:Field}{k0 k1:IntKind}(hk:P.underlying kt=some (.struct #[f0,f1]))(h0:P.underlying f0.type=some (.int k0))(h1:P.underlying f1.type=some (.int k1))(o0:f0.offset=0)(o1:f1.offset=1)(p:Int×Int)(b:Bool):(Instr.checkKey b 10000 kt (kP p)).run P w=.ok () w:=by
 have e0:=aA4 (P:=P) (w:=w) (cs:=#[.int .i64 p.1,.int .i64 p.2]) (i:=0) (v:=.int .i64 p.1) h0 (.inl ⟨_,rfl⟩) rfl
 have e1:=aA4 (P:=P) (w:=w) (cs:=#[.int .i64 p.1,.int .i64 p.2]) (i:=1) (v:=.int .i64 p.2) h1 (.inl ⟨_,rfl⟩) rfl
 have c0:(Instr.checkKey b 9999 f0.type (.int .i64 p.1)).run P w=.ok () w:=by
  unfold Instr.checkKey;simp[Sem.run_bind,run_underlying h0]
 have c1:(Instr.checkKey b 9999 f1.type (.int .i64 p.2)).run P w=.ok () w:=by
  unfold Instr.checkKey;simp[Sem.run_bind,run_underlying h1]
 unfold Instr.checkKey kP
 by_cases n0:f0.name= "_" <;>by_cases n1:f1.name= "_" <;>simp[Sem.run_bind,run_underlying hk,n0,n1,o0,o1,e0,e1,c0,c1]
end
structure Dz(P:Program)(kt:TypeId):Prop where
 st:∃f0 f1 k0 k1,P.underlying kt=some (.struct #[f0,f1])∧P.underlying f0.type=some (.int k0)∧P.underlying f1.type=some (.int k1)∧f0.offset=0∧f1.offset=1
 fl:∀a b c d:Int,Sb P kt [.int .i64 a,.int .i64 b] [.int .i64 c,.int .i64 d]=true
theorem Dz.of{P:Program}{kt:TypeId}{f0 f1:Field}{k0 k1:IntKind}(h:P.underlying kt=some (.struct #[f0,f1]))(h0:P.underlying f0.type=some (.int k0))(h1:P.underlying f1.type=some (.int k1))(o0:f0.offset=0)(o1:f1.offset=1)(fl:∀a b c d:Int,Sb P kt [.int .i64 a,.int .i64 b] [.int .i64 c,.int .i64 d]=true):Dz P kt:=⟨⟨f0,f1,k0,k1,h,h0,h1,o0,o1⟩,fl⟩
section
variable{P:Program}{w:World}{t kt et:TypeId}{r:Nat}{l:List ((Int×Int)×Value)}
theorem aIG(hk:Dz P kt)(k:Int×Int)(es:List MapEntry)(h:es.map (fun x=>(x.key,x.val))=l.map (fun p=>(kP p.1,p.2))):∃q,(Instr.findKey kt (kP k) es).run P w=.ok q w∧q.map (·.2)=lR l k:=by
 obtain⟨f0,f1,k0,k1,hu,_⟩:=hk.st;obtain⟨q,h1,h2⟩:=aJ9 (w:=w) hk.fl k es l 0 h;cases es with
 | nil=>
  cases l with
  | cons _ _=>cases h
  | nil=>exact⟨none,by simp[Instr.findKey,Sem.run_bind,run_underlying hu,Instr.findNow],rfl⟩
 | cons e es =>
  refine⟨q,?_,h2⟩;unfold Instr.findKey
  have:Instr.findNow (.struct #[f0,f1]) (kP k) (e::es) 0=none:=by
   unfold Instr.findNow Instr.sameNow;rfl
  simp[Sem.run_bind,run_underlying hu,this,h1]
theorem aMb{z:Value}(ht:P.underlying t=some (.map kt et))(hk:Dz P kt)(hz:∀w,(zeroValue et).run P w=.ok z w)(h:Lm w r l)(k:Int×Int)(ok:Bool):
  (Instr.lookup t (.map (some r)) (kP k) ok).run P w=.ok (if ok then .tuple #[(lR l k).getD z,.bool (lR l k).isSome] else(lR l k).getD z) w:=by
 obtain⟨es,c,h1,h2⟩:=h;obtain⟨q,hf,uX⟩:=aIG (w:=w) hk k es.toList h2;obtain⟨f0,f1,k0,k1,hu,u0,u1,o0,o1⟩:=hk.st
 have hc:=fun b=>aJu (w:=w) hu u0 u1 o0 o1 k b
 unfold Instr.lookup;rw[←uX];cases q with
 | none=>cases ok<;>simp[Sem.run_bind,run_underlying ht,run_getObj_map h1,hc,hf,hz]
 | some x=>obtain⟨j,v⟩:=x;cases ok<;>simp[Sem.run_bind,run_underlying ht,run_getObj_map h1,hc,hf]
theorem aMd(ht:P.underlying t=some (.map kt et))(hk:Dz P kt)(h:Lm w r l)(k:Int×Int)(v:Value)(hno:lR l k=none):
  ∃es c,(Instr.mapUpdate t (.map (some r)) (kP k) v).run P w=.ok () {w with heap:=w.heap.setIfInBounds r (.map es c)}∧es.toList.map (fun x=>(x.key,x.val))=(l++[(k,v)]).map fun p=>(kP p.1,p.2):=by
 obtain⟨es,c,h1,h2⟩:=h;obtain⟨q,hf,uX⟩:=aIG (w:=w) hk k es.toList h2;obtain⟨f0,f1,k0,k1,hu,u0,u1,o0,o1⟩:=hk.st
 have hc:=fun b=>aJu (w:=w) hu u0 u1 o0 o1 k b
 have iZ:∀o,(setObj r o).run P w=.ok () {w with heap:=w.heap.setIfInBounds r o}:=fun o=>by simp[setObj,Sem.run,h1]
 rw[hno] at uX;obtain rfl:q=none:=by cases q with | none=>rfl | some x=>cases uX
 refine⟨es.push {key:=kP k,val:=v,born:=c},c+1,?_,?_⟩
 ·unfold Instr.mapUpdate;simp[Sem.run_bind,run_underlying ht,run_getObj_map h1,hc,hf,iZ]
 ·rw[Array.toList_push,List.map_append,h2];simp
end
def HP.vS(r:Nat)(l:List ((Int×Int)×Value)):HP:=⟨fun F w=>F r∧Lm w r l,fun F w w' h hk=>⟨h.1,by
 obtain⟨es,c,h1,h2⟩:=h.2
 exact⟨es,c,(hk r h.1).trans h1,h2⟩⟩⟩
theorem Lm.lt{w:World}{r:Nat}{l:List ((Int×Int)×Value)}(h:Lm w r l):r < w.heap.size:=by
 obtain⟨es,c,h1,_⟩:=h;rcases Nat.lt_or_ge r w.heap.size with h | h
 ·exact h
 ·rw[Array.getElem?_eq_none h] at h1;cases h1
section
variable{P:Program}{N:cF}{w0 w:World}{e:Env}{R:List Piece}{H:List HP}{Q:Exit→Act→World→Prop}{ops:Array Oper}{rest:List Oper}
variable{d:Nat}{ty:TypeId}{pos:String}{aH:Array Edge}
theorem St.vS(st:St w0 R H w){i r:Nat}{l:List ((Int×Int)×Value)}(hi:H[i]? =some (HP.vS r l)):Lm w r l:=(st.sat hi).choose_spec.2
theorem aKN{t:TypeId}(hd:d < N.n)(k:∀g,XK N w0 (wpList P ops Q rest) ((d,.map (some g))::e) R (HP.vS g []::H)):XK N w0 (wpList P ops Q (⟨some d,.makeMap t none,ty,pos,aH,none⟩::rest)) e R H:=
 vJ rfl fun a w hr st=>⟨.map (some w.heap.size),w.alloc (.map #[] 0),by simp[execOp,Instr.makeMap],k w.heap.size _ _ (hr.put hd _) (st.new (Sx w _) ⟨⟨Nat.le_refl _,by simp⟩,#[],0,heap_alloc_new w _,rfl⟩)⟩
theorem aKR{x y:Operand}{t kt et:TypeId}{z:Value}{r:Nat}{l:List ((Int×Int)×Value)}{k:Int×Int}(ok:Bool)(ht:P.underlying t=some (.map kt et))(hk:Dz P kt)(hz:(P.info? et).bind (·.zero)=some z)
  (hx:e.ev x=some (.map (some r))) (hy:e.ev y=some (kP k)) (hm:∀w,St w0 R H w→Lm w r l) (hd:d < N.n)
  (kk:XK N w0 (wpList P ops Q rest) ((d,if ok then .tuple #[(lR l k).getD z,.bool (lR l k).isSome] else(lR l k).getD z)::e) R H):XK N w0 (wpList P ops Q (⟨some d,.lookup t x y ok,ty,pos,aH,none⟩::rest)) e R H:=
 vJ rfl fun a w hr st=>⟨_,w,by simp only[execOp,hr.ev hx,hr.ev hy,Sem.run_bind,aMb ht hk (zeroV hz) (hm w st),Result.andThen_ok,Sem.run_pure],kk _ _ (hr.put hd _) st⟩
theorem aCx{x y:Operand}{t kt et:TypeId}{z v:Value}{r:Nat}{l:List ((Int×Int)×Value)}{k:Int×Int}{b:Bool}(ht:P.underlying t=some (.map kt et))(hk:Dz P kt)(hz:(P.info? et).bind (·.zero)=some z)
  (hx:e.ev x=some (.map (some r))) (hy:e.ev y=some (kP k)) (hm:∀w,St w0 R H w→Lm w r l) (hv:(lR l k).getD z=v) (hb:(lR l k).isSome=b) (hd:d < N.n)
  (kk:XK N w0 (wpList P ops Q rest) ((d,.tuple #[v,.bool b])::e) R H):XK N w0 (wpList P ops Q (⟨some d,.lookup t x y true,ty,pos,aH,none⟩::rest)) e R H:=
 aKR true ht hk hz hx hy hm hd (by subst hv;subst hb;exact kk)
theorem aKS(i:Nat){x y u:Operand}{t kt et:TypeId}{r:Nat}{l:List ((Int×Int)×Value)}{k:Int×Int}{v:Value}(ht:P.underlying t=some (.map kt et))(hk:Dz P kt)(hi:H[i]? =some (HP.vS r l))(hno:lR l k=none)
  (hx:e.ev x=some (.map (some r))) (hy:e.ev y=some (kP k)) (hu:e.ev u=some v) (kk:XK N w0 (wpList P ops Q rest) e R (H.set i (HP.vS r (l++[(k,v)])))):XK N w0 (wpList P ops Q (⟨none,.insert t x y u,ty,pos,aH,none⟩::rest)) e R H:=
 aCw rfl rfl fun a w hr st=>by
  have hm:=st.vS hi
  have hlt:=hm.lt
  obtain⟨es,c,hrun,hl⟩:=aMd (P:=P) ht hk hm k v hno;refine⟨{w with heap:=w.heap.setIfInBounds r (.map es c)},by simp only[execOp,hr.ev hx,hr.ev hy,hr.ev hu,Sem.run_bind,hrun,Result.andThen_ok,Sem.run_pure],kk _ _ hr ?_⟩;refine st.xZ hi (by simp) rfl rfl rfl fun F hF hb=>⟨F,⟨hF.1,es,c,by simp[Array.getElem?_setIfInBounds,hlt],hl⟩,fun b h=>⟨.inl h,by simpa using hb b h⟩,fun b hb hnb=>?_⟩
  rw[Array.getElem?_setIfInBounds];split
  ·rename_i he;exact absurd (he▸hF.1) hnb
  ·rfl
end
end
section
theorem aHA:∀(sub:List Nat) (l:Array Bool),(kT sub l).size=l.size
 | [],l=>rfl
 | i::sub,l=>by
  show((kT sub l).setIfInBounds i true).size=_
  rw[Array.size_setIfInBounds,aHA sub l]
theorem aDu:∀(sub:List Nat) (l:Array Bool) (i:Nat) (b:Bool),i∈sub→i < l.size→(kT sub l).getD i b=true
 | j :: sub, l, i, b, h, hi => by
  show((kT sub l).setIfInBounds j true).getD i b=true
  by_cases e:j=i
  ·subst e
   have:j < (kT sub l).size:=by rw[aHA];exact hi
   simp[this]
  ·rw[getD_set_ne b e];rcases List.mem_cons.1 h with h | h
   ·exact absurd h.symm e
   ·exact aDu sub l i b h hi
theorem Vv:∀(sub:List Nat) (l:Array Bool) (i:Nat) (b:Bool),i∉sub→(kT sub l).getD i b=l.getD i b
 | [],l,i,b,_=>rfl
 | j::sub,l,i,b,h=>by
  show((kT sub l).setIfInBounds j true).getD i b=_
  have e:j≠i:=fun e=>h (by simp[e])
  rw[getD_set_ne b e];exact Vv sub l i b fun h2=>h (by simp[h2])
theorem aOC{sub:List Nat}{l:Array Bool}{i:Nat}(h:l.getD i false=true):(kT sub l).getD i false=true:=by
 by_cases hi:i∈sub
 ·refine aDu sub l i false hi ?_;rcases Nat.lt_or_ge i l.size with h1 | h1
  ·exact h1
  ·simp[Array.getElem?_eq_none h1] at h
 ·rw[Vv sub l i false hi];exact h
def aD7(ops:Array Oper)(I:List Nat)(listed:Array Bool):Bool:=
 I.all (fun i=>decide (i < listed.size)&& !(listed.getD i true)&&match ops[i]? with
  | some o=>o.after.toList.all fun x=> !(Region.binds .any x)||listed.getD x.on false
  | none=>false)&&
 (List.range ops.size).all fun j=>I.contains j||listed.getD j true||match ops[j]? with
  | some o=>I.all fun i=>o.after.toList.any fun x=>Region.binds .any x&&x.on==i
  | none=>true
theorem aNm{ops:Array Oper}{I sub:List Nat}{listed:Array Bool}(hB:aD7 ops I listed=true)(hsub:∀i∈sub,i∈I){i0:Nat}(oX:i0∈I)(hn0:i0∉sub):
  Region.ready .any ops (kT sub listed)≠[]∧∀j∈Region.ready .any ops (kT sub listed),j∈I∧j∉sub:=by
 unfold aD7 at hB;rw[Bool.and_eq_true,List.all_eq_true,List.all_eq_true] at hB;obtain⟨hA,hC⟩:=hB
 have h0:=hA i0 oX
 simp only[Bool.and_eq_true,decide_eq_true_eq,Bool.not_eq_true'] at h0;obtain⟨⟨h1,h2⟩,h3⟩:=h0;constructor
 ·cases ho:ops[i0]? with
  | none=>rw[ho] at h3;cases h3
  | some o =>
   rw[ho] at h3;simp only[List.all_eq_true] at h3
   have:i0∈Region.ready .any ops (kT sub listed):=mem_ready.2 ⟨by rw[Vv _ _ _ _ hn0];exact h2,o,ho,fun x hx hb=>by
    have:=h3 x (by simpa using hx)
    rw[hb] at this
    exact aOC (by simpa using this)⟩
   intro he;rw[he] at this;cases this
 ·intro j hj;obtain⟨g1,o,ho,g2⟩:=mem_ready.1 hj
  have hjn:j∉sub:=fun h=>by
   have sE:=hA j (hsub j h)
   simp only[Bool.and_eq_true,decide_eq_true_eq] at sE;rw[aDu sub listed j true h sE.1.1] at g1;cases g1
  refine⟨?_,hjn⟩;rw[Vv _ _ _ _ hjn] at g1
  have hlt:j < ops.size:=(Array.getElem?_eq_some_iff.1 ho).1
  have hc:=hC j (List.mem_range.2 hlt)
  rw[g1,ho] at hc;simp only[Bool.or_false,Bool.or_eq_true] at hc;rcases hc with hc | hc
  ·simpa using hc
  ·exfalso;rw[List.all_eq_true] at hc
   have:=hc i0 oX
   rw[List.any_eq_true] at this;obtain⟨x,hx,hb⟩:=this;simp only[Bool.and_eq_true,beq_iff_eq] at hb
   have:=g2 x (by simpa using hx) hb.1
   rw[hb.2,Vv _ _ _ _ hn0] at this
   have h4:listed.getD i0 true=listed.getD i0 false:=by simp[h1]
   rw[h4,this] at h2;cases h2
theorem aHk{I sub:List Nat}(hI:I.Nodup)(hn:sub.Nodup)(hin:∀i∈sub,i∈I):(I.filter fun i=>sub.contains i).Perm sub:=by
 rw[List.perm_iff_count];intro a;rw[(hI.sublist List.filter_sublist).count,hn.count]
 by_cases ha:a∈sub
 ·rw[if_pos ha,if_pos (by simp[ha,hin a ha])]
 ·rw[if_neg ha,if_neg (by simp[ha])]
theorem aO2{l1 l2:List ((Int×Int)×Value)}(h:l1.Perm l2)(hn:(l1.map (·.1)).Nodup)(k:Int×Int):lR l1 k=lR l2 k:=by
 induction h with
 | nil=>rfl
 | cons x _ ih=>
  obtain⟨a,b⟩:=x;rw[Mh,Mh,ih (List.nodup_cons.1 hn).2]
 | swap x y s =>
  obtain⟨a,b⟩:=x;obtain⟨c,d⟩:=y
  have hne:c≠a:=fun e=>(List.nodup_cons.1 hn).1 (by rw[e];simp)
  simp only[Mh]
  by_cases h1:a=k
  ·have:c≠k:=fun e=>hne (e.trans h1.symm)
   simp[h1,this]
  ·simp[h1]
 | trans h1 h2 i1 i2=>exact(i1 hn).trans (i2 ((h1.map _).nodup_iff.1 hn))
theorem aO3{l:List ((Int×Int)×Value)}{k:Int×Int}(h:k∉l.map (·.1)):lR l k=none:=by
 induction l with
 | nil=>rfl
 | cons x l ih=>
  obtain⟨a,b⟩:=x;rw[List.map_cons,List.mem_cons,not_or] at h;rw[Mh,if_neg (fun e=>h.1 e.symm)];exact ih h.2
section
variable{P:Program}{N:cF}{w0 w:World}{e:Env}{R R0:List Piece}{H H0:List HP}{Q:Exit→Act→World→Prop}{ops:Array Oper}{m fuel:Nat}{listed:Array Bool}
def Lays(P:Program)(ops:Array Oper)(e:Env)(r:Nat)(i:Nat)(p:(Int×Int)×Value):Prop:=∃x y u ty pos aH t kt et,ops[i]? =some ⟨none,.insert t x y u,ty,pos,aH,none⟩∧P.underlying t=some (.map kt et)∧Dz P kt∧e.ev x=some (.map (some r))∧e.ev y=some (kP p.1)∧e.ev u=some p.2
theorem aUb(I:List Nat)(Nu:Nat→(Int×Int)×Value)(r:Nat)(hI:I.Nodup)(hop:∀i∈I,Lays P ops e r i (Nu i))(hkeys:(I.map fun i=>(Nu i).1).Nodup)(hB:aD7 ops I listed=true)
  (hS:∀l w,St w0 R (HP.vS r l::H) w→St w0 R0 H0 w)
  (k:∀sub:List Nat,sub.Perm I→XA P N w0 ops Q R0 H0 m fuel (kT sub listed) e R (HP.vS r (sub.reverse.map Nu)::H)):XA P N w0 ops Q R0 H0 m (fuel+I.length) listed e R (HP.vS r []::H):=by
 have key : ∀ (n : Nat) (sub : List Nat), sub.Nodup → (∀ i ∈ sub, i ∈ I) → sub.length + n = I.length → XA P N w0 ops Q R0 H0 m (fuel + n) (kT sub listed) e R (HP.vS r (sub.reverse.map Nu) :: H) := by
  intro n
  induction n with
  | zero=>
   intro sub hn hin hl
   have hp:=aHk hI hn hin
   have hf:(I.filter fun i=>sub.contains i)=I:=List.filter_sublist.eq_of_length (by have:=hp.length_eq;omega)
   rw[hf] at hp;exact k sub hp.symm
  | succ n ih =>
   intro sub hn hin hl
   obtain⟨i0,oX,hn0⟩:∃i,i∈I∧i∉sub:=Classical.byContradiction fun hno=>by
    have hp:=aHk hI hn hin
    have hf:(I.filter fun i=>sub.contains i)=I:=List.filter_eq_self.2 fun i hi=>by
     rcases Classical.em (i∈sub) with h | h
     ·simpa using h
     ·exact absurd ⟨i,hi,h⟩ hno
    rw[hf] at hp
    have:=hp.length_eq
    omega
   obtain⟨r1,r2⟩:=aNm hB hin oX hn0;intro up a w cT st;refine⟨fun h=>absurd h r1,fun i hi=>?_⟩;obtain⟨hiI,Ws⟩:=r2 i hi;obtain⟨x,y,u,ty,pos,aH,t,kt,et,ho,ht,hk,hx,hy,hu⟩:=hop i hiI
   have hno:lR (sub.reverse.map Nu) (Nu i).1=none:=aO3 fun hm=>by
    simp only[List.map_map,List.mem_map,List.mem_reverse,Function.comp] at hm;obtain⟨j,hj,he⟩:=hm
    have hji:j≠i:=fun e=>Ws (e▸hj)
    exact hji (Classical.byContradiction fun hne=>by
     have h1:=List.pairwise_map.1 hkeys
     exact absurd he (by
      obtain⟨a,ha⟩:=List.getElem?_of_mem (hin j hj);obtain⟨b,hb⟩:=List.getElem?_of_mem hiI
      have hal:=(List.getElem?_eq_some_iff.1 ha).1
      have hbl:=(List.getElem?_eq_some_iff.1 hb).1
      have hav:=(List.getElem?_eq_some_iff.1 ha).2
      have Xk:=(List.getElem?_eq_some_iff.1 hb).2
      have h2:=List.pairwise_iff_getElem.1 h1
      rcases Nat.lt_trichotomy a b with h | h | h
      ·have:=h2 a b hal hbl h;rw[hav,Xk] at this;exact this
      ·subst h;exact absurd (hav.symm.trans Xk) hji
      ·have:=h2 b a hbl hal h;rw[hav,Xk] at this;exact fun e=>this e.symm))
   refine El ho (fun a w h=>⟨h.1,h.2 (up.mF hi)⟩) (K:=uC P w0 ops Q R0 H0 m (fuel+n) (kT sub listed) i) ?_
   have:=aKS (P:=P) (N:=N) (w0:=w0) (R:=R) (H:=HP.vS r (sub.reverse.map Nu)::H) (Q:=Exit.then (uC P w0 ops Q R0 H0 m (fuel+n) (kT sub listed) i) Q) (ops:=ops) (rest:=[]) (ty:=ty) (pos:=pos) (aH:=aH) 0 ht hk rfl hno hx hy hu
    (iD (gQ (kX (hS _) (by
     have:=ih (i::sub) (List.nodup_cons.2 ⟨Ws,hn⟩) (fun j hj=>by
      rcases List.mem_cons.1 hj with rfl | hj
      ·exact hiI
      ·exact hin j hj) (by simp only[List.length_cons];omega)
     rw[List.reverse_cons,List.map_append] at this
     exact this))))
   exact this a w cT st
 exact key I.length [] List.nodup_nil (fun _ h=>by cases h) (by simp)
end
end
end Go.Proofs.YtdcdccmpcmjmhaaGreatDoor
