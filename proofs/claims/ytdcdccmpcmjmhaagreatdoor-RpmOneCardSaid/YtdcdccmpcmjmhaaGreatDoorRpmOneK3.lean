/- conf: what is right of a clock, a domain, a reset line, a device, and of how many there are. -/
import Derived.KernelRfl
import Derived.Laws.StructEq
import Derived.Test.YtdcdccmpcmjmhaaGreatDoorProg
import Derived.Test.YtdcdccmpcmjmhaaGreatDoorRpmOneK2
namespace Go.Proofs.YtdcdccmpcmjmhaaGreatDoor
set_option linter.all false
open Go.RowKit
section
set_option maxHeartbeats 4000000
set_option maxRecDepth 20000
def jJ(kind:Int)(n:Nat):Bool:=if kind=111 then decide (n=0) else if kind=112∨kind=100∨kind=103 then decide (n=1) else if kind=109 then gD n 1 4 else false
def qG(kind rate mul div lock:Int):Bool:=
 if kind=111 then decide (1≤rate)&&decide (rate≤1099511627776) else if kind=112 then gD mul 1 1000&&gD div 1 1000&&gD lock 0 20 else if kind=100 then gD div 1 1000 else true
def Jk(n1:Nat)(c:dV):Int:=iW [gI (!jJ c.kind c.src.length) 1,iW (c.src.map fun f=>gI (!gD f 0 ((n1:Int) - 1)) 4),gI (!qG c.kind c.rate c.mul c.div c.lock) 3]
def Nd(n2:Nat)(d:Dom):Int:=iW [gI (decide (¬d.above= -1)&& !gD d.above 0 ((n2:Int) - 1)) 4,gI (!gD d.delay 0 20) 3]
def Vn(r:Int):Int:=gI (!gD r 0 20) 3
def Ni(n1 n2 n3 n4:Nat)(d:bK):Int:=
 iW [gI (!gD d.clock 0 ((n1:Int) - 1)) 4,gI (!gD d.domain 0 ((n2:Int) - 1)) 4,gI (!gD d.reset 0 ((n3:Int) - 1)) 4,iW (d.gH.map fun f=>gI (!gD f 0 ((n4:Int) - 1)) 4)]
def Lm(d:bK):Int:=gI (decide ((8:Int) < d.aI.length)||decide ((6:Int) < d.gH.length)) 8
theorem aEL(l:List Value):(l.map fun v=>[v]).flatten=l:=by induction l<;>simp_all
theorem aHw(kind rate mul div lock:Int)(A:Option Addr)(n k:Nat)(w:World):
  Calls Tryz.prog 196 #[.agg #[.int .u8 kind,.slice A n k,.int .u64 rate,iv mul,iv div,iv lock]] w (Rt (.bool (jJ kind n)) w):=by
 refine XK.en Tryz.func196 Tryz.ntmps196 ?_
 refine XK.gw ?_
 refine aS fun g1=>?_
 refine XK.gw ?_
 refine XK.if_ rfl (fun h=>?_) (fun h=>?_)
 ·
  refine XK.gw ?_
  exact XK.rX (h:=fun _ _=>by first | (exfalso;omega) | (simp[jJ, *];done) | (simp[jJ, *];omega))
 ·
  refine XK.gw ?_
  refine XK.if_ rfl (fun h=>?_) (fun h=>?_)
  ·
   refine XK.gw ?_
   refine XK.if_ rfl (fun h=>?_) (fun h=>?_)
   ·
    refine XK.gw ?_
    exact XK.rX (h:=fun _ _=>by first | (exfalso;omega) | (simp[jJ, *];done) | (simp[jJ, *];omega))
   ·
    refine XK.gw ?_
    refine XK.if_ rfl (fun h=>?_) (fun h=>?_)
    ·
     refine XK.gw ?_
     refine cG (fun w1 st=>rI _ _ _ w1) ?_
     refine XK.gw ?_
     exact XK.rX (h:=fun _ _=>by first | (exfalso;omega) | (simp[jJ, *];done) | (simp[jJ, *];omega))
    ·
     refine XK.gw ?_
     exact XK.rX (h:=fun _ _=>by first | (exfalso;omega) | (simp[jJ, *];done) | (simp[jJ, *];omega))
  ·
   refine XK.gw ?_
   refine XK.if_ rfl (fun h=>?_) (fun h=>?_)
   ·
    refine XK.gw ?_
    refine XK.if_ rfl (fun h=>?_) (fun h=>?_)
    ·
     refine XK.gw ?_
     exact XK.rX (h:=fun _ _=>by first | (exfalso;omega) | (simp[jJ, *];done) | (simp[jJ, *];omega))
    ·
     refine XK.gw ?_
     refine XK.if_ rfl (fun h=>?_) (fun h=>?_)
     ·
      refine XK.gw ?_
      refine cG (fun w1 st=>rI _ _ _ w1) ?_
      refine XK.gw ?_
      exact XK.rX (h:=fun _ _=>by first | (exfalso;omega) | (simp[jJ, *];done) | (simp[jJ, *];omega))
     ·
      refine XK.gw ?_
      exact XK.rX (h:=fun _ _=>by first | (exfalso;omega) | (simp[jJ, *];done) | (simp[jJ, *];omega))
   ·
    refine XK.gw ?_
    refine XK.if_ rfl (fun h=>?_) (fun h=>?_)
    ·
     refine XK.gw ?_
     exact XK.rX (h:=fun _ _=>by first | (exfalso;omega) | (simp[jJ, *];done) | (simp[jJ, *];omega))
    ·
     refine XK.gw ?_
     refine XK.if_ rfl (fun h=>?_) (fun h=>?_)
     ·
      refine XK.gw ?_
      refine cG (fun w1 st=>rI _ _ _ w1) ?_
      refine XK.gw ?_
      exact XK.rX (h:=fun _ _=>by first | (exfalso;omega) | (simp[jJ, *];done) | (simp[jJ, *];omega))
     ·
      refine XK.gw ?_
      exact XK.rX (h:=fun _ _=>by first | (exfalso;omega) | (simp[jJ, *];done) | (simp[jJ, *];omega))
theorem aJJ(kind rate mul div lock:Int)(A:Option Addr)(n k:Nat)(w:World):
  Calls Tryz.prog 202 #[.agg #[.int .u8 kind,.slice A n k,.int .u64 rate,iv mul,iv div,iv lock]] w (Rt (.bool (qG kind rate mul div lock)) w):=by
 refine XK.en Tryz.func202 Tryz.ntmps202 ?_
 refine XK.gw ?_
 refine aS fun g1=>?_
 refine XK.gw ?_
 refine XK.if_ rfl (fun h=>?_) (fun h=>?_)
 ·
  refine XK.gw ?_
  refine oK (t:=10) rfl (fun hg=>?_) (fun hg=>?_)
  ·
   refine XK.gw ?_
   exact XK.rX (h:=fun _ _=>by simp[qG, *])
  ·
   refine XK.gw ?_
   exact XK.rX (h:=fun _ _=>by simp[qG, *])
 ·
  refine XK.gw ?_
  refine XK.if_ rfl (fun h=>?_) (fun h=>?_)
  ·
   refine XK.gw ?_
   refine cG (fun w1 st=>rI _ _ _ w1) ?_
   refine XK.gw ?_
   refine oK (t:=20) rfl (fun hg=>?_) (fun hg=>?_)
   ·
    refine XK.gw ?_
    refine cG (fun w1 st=>rI _ _ _ w1) ?_
    refine XK.gw ?_
    refine oK (t:=25) rfl (fun hg=>?_) (fun hg=>?_)
    ·
     refine XK.gw ?_
     refine cG (fun w1 st=>rI _ _ _ w1) ?_
     refine XK.gw ?_
     exact XK.rX (h:=fun _ _=>by simp[qG, *])
    ·
     refine XK.gw ?_
     exact XK.rX (h:=fun _ _=>by simp[qG, *])
   ·
    refine XK.gw ?_
    exact XK.rX (h:=fun _ _=>by simp[qG, *])
  ·
   refine XK.gw ?_
   refine XK.if_ rfl (fun h=>?_) (fun h=>?_)
   ·
    refine XK.gw ?_
    refine cG (fun w1 st=>rI _ _ _ w1) ?_
    refine XK.gw ?_
    exact XK.rX (h:=fun _ _=>by simp[qG, *])
   ·
    refine XK.gw ?_
    exact XK.rX (h:=fun _ _=>by simp[qG, *])
theorem aN6(kind rate mul div lock:Int)(A:Option Addr)(n k:Nat)(gc:Nat)(w:World)(hb:cZ w gc 0 [.int .u8 kind,.slice A n k,.int .u64 rate,iv mul,iv div,iv lock]):
  Calls Tryz.prog 195 #[pt gc] w (Rt (iv (gI (!jJ kind n) 1)) w):=by
 refine XK.en Tryz.func195 Tryz.ntmps195 ?_
 refine XK.gw ?_
 refine cG (fun w1 st=>aHw _ _ _ _ _ _ _ _ w1) ?_
 refine XK.gw ?_
 refine cG (fun w1 st=>sO _ _ w1) ?_
 refine XK.gw ?_
 exact XK.rX (h:=fun _ _=>rfl)
theorem aN3(kind rate mul div lock:Int)(A:Option Addr)(n k:Nat)(gc:Nat)(w:World)(hb:cZ w gc 0 [.int .u8 kind,.slice A n k,.int .u64 rate,iv mul,iv div,iv lock]):
  Calls Tryz.prog 201 #[pt gc] w (Rt (iv (gI (!qG kind rate mul div lock) 3)) w):=by
 refine XK.en Tryz.func201 Tryz.ntmps201 ?_
 refine XK.gw ?_
 refine cG (fun w1 st=>aJJ _ _ _ _ _ _ _ _ w1) ?_
 refine XK.gw ?_
 refine cG (fun w1 st=>sO _ _ w1) ?_
 refine XK.gw ?_
 exact XK.rX (h:=fun _ _=>rfl)
theorem aN4(f:Int)(A1 A2 A3 A4:Option Addr)(n1 k1 n2 k2 n3 k3 n4 k4:Nat)(gs:Nat)(w:World)(hs:cZ w gs 0 [.slice A1 n1 k1,.slice A2 n2 k2,.slice A3 n3 k3,.slice A4 n4 k4])(jS:(n1:Int)≤9223372036854775806):
  Calls Tryz.prog 199 #[iv f,pt gs] w (Rt (iv (gI (!gD f 0 ((n1:Int) - 1)) 4)) w):=by
 refine XK.en Tryz.func199 Tryz.ntmps199 ?_
 refine XK.gw ?_
 refine cG (fun w1 st=>rI _ _ _ w1) ?_
 refine XK.gw ?_
 refine cG (fun w1 st=>sO _ _ w1) ?_
 refine XK.gw ?_
 exact XK.rX (h:=fun _ _=>rfl)
theorem aN5(kind rate mul div lock:Int)(A:Option Addr)(n k:Nat)(A1 A2 A3 A4:Option Addr)(n1 k1 n2 k2 n3 k3 n4 k4:Nat)(gc gs:Nat)(w:World)(hb:cZ w gc 0 [.int .u8 kind,.slice A n k,.int .u64 rate,iv mul,iv div,iv lock])(hs:cZ w gs 0 [.slice A1 n1 k1,.slice A2 n2 k2,.slice A3 n3 k3,.slice A4 n4 k4])(jS:(n1:Int)≤9223372036854775806)(zs:List Int)(hA:aE (all w) 1 A n (aG zs))(hn:n=zs.length)(hz:(n:Int)≤9223372036854775806):
  Calls Tryz.prog 197 #[pt gc,pt gs] w (Rt (iv (iW (zs.map fun f=>gI (!gD f 0 ((n1:Int) - 1)) 4))) w):=by
 refine XK.en Tryz.func197 Tryz.ntmps197 ?_
 refine XK.go ?_
 refine iD (vf:=[]) (vc:=[pt gs]) rfl rfl (by decide) ?_
 refine cG (fun w1 st=>aEW _ _ _ 199 [pt gs] ((aG zs).map fun v=>[v]) (zs.map fun f=>gI (!gD f 0 ((n1:Int) - 1)) 4) w1 (by rw[aEL];exact hA.le (gQ (st.started (by simp)))) (by simp) (by simp[aG];omega) (by simp;omega) (by omega) (by kernel_rfl) (fun i r x hr hx w2 dO=>by
  obtain⟨f,hf,rfl⟩:∃f,zs[i]? =some f∧r=[iv f]:=by
   rw[List.getElem?_map,aG,List.getElem?_map] at hr
   cases hq:zs[i]? with
   | none=>simp[hq] at hr
   | some f=>simp[hq] at hr;exact⟨f,rfl,hr.symm⟩
  rw[List.getElem?_map,hf] at hx
  cases hx
  exact aN4 f A1 A2 A3 A4 n1 k1 n2 k2 n3 k3 n4 k4 gs w2 ((hs.below (st.started (by simp))).below dO) jS)) ?_
 refine XK.go ?_
 exact XK.rX (h:=fun _ _=>rfl)
theorem aN2(kind rate mul div lock:Int)(A:Option Addr)(n k:Nat)(A1 A2 A3 A4:Option Addr)(n1 k1 n2 k2 n3 k3 n4 k4:Nat)(w:World)(jS:(n1:Int)≤9223372036854775806)(zs:List Int)(hA:aE (all w) 1 A n (aG zs))(hn:n=zs.length)(hz:(n:Int)≤9223372036854775806):
  Calls Tryz.prog 122 #[.agg #[.slice A1 n1 k1,.slice A2 n2 k2,.slice A3 n3 k3,.slice A4 n4 k4],.agg #[.int .u8 kind,.slice A n k,.int .u64 rate,iv mul,iv div,iv lock]] w (Rt (iv (Jk n1 ⟨kind,zs,rate,mul,div,lock⟩)) w):=by
 refine XK.en Tryz.func122 Tryz.ntmps122 ?_
 refine XK.go ?_
 refine aS fun g1=>?_
 refine aS fun g2=>?_
 refine XK.go ?_
 refine iD (vf:=[]) (vc:=[pt g2]) rfl rfl (by decide) ?_
 refine iD (vf:=[]) (vc:=[pt g2,pt g1]) rfl rfl (by decide) ?_
 refine iD (vf:=[]) (vc:=[pt g2]) rfl rfl (by decide) ?_
 refine dF fun g3=>?_
 refine cG (fun w1 st=>Ye _ _ _ [(195,[pt g2]),(197,[pt g2,pt g1]),(201,[pt g2])] [gI (!jJ kind n) 1,iW (zs.map fun f=>gI (!gD f 0 ((n1:Int) - 1)) 4),gI (!qG kind rate mul div lock) 3] w1 (st.nX (i:=0) (n:=3) (sz:=1) (cs:=[.func (.func 195) #[] #[pt g2],.func (.func 197) #[] #[pt g2,pt g1],.func (.func 201) #[] #[pt g2]]) rfl rfl) rfl rfl (by decide) (by simp only[List.mem_cons,List.not_mem_nil,or_false];rintro f (rfl | rfl | rfl)<;>kernel_rfl) (fun i f x hf hx w2 dO=>by
  have iV:=(st.started (by simp)).trans (dO.mono st.size)
  match i,hf,hx with
  | 0,hf,hx=>cases hf;cases hx;exact aN6 kind rate mul div lock A n k g2 w2 (st.box (cs:=[.int .u8 kind,.slice A n k,.int .u64 rate,.int .i64 mul,.int .i64 div,.int .i64 lock]) (i:=1) rfl|>.below dO)
  | 1,hf,hx=>cases hf;cases hx;exact aN5 kind rate mul div lock A n k A1 A2 A3 A4 n1 k1 n2 k2 n3 k3 n4 k4 g2 g1 w2 (st.box (cs:=[.int .u8 kind,.slice A n k,.int .u64 rate,.int .i64 mul,.int .i64 div,.int .i64 lock]) (i:=1) rfl|>.below dO) (st.box (cs:=[.slice A1 n1 k1,.slice A2 n2 k2,.slice A3 n3 k3,.slice A4 n4 k4]) (i:=2) rfl|>.below dO) jS zs (hA.le (gQ iV)) hn hz
  | 2,hf,hx=>cases hf;cases hx;exact aN3 kind rate mul div lock A n k g2 w2 (st.box (cs:=[.int .u8 kind,.slice A n k,.int .u64 rate,.int .i64 mul,.int .i64 div,.int .i64 lock]) (i:=1) rfl|>.below dO)
  | i+3,hf,_=>simp at hf)) ?_
 refine XK.go ?_
 exact XK.rX (h:=fun _ _=>by simp[Jk,hn])
theorem aMQ(above delay:Int)(ret:Bool)(A1 A2 A3 A4:Option Addr)(n1 k1 n2 k2 n3 k3 n4 k4:Nat)(gd gs:Nat)(w:World)(hd:cZ w gd 0 [iv above,iv delay,.bool ret])(hs:cZ w gs 0 [.slice A1 n1 k1,.slice A2 n2 k2,.slice A3 n3 k3,.slice A4 n4 k4])(nI:(n2:Int)≤9223372036854775806):
  Calls Tryz.prog 204 #[pt gd,pt gs] w (Rt (iv (gI (decide (¬above= -1)&& !gD above 0 ((n2:Int) - 1)) 4)) w):=by
 refine XK.en Tryz.func204 Tryz.ntmps204 ?_
 refine XK.gw ?_
 refine aW (t:=6) rfl (fun hg=>?_) (fun hg=>?_)
 ·
  refine XK.gw ?_
  refine cG (fun w1 st=>rI _ _ _ w1) ?_
  refine XK.gw ?_
  refine cG (fun w1 st=>sO _ _ w1) ?_
  refine XK.gw ?_
  exact XK.rX (h:=fun _ _=>by simp[hg])
 ·
  refine XK.gw ?_
  refine cG (fun w1 st=>sO _ _ w1) ?_
  refine XK.gw ?_
  exact XK.rX (h:=fun _ _=>by simp[hg])
theorem aMP(above delay:Int)(ret:Bool)(gd:Nat)(w:World)(hd:cZ w gd 0 [iv above,iv delay,.bool ret]):
  Calls Tryz.prog 205 #[pt gd] w (Rt (iv (gI (!gD delay 0 20) 3)) w):=by
 refine XK.en Tryz.func205 Tryz.ntmps205 ?_
 refine XK.gw ?_
 refine cG (fun w1 st=>rI _ _ _ w1) ?_
 refine XK.gw ?_
 refine cG (fun w1 st=>sO _ _ w1) ?_
 refine XK.gw ?_
 exact XK.rX (h:=fun _ _=>rfl)
theorem aMO(above delay:Int)(ret:Bool)(A1 A2 A3 A4:Option Addr)(n1 k1 n2 k2 n3 k3 n4 k4:Nat)(w:World)(nI:(n2:Int)≤9223372036854775806):
  Calls Tryz.prog 129 #[.agg #[.slice A1 n1 k1,.slice A2 n2 k2,.slice A3 n3 k3,.slice A4 n4 k4],.agg #[iv above,iv delay,.bool ret]] w (Rt (iv (Nd n2 ⟨above,delay,ret⟩)) w):=by
 refine XK.en Tryz.func129 Tryz.ntmps129 ?_
 refine XK.go ?_
 refine aS fun g1=>?_
 refine aS fun g2=>?_
 refine XK.go ?_
 refine iD (vf:=[]) (vc:=[pt g2,pt g1]) rfl rfl (by decide) ?_
 refine iD (vf:=[]) (vc:=[pt g2]) rfl rfl (by decide) ?_
 refine dF fun g3=>?_
 refine cG (fun w1 st=>Ye _ _ _ [(204,[pt g2,pt g1]),(205,[pt g2])] [gI (decide (¬above= -1)&& !gD above 0 ((n2:Int) - 1)) 4,gI (!gD delay 0 20) 3] w1 (st.nX (i:=0) (n:=2) (sz:=1) (cs:=[.func (.func 204) #[] #[pt g2,pt g1],.func (.func 205) #[] #[pt g2]]) rfl rfl) rfl rfl (by decide) (by simp only[List.mem_cons,List.not_mem_nil,or_false];rintro f (rfl | rfl)<;>kernel_rfl) (fun i f x hf hx w2 dO=>by
  have iV:=(st.started (by simp)).trans (dO.mono st.size)
  match i,hf,hx with
  | 0,hf,hx=>cases hf;cases hx;exact aMQ above delay ret A1 A2 A3 A4 n1 k1 n2 k2 n3 k3 n4 k4 g2 g1 w2 (st.box (cs:=[.int .i64 above,.int .i64 delay,.bool ret]) (i:=1) rfl|>.below dO) (st.box (cs:=[.slice A1 n1 k1,.slice A2 n2 k2,.slice A3 n3 k3,.slice A4 n4 k4]) (i:=2) rfl|>.below dO) nI
  | 1,hf,hx=>cases hf;cases hx;exact aMP above delay ret g2 w2 (st.box (cs:=[.int .i64 above,.int .i64 delay,.bool ret]) (i:=1) rfl|>.below dO)
  | i+2,hf,_=>simp at hf)) ?_
 refine XK.go ?_
 exact XK.rX (h:=fun _ _=>rfl)
theorem aIu(r:Int)(w:World):
  Calls Tryz.prog 134 #[.agg #[iv r]] w (Rt (iv (Vn r)) w):=by
 refine XK.en Tryz.func134 Tryz.ntmps134 ?_
 refine XK.gw ?_
 refine aS fun g1=>?_
 refine XK.gw ?_
 refine cG (fun w1 st=>rI _ _ _ w1) ?_
 refine XK.gw ?_
 refine cG (fun w1 st=>sO _ _ w1) ?_
 refine XK.gw ?_
 exact XK.rX (h:=fun _ _=>rfl)
theorem aNl(clock domain reset gB:Int)(A B:Option Addr)(n k nb kb:Nat)(A1 A2 A3 A4:Option Addr)(n1 k1 n2 k2 n3 k3 n4 k4:Nat)(gd gs:Nat)(w:World)(hd:cZ w gd 0 [iv clock,iv domain,iv reset,.int .u32 gB,.slice B nb kb,.slice A n k])(hs:cZ w gs 0 [.slice A1 n1 k1,.slice A2 n2 k2,.slice A3 n3 k3,.slice A4 n4 k4])(jS:(n1:Int)≤9223372036854775806):
  Calls Tryz.prog 206 #[pt gd,pt gs] w (Rt (iv (gI (!gD clock 0 ((n1:Int) - 1)) 4)) w):=by
 refine XK.en Tryz.func206 Tryz.ntmps206 ?_
 refine XK.gw ?_
 refine cG (fun w1 st=>rI _ _ _ w1) ?_
 refine XK.gw ?_
 refine cG (fun w1 st=>sO _ _ w1) ?_
 refine XK.gw ?_
 exact XK.rX (h:=fun _ _=>rfl)
theorem aNk(clock domain reset gB:Int)(A B:Option Addr)(n k nb kb:Nat)(A1 A2 A3 A4:Option Addr)(n1 k1 n2 k2 n3 k3 n4 k4:Nat)(gd gs:Nat)(w:World)(hd:cZ w gd 0 [iv clock,iv domain,iv reset,.int .u32 gB,.slice B nb kb,.slice A n k])(hs:cZ w gs 0 [.slice A1 n1 k1,.slice A2 n2 k2,.slice A3 n3 k3,.slice A4 n4 k4])(nI:(n2:Int)≤9223372036854775806):
  Calls Tryz.prog 207 #[pt gd,pt gs] w (Rt (iv (gI (!gD domain 0 ((n2:Int) - 1)) 4)) w):=by
 refine XK.en Tryz.func207 Tryz.ntmps207 ?_
 refine XK.gw ?_
 refine cG (fun w1 st=>rI _ _ _ w1) ?_
 refine XK.gw ?_
 refine cG (fun w1 st=>sO _ _ w1) ?_
 refine XK.gw ?_
 exact XK.rX (h:=fun _ _=>rfl)
theorem aNj(clock domain reset gB:Int)(A B:Option Addr)(n k nb kb:Nat)(A1 A2 A3 A4:Option Addr)(n1 k1 n2 k2 n3 k3 n4 k4:Nat)(gd gs:Nat)(w:World)(hd:cZ w gd 0 [iv clock,iv domain,iv reset,.int .u32 gB,.slice B nb kb,.slice A n k])(hs:cZ w gs 0 [.slice A1 n1 k1,.slice A2 n2 k2,.slice A3 n3 k3,.slice A4 n4 k4])(Wp:(n3:Int)≤9223372036854775806):
  Calls Tryz.prog 208 #[pt gd,pt gs] w (Rt (iv (gI (!gD reset 0 ((n3:Int) - 1)) 4)) w):=by
 refine XK.en Tryz.func208 Tryz.ntmps208 ?_
 refine XK.gw ?_
 refine cG (fun w1 st=>rI _ _ _ w1) ?_
 refine XK.gw ?_
 refine cG (fun w1 st=>sO _ _ w1) ?_
 refine XK.gw ?_
 exact XK.rX (h:=fun _ _=>rfl)
theorem aNh(f:Int)(A1 A2 A3 A4:Option Addr)(n1 k1 n2 k2 n3 k3 n4 k4:Nat)(gs:Nat)(w:World)(hs:cZ w gs 0 [.slice A1 n1 k1,.slice A2 n2 k2,.slice A3 n3 k3,.slice A4 n4 k4])(Ma:(n4:Int)≤9223372036854775806):
  Calls Tryz.prog 210 #[iv f,pt gs] w (Rt (iv (gI (!gD f 0 ((n4:Int) - 1)) 4)) w):=by
 refine XK.en Tryz.func210 Tryz.ntmps210 ?_
 refine XK.gw ?_
 refine cG (fun w1 st=>rI _ _ _ w1) ?_
 refine XK.gw ?_
 refine cG (fun w1 st=>sO _ _ w1) ?_
 refine XK.gw ?_
 exact XK.rX (h:=fun _ _=>rfl)
theorem aNi(clock domain reset gB:Int)(A B:Option Addr)(n k nb kb:Nat)(A1 A2 A3 A4:Option Addr)(n1 k1 n2 k2 n3 k3 n4 k4:Nat)(gd gs:Nat)(w:World)(hd:cZ w gd 0 [iv clock,iv domain,iv reset,.int .u32 gB,.slice B nb kb,.slice A n k])(hs:cZ w gs 0 [.slice A1 n1 k1,.slice A2 n2 k2,.slice A3 n3 k3,.slice A4 n4 k4])(Ma:(n4:Int)≤9223372036854775806)(zs:List Int)(hA:aE (all w) 1 A n (aG zs))(hn:n=zs.length)(hz:(n:Int)≤9223372036854775806):
  Calls Tryz.prog 209 #[pt gd,pt gs] w (Rt (iv (iW (zs.map fun f=>gI (!gD f 0 ((n4:Int) - 1)) 4))) w):=by
 refine XK.en Tryz.func209 Tryz.ntmps209 ?_
 refine XK.go ?_
 refine iD (vf:=[]) (vc:=[pt gs]) rfl rfl (by decide) ?_
 refine cG (fun w1 st=>aEW _ _ _ 210 [pt gs] ((aG zs).map fun v=>[v]) (zs.map fun f=>gI (!gD f 0 ((n4:Int) - 1)) 4) w1 (by rw[aEL];exact hA.le (gQ (st.started (by simp)))) (by simp) (by simp[aG];omega) (by simp;omega) (by omega) (by kernel_rfl) (fun i r x hr hx w2 dO=>by
  obtain⟨f,hf,rfl⟩:∃f,zs[i]? =some f∧r=[iv f]:=by
   rw[List.getElem?_map,aG,List.getElem?_map] at hr
   cases hq:zs[i]? with
   | none=>simp[hq] at hr
   | some f=>simp[hq] at hr;exact⟨f,rfl,hr.symm⟩
  rw[List.getElem?_map,hf] at hx
  cases hx
  exact aNh f A1 A2 A3 A4 n1 k1 n2 k2 n3 k3 n4 k4 gs w2 ((hs.below (st.started (by simp))).below dO) Ma)) ?_
 refine XK.go ?_
 exact XK.rX (h:=fun _ _=>rfl)
theorem aNg(rg:List Rg)(clock domain reset gB:Int)(A B:Option Addr)(n k nb kb:Nat)(A1 A2 A3 A4:Option Addr)(n1 k1 n2 k2 n3 k3 n4 k4:Nat)(w:World)(jS:(n1:Int)≤9223372036854775806)(nI:(n2:Int)≤9223372036854775806)(Wp:(n3:Int)≤9223372036854775806)(Ma:(n4:Int)≤9223372036854775806)(zs:List Int)(hA:aE (all w) 1 A n (aG zs))(hn:n=zs.length)(hz:(n:Int)≤9223372036854775806):
  Calls Tryz.prog 138 #[.agg #[.slice A1 n1 k1,.slice A2 n2 k2,.slice A3 n3 k3,.slice A4 n4 k4],.agg #[iv clock,iv domain,iv reset,.int .u32 gB,.slice B nb kb,.slice A n k]] w (Rt (iv (Ni n1 n2 n3 n4 ⟨clock,domain,reset,gB,rg,zs⟩)) w):=by
 refine XK.en Tryz.func138 Tryz.ntmps138 ?_
 refine XK.go ?_
 refine aS fun g1=>?_
 refine aS fun g2=>?_
 refine XK.go ?_
 refine iD (vf:=[]) (vc:=[pt g2,pt g1]) rfl rfl (by decide) ?_
 refine iD (vf:=[]) (vc:=[pt g2,pt g1]) rfl rfl (by decide) ?_
 refine iD (vf:=[]) (vc:=[pt g2,pt g1]) rfl rfl (by decide) ?_
 refine iD (vf:=[]) (vc:=[pt g2,pt g1]) rfl rfl (by decide) ?_
 refine dF fun g3=>?_
 refine cG (fun w1 st=>Ye _ _ _ [(206,[pt g2,pt g1]),(207,[pt g2,pt g1]),(208,[pt g2,pt g1]),(209,[pt g2,pt g1])] [gI (!gD clock 0 ((n1:Int) - 1)) 4,gI (!gD domain 0 ((n2:Int) - 1)) 4,gI (!gD reset 0 ((n3:Int) - 1)) 4,iW (zs.map fun f=>gI (!gD f 0 ((n4:Int) - 1)) 4)] w1 (st.nX (i:=0) (n:=4) (sz:=1) (cs:=[.func (.func 206) #[] #[pt g2,pt g1],.func (.func 207) #[] #[pt g2,pt g1],.func (.func 208) #[] #[pt g2,pt g1],.func (.func 209) #[] #[pt g2,pt g1]]) rfl rfl) rfl rfl (by decide) (by simp only[List.mem_cons,List.not_mem_nil,or_false];rintro f (rfl | rfl | rfl | rfl)<;>kernel_rfl) (fun i f x hf hx w2 dO=>by
  have iV:=(st.started (by simp)).trans (dO.mono st.size)
  match i,hf,hx with
  | 0,hf,hx=>cases hf;cases hx;exact aNl clock domain reset gB A B n k nb kb A1 A2 A3 A4 n1 k1 n2 k2 n3 k3 n4 k4 g2 g1 w2 (st.box (cs:=[.int .i64 clock,.int .i64 domain,.int .i64 reset,.int .u32 gB,.slice B nb kb,.slice A n k]) (i:=1) rfl|>.below dO) (st.box (cs:=[.slice A1 n1 k1,.slice A2 n2 k2,.slice A3 n3 k3,.slice A4 n4 k4]) (i:=2) rfl|>.below dO) jS
  | 1,hf,hx=>cases hf;cases hx;exact aNk clock domain reset gB A B n k nb kb A1 A2 A3 A4 n1 k1 n2 k2 n3 k3 n4 k4 g2 g1 w2 (st.box (cs:=[.int .i64 clock,.int .i64 domain,.int .i64 reset,.int .u32 gB,.slice B nb kb,.slice A n k]) (i:=1) rfl|>.below dO) (st.box (cs:=[.slice A1 n1 k1,.slice A2 n2 k2,.slice A3 n3 k3,.slice A4 n4 k4]) (i:=2) rfl|>.below dO) nI
  | 2,hf,hx=>cases hf;cases hx;exact aNj clock domain reset gB A B n k nb kb A1 A2 A3 A4 n1 k1 n2 k2 n3 k3 n4 k4 g2 g1 w2 (st.box (cs:=[.int .i64 clock,.int .i64 domain,.int .i64 reset,.int .u32 gB,.slice B nb kb,.slice A n k]) (i:=1) rfl|>.below dO) (st.box (cs:=[.slice A1 n1 k1,.slice A2 n2 k2,.slice A3 n3 k3,.slice A4 n4 k4]) (i:=2) rfl|>.below dO) Wp
  | 3,hf,hx=>cases hf;cases hx;exact aNi clock domain reset gB A B n k nb kb A1 A2 A3 A4 n1 k1 n2 k2 n3 k3 n4 k4 g2 g1 w2 (st.box (cs:=[.int .i64 clock,.int .i64 domain,.int .i64 reset,.int .u32 gB,.slice B nb kb,.slice A n k]) (i:=1) rfl|>.below dO) (st.box (cs:=[.slice A1 n1 k1,.slice A2 n2 k2,.slice A3 n3 k3,.slice A4 n4 k4]) (i:=2) rfl|>.below dO) Ma zs (hA.le (gQ iV)) hn hz
  | i+4,hf,_=>simp at hf)) ?_
 refine XK.go ?_
 exact XK.rX (h:=fun _ _=>rfl)
theorem aLI(rg:List Rg)(zs:List Int)(clock domain reset gB:Int)(A B:Option Addr)(n k nb kb:Nat)(w:World)(wG:nb=rg.length)(hn:n=zs.length):
  Calls Tryz.prog 193 #[.agg #[iv clock,iv domain,iv reset,.int .u32 gB,.slice B nb kb,.slice A n k]] w (Rt (iv (Lm ⟨clock,domain,reset,gB,rg,zs⟩)) w):=by
 refine XK.en Tryz.func193 Tryz.ntmps193 ?_
 refine XK.gw ?_
 refine aS fun g1=>?_
 refine XK.gw ?_
 refine aW (t:=7) rfl (fun hg=>?_) (fun hg=>?_)
 ·
  refine XK.gw ?_
  refine cG (fun w1 st=>sO _ _ w1) ?_
  refine XK.gw ?_
  exact XK.rX (h:=fun _ _=>by subst wG hn;simp[Lm,hg])
 ·
  refine XK.gw ?_
  refine cG (fun w1 st=>sO _ _ w1) ?_
  refine XK.gw ?_
  exact XK.rX (h:=fun _ _=>by subst wG hn;simp[Lm,hg])
end
section
set_option maxHeartbeats 4000000
set_option maxRecDepth 20000
def aA.small(s:aA):Prop:=s.aD.length≤1000000∧s.domains.length≤1000000∧s.aL.length≤1000000∧s.aC.length≤1000000∧(∀c∈s.aD,c.src.length≤1000000)∧∀d∈s.aC,d.gH.length≤1000000
structure eI(w:World)(s:aA)(A1:Option Addr)(n1:Nat)(A2:Option Addr)(n2:Nat)(A3:Option Addr)(n3:Nat)(A4:Option Addr)(n4:Nat):Prop where
 qP:gM (eN (all w)) (pV (eN (all w))) 86 6 A1 n1 s.aD
 dom:gM (eN (all w)) pU 50 3 A2 n2 s.domains
 xS:gM (eN (all w)) tM 88 1 A3 n3 s.aL
 dev:gM (eN (all w)) (oY (eN (all w))) 38 6 A4 n4 s.aC
 small:s.small
section
variable{w w':World}{s:aA}{A1 A2 A3 A4:Option Addr}{n1 n2 n3 n4:Nat}
theorem eI.le(h:eI w s A1 n1 A2 n2 A3 n3 A4 n4)(hb:Below w.heap.size w w'):eI w' s A1 n1 A2 n2 A3 n3 A4 n4:=
 ⟨h.qP.mono (lH (gQ hb)) (fun _ _=>pV.mono (lH (gQ hb))),h.dom.mono (lH (gQ hb)) (fun _ _ h=>h),h.xS.mono (lH (gQ hb)) (fun _ _ h=>h),h.dev.mono (lH (gQ hb)) (fun _ _=>oY.mono (lH (gQ hb))),h.small⟩
theorem eI.kL(h:eI w s A1 n1 A2 n2 A3 n3 A4 n4):n1=s.aD.length:=by obtain⟨_,_,h,_⟩:=h.qP;exact h
theorem eI.kY(h:eI w s A1 n1 A2 n2 A3 n3 A4 n4):n2=s.domains.length:=by obtain⟨_,_,h,_⟩:=h.dom;exact h
theorem eI.mL(h:eI w s A1 n1 A2 n2 A3 n3 A4 n4):n3=s.aL.length:=by obtain⟨_,_,h,_⟩:=h.xS;exact h
theorem eI.lK(h:eI w s A1 n1 A2 n2 A3 n3 A4 n4):n4=s.aC.length:=by obtain⟨_,_,h,_⟩:=h.dev;exact h
end
theorem gM.row{α:Type}{w:World}{R:α→List Value→Prop}{t:TypeId}{sz n:Nat}{A:Option Addr}{es:List α}(h:gM (eN (all w)) R t sz A n es){k:Nat}{e:α}(hk:es[k]? =some e):
  ∃b off r,A=some ⟨b,off,none⟩∧r.length=sz∧R e r∧cZ w b (off+k*sz) r:=by
 obtain⟨rows,h1,h2,h3⟩:=h
 have hke:=(List.getElem?_eq_some_iff.1 hk).1
 have hl:=h1.len.1
 obtain⟨r,hr⟩:∃r,rows[k]? =some r:=⟨_,List.getElem?_eq_getElem (by omega)⟩
 obtain⟨e',he,hrl,hR⟩:=h1.at_ hr
 rw[hk] at he
 cases he
 obtain⟨b,off,hA,hro⟩:=aE.row h3 h1.aBX hr (by omega)
 exact⟨b,off,r,hA,hrl,hR,hro⟩
def fO(s:aA):List (List Int):=s.aD.map (·.src)
def fM(s:aA):List (List Int):=s.domains.map fun d=>if d.above= -1 then[] else[d.above]
def bX(s:aA):List (List Int):=s.aC.map (·.gH)
def Be(g:List (List Int)):Int:=gI (decide ((eT g).1=5)) 5
theorem aB5{vs:List Value}{v z:Value}{k n:Nat}(h:vs.length=k)(hk:k < n):(vs++List.replicate (n - k) z).set k v=(vs++[v])++List.replicate (n - (k+1)) z:=by
 rw[List.set_append_right _ _ (by omega),h,Nat.sub_self,show n - k=(n - (k+1))+1 by omega,List.replicate_succ,List.set_cons_zero,List.append_assoc];rfl
theorem aMl{vs:List Value}{z:Value}{k n:Nat}(hk:k < n):vs++List.replicate (n - k) z=(vs++[z])++List.replicate (n - (k+1)) z:=by
 rw[show n - k=(n - (k+1))+1 by omega,List.replicate_succ,List.append_assoc];rfl
theorem Eg{g:List (List Int)}{k:Nat}{vs:List Value}{q q':Piece}{l:List Int}{v:Value}(h:Rows (nB (eN q)) 1 (g.take k) (vs.map fun v=>[v]))(hl:q.Le q')(hg:g[k]? =some l)(hv:nB (eN q') l [v]):Rows (nB (eN q')) 1 (g.take (k+1)) ((vs++[v]).map fun v=>[v]):=by
 rw[List.take_add_one,hg,Option.toList_some,List.map_append]
 exact(h.mono (fun _ _=>nB.mono (lH hl))).snoc rfl hv
theorem iA.aAA{q q2:Piece}{g:List (List Int)}{vs:List Value}{gG n:Nat}{t:TypeId}(h:Rows (nB (eN q)) 1 g (vs.map fun v=>[v]))(hl:q.Le q2)(h1:∃F,(HP.aB gG t vs).sat F q2.w∧∀b,F b→q2.Z b)(hn:n=g.length):iA q2 (some ⟨gG,0,none⟩) n g:=by
 obtain⟨F,hs,hz⟩:=h1
 refine⟨_,h.mono (fun _ _=>nB.mono (lH hl)),hn,?_⟩
 rw[show(vs.map fun v=>[v]).flatten=vs by clear h hs;induction vs<;>simp_all]
 refine aE.fZ (c:=0) hs hz ?_
 have:=h.len.1
 simp at this
 omega
def aCg(zs:List Int)(v:Value)(w w':World):Prop:=∃A c,v=.slice A zs.length c∧aE (fresh w w') 1 A zs.length (aG zs)
def sM(g:List (List Int))(v:Value)(w w':World):Prop:=∃A c,v=.slice A g.length c∧iA (fresh w w') A g.length g
theorem aNK(A:Option Addr)(n c:Nat)(g:List (List Int))(w:World)(hg:iA (all w) A n g)(hn:n=g.length)(hn2:(n:Int)≤9223372036854775806)(hlen:∀l∈g,(l.length:Int)≤9223372036854775806):
  Calls Tryz.prog 203 #[.slice A n c] w (Rt (iv (eT g).1) w):=by
 refine XK.en Tryz.func203 Tryz.ntmps203 ?_
 refine XK.gw ?_
 refine qJ (fun v=>∃A m c,v=.tuple #[.slice A m c,iv (eT g).1]) (fun w1 st=>(Vv A n c g w1 (hg.le (gQ (st.started (by simp)))) hn hn2 hlen).mono fun y w2 h=>?_) ?_
 ·obtain⟨⟨A',m,c',hy,_,_⟩,hb⟩:=h
  exact⟨⟨_,hy,A',m,c',rfl⟩,hb⟩
 rintro _ ⟨A',m,c',rfl⟩
 refine XK.gw ?_
 exact XK.rX (h:=fun _ _=>rfl)
theorem aBJ(A:Option Addr)(n c:Nat)(g:List (List Int))(w:World)(hg:iA (all w) A n g)(hn:n=g.length)(hn2:(n:Int)≤9223372036854775806)(hlen:∀l∈g,(l.length:Int)≤9223372036854775806):
  Calls Tryz.prog 124 #[.slice A n c] w (Rt (iv (Be g)) w):=by
 refine XK.en Tryz.func124 Tryz.ntmps124 ?_
 refine XK.gw ?_
 refine cG (fun w1 st=>aNK A n c g w1 (hg.le (gQ (st.started (by simp)))) hn hn2 hlen) ?_
 refine XK.gw ?_
 refine cG (fun w1 st=>sO _ _ w1) ?_
 refine XK.gw ?_
 exact XK.rX (h:=fun _ _=>rfl)
theorem aD1(A:Option Addr)(n c:Nat)(zs:List Int)(w:World)(hs:aE (all w) 1 A n (aG zs))(hn:n=zs.length)(hn2:n≤1000000):
  Calls Tryz.prog 140 #[.slice A n c] w (fun y w'=>(∃v,y=.returned v∧aCg zs v w w')∧Below w.heap.size w w'):=by
 refine XK.en Tryz.func140 Tryz.ntmps140 ?_
 refine XK.gw ?_
 refine XK.fY 3 1 ?_
 refine fG 0 1 8 n (n':=n) (v:=sn) (el:=3) (by kernel_rfl) (by kernel_rfl) (by decide) rfl rfl rfl (nG (by simp) hs) (by simp[aG,Value.oneCell']) (by omega) (by omega) (by omega) (by decide) fun A' k'=>?_
 refine XK.gw ?_
 refine XK.still [] [0] [] (by simp) rfl (by decide) (by decide) fun q hq _ hfr=>?_
 subst hn
 exact XK.rX (h:=fun w1 st=>⟨_,rfl,A',k',rfl,(aE.own (hq 0 _ (by simp) rfl)).le (st.jD (by simp) (hfr (by simp) (by simp)))⟩)
theorem aFv(s:aA)(A1 A2 A3 A4:Option Addr)(n1 k1 n2 k2 n3 k3 n4 k4:Nat)(w:World)(hW:eI w s A1 n1 A2 n2 A3 n3 A4 n4):
  Calls Tryz.prog 125 #[.agg #[.slice A1 n1 k1,.slice A2 n2 k2,.slice A3 n3 k3,.slice A4 n4 k4]] w (fun y w'=>(∃v,y=.returned v∧sM (fO s) v w w')∧Below w.heap.size w w'):=by
 have hn:=hW.kL
 have bQ:=hW.small
 unfold aA.small at bQ
 obtain⟨hs1,eL,lV,mW,jT,lU⟩:=bQ
 refine XK.en Tryz.func125 Tryz.ntmps125 ?_
 refine XK.gw ?_
 refine aS fun g1=>?_
 refine XK.gw ?_
 refine jG 24 (el:=22) (z:=sn) (by kernel_rfl) (by kernel_rfl) rfl rfl rfl (by omega) (by omega) (by decide) fun g2=>?_
 refine XK.gw ?_
 refine XK.aT [(13,iv 0),(12,iv n1),(11,.slice A1 n1 k1),(3,.slice (some ⟨g2,0,none⟩) n1 n1),(1,pt g1)] ?_
 refine XK.still [] [] [0,1] (by simp) rfl (by decide) (by decide) fun q0 _ _ yF=>?_
 refine XK.gw ?_
 refine XK.loop (fun m e R H=>∃(k:Nat) (vs:List Value) (q:Piece),k≤n1∧m=n1 - k∧nC w q∧Rows (nB (eN q)) 1 ((fO s).take k) (vs.map fun v=>[v])∧vs.length=k∧e=[(13,iv k),(12,iv n1),(11,.slice A1 n1 k1),(3,.slice (some ⟨g2,0,none⟩) n1 n1),(1,pt g1)]∧R=[q,all w]∧H=[HP.aB g2 22 (vs++List.replicate (n1 - k) (sn)),HP.aB g1 30 [.slice A1 n1 k1,.slice A2 n2 k2,.slice A3 n3 k3,.slice A4 n4 k4]]) n1 ⟨0,[],_,by omega,rfl,yF (by simp) (by simp),trivial,rfl,rfl,rfl,rfl⟩ fun m e R H hI=>?_
 obtain⟨k,vs,q,hk,rfl,nK,hrows,hvl,rfl,rfl,rfl⟩:=hI
 refine XK.gw ?_
 refine XK.if_ rfl (fun h=>?_) (fun h=>?_)
 ·
  refine XK.gw ?_
  have hkn:k < s.aD.length:=by omega
  obtain⟨e,he⟩:∃e,s.aD[k]? =some e:=⟨_,List.getElem?_eq_getElem hkn⟩
  obtain⟨b,off,r,rfl,hrl,hR,hro⟩:=hW.qP.row he
  obtain⟨Af,nf,kf,rfl,hnf,oP⟩:=hR
  have uR:(fO s)[k]? =some (e.src):=by simp[fO,he]
  refine XK.gw ?_
  refine bB fun g3=>?_
  refine cM rfl (by decide) ?_
  refine pY rfl rfl ?_
  simp only[eE,Value.cells,List.set,List.take,List.drop,List.nil_append,List.append_nil,List.length_cons,List.length_nil,List.cons_append,Nat.reduceAdd]
  refine XK.gw ?_
  refine gO [q] (aCg e.src) (fun w1 st=>aD1 Af nf kf e.src w1 (aE.le oP (gQ (st.started (by simp)))) hnf (by have:=jT e (List.mem_of_getElem? he);omega)) ?_
  rintro _ w1 q' ⟨Ao,co,rfl,yB⟩ hf' hle aBl
  refine kd (dat (k) (k)) ?_
  refine pE 1 rfl (by kernel_rfl) rfl rfl rfl (by simp;omega) ?_
  dsimp only[List.set]
  rw[aB5 hvl (by omega)]
  refine XK.gw ?_
  exact XK.rd (n1 - (k+1)) ⟨k+1,vs++[_],q',by omega,rfl,aBl (by simpa using nK),Eg hrows (hle q (by simp)) uR ⟨Ao,_,co,rfl,rfl,aE.le yB hf'⟩,by simp[hvl],rfl,rfl,rfl⟩
 ·
  refine XK.gw ?_
  obtain rfl:k=n1:=by omega
  rw[Nat.sub_self,List.replicate_zero,List.append_nil]
  rw[List.take_of_length_le (by simp[fO];omega)] at hrows
  refine XK.gw ?_
  refine XK.still [q] [0] [] (by simp) rfl (by decide) (by decide) fun q2 hq hle hfr=>?_
  have iG:k=(fO s).length:=by simp[fO];omega
  exact XK.rX (h:=fun w1 st=>⟨_,rfl,some ⟨g2,0,none⟩,k,by rw[←iG],by rw[←iG];exact(iA.aAA hrows (hle q (by simp)) (hq 0 _ (by simp) rfl) iG).le (st.jD (by simp) (hfr (by simp) (by simpa using nK)))⟩)
theorem aDC(s:aA)(A1 A2 A3 A4:Option Addr)(n1 k1 n2 k2 n3 k3 n4 k4:Nat)(w:World)(hW:eI w s A1 n1 A2 n2 A3 n3 A4 n4):
  Calls Tryz.prog 63 #[.agg #[.slice A1 n1 k1,.slice A2 n2 k2,.slice A3 n3 k3,.slice A4 n4 k4]] w (fun y w'=>(∃v,y=.returned v∧sM (bX s) v w w')∧Below w.heap.size w w'):=by
 have hn:=hW.lK
 have bQ:=hW.small
 unfold aA.small at bQ
 obtain⟨hs1,eL,lV,mW,jT,lU⟩:=bQ
 refine XK.en Tryz.func63 Tryz.ntmps63 ?_
 refine XK.gw ?_
 refine aS fun g1=>?_
 refine XK.gw ?_
 refine jG 24 (el:=22) (z:=sn) (by kernel_rfl) (by kernel_rfl) rfl rfl rfl (by omega) (by omega) (by decide) fun g2=>?_
 refine XK.gw ?_
 refine XK.aT [(13,iv 0),(12,iv n4),(11,.slice A4 n4 k4),(3,.slice (some ⟨g2,0,none⟩) n4 n4),(1,pt g1)] ?_
 refine XK.still [] [] [0,1] (by simp) rfl (by decide) (by decide) fun q0 _ _ yF=>?_
 refine XK.gw ?_
 refine XK.loop (fun m e R H=>∃(k:Nat) (vs:List Value) (q:Piece),k≤n4∧m=n4 - k∧nC w q∧Rows (nB (eN q)) 1 ((bX s).take k) (vs.map fun v=>[v])∧vs.length=k∧e=[(13,iv k),(12,iv n4),(11,.slice A4 n4 k4),(3,.slice (some ⟨g2,0,none⟩) n4 n4),(1,pt g1)]∧R=[q,all w]∧H=[HP.aB g2 22 (vs++List.replicate (n4 - k) (sn)),HP.aB g1 30 [.slice A1 n1 k1,.slice A2 n2 k2,.slice A3 n3 k3,.slice A4 n4 k4]]) n4 ⟨0,[],_,by omega,rfl,yF (by simp) (by simp),trivial,rfl,rfl,rfl,rfl⟩ fun m e R H hI=>?_
 obtain⟨k,vs,q,hk,rfl,nK,hrows,hvl,rfl,rfl,rfl⟩:=hI
 refine XK.gw ?_
 refine XK.if_ rfl (fun h=>?_) (fun h=>?_)
 ·
  refine XK.gw ?_
  have hkn:k < s.aC.length:=by omega
  obtain⟨e,he⟩:∃e,s.aC[k]? =some e:=⟨_,List.getElem?_eq_getElem hkn⟩
  obtain⟨b,off,r,rfl,hrl,hR,hro⟩:=hW.dev.row he
  obtain⟨Ar,nr,kr,Af,nf,kf,rfl,_,hnf,_,oP⟩:=hR
  have uR:(bX s)[k]? =some (e.gH):=by simp[bX,he]
  refine XK.gw ?_
  refine bB fun g3=>?_
  refine cM rfl (by decide) ?_
  refine pY rfl rfl ?_
  simp only[eE,Value.cells,List.set,List.take,List.drop,List.nil_append,List.append_nil,List.length_cons,List.length_nil,List.cons_append,Nat.reduceAdd]
  refine XK.gw ?_
  refine gO [q] (aCg e.gH) (fun w1 st=>aD1 Af nf kf e.gH w1 (aE.le oP (gQ (st.started (by simp)))) hnf (by have:=lU e (List.mem_of_getElem? he);omega)) ?_
  rintro _ w1 q' ⟨Ao,co,rfl,yB⟩ hf' hle aBl
  refine kd (dat (k) (k)) ?_
  refine pE 1 rfl (by kernel_rfl) rfl rfl rfl (by simp;omega) ?_
  dsimp only[List.set]
  rw[aB5 hvl (by omega)]
  refine XK.gw ?_
  exact XK.rd (n4 - (k+1)) ⟨k+1,vs++[_],q',by omega,rfl,aBl (by simpa using nK),Eg hrows (hle q (by simp)) uR ⟨Ao,_,co,rfl,rfl,aE.le yB hf'⟩,by simp[hvl],rfl,rfl,rfl⟩
 ·
  refine XK.gw ?_
  obtain rfl:k=n4:=by omega
  rw[Nat.sub_self,List.replicate_zero,List.append_nil]
  rw[List.take_of_length_le (by simp[bX];omega)] at hrows
  refine XK.gw ?_
  refine XK.still [q] [0] [] (by simp) rfl (by decide) (by decide) fun q2 hq hle hfr=>?_
  have iG:k=(bX s).length:=by simp[bX];omega
  exact XK.rX (h:=fun w1 st=>⟨_,rfl,some ⟨g2,0,none⟩,k,by rw[←iG],by rw[←iG];exact(iA.aAA hrows (hle q (by simp)) (hq 0 _ (by simp) rfl) iG).le (st.jD (by simp) (hfr (by simp) (by simpa using nK)))⟩)
theorem aFb(s:aA)(A1 A2 A3 A4:Option Addr)(n1 k1 n2 k2 n3 k3 n4 k4:Nat)(w:World)(hW:eI w s A1 n1 A2 n2 A3 n3 A4 n4):
  Calls Tryz.prog 131 #[.agg #[.slice A1 n1 k1,.slice A2 n2 k2,.slice A3 n3 k3,.slice A4 n4 k4]] w (fun y w'=>(∃v,y=.returned v∧sM (fM s) v w w')∧Below w.heap.size w w'):=by
 have hn:=hW.kY
 have bQ:=hW.small
 unfold aA.small at bQ
 obtain⟨hs1,eL,lV,mW,jT,lU⟩:=bQ
 refine XK.en Tryz.func131 Tryz.ntmps131 ?_
 refine XK.gw ?_
 refine aS fun g1=>?_
 refine XK.gw ?_
 refine jG 24 (el:=22) (z:=sn) (by kernel_rfl) (by kernel_rfl) rfl rfl rfl (by omega) (by omega) (by decide) fun g2=>?_
 refine XK.gw ?_
 refine XK.aT [(13,iv 0),(12,iv n2),(11,.slice A2 n2 k2),(3,.slice (some ⟨g2,0,none⟩) n2 n2),(1,pt g1)] ?_
 refine XK.still [] [] [0,1] (by simp) rfl (by decide) (by decide) fun q0 _ _ yF=>?_
 refine XK.gw ?_
 refine XK.loop (fun m e R H=>∃(k:Nat) (vs:List Value) (q:Piece),k≤n2∧m=n2 - k∧nC w q∧Rows (nB (eN q)) 1 ((fM s).take k) (vs.map fun v=>[v])∧vs.length=k∧e=[(13,iv k),(12,iv n2),(11,.slice A2 n2 k2),(3,.slice (some ⟨g2,0,none⟩) n2 n2),(1,pt g1)]∧R=[q,all w]∧H=[HP.aB g2 22 (vs++List.replicate (n2 - k) (sn)),HP.aB g1 30 [.slice A1 n1 k1,.slice A2 n2 k2,.slice A3 n3 k3,.slice A4 n4 k4]]) n2 ⟨0,[],_,by omega,rfl,yF (by simp) (by simp),trivial,rfl,rfl,rfl,rfl⟩ fun m e R H hI=>?_
 obtain⟨k,vs,q,hk,rfl,nK,hrows,hvl,rfl,rfl,rfl⟩:=hI
 refine XK.gw ?_
 refine XK.if_ rfl (fun h=>?_) (fun h=>?_)
 ·
  refine XK.gw ?_
  have hkn:k < s.domains.length:=by omega
  obtain⟨e,he⟩:∃e,s.domains[k]? =some e:=⟨_,List.getElem?_eq_getElem hkn⟩
  obtain⟨b,off,r,rfl,hrl,hR,hro⟩:=hW.dom.row he
  obtain rfl:=hR
  have uR:(fM s)[k]? =some (if e.above= -1 then[] else[e.above]):=by simp[fM,he]
  refine XK.gw ?_
  refine bB fun g3=>?_
  refine cM rfl (by decide) ?_
  refine pY rfl rfl ?_
  simp only[eE,Value.cells,List.set,List.take,List.drop,List.nil_append,List.append_nil,List.length_cons,List.length_nil,List.cons_append,Nat.reduceAdd]
  refine XK.gw ?_
  refine XK.if_ rfl (fun h=>?_) (fun h=>?_)
  ·
   refine XK.gw ?_
   refine dF fun g4=>?_
   refine kd (dat (k) (k)) ?_
   refine pE 2 rfl (by kernel_rfl) rfl rfl rfl (by simp;omega) ?_
   dsimp only[List.set]
   rw[aB5 hvl (by omega)]
   refine XK.gw ?_
   refine XK.still [q] [0] [2,3] (by simp) rfl (by decide) (by decide) fun q' jN hle Aq=>?_
   obtain⟨Fg,Ig,Hw⟩:=jN 0 _ (by simp) rfl
   have yB:=aE.fZ (n:=1) (sz:=1) (c:=0) Ig Hw rfl
   exact XK.rd (n2 - (k+1)) ⟨k+1,vs++[_],q',by omega,rfl,Aq (by simp) (by simpa using nK),Eg hrows (hle q (by simp)) uR (by rw[if_neg h];exact⟨_,1,1,rfl,rfl,yB⟩),by simp[hvl],rfl,rfl,rfl⟩
  ·
   refine XK.gw ?_
   rw[aMl (k:=k) (by omega)]
   exact XK.rd (n2 - (k+1)) ⟨k+1,vs++[_],q,by omega,rfl,nK,Eg hrows (fun b hb=>⟨hb,rfl⟩) uR (by rw[if_pos (Classical.not_not.1 h)];exact⟨_,0,0,rfl,rfl,aE.nil _ 1⟩),by simp[hvl],rfl,rfl,rfl⟩
 ·
  refine XK.gw ?_
  obtain rfl:k=n2:=by omega
  rw[Nat.sub_self,List.replicate_zero,List.append_nil]
  rw[List.take_of_length_le (by simp[fM];omega)] at hrows
  refine XK.gw ?_
  refine XK.still [q] [0] [] (by simp) rfl (by decide) (by decide) fun q2 hq hle hfr=>?_
  have iG:k=(fM s).length:=by simp[fM];omega
  exact XK.rX (h:=fun w1 st=>⟨_,rfl,some ⟨g2,0,none⟩,k,by rw[←iG],by rw[←iG];exact(iA.aAA hrows (hle q (by simp)) (hq 0 _ (by simp) rfl) iG).le (st.jD (by simp) (hfr (by simp) (by simpa using nK)))⟩)
end
section
set_option maxHeartbeats 4000000
set_option maxRecDepth 20000
def Ct(s:aA):Int:=if(12:Int) < s.aD.length∨(6:Int) < s.domains.length∨(6:Int) < s.aL.length∨(6:Int) < s.aC.length then 8 else iW (s.aC.map Lm)
def Ym(s:aA):List Int:=[Ct s,iW (s.aD.map (Jk s.aD.length)),Be (fO s),iW (s.domains.map (Nd s.domains.length)),Be (fM s),iW (s.aL.map Vn),
 iW (s.aC.map (Ni s.aD.length s.domains.length s.aL.length s.aC.length)),Be (bX s)]
def Tv(s:aA):Int:=iW (Ym s)
theorem gM.rows{α:Type}{w:World}{R:α→List Value→Prop}{t:TypeId}{sz n:Nat}{A:Option Addr}{es:List α}(h:gM (eN (all w)) R t sz A n es)(h1:∀e r,R e r→∀u∈r,u.oneCell'=true):
  ∃rows:List (List Value),aE (all w) sz A n rows.flatten∧(∀r∈rows,r.length=sz)∧(∀r∈rows,∀u∈r,u.oneCell'=true)∧rows.length=n∧n=es.length∧∀(i:Nat) (r:List Value),rows[i]? =some r→∃e,es[i]? =some e∧R e r:=by
 obtain⟨rows,h2,h3,h4⟩:=h
 refine⟨rows,h4,h2.aBX,fun r hr=>?_,by rw[h2.len.1,h3],h3,fun i r hr=>?_⟩
 ·obtain⟨i,hi⟩:=List.getElem?_of_mem hr
  obtain⟨e,_,_,hR⟩:=h2.at_ hi
  exact h1 e r hR
 ·obtain⟨e,he,_,hR⟩:=h2.at_ hr
  exact⟨e,he,hR⟩
theorem pV.one{S:tK}(e:dV)(r:List Value)(h:pV S e r):∀u∈r,u.oneCell'=true:=by obtain⟨A,n,k,rfl,_⟩:=h;simp[Value.oneCell']
theorem pU.one(e:Dom)(r:List Value)(h:pU e r):∀u∈r,u.oneCell'=true:=by cases h;simp[Value.oneCell']
theorem tM.one(e:Int)(r:List Value)(h:tM e r):∀u∈r,u.oneCell'=true:=by cases h;simp[Value.oneCell']
theorem oY.one{S:tK}(e:bK)(r:List Value)(h:oY S e r):∀u∈r,u.oneCell'=true:=by obtain⟨A,n,k,A',n',k',rfl,_⟩:=h;simp[Value.oneCell']
theorem aLH(s : aA)(A1 A2 A3 A4 : Option Addr)(n1 k1 n2 k2 n3 k3 n4 k4 : Nat)(w : World)(hW : eI w s A1 n1 A2 n2 A3 n3 A4 n4) :
    Calls Tryz.prog 118 #[.agg #[.slice A1 n1 k1,.slice A2 n2 k2,.slice A3 n3 k3,.slice A4 n4 k4]] w (Rt (iv (Ct s)) w):=by
  have lX:=hW.kL
  have hn2:=hW.kY
  have lW:=hW.mL
  have nJ:=hW.lK
  have bQ:=hW.small
  unfold aA.small at bQ
  obtain⟨hs1,eL,lV,mW,jT,lU⟩:=bQ
  obtain⟨rows,dH,eW,pJ,Ci,Xf,Ch⟩:=hW.dev.rows oY.one
  refine XK.en Tryz.func118 Tryz.ntmps118 ?_
  refine XK.gw ?_
  refine aS fun g1=>?_
  refine XK.gw ?_
  refine aW (t:=7) rfl (fun hg=>?_) (fun hg=>?_)
  ·
    refine XK.gw ?_
    exact XK.rX (h:=fun _ _=>by rw[Ct,if_pos (by omega)])
  ·
    refine XK.gw ?_
    refine aW (t:=13) rfl (fun hg=>?_) (fun hg=>?_)
    ·
      refine XK.gw ?_
      exact XK.rX (h:=fun _ _=>by rw[Ct,if_pos (by omega)])
    ·
      refine XK.gw ?_
      refine aW (t:=19) rfl (fun hg=>?_) (fun hg=>?_)
      ·
        refine XK.gw ?_
        exact XK.rX (h:=fun _ _=>by rw[Ct,if_pos (by omega)])
      ·
        refine XK.gw ?_
        refine XK.if_ rfl (fun h=>?_) (fun h=>?_)
        ·
          refine XK.gw ?_
          exact XK.rX (h:=fun _ _=>by rw[Ct,if_pos (by omega)])
        ·
          refine XK.gw ?_
          refine cG (fun w1 st=>aEX A4 n4 k4 193 [] rows (s.aC.map Lm) w1 (dH.le (gQ (st.started (by simp)))) eW pJ Ci (by simp;omega) (by omega) (by kernel_rfl) (fun i r x hr hx w2 dO=>by
    have iV:=(st.started (by simp)).trans (dO.mono st.size)
    obtain⟨e,he,hR⟩:=Ch i r hr
    rw[List.getElem?_map,he] at hx
    cases hx
    obtain⟨Ar,nr,kr,Af,nf,kf,rfl,fU,hnf,_,oP⟩:=hR
    exact aLI e.aI e.gH _ _ _ _ _ _ _ _ _ _ w2 fU hnf)) ?_
          refine XK.gw ?_
          exact XK.rX (h:=fun _ _=>by rw[Ct,if_neg (by omega)])
theorem check_1(s:aA)(A1 A2 A3 A4:Option Addr)(n1 k1 n2 k2 n3 k3 n4 k4:Nat)(w:World)(hW:eI w s A1 n1 A2 n2 A3 n3 A4 n4)(gs:Nat)(hs:cZ w gs 0 [.slice A1 n1 k1,.slice A2 n2 k2,.slice A3 n3 k3,.slice A4 n4 k4]):
  Calls Tryz.prog 117 #[pt gs] w (Rt (iv (Ct s)) w):=by
 have lX:=hW.kL
 have hn2:=hW.kY
 have lW:=hW.mL
 have nJ:=hW.lK
 have bQ:=hW.small
 unfold aA.small at bQ
 obtain⟨hs1,eL,lV,mW,jT,lU⟩:=bQ
 refine XK.en Tryz.func117 Tryz.ntmps117 ?_
 refine XK.gw ?_
 refine cG (fun w1 st=>aLH s A1 A2 A3 A4 n1 k1 n2 k2 n3 k3 n4 k4 w1 (hW.le (st.started (by simp)))) ?_
 refine XK.gw ?_
 exact XK.rX (h:=fun _ _=>rfl)
theorem aNT(kind rate mul div lock:Int)(A:Option Addr)(n k:Nat)(A1 A2 A3 A4:Option Addr)(n1 k1 n2 k2 n3 k3 n4 k4:Nat)(gs:Nat)(w:World)(hs:cZ w gs 0 [.slice A1 n1 k1,.slice A2 n2 k2,.slice A3 n3 k3,.slice A4 n4 k4])(jS:(n1:Int)≤9223372036854775806)(zs:List Int)(hA:aE (all w) 1 A n (aG zs))(hn:n=zs.length)(hz:(n:Int)≤9223372036854775806):
  Calls Tryz.prog 121 #[.agg #[.int .u8 kind,.slice A n k,.int .u64 rate,iv mul,iv div,iv lock],pt gs] w (Rt (iv (Jk n1 ⟨kind,zs,rate,mul,div,lock⟩)) w):=by
 refine XK.en Tryz.func121 Tryz.ntmps121 ?_
 refine XK.gw ?_
 refine aS fun g1=>?_
 refine XK.gw ?_
 refine cG (fun w1 st=>aN2 kind rate mul div lock A n k A1 A2 A3 A4 n1 k1 n2 k2 n3 k3 n4 k4 w1 jS zs (hA.le (gQ (st.started (by simp)))) hn hz) ?_
 refine XK.gw ?_
 exact XK.rX (h:=fun _ _=>rfl)
theorem aNQ(above delay:Int)(ret:Bool)(A1 A2 A3 A4:Option Addr)(n1 k1 n2 k2 n3 k3 n4 k4:Nat)(gs:Nat)(w:World)(hs:cZ w gs 0 [.slice A1 n1 k1,.slice A2 n2 k2,.slice A3 n3 k3,.slice A4 n4 k4])(nI:(n2:Int)≤9223372036854775806):
  Calls Tryz.prog 128 #[.agg #[iv above,iv delay,.bool ret],pt gs] w (Rt (iv (Nd n2 ⟨above,delay,ret⟩)) w):=by
 refine XK.en Tryz.func128 Tryz.ntmps128 ?_
 refine XK.gw ?_
 refine aS fun g1=>?_
 refine XK.gw ?_
 refine cG (fun w1 st=>aMO above delay ret A1 A2 A3 A4 n1 k1 n2 k2 n3 k3 n4 k4 w1 nI) ?_
 refine XK.gw ?_
 exact XK.rX (h:=fun _ _=>rfl)
theorem aNM(rg:List Rg)(clock domain reset gB:Int)(A B:Option Addr)(n k nb kb:Nat)(A1 A2 A3 A4:Option Addr)(n1 k1 n2 k2 n3 k3 n4 k4:Nat)(gs:Nat)(w:World)(hs:cZ w gs 0 [.slice A1 n1 k1,.slice A2 n2 k2,.slice A3 n3 k3,.slice A4 n4 k4])(jS:(n1:Int)≤9223372036854775806)(nI:(n2:Int)≤9223372036854775806)(Wp:(n3:Int)≤9223372036854775806)(Ma:(n4:Int)≤9223372036854775806)(zs:List Int)(hA:aE (all w) 1 A n (aG zs))(hn:n=zs.length)(hz:(n:Int)≤9223372036854775806):
  Calls Tryz.prog 137 #[.agg #[iv clock,iv domain,iv reset,.int .u32 gB,.slice B nb kb,.slice A n k],pt gs] w (Rt (iv (Ni n1 n2 n3 n4 ⟨clock,domain,reset,gB,rg,zs⟩)) w):=by
 refine XK.en Tryz.func137 Tryz.ntmps137 ?_
 refine XK.gw ?_
 refine aS fun g1=>?_
 refine XK.gw ?_
 refine cG (fun w1 st=>aNg rg clock domain reset gB A B n k nb kb A1 A2 A3 A4 n1 k1 n2 k2 n3 k3 n4 k4 w1 jS nI Wp Ma zs (hA.le (gQ (st.started (by simp)))) hn hz) ?_
 refine XK.gw ?_
 exact XK.rX (h:=fun _ _=>rfl)
theorem aNU(s:aA)(A1 A2 A3 A4:Option Addr)(n1 k1 n2 k2 n3 k3 n4 k4:Nat)(w:World)(hW:eI w s A1 n1 A2 n2 A3 n3 A4 n4)(gs:Nat)(hs:cZ w gs 0 [.slice A1 n1 k1,.slice A2 n2 k2,.slice A3 n3 k3,.slice A4 n4 k4]):
  Calls Tryz.prog 119 #[pt gs] w (Rt (iv (iW (s.aD.map (Jk s.aD.length)))) w):=by
 have lX:=hW.kL
 have hn2:=hW.kY
 have lW:=hW.mL
 have nJ:=hW.lK
 have bQ:=hW.small
 unfold aA.small at bQ
 obtain⟨hs1,eL,lV,mW,jT,lU⟩:=bQ
 obtain⟨rows,dH,eW,pJ,Ci,Xf,Ch⟩:=hW.qP.rows pV.one
 rw[←lX]
 refine XK.en Tryz.func119 Tryz.ntmps119 ?_
 refine XK.go ?_
 refine iD (vf:=[]) (vc:=[pt gs]) rfl rfl (by decide) ?_
 refine cG (fun w1 st=>aM5 A1 n1 k1 121 [pt gs] rows (s.aD.map (Jk n1)) w1 (dH.le (gQ (st.started (by simp)))) eW pJ Ci (by simp;omega) (by omega) (by kernel_rfl) (fun i r x hr hx w2 dO=>by
  have iV:=(st.started (by simp)).trans (dO.mono st.size)
  obtain⟨e,he,hR⟩:=Ch i r hr
  rw[List.getElem?_map,he] at hx
  cases hx
  obtain⟨Af,nf,kf,rfl,hnf,oP⟩:=hR
  exact aNT _ _ _ _ _ _ _ _ A1 A2 A3 A4 n1 k1 n2 k2 n3 k3 n4 k4 gs w2 (hs.below iV) (by omega) e.src (aE.le oP (gQ iV)) hnf (by have:=jT e (List.mem_of_getElem? he);omega))) ?_
 refine XK.go ?_
 exact XK.rX (h:=fun _ _=>rfl)
theorem aNR(s:aA)(A1 A2 A3 A4:Option Addr)(n1 k1 n2 k2 n3 k3 n4 k4:Nat)(w:World)(hW:eI w s A1 n1 A2 n2 A3 n3 A4 n4)(gs:Nat)(hs:cZ w gs 0 [.slice A1 n1 k1,.slice A2 n2 k2,.slice A3 n3 k3,.slice A4 n4 k4]):
  Calls Tryz.prog 126 #[pt gs] w (Rt (iv (iW (s.domains.map (Nd s.domains.length)))) w):=by
 have lX:=hW.kL
 have hn2:=hW.kY
 have lW:=hW.mL
 have nJ:=hW.lK
 have bQ:=hW.small
 unfold aA.small at bQ
 obtain⟨hs1,eL,lV,mW,jT,lU⟩:=bQ
 obtain⟨rows,dH,eW,pJ,Ci,Xf,Ch⟩:=hW.dom.rows pU.one
 rw[←hn2]
 refine XK.en Tryz.func126 Tryz.ntmps126 ?_
 refine XK.go ?_
 refine iD (vf:=[]) (vc:=[pt gs]) rfl rfl (by decide) ?_
 refine cG (fun w1 st=>aM4 A2 n2 k2 128 [pt gs] rows (s.domains.map (Nd n2)) w1 (dH.le (gQ (st.started (by simp)))) eW pJ Ci (by simp;omega) (by omega) (by kernel_rfl) (fun i r x hr hx w2 dO=>by
  have iV:=(st.started (by simp)).trans (dO.mono st.size)
  obtain⟨e,he,hR⟩:=Ch i r hr
  rw[List.getElem?_map,he] at hx
  cases hx
  obtain rfl:=hR
  exact aNQ _ _ _ A1 A2 A3 A4 n1 k1 n2 k2 n3 k3 n4 k4 gs w2 (hs.below iV) (by omega))) ?_
 refine XK.go ?_
 exact XK.rX (h:=fun _ _=>rfl)
theorem aNO(s:aA)(A1 A2 A3 A4:Option Addr)(n1 k1 n2 k2 n3 k3 n4 k4:Nat)(w:World)(hW:eI w s A1 n1 A2 n2 A3 n3 A4 n4)(gs:Nat)(hs:cZ w gs 0 [.slice A1 n1 k1,.slice A2 n2 k2,.slice A3 n3 k3,.slice A4 n4 k4]):
  Calls Tryz.prog 132 #[pt gs] w (Rt (iv (iW (s.aL.map Vn))) w):=by
 have lX:=hW.kL
 have hn2:=hW.kY
 have lW:=hW.mL
 have nJ:=hW.lK
 have bQ:=hW.small
 unfold aA.small at bQ
 obtain⟨hs1,eL,lV,mW,jT,lU⟩:=bQ
 obtain⟨rows,dH,eW,pJ,Ci,Xf,Ch⟩:=hW.xS.rows tM.one
 refine XK.en Tryz.func132 Tryz.ntmps132 ?_
 refine XK.gw ?_
 refine cG (fun w1 st=>aM3 A3 n3 k3 134 [] rows (s.aL.map Vn) w1 (dH.le (gQ (st.started (by simp)))) eW pJ Ci (by simp;omega) (by omega) (by kernel_rfl) (fun i r x hr hx w2 dO=>by
  have iV:=(st.started (by simp)).trans (dO.mono st.size)
  obtain⟨e,he,hR⟩:=Ch i r hr
  rw[List.getElem?_map,he] at hx
  cases hx
  obtain rfl:=hR
  exact aIu _ w2)) ?_
 refine XK.gw ?_
 exact XK.rX (h:=fun _ _=>rfl)
theorem aNN(s:aA)(A1 A2 A3 A4:Option Addr)(n1 k1 n2 k2 n3 k3 n4 k4:Nat)(w:World)(hW:eI w s A1 n1 A2 n2 A3 n3 A4 n4)(gs:Nat)(hs:cZ w gs 0 [.slice A1 n1 k1,.slice A2 n2 k2,.slice A3 n3 k3,.slice A4 n4 k4]):
  Calls Tryz.prog 135 #[pt gs] w (Rt (iv (iW (s.aC.map (Ni s.aD.length s.domains.length s.aL.length s.aC.length)))) w):=by
 have lX:=hW.kL
 have hn2:=hW.kY
 have lW:=hW.mL
 have nJ:=hW.lK
 have bQ:=hW.small
 unfold aA.small at bQ
 obtain⟨hs1,eL,lV,mW,jT,lU⟩:=bQ
 obtain⟨rows,dH,eW,pJ,Ci,Xf,Ch⟩:=hW.dev.rows oY.one
 rw[←lX,←hn2,←lW,←nJ]
 refine XK.en Tryz.func135 Tryz.ntmps135 ?_
 refine XK.go ?_
 refine iD (vf:=[]) (vc:=[pt gs]) rfl rfl (by decide) ?_
 refine cG (fun w1 st=>aEX A4 n4 k4 137 [pt gs] rows (s.aC.map (Ni n1 n2 n3 n4)) w1 (dH.le (gQ (st.started (by simp)))) eW pJ Ci (by simp;omega) (by omega) (by kernel_rfl) (fun i r x hr hx w2 dO=>by
  have iV:=(st.started (by simp)).trans (dO.mono st.size)
  obtain⟨e,he,hR⟩:=Ch i r hr
  rw[List.getElem?_map,he] at hx
  cases hx
  obtain⟨Ar,nr,kr,Af,nf,kf,rfl,fU,hnf,_,oP⟩:=hR
  exact aNM e.aI _ _ _ _ _ _ _ _ _ _ A1 A2 A3 A4 n1 k1 n2 k2 n3 k3 n4 k4 gs w2 (hs.below iV) (by omega) (by omega) (by omega) (by omega) e.gH (aE.le oP (gQ iV)) hnf (by have:=lU e (List.mem_of_getElem? he);omega))) ?_
 refine XK.go ?_
 exact XK.rX (h:=fun _ _=>rfl)
theorem aNS(s:aA)(A1 A2 A3 A4:Option Addr)(n1 k1 n2 k2 n3 k3 n4 k4:Nat)(w:World)(hW:eI w s A1 n1 A2 n2 A3 n3 A4 n4)(gs:Nat)(hs:cZ w gs 0 [.slice A1 n1 k1,.slice A2 n2 k2,.slice A3 n3 k3,.slice A4 n4 k4]):
  Calls Tryz.prog 123 #[pt gs] w (Rt (iv (Be (fO s))) w):=by
 have lX:=hW.kL
 have hn2:=hW.kY
 have lW:=hW.mL
 have nJ:=hW.lK
 have bQ:=hW.small
 unfold aA.small at bQ
 obtain⟨hs1,eL,lV,mW,jT,lU⟩:=bQ
 refine XK.en Tryz.func123 Tryz.ntmps123 ?_
 refine XK.gw ?_
 refine gO [] (sM (fO s)) (fun w1 st=>aFv s A1 A2 A3 A4 n1 k1 n2 k2 n3 k3 n4 k4 w1 (hW.le (st.started (by simp)))) ?_
 rintro _ w1 q ⟨Ag,cg,rfl,iU⟩ hf' _ Aq
 have Ro:=iU.le hf'
 have iG:(fO s).length=n1:=by simp[fO];omega
 refine cG (fun w1 st=>aBJ Ag _ cg (fO s) w1 (Ro.le (st.le (by simp))) rfl (by omega) (fun l hl=>by
  simp only[fO,List.mem_map] at hl
  obtain⟨x,hx,rfl⟩:=hl
  have:=jT x hx;omega)) ?_
 refine XK.gw ?_
 exact XK.rX (h:=fun _ _=>rfl)
theorem aNP(s:aA)(A1 A2 A3 A4:Option Addr)(n1 k1 n2 k2 n3 k3 n4 k4:Nat)(w:World)(hW:eI w s A1 n1 A2 n2 A3 n3 A4 n4)(gs:Nat)(hs:cZ w gs 0 [.slice A1 n1 k1,.slice A2 n2 k2,.slice A3 n3 k3,.slice A4 n4 k4]):
  Calls Tryz.prog 130 #[pt gs] w (Rt (iv (Be (fM s))) w):=by
 have lX:=hW.kL
 have hn2:=hW.kY
 have lW:=hW.mL
 have nJ:=hW.lK
 have bQ:=hW.small
 unfold aA.small at bQ
 obtain⟨hs1,eL,lV,mW,jT,lU⟩:=bQ
 refine XK.en Tryz.func130 Tryz.ntmps130 ?_
 refine XK.gw ?_
 refine gO [] (sM (fM s)) (fun w1 st=>aFb s A1 A2 A3 A4 n1 k1 n2 k2 n3 k3 n4 k4 w1 (hW.le (st.started (by simp)))) ?_
 rintro _ w1 q ⟨Ag,cg,rfl,iU⟩ hf' _ Aq
 have Ro:=iU.le hf'
 have iG:(fM s).length=n2:=by simp[fM];omega
 refine cG (fun w1 st=>aBJ Ag _ cg (fM s) w1 (Ro.le (st.le (by simp))) rfl (by omega) (fun l hl=>by
  simp only[fM,List.mem_map] at hl
  obtain⟨x,hx,rfl⟩:=hl
  split<;>simp)) ?_
 refine XK.gw ?_
 exact XK.rX (h:=fun _ _=>rfl)
theorem aNL(s:aA)(A1 A2 A3 A4:Option Addr)(n1 k1 n2 k2 n3 k3 n4 k4:Nat)(w:World)(hW:eI w s A1 n1 A2 n2 A3 n3 A4 n4)(gs:Nat)(hs:cZ w gs 0 [.slice A1 n1 k1,.slice A2 n2 k2,.slice A3 n3 k3,.slice A4 n4 k4]):
  Calls Tryz.prog 139 #[pt gs] w (Rt (iv (Be (bX s))) w):=by
 have lX:=hW.kL
 have hn2:=hW.kY
 have lW:=hW.mL
 have nJ:=hW.lK
 have bQ:=hW.small
 unfold aA.small at bQ
 obtain⟨hs1,eL,lV,mW,jT,lU⟩:=bQ
 refine XK.en Tryz.func139 Tryz.ntmps139 ?_
 refine XK.gw ?_
 refine gO [] (sM (bX s)) (fun w1 st=>aDC s A1 A2 A3 A4 n1 k1 n2 k2 n3 k3 n4 k4 w1 (hW.le (st.started (by simp)))) ?_
 rintro _ w1 q ⟨Ag,cg,rfl,iU⟩ hf' _ Aq
 have Ro:=iU.le hf'
 have iG:(bX s).length=n4:=by simp[bX];omega
 refine cG (fun w1 st=>aBJ Ag _ cg (bX s) w1 (Ro.le (st.le (by simp))) rfl (by omega) (fun l hl=>by
  simp only[bX,List.mem_map] at hl
  obtain⟨x,hx,rfl⟩:=hl
  have:=lU x hx;omega)) ?_
 refine XK.gw ?_
 exact XK.rX (h:=fun _ _=>rfl)
theorem Yl(s:aA)(A1 A2 A3 A4:Option Addr)(n1 k1 n2 k2 n3 k3 n4 k4:Nat)(w:World)(hW:eI w s A1 n1 A2 n2 A3 n3 A4 n4):
  Calls Tryz.prog 62 #[.agg #[.slice A1 n1 k1,.slice A2 n2 k2,.slice A3 n3 k3,.slice A4 n4 k4]] w (Rt (iv (Tv s)) w):=by
 refine XK.en Tryz.func62 Tryz.ntmps62 ?_
 refine XK.go ?_
 refine aS fun g1=>?_
 refine XK.go ?_
 refine iD (vf:=[]) (vc:=[pt g1]) rfl rfl (by decide) ?_
 refine iD (vf:=[]) (vc:=[pt g1]) rfl rfl (by decide) ?_
 refine iD (vf:=[]) (vc:=[pt g1]) rfl rfl (by decide) ?_
 refine iD (vf:=[]) (vc:=[pt g1]) rfl rfl (by decide) ?_
 refine iD (vf:=[]) (vc:=[pt g1]) rfl rfl (by decide) ?_
 refine iD (vf:=[]) (vc:=[pt g1]) rfl rfl (by decide) ?_
 refine iD (vf:=[]) (vc:=[pt g1]) rfl rfl (by decide) ?_
 refine iD (vf:=[]) (vc:=[pt g1]) rfl rfl (by decide) ?_
 refine dF fun g2=>?_
 refine cG (fun w1 st=>Ye _ _ _ [(117,[pt g1]),(119,[pt g1]),(123,[pt g1]),(126,[pt g1]),(130,[pt g1]),(132,[pt g1]),(135,[pt g1]),(139,[pt g1])] (Ym s) w1 (st.nX (i:=0) (n:=8) (sz:=1) (cs:=[.func (.func 117) #[] #[pt g1],.func (.func 119) #[] #[pt g1],.func (.func 123) #[] #[pt g1],.func (.func 126) #[] #[pt g1],.func (.func 130) #[] #[pt g1],.func (.func 132) #[] #[pt g1],.func (.func 135) #[] #[pt g1],.func (.func 139) #[] #[pt g1]]) rfl rfl) rfl rfl (by decide) (by simp only[List.mem_cons,List.not_mem_nil,or_false];rintro f (rfl | rfl | rfl | rfl | rfl | rfl | rfl | rfl)<;>kernel_rfl) (fun i f x hf hx w2 dO=>by
  have iV:=(st.started (by simp)).trans (dO.mono st.size)
  unfold Ym at hx
  match i,hf,hx with
  | 0,hf,hx=>cases hf;cases hx;exact check_1 s A1 A2 A3 A4 n1 k1 n2 k2 n3 k3 n4 k4 w2 (hW.le iV) g1 (st.box (cs:=[.slice A1 n1 k1,.slice A2 n2 k2,.slice A3 n3 k3,.slice A4 n4 k4]) (i:=1) rfl|>.below dO)
  | 1,hf,hx=>cases hf;cases hx;exact aNU s A1 A2 A3 A4 n1 k1 n2 k2 n3 k3 n4 k4 w2 (hW.le iV) g1 (st.box (cs:=[.slice A1 n1 k1,.slice A2 n2 k2,.slice A3 n3 k3,.slice A4 n4 k4]) (i:=1) rfl|>.below dO)
  | 2,hf,hx=>cases hf;cases hx;exact aNS s A1 A2 A3 A4 n1 k1 n2 k2 n3 k3 n4 k4 w2 (hW.le iV) g1 (st.box (cs:=[.slice A1 n1 k1,.slice A2 n2 k2,.slice A3 n3 k3,.slice A4 n4 k4]) (i:=1) rfl|>.below dO)
  | 3,hf,hx=>cases hf;cases hx;exact aNR s A1 A2 A3 A4 n1 k1 n2 k2 n3 k3 n4 k4 w2 (hW.le iV) g1 (st.box (cs:=[.slice A1 n1 k1,.slice A2 n2 k2,.slice A3 n3 k3,.slice A4 n4 k4]) (i:=1) rfl|>.below dO)
  | 4,hf,hx=>cases hf;cases hx;exact aNP s A1 A2 A3 A4 n1 k1 n2 k2 n3 k3 n4 k4 w2 (hW.le iV) g1 (st.box (cs:=[.slice A1 n1 k1,.slice A2 n2 k2,.slice A3 n3 k3,.slice A4 n4 k4]) (i:=1) rfl|>.below dO)
  | 5,hf,hx=>cases hf;cases hx;exact aNO s A1 A2 A3 A4 n1 k1 n2 k2 n3 k3 n4 k4 w2 (hW.le iV) g1 (st.box (cs:=[.slice A1 n1 k1,.slice A2 n2 k2,.slice A3 n3 k3,.slice A4 n4 k4]) (i:=1) rfl|>.below dO)
  | 6,hf,hx=>cases hf;cases hx;exact aNN s A1 A2 A3 A4 n1 k1 n2 k2 n3 k3 n4 k4 w2 (hW.le iV) g1 (st.box (cs:=[.slice A1 n1 k1,.slice A2 n2 k2,.slice A3 n3 k3,.slice A4 n4 k4]) (i:=1) rfl|>.below dO)
  | 7,hf,hx=>cases hf;cases hx;exact aNL s A1 A2 A3 A4 n1 k1 n2 k2 n3 k3 n4 k4 w2 (hW.le iV) g1 (st.box (cs:=[.slice A1 n1 k1,.slice A2 n2 k2,.slice A3 n3 k3,.slice A4 n4 k4]) (i:=1) rfl|>.below dO)
  | i+8,hf,_=>simp at hf)) ?_
 refine XK.go ?_
 exact XK.rX (h:=fun _ _=>rfl)
end
section
set_option maxHeartbeats 4000000
set_option maxRecDepth 20000
attribute [local irreducible] KC KI KQ
def aP(l:List Bool):List Value:=l.map .bool
theorem aFA{l:List Bool}{i:Nat}{b:Bool}(h:l[i]? =some b):(aP l)[i]? =some (.bool b):=by simp[aP,h]
def hasB(l:List Bool)(i:Nat):Bool:=l[i]?.getD false
def RP(p:Piece)(g o:Nat)(v:Value):Prop:=p.Z g∧p.w.cell? ⟨g,o,none⟩=some v
theorem RP.le{p q:Piece}{g o:Nat}{v:Value}(h:RP p g o v)(hl:p.Le q):RP q g o v:=⟨(hl g h.1).1,(World.cell?_of_block (w:=p.w) (a:=⟨g,o,none⟩) (hl g h.1).2).trans h.2⟩
theorem RP.rd{w0:World}{R:List Piece}{H:List HP}{p:Piece}{g o:Nat}{v:Value}(h:RP p g o v)(hp:p∈R):Rd w0 R H g o v:=Rd.ro hp h.1 h.2
theorem Iter.le{P:Program}{g:FuncId}{lb:List Value}{encs:List (List Value)}{p q:Piece}(h:Iter P g lb encs p)(hl:p.Le q):Iter P g lb encs q:=fun l J Jx W F hq hd=>h l J Jx W F (fun b hb=>⟨(hq b (hl b hb).1).1,((hq b (hl b hb).1).2).trans (hl b hb).2⟩) (fun b hb=>hd b (hl b hb).1)
theorem aMk{α:Type}{l:List α}{s:α→Bool}{k:Nat}{x:α}(hx:l[k]? =some x)(hs:s x=true):(l.filter s)[((l.take k).filter s).length]? =some x∧((l.take (k+1)).filter s).length=((l.take k).filter s).length+1:=by
 have h1:l.take (k+1)=l.take k++[x]:=by rw[List.take_add_one,hx];rfl
 have h2:l=l.take k++x::l.drop (k+1):=by
  have hlt:=(List.getElem?_eq_some_iff.1 hx).1
  have hv:=(List.getElem?_eq_some_iff.1 hx).2
  rw[←hv,List.getElem_cons_drop hlt,List.take_append_drop]
 refine⟨?_,by rw[h1,List.filter_append];simp[hs]⟩
 have h3:l.filter s=(l.take k).filter s++(x::l.drop (k+1)).filter s:=by rw[←List.filter_append,←h2]
 rw[h3,List.getElem?_append_right (Nat.le_refl _),Nat.sub_self,List.filter_cons_of_pos hs]
 rfl
theorem aEO{α:Type}{l:List α}{s:α→Bool}{k:Nat}{x:α}(hx:l[k]? =some x)(hs:s x=false):((l.take (k+1)).filter s).length=((l.take k).filter s).length:=by
 rw[List.take_add_one,hx,Option.toList_some,List.filter_append]
 simp[hs]
def xP(fr to:List Bool)(i:Nat):Bool:=hasB to i&& !hasB fr i
def fA(order:List Nat)(fr to:List Bool):List Nat:=order.filter (xP fr to)
def tC(ids:List Nat):List (List Value):=ids.map fun(i:Nat)=>[iv (i:Int)]
theorem aBs(A:Option Addr)(n c i:Nat)(bs:List Bool)(w:World)(hs:aE (all w) 1 A n (aP bs))(hn:n=bs.length)(hi:(i:Int)≤9223372036854775807):
  Calls Tryz.prog 152 #[.slice A n c,iv i] w (Rt (.bool (hasB bs i)) w):=by
 refine XK.en Tryz.func152 Tryz.ntmps152 ?_
 refine XK.gw ?_
 refine aW (t:=9) rfl (fun hg=>?_) (fun hg=>?_)
 ·
  refine XK.gw ?_
  have hin:i < bs.length:=by omega
  obtain⟨b,off,rfl,hz,hc⟩:=hs.2 (by omega)
  obtain⟨v,hv⟩:∃v,bs[i]? =some v:=⟨_,List.getElem?_eq_getElem hin⟩
  have c1:eS w b (off+i) (.bool v):=⟨hz,hc i _ (aFA hv)⟩
  refine XK.gw ?_
  exact XK.rX (h:=fun _ _=>by rw[hasB,hv];rfl)
 ·
  refine XK.gw ?_
  exact XK.rX (h:=fun _ _=>by rw[hasB,List.getElem?_eq_none (by omega)];rfl)
theorem aJU(p:Piece)(g1 g2 g3 n Ep nf c ct cf:Nat)(A At Af:Option Addr)(order:List Nat)(fr to:List Bool)(h1:RP p g1 0 (.slice A n c))(h2:RP p g2 0 (.slice At Ep ct))(h3:RP p g3 0 (.slice Af nf cf))
  (hs:aE p 1 A n (aG (cJ order))) (hn:n=order.length) (hn2:(n:Int)≤9223372036854775806) (hst:aE p 1 At Ep (aP to)) (hnt:Ep=to.length) (oP:aE p 1 Af nf (aP fr)) (hnf:nf=fr.length) (Ij:∀i∈order,(i:Int)≤9223372036854775807):
  Iter Tryz.prog 288 [pt g1,pt g2,pt g3] (tC (fA order fr to)) p:=by
 unfold Iter
 intro l J Jx W F hp hd hJ hF hY
 refine XC.enter (vs:=[.func (.yield l) #[] #[],pt g1,pt g2,pt g3]) Tryz.func288 rfl Tryz.ntmps288 (by simp) (St.iter hp hd hJ hF) ?_
 dsimp only[List.cons_append,List.nil_append]
 refine XC.seq ?_
 refine XC.iL (by kernel_rfl) ?_
 refine fX (by kernel_rfl) rfl (h1.rd (by simp)) (by decide) ?_
 refine pF (el:=3) (by kernel_rfl) rfl (by decide) ?_
 refine aR rfl (by decide) ?_
 refine XC.iP ?_
 refine XC.norm ?_
 refine XK.aT [(9,iv 0),(8,iv n),(7,.slice A n c),(3,pt g3),(2,pt g2),(0,.func (.yield l) #[] #[])] ?_
 refine XC.block ?_
 refine XC.loop (fun m L e R H=>∃k:Nat,k≤n∧m=n - k∧L=[]∧e=[(9,iv k),(8,iv n),(7,.slice A n c),(3,pt g3),(2,pt g2),(0,.func (.yield l) #[] #[])]∧R=[p,nt W F]∧H=[J (((order.take k).filter (xP fr to)).length),HP.marks []]) n ⟨0,by omega,rfl,rfl,rfl,rfl,rfl⟩ fun m L e R H hI=>?_
 obtain⟨k,hk,rfl,rfl,rfl,rfl,rfl⟩:=hI
 refine XC.seq ?_
 refine XC.iL (by kernel_rfl) ?_
 refine xN rfl rfl (by decide) ?_
 refine XC.iP ?_
 refine XC.norm ?_
 refine XC.seq ?_
 refine XC.if_ rfl (fun h=>?_) (fun h=>?_)
 ·
  refine XC.skip ?_
  refine XC.norm ?_
  refine XC.seq ?_
  refine XC.block ?_
  refine XC.seq ?_
  have hkn:k < order.length:=by omega
  obtain⟨b,off,rfl,hz,hc⟩:=hs.2 (by omega)
  obtain⟨i,hi⟩:∃i,order[k]? =some i:=⟨_,List.getElem?_eq_getElem hkn⟩
  have hib:=Ij i (List.mem_of_getElem? hi)
  refine XC.iL (by kernel_rfl) ?_
  refine kd (dat (k) (off+k)) ?_
  refine fX (by kernel_rfl) rfl (Rd.ro (p:=p) (by simp) hz (hc k (iv (i:Int)) (by simp[aG,cJ,hi]))) (by decide) ?_
  refine cM rfl (by decide) ?_
  refine XC.iP ?_
  refine XC.norm ?_
  refine XC.seq ?_
  refine XC.region ?_
  refine XI.op (by kernel_rfl) ?_;refine fX (by kernel_rfl) rfl (h2.rd (by simp)) (by decide) ?_;refine XI.back ?_
  refine XI.op (by kernel_rfl) ?_;refine aR rfl (by decide) ?_;refine XI.back ?_
  refine XI.op (by kernel_rfl) ?_;refine cG (fun w1 st=>aBs _ _ _ i to w1 (hst.le (st.le (by simp))) hnt (by omega)) ?_;refine XI.back ?_
  refine XI.op (by kernel_rfl) ?_;refine aR rfl (by decide) ?_;refine XI.back ?_
  refine oK (t:=16) rfl (fun hg=>?_) (fun hg=>?_)
  ·
   refine XI.op (by kernel_rfl) ?_;refine dW rfl rfl ?_;refine fX (by kernel_rfl) rfl (h3.rd (by simp)) (by decide) ?_;refine XI.back ?_
   refine XI.op (by kernel_rfl) ?_;refine dW rfl rfl ?_;refine aR rfl (by decide) ?_;refine XI.back ?_
   refine XI.op (by kernel_rfl) ?_;refine dW rfl rfl ?_;refine cG (fun w1 st=>aBs _ _ _ i fr w1 (oP.le (st.le (by simp))) hnf (by omega)) ?_;refine XI.back ?_
   refine XI.op (by kernel_rfl) ?_;refine dW rfl rfl ?_;(first | refine Dv rfl (by decide) ?_ | refine tR rfl (by decide) ?_);refine XI.back ?_
   refine XI.op (by kernel_rfl) ?_;(first | refine mH rfl rfl (by decide) ?_ | refine mI rfl rfl (by decide) ?_);refine XI.back ?_
   refine XI.op (by kernel_rfl) ?_;refine aR rfl (by decide) ?_;refine XI.back ?_
   refine oK (t:=22) rfl (fun Ap=>?_) (fun Ap=>?_)
   ·
    refine XI.op (by kernel_rfl) ?_;refine dW rfl rfl ?_;refine aR rfl (by decide) ?_;refine XI.back ?_
    refine XI.op (by kernel_rfl) ?_;refine dW rfl rfl ?_;refine aR rfl (by decide) ?_;refine XI.back ?_
    have hsel:xP fr to i=true:=by rw[xP,hg,Ap];rfl
    obtain⟨fJ,jZ⟩:=aMk hi hsel
    refine XI.aLA rfl rfl ?_
    refine XI.yield 0 rfl rfl (by decide) (by simp:nt W F∈[p,nt W F]) (tL.refl W) rfl (fun W1 F1 h1 h2 h3=>hY _ [iv i] W1 F1 (by simp[tC,fA,fJ]) h1 h2 h3) ?_ ?_
    rotate_left
    ·
     refine XI.op (by kernel_rfl) ?_;refine dW rfl rfl ?_;refine tR rfl (by decide) ?_;refine XI.back ?_
     refine XI.op (by kernel_rfl) ?_;(first | refine mH rfl rfl (by decide) ?_ | refine mI rfl rfl (by decide) ?_);refine XI.back ?_
     refine XI.nil ?_
     refine XC.norm ?_
     refine XC.cond rfl (fun _=>?_) (fun h=>by cases h)
     refine XC.ret ?_
     refine XC.norm ?_
     refine XC.Eh (Hs:=[Jx (((order.take k).filter (xP fr to)).length+1)]) (.inl rfl) rfl fun w1 st=>?_
     obtain⟨F',h1,h2⟩:=st.turns hF (by simp[nt]) (i:=0) rfl
     exact⟨⟨_,rfl⟩,F',h2,.inr ⟨_,by simp[tC,fA];exact(List.getElem?_eq_some_iff.1 fJ).1,h1⟩⟩
    dsimp only[List.set]
    refine XI.op (by kernel_rfl) ?_;refine dW rfl rfl ?_;refine tR rfl (by decide) ?_;refine XI.back ?_
    refine XI.op (by kernel_rfl) ?_;(first | refine mH rfl rfl (by decide) ?_ | refine mI rfl rfl (by decide) ?_);refine XI.back ?_
    refine XI.nil ?_
    refine XC.norm ?_
    refine XC.cond rfl (fun h=>by cases h) (fun _=>?_)
    ·skip
     refine XC.skip ?_
     refine XC.norm ?_
     refine XC.iL (by kernel_rfl) ?_
     refine nD rfl rfl (eR (by omega)) (by decide) ?_
     refine aR rfl (by decide) ?_
     refine XC.iP ?_
     refine XC.norm ?_
     exact XK.aT [(9,iv (k+1)),(8,iv n),(7,.slice (some ⟨b,off,none⟩) n c),(3,pt g3),(2,pt g2),(0,.func (.yield l) #[] #[])] (XC.round (n - (k+1)) (by omega) ⟨k+1,by omega,rfl,rfl,rfl,rfl,by rw[jZ]⟩)
   ·
    refine XI.op (by kernel_rfl) ?_;refine dS rfl rfl rfl (by decide) ?_;refine XI.back ?_
    refine XI.op (by kernel_rfl) ?_;refine dS rfl rfl rfl (by decide) ?_;refine XI.back ?_
    refine XI.op (by kernel_rfl) ?_;refine dS rfl rfl rfl (by decide) ?_;refine XI.back ?_
    refine XI.op (by kernel_rfl) ?_;refine dS rfl rfl rfl (by decide) ?_;refine XI.back ?_
    refine XI.op (by kernel_rfl) ?_;(first | refine mH rfl rfl (by decide) ?_ | refine mI rfl rfl (by decide) ?_);refine XI.back ?_
    refine XI.nil ?_
    refine XC.norm ?_
    refine XC.cond rfl (fun h=>by cases h) (fun _=>?_)
    refine XC.skip ?_
    refine XC.norm ?_
    refine XC.iL (by kernel_rfl) ?_
    refine nD rfl rfl (eR (by omega)) (by decide) ?_
    refine aR rfl (by decide) ?_
    refine XC.iP ?_
    refine XC.norm ?_
    have hsel:xP fr to i=false:=by rw[xP,hg];simpa using Ap
    exact XK.aT [(9,iv (k+1)),(8,iv n),(7,.slice (some ⟨b,off,none⟩) n c),(3,pt g3),(2,pt g2),(0,.func (.yield l) #[] #[])] (XC.round (n - (k+1)) (by omega) ⟨k+1,by omega,rfl,rfl,rfl,rfl,by rw[aEO hi hsel]⟩)
  ·
   refine XI.op (by kernel_rfl) ?_;refine dS rfl rfl rfl (by decide) ?_;refine XI.back ?_
   refine XI.op (by kernel_rfl) ?_;refine dS rfl rfl rfl (by decide) ?_;refine XI.back ?_
   refine XI.op (by kernel_rfl) ?_;refine dS rfl rfl rfl (by decide) ?_;refine XI.back ?_
   refine XI.op (by kernel_rfl) ?_;refine dS rfl rfl rfl (by decide) ?_;refine XI.back ?_
   refine XI.op (by kernel_rfl) ?_;(first | refine mH rfl rfl (by decide) ?_ | refine mI rfl rfl (by decide) ?_);refine XI.back ?_
   refine XI.op (by kernel_rfl) ?_;refine aR rfl (by decide) ?_;refine XI.back ?_
   refine XI.op (by kernel_rfl) ?_;refine dS rfl rfl rfl (by decide) ?_;refine XI.back ?_
   refine XI.op (by kernel_rfl) ?_;refine dS rfl rfl rfl (by decide) ?_;refine XI.back ?_
   refine XI.op (by kernel_rfl) ?_;refine dS rfl rfl rfl (by decide) ?_;refine XI.back ?_
   refine XI.op (by kernel_rfl) ?_;refine dS rfl rfl rfl (by decide) ?_;refine XI.back ?_
   refine XI.op (by kernel_rfl) ?_;(first | refine mH rfl rfl (by decide) ?_ | refine mI rfl rfl (by decide) ?_);refine XI.back ?_
   refine XI.nil ?_
   refine XC.norm ?_
   refine XC.cond rfl (fun h=>by cases h) (fun _=>?_)
   refine XC.skip ?_
   refine XC.norm ?_
   refine XC.iL (by kernel_rfl) ?_
   refine nD rfl rfl (eR (by omega)) (by decide) ?_
   refine aR rfl (by decide) ?_
   refine XC.iP ?_
   refine XC.norm ?_
   have hsel:xP fr to i=false:=by rw[xP,hg];rfl
   exact XK.aT [(9,iv (k+1)),(8,iv n),(7,.slice (some ⟨b,off,none⟩) n c),(3,pt g3),(2,pt g2),(0,.func (.yield l) #[] #[])] (XC.round (n - (k+1)) (by omega) ⟨k+1,by omega,rfl,rfl,rfl,rfl,by rw[aEO hi hsel]⟩)
 ·
  refine XC.exit ?_
  refine XC.norm ?_
  refine XC.Eh (Hs:=[J (((order.take k).filter (xP fr to)).length)]) (.inr rfl) rfl fun w1 st=>?_
  obtain⟨F',h1,h2⟩:=st.turns hF (by simp[nt]) (i:=0) rfl
  rw[List.take_of_length_le (by omega)] at h1
  exact⟨⟨_,rfl⟩,F',h2,.inl (by simpa[tC,fA] using h1)⟩
end
section
set_option maxHeartbeats 4000000
set_option maxRecDepth 20000
attribute [local irreducible] KC KI KQ
def aFW(pr msg i v:Int):Value:=.agg #[iv pr,iv msg,.int .u32 i,.int .u32 v]
def uD(pr msg:Int)(val:Nat→Int)(ids:List Nat):List (List Value):=ids.map fun(i:Nat)=>[aFW pr msg i (val i)]
def Jr(p:Piece)(sQ:FuncId)(vR:List Value)(ids:List Nat)(val:Nat→Int):Prop:=∀i∈ids,∀w',p.Le (all w')→Calls Tryz.prog sQ (Value.int .i64 (i:Int)::vR).toArray w' (Rt (.int .u32 (val i)) w')
theorem Piece.Le.trans'{p q r:Piece}(h:p.Le q)(k:q.Le r):p.Le r:=fun b hb=>⟨(k b (h b hb).1).1,(k b (h b hb).1).2.trans (h b hb).2⟩
theorem Jr.le{p q:Piece}{sQ:FuncId}{vR:List Value}{ids:List Nat}{val:Nat→Int}(h:Jr p sQ vR ids val)(hl:p.Le q):Jr q sQ vR ids val:=fun i hi w' hq=>h i hi w' (hl.trans' hq)
theorem RP.fZ{q:Piece}{g o:Nat}{t:TypeId}{cs:List Value}{v:Value}(h:∃F,(HP.aB g t cs).sat F q.w∧∀b,F b→q.Z b)(hv:cs[o]? =some v):RP q g o v:=by
 obtain⟨F,hs,hz⟩:=h
 refine⟨hz g hs.1,?_⟩
 have:rF q.w g t cs.toArray:=hs.2
 rw[this.cell]
 simpa using hv
theorem aO7(i v:Int)(g:Nat)(w:World)(h:eS w g 0 (.int .u32 v)):Calls Tryz.prog 289 #[iv i,pt g] w (Rt (.int .u32 v) w):=by
 refine XK.en Tryz.func289 Tryz.ntmps289 ?_
 refine XK.gw ?_
 exact XK.rX (h:=fun _ _=>rfl)
def Oh(v:Int)(y:Value)(w w':World):Prop:=∃g,y=.func (.func 289) #[] #[pt g]∧∀q,(fresh w w').Le q→∀ids,Jr q 289 [pt g] ids fun _=>v
theorem Tz(v:Int)(w:World):Calls Tryz.prog 284 #[.int .u32 v] w (fun y w'=>(∃x,y=.returned x∧Oh v x w w')∧Below w.heap.size w w'):=by
 refine XK.en Tryz.func284 Tryz.ntmps284 ?_
 refine XK.go ?_
 refine aS fun g1=>?_
 refine XK.go ?_
 refine iD (vf:=[]) (vc:=[pt g1]) rfl rfl (by decide) ?_
 refine XK.go ?_
 refine XK.still [] [0] [] (by simp) rfl (by decide) (by decide) fun q hq _ hfr=>?_
 refine XK.jQ rfl rfl fun w1 st=>⟨⟨_,rfl,g1,rfl,fun q2 hf ids i hi=>?_⟩,st.below (by simp)⟩
 have bT:=(RP.fZ (o:=0) (v:=.int .u32 v) (hq 0 _ (by simp) rfl) rfl).le ((st.jD (by simp) (hfr (by simp) (by simp))).trans' hf)
 intro w' hw'
 have:=bT.le hw'
 exact aO7 _ v g1 w' this
def Ka(p0:Piece)(ids:List Nat)(y:Value)(w w':World):Prop:=∃g1 g2 g3,y=.func (.func 288) #[] #[pt g1,pt g2,pt g3]∧∀q,p0.Le q→(fresh w w').Le q→Iter Tryz.prog 288 [pt g1,pt g2,pt g3] (tC ids) q
theorem Ld(p0:Piece)(n Ep nf c ct cf:Nat)(A At Af:Option Addr)(order:List Nat)(fr to:List Bool)(w:World)
  (hs:aE p0 1 A n (aG (cJ order))) (hn:n=order.length) (hn2:(n:Int)≤9223372036854775806) (hst:aE p0 1 At Ep (aP to)) (hnt:Ep=to.length) (oP:aE p0 1 Af nf (aP fr)) (hnf:nf=fr.length) (Ij:∀i∈order,(i:Int)≤9223372036854775807):
  Calls Tryz.prog 283 #[.slice A n c,.slice Af nf cf,.slice At Ep ct] w (fun y w'=>(∃x,y=.returned x∧Ka p0 (fA order fr to) x w w')∧Below w.heap.size w w'):=by
 refine XK.en Tryz.func283 Tryz.ntmps283 ?_
 refine XK.go ?_
 refine aS fun g1=>?_
 refine aS fun g2=>?_
 refine aS fun g3=>?_
 refine XK.go ?_
 refine iD (vf:=[]) (vc:=[pt g1,pt g3,pt g2]) rfl rfl (by decide) ?_
 refine XK.go ?_
 refine XK.still [] [0,1,2] [] (by simp) rfl (by decide) (by decide) fun q hq _ hfr=>?_
 refine XK.jQ rfl rfl fun w1 st=>⟨⟨_,rfl,g1,g3,g2,rfl,fun q2 Ai hf=>?_⟩,st.below (by simp)⟩
 have hle:=(st.jD (by simp) (hfr (by simp) (by simp))).trans' hf
 exact aJU q2 g1 g3 g2 n Ep nf c ct cf A At Af order fr to ((RP.fZ (hq 2 _ (by simp) rfl) rfl).le hle) ((RP.fZ (hq 0 _ (by simp) rfl) rfl).le hle) ((RP.fZ (hq 1 _ (by simp) rfl) rfl).le hle) (hs.le Ai) hn hn2 (hst.le Ai) hnt (oP.le Ai) hnf Ij
theorem aHn(p:Piece)(g1 g2 g3 g4:Nat)(gf sQ:FuncId)(lb vR:List Value)(pr msg:Int)(val:Nat→Int)(ids:List Nat)(h1:RP p g1 0 (.func (.func gf) #[] lb.toArray))(h2:RP p g2 0 (iv pr))(h3:RP p g3 0 (iv msg))(h4:RP p g4 0 (.func (.func sQ) #[] vR.toArray))
  (hit:Iter Tryz.prog gf lb (tC ids) p) (Rp:eG Tryz.prog gf=true) (hvc:eG Tryz.prog sQ=true) (hval:Jr p sQ vR ids val) (Rm:∀i∈ids,i < 4294967296):
  Iter Tryz.prog 287 [pt g1,pt g2,pt g3,pt g4] (uD pr msg val ids) p:=by
 unfold Iter
 intro l J Jx W F hp hd hJ hF hY
 refine XC.enter (vs:=[.func (.yield l) #[] #[],pt g1,pt g2,pt g3,pt g4]) Tryz.func287 rfl Tryz.ntmps287 (by simp) (St.iter hp hd hJ hF) ?_
 dsimp only[List.cons_append,List.nil_append]
 refine XC.seq ?_
 refine XC.iL (by kernel_rfl) ?_
 refine aS fun g5=>?_
 refine XC.iP ?_
 refine XC.norm ?_
 refine XC.seq ?_
 refine XC.iL (by kernel_rfl) ?_
 refine fX (by kernel_rfl) rfl (h1.rd (by simp)) (by decide) ?_
 refine XC.iP ?_
 refine XC.norm ?_
 refine XK.aT [(7,.func (.func gf) #[] lb.toArray),(5,pt g5),(4,pt g4),(3,pt g3),(2,pt g2)] ?_
 refine XC.block ?_
 refine XC.range (gf:=gf) (lb:=lb) (encs:=tC ids) (p:=p) rfl Rp hit (by simp) (fun vs hvs=>?_) (by decide) (fun k=>[HP.aB g5 416 [.func (.yield l) #[] #[]],J k]) (fun k=>[HP.aB g5 416 [.func (.yield l) #[] #[]],Jx k])
  (fun k vs e1 H1=>e1=[(6,vs.headD (.tuple #[])),(5,pt g5),(4,pt g4),(3,pt g3),(2,pt g2)]∧H1=[HP.aB g5 416 [.func (.yield l) #[] #[]],J k]) rfl ?_ ?_ ?_ ?_
 ·simp only[tC,List.mem_map] at hvs
  obtain⟨i,_,rfl⟩:=hvs
  rfl
 ·
  intro l2 k vs W1 q X hvs bQ
  obtain⟨i,hi,rfl⟩:∃i,ids[k]? =some i∧vs=[iv (i:Int)]:=by
   simp only[tC,List.getElem?_map,Option.map_eq_some_iff] at hvs
   obtain⟨i,h,e⟩:=hvs
   exact⟨i,h,e.symm⟩
  refine XC.iL (by kernel_rfl) ?_
  refine cM rfl (by decide) ?_
  refine XC.iP ?_
  refine XK.aT [(6,iv (i:Int)),(5,pt g5),(4,pt g4),(3,pt g3),(2,pt g2)] ?_
  exact XC.assigned ⟨rfl,rfl⟩
 ·
  rintro l2 k vs W1 q X _ _ hvs bQ ⟨rfl,rfl⟩
  obtain⟨i,hik,rfl⟩:∃i,ids[k]? =some i∧vs=[iv (i:Int)]:=by
   simp only[tC,List.getElem?_map,Option.map_eq_some_iff] at hvs
   obtain⟨i,h,e⟩:=hvs
   exact⟨i,h,e.symm⟩
  have hi:=List.mem_of_getElem? hik
  have hib:=Rm i hi
  dsimp only[List.cons_append,List.nil_append,List.headD_cons]
  refine XC.block ?_
  refine XC.seq ?_
  refine XC.draw 9 (by kernel_rfl) (by kernel_rfl) ?_
  simp only[List.take_succ_cons,List.take_zero,List.drop_succ_cons,List.drop_zero]
  refine XA.dA 0 rfl rfl rfl (oJ (by kernel_rfl) rfl (Rd.aB 0 rfl rfl)) ?_
  refine XA.dA 1 rfl rfl rfl (oJ (by kernel_rfl) rfl (h2.rd (by simp))) ?_
  refine XA.dA 2 rfl rfl rfl (oJ (by kernel_rfl) rfl (h3.rd (by simp))) ?_
  refine XA.dA 3 rfl rfl rfl (iH rfl) ?_
  refine XA.dA 4 rfl rfl rfl (Ga (ds:=.int .i64) (by kernel_rfl) (by kernel_rfl) rfl (wrap_u32 (by omega))) ?_
  refine XA.dA 5 rfl rfl rfl (oJ (by kernel_rfl) rfl (h4.rd (by simp))) ?_
  refine XA.dA 6 rfl rfl rfl (iH rfl) ?_
  refine XA.next 7 rfl (by kernel_rfl) ?_
  refine vO (f:=sQ) (fi:=[]) (ca:=vR) hvc rfl rfl (by decide) (fun w1 st=>hval i hi w1 (st.le (by simp))) ?_
  refine XA.bk ?_
  refine XA.dA 8 rfl rfl rfl (jF (zs:=[iv 0,iv 0,.int .u32 0,.int .u32 0]) (L:=[(0,1),(1,1),(2,1),(3,1)]) (dN (by kernel_rfl)) (by kernel_rfl) rfl (by simp[eF,fH,Value.cells];rfl)) ?_
  refine XA.done (by kernel_rfl) ?_
  refine XI.start ?_
  refine XI.yield 1 rfl rfl (by decide) (by simp:nt W F∈[p,nt W F,q]) bQ rfl (fun W2 F2 h1 h2 h3=>hY k _ W2 F2 (by simp[uD,hik];rfl) h1 h2 h3) ?_ ?_
  ·dsimp only[List.set]
   refine XI.op (by kernel_rfl) ?_;refine tR rfl (by decide) ?_;refine XI.back ?_
   refine XI.nil ?_
   refine XC.norm ?_
   refine XC.cond rfl (fun h=>by cases h) (fun _=>?_)
   refine XC.skip ?_
   refine XC.norm ?_
   exact XC.aBR
  ·dsimp only[List.set]
   refine XI.op (by kernel_rfl) ?_;refine tR rfl (by decide) ?_;refine XI.back ?_
   refine XI.nil ?_
   refine XC.norm ?_
   refine XC.cond rfl (fun _=>?_) (fun h=>by cases h)
   refine XC.ret ?_
   refine XC.norm ?_
   exact XC.aFB
 ·
  intro D
  dsimp only[List.cons_append,List.nil_append]
  refine XC.norm ?_
  refine XC.Eh (Hs:=[HP.aB g5 416 [.func (.yield l) #[] #[]],J (tC ids).length]) (.inr rfl) rfl fun w1 st=>?_
  obtain⟨F',h1,h2⟩:=st.turns hF (by simp[nt]) (i:=1) rfl
  exact⟨⟨_,rfl⟩,F',h2,.inl (by simpa[tC,uD] using h1)⟩
 ·intro D k hk
  dsimp only[List.cons_append,List.nil_append]
  refine XC.ret ?_
  refine XC.norm ?_
  refine XC.Eh (Hs:=[HP.aB g5 416 [.func (.yield l) #[] #[]],Jx (k+1)]) (.inl rfl) rfl fun w1 st=>?_
  obtain⟨F',h1,h2⟩:=st.turns hF (by simp[nt]) (i:=1) rfl
  exact⟨⟨_,rfl⟩,F',h2,.inr ⟨k,by simpa[tC,uD] using hk,h1⟩⟩
def Jt(p0:Piece)(encs:List (List Value))(y:Value)(w w':World):Prop:=∃g1 g2 g3 g4,y=.func (.func 287) #[] #[pt g1,pt g2,pt g3,pt g4]∧∀q,p0.Le q→(fresh w w').Le q→Iter Tryz.prog 287 [pt g1,pt g2,pt g3,pt g4] encs q
theorem Kr(p0:Piece)(gf sQ:FuncId)(lb vR:List Value)(pr msg:Int)(val:Nat→Int)(ids:List Nat)(w:World)(hit:Iter Tryz.prog gf lb (tC ids) p0)(Rp:eG Tryz.prog gf=true)(hvc:eG Tryz.prog sQ=true)(hval:Jr p0 sQ vR ids val)(Rm:∀i∈ids,i < 4294967296):
  Calls Tryz.prog 282 #[.func (.func gf) #[] lb.toArray,iv pr,iv msg,.func (.func sQ) #[] vR.toArray] w (fun y w'=>(∃x,y=.returned x∧Jt p0 (uD pr msg val ids) x w w')∧Below w.heap.size w w'):=by
 refine XK.en Tryz.func282 Tryz.ntmps282 ?_
 refine XK.go ?_
 refine aS fun g1=>?_
 refine aS fun g2=>?_
 refine aS fun g3=>?_
 refine aS fun g4=>?_
 refine XK.go ?_
 refine iD (vf:=[]) (vc:=[pt g1,pt g2,pt g3,pt g4]) rfl rfl (by decide) ?_
 refine XK.go ?_
 refine XK.still [] [0,1,2,3] [] (by simp) rfl (by decide) (by decide) fun q hq _ hfr=>?_
 refine XK.jQ rfl rfl fun w1 st=>⟨⟨_,rfl,g1,g2,g3,g4,rfl,fun q2 Ai hf=>?_⟩,st.below (by simp)⟩
 have hle:=(st.jD (by simp) (hfr (by simp) (by simp))).trans' hf
 exact aHn q2 g1 g2 g3 g4 gf sQ lb vR pr msg val ids ((RP.fZ (hq 3 _ (by simp) rfl) rfl).le hle) ((RP.fZ (hq 2 _ (by simp) rfl) rfl).le hle) ((RP.fZ (hq 1 _ (by simp) rfl) rfl).le hle) ((RP.fZ (hq 0 _ (by simp) rfl) rfl).le hle) (hit.le Ai) Rp hvc (hval.le Ai) Rm
end
section
set_option maxHeartbeats 4000000
set_option maxRecDepth 20000
attribute [local irreducible] KC KI KQ
structure eH where
 pr:Int
 msg:Int
 id:Int
 v:Int
def eH.cells(s:eH):List Value:=[iv s.pr,iv s.msg,.int .u32 s.id,.int .u32 s.v]
def pH(s:eH):Value:=.agg s.cells.toArray
def mJ(l:List eH):List (List Value):=l.map fun s=>[pH s]
def kW(pr msg:Int)(val:Nat→Int)(ids:List Nat):List eH:=ids.map fun(i:Nat)=>⟨pr,msg,i,val i⟩
theorem vW(pr msg:Int)(val:Nat→Int)(ids:List Nat):uD pr msg val ids=mJ (kW pr msg val ids):=by
 simp[uD,mJ,kW,pH,aFW,eH.cells]
structure vH where
 gf:FuncId
 lb:List Value
 zM:List eH
def vH.fn(r:vH):Value:=.func (.func r.gf) #[] r.lb.toArray
def xU(rows:List vH):List eH:=rows.flatMap (·.zM)
def qE(rows:List vH)(i:Nat):Nat:=(xU (rows.take i)).length
theorem aJC{rows:List vH}{i:Nat}{r:vH}(h:rows[i]? =some r):qE rows (i+1)=qE rows i+r.zM.length:=by
 simp[qE,xU,List.take_add_one,h]
theorem aD6{rows:List vH}{i k:Nat}{r:vH}{s:eH}(h:rows[i]? =some r)(hs:r.zM[k]? =some s):(xU rows)[qE rows i+k]? =some s:=by
 have hlt:=(List.getElem?_eq_some_iff.1 h).1
 have hv:=(List.getElem?_eq_some_iff.1 h).2
 have h2:rows=rows.take i++r::rows.drop (i+1):=by
  rw[←hv,List.getElem_cons_drop hlt,List.take_append_drop]
 have h3:xU rows=xU (rows.take i)++(r.zM++xU (rows.drop (i+1))):=by
  conv=>lhs;rw[h2]
  simp[xU]
 have hk:=(List.getElem?_eq_some_iff.1 hs).1
 rw[h3,qE,List.getElem?_append_right (by omega),Nat.add_sub_cancel_left,List.getElem?_append_left hk]
 exact hs
theorem aJD{rows:List vH}{i:Nat}(h:rows.length≤i):qE rows i=(xU rows).length:=by rw[qE,List.take_of_length_le h]
theorem aFL(p:Piece)(g1 n c:Nat)(A:Option Addr)(rows:List vH)(h1:RP p g1 0 (.slice A n c))(hs:aE p 1 A n (rows.map vH.fn))(hn:n=rows.length)(hn2:(n:Int)≤1000000)
  (hrows:∀r∈rows,eG Tryz.prog r.gf=true∧Iter Tryz.prog r.gf r.lb (mJ r.zM) p):
  Iter Tryz.prog 286 [pt g1] (mJ (xU rows)) p:=by
 unfold Iter
 intro l J Jx W F hp hd hJ hF hY
 refine XC.enter (vs:=[.func (.yield l) #[] #[],pt g1]) Tryz.func286 rfl Tryz.ntmps286 (by simp) (St.iter hp hd hJ hF) ?_
 dsimp only[List.cons_append,List.nil_append]
 refine XC.seq ?_
 refine XC.iL (by kernel_rfl) ?_
 refine aS fun g2=>?_
 refine XC.iP ?_
 refine XC.norm ?_
 refine XC.seq ?_
 refine XC.iL (by kernel_rfl) ?_
 refine fX (by kernel_rfl) rfl (h1.rd (by simp)) (by decide) ?_
 refine pF (el:=407) (by kernel_rfl) rfl (by decide) ?_
 refine aR rfl (by decide) ?_
 refine XC.iP ?_
 refine XC.norm ?_
 refine XK.aT [(8,iv 0),(7,iv n),(6,.slice A n c),(2,pt g2)] ?_
 refine XC.block ?_
 refine XC.loop (fun m L e R H=>∃i:Nat,i≤n∧m=n - i∧e=[(8,iv i),(7,iv n),(6,.slice A n c),(2,pt g2)]∧R=[p,nt W F]∧H=[HP.aB g2 416 [.func (.yield l) #[] #[]],J (qE rows i),HP.marks L]) n ⟨0,by omega,rfl,rfl,rfl,rfl⟩ fun m L e R H hI=>?_
 obtain⟨i,hi,rfl,rfl,rfl,rfl⟩:=hI
 refine XC.seq ?_
 refine XC.iL (by kernel_rfl) ?_
 refine xN rfl rfl (by decide) ?_
 refine XC.iP ?_
 refine XC.norm ?_
 refine XC.seq ?_
 refine XC.if_ rfl (fun h=>?_) (fun h=>?_)
 ·
  refine XC.skip ?_
  refine XC.norm ?_
  refine XC.seq ?_
  refine XC.block ?_
  refine XC.seq ?_
  have hin:i < rows.length:=by omega
  obtain⟨b,off,rfl,hz,hc⟩:=hs.2 (by omega)
  obtain⟨r,hr⟩:∃r,rows[i]? =some r:=⟨_,List.getElem?_eq_getElem hin⟩
  obtain⟨hcb,hit⟩:=hrows r (List.mem_of_getElem? hr)
  have hoff:=aJC hr
  refine XC.iL (by kernel_rfl) ?_
  refine kd (dat (i) (off+i)) ?_
  refine fX (by kernel_rfl) rfl (Rd.ro (p:=p) (by simp) hz (hc i (vH.fn r) (by simp[hr]))) (by decide) ?_
  refine cM rfl (by decide) ?_
  refine XC.iP ?_
  refine XC.norm ?_
  refine XC.seq ?_
  refine XC.iL (by kernel_rfl) ?_
  refine aR rfl (by decide) ?_
  refine XC.iP ?_
  refine XC.norm ?_
  refine XC.block ?_
  refine XK.aT [(12,vH.fn r),(8,iv i),(7,iv n),(6,.slice (some ⟨b,off,none⟩) n c),(2,pt g2)] ?_
  refine XC.range (gf:=r.gf) (lb:=r.lb) (encs:=mJ r.zM) (p:=p) rfl hcb hit (by simp) (fun vs hvs=>?_) (by decide) (fun k=>[HP.aB g2 416 [.func (.yield l) #[] #[]],J (qE rows i+k)]) (fun k=>[HP.aB g2 416 [.func (.yield l) #[] #[]],Jx (qE rows i+k)])
   (fun k vs e1 H1=>∃(g3:Nat) (s:eH),vs=[pH s]∧e1=[(5,pt g3),(2,pt g2)]∧H1=[HP.aB g3 247 s.cells,HP.aB g2 416 [.func (.yield l) #[] #[]],J (qE rows i+k)]) rfl ?_ ?_ ?_ ?_
  ·simp only[mJ,List.mem_map] at hvs
   obtain⟨s,_,rfl⟩:=hvs
   rfl
  ·
   intro l2 k vs W1 q X hvs bQ
   obtain⟨s,rfl⟩:∃s,vs=[pH s]:=by
    simp only[mJ,List.getElem?_map,Option.map_eq_some_iff] at hvs
    obtain⟨s,_,e⟩:=hvs
    exact⟨s,e.symm⟩
   dsimp only[List.cons_append,List.nil_append]
   refine XC.iL (by kernel_rfl) ?_
   refine bB fun g3=>?_
   refine jV 0 rfl rfl rfl (by kernel_rfl) (by simp[pH,eH.cells,Value.cells,Value.oneCell']) (by simp[pH,eH.cells,Value.cells]) ?_
   rw[show eE [Value.int .i64 0,iv 0,.int .u32 0,.int .u32 0] 0 (pH s).cells.toList=s.cells by simp[eE,pH,eH.cells,Value.cells]]
   dsimp only[List.set]
   refine XC.iP ?_
   refine XK.aT [(5,pt g3),(2,pt g2)] ?_
   exact XC.assigned (H1:=[HP.aB g3 247 s.cells,HP.aB g2 416 [.func (.yield l) #[] #[]],J (qE rows i+k)]) ⟨g3,s,rfl,rfl,rfl⟩
  ·
   rintro l2 k vs W1 q X _ _ hvs bQ ⟨g3,s,rfl,rfl,rfl⟩
   have Xc:r.zM[k]? =some s:=by
    simp only[mJ,List.getElem?_map,Option.map_eq_some_iff] at hvs
    obtain⟨s',h,e⟩:=hvs
    have:s'=s:=by
     cases s;cases s'
     simp[pH,eH.cells] at e
     simp[e]
    exact this▸h
   have yE:=aD6 hr Xc
   dsimp only[List.cons_append,List.nil_append]
   refine XC.block ?_
   refine XC.seq ?_
   refine XC.region ?_
   refine XI.op (by kernel_rfl) ?_;refine fX (by kernel_rfl) rfl (Rd.aB 1 rfl rfl) (by decide) ?_;refine XI.back ?_
   refine XI.op (by kernel_rfl) ?_;refine vN 4 (by kernel_rfl) rfl (aH.whole 0 rfl) rfl (by decide) ?_;refine XI.back ?_
   refine XI.yield 2 rfl rfl (by decide) (by simp:nt W F∈[p,nt W F,q]) bQ rfl (fun W2 F2 h1 h2 h3=>hY (qE rows i+k) [pH s] W2 F2 (by simp[mJ,yE]) h1 h2 h3) ?_ ?_
   ·dsimp only[List.set]
    refine XI.op (by kernel_rfl) ?_;refine tR rfl (by decide) ?_;refine XI.back ?_
    refine XI.nil ?_
    refine XC.norm ?_
    refine XC.cond rfl (fun h=>by cases h) (fun _=>?_)
    refine XC.skip ?_
    refine XC.norm ?_
    refine XK.weak [1,2,3] rfl (by decide) (fun _ hp=>hp) ?_
    exact XC.aBR
   ·dsimp only[List.set]
    refine XI.op (by kernel_rfl) ?_;refine tR rfl (by decide) ?_;refine XI.back ?_
    refine XI.nil ?_
    refine XC.norm ?_
    refine XC.cond rfl (fun _=>?_) (fun h=>by cases h)
    refine XC.ret ?_
    refine XC.norm ?_
    refine XK.weak [1,2,3] rfl (by decide) (fun _ hp=>hp) ?_
    exact XC.aFB
  rotate_left
  ·
   intro D k hk
   dsimp only[List.cons_append,List.nil_append]
   refine XC.ret ?_
   refine XC.norm ?_
   refine XC.Eh (Hs:=[HP.aB g2 416 [.func (.yield l) #[] #[]],Jx (qE rows i+(k+1))]) (.inl rfl) rfl fun w1 st=>?_
   obtain⟨F',h1,h2⟩:=st.turns hF (by simp[nt]) (i:=1) rfl
   obtain⟨s,eL⟩:∃s,r.zM[k]? =some s:=⟨_,List.getElem?_eq_getElem (by simpa[mJ] using hk)⟩
   have:=(List.getElem?_eq_some_iff.1 (aD6 hr eL)).1
   exact⟨⟨_,rfl⟩,F',h2,.inr ⟨qE rows i+k,by simpa[mJ] using this,h1⟩⟩
  intro D
  dsimp only[List.cons_append,List.nil_append]
  refine XC.norm ?_
  refine XC.iL (by kernel_rfl) ?_
  refine nD rfl rfl (eR (by omega)) (by decide) ?_
  refine aR rfl (by decide) ?_
  refine XC.iP ?_
  refine XC.norm ?_
  exact XK.aT [(8,iv (i+1)),(7,iv n),(6,.slice (some ⟨b,off,none⟩) n c),(2,pt g2)] (XC.round (n - (i+1)) (by omega) ⟨i+1,by omega,rfl,rfl,rfl,by rw[hoff];simp[mJ]⟩)
 ·
  refine XC.exit ?_
  refine XC.norm ?_
  refine XC.Eh (Hs:=[HP.aB g2 416 [.func (.yield l) #[] #[]],J (qE rows i)]) (.inr rfl) rfl fun w1 st=>?_
  obtain⟨F',h1,h2⟩:=st.turns hF (by simp[nt]) (i:=1) rfl
  rw[aJD (by omega)] at h1
  exact⟨⟨_,rfl⟩,F',h2,.inl (by simpa[mJ] using h1)⟩
def vZ(s:aA)(d:Nat):Int:=if(s.domains[d]?.map (·.ret)).getD false then 2 else 0
theorem aOE(d gs n2 k2:Nat)(s:aA)(A2:Option Addr)(w:World)(h2:eS w gs 1 (.slice A2 n2 k2))(Mm:gM (eN (all w)) pU 50 3 A2 n2 s.domains)(hn2:(n2:Int)≤1000000)(hd:d < n2):
  Calls Tryz.prog 285 #[iv d,pt gs] w (Rt (.int .u32 (vZ s d)) w):=by
 have hl:n2=s.domains.length:=by obtain⟨_,_,h,_⟩:=Mm;exact h
 obtain⟨x,hx⟩:∃x,s.domains[d]? =some x:=⟨_,List.getElem?_eq_getElem (by omega)⟩
 obtain⟨b,off,r,rfl,hrl,rfl,hro⟩:=Mm.row hx
 refine XK.en Tryz.func285 Tryz.ntmps285 ?_
 refine XK.seq ?_
 refine XK.region ?_
 refine cM rfl (by decide) ?_
 refine XK.aY ?_
 refine XK.seq ?_
 refine XK.seq ?_
 refine XK.region ?_
 refine jH (off:=1) (by kernel_rfl) rfl (by decide) ?_
 refine fX (by kernel_rfl) rfl (Rd.jP (by simp) h2) (by decide) ?_
 refine aR rfl (by decide) ?_
 refine kd (dat (d) (off+d*3)) ?_
 refine jH (off:=2) (by kernel_rfl) rfl (by decide) ?_
 refine fX (by kernel_rfl) rfl (Rd.jP (by simp) (hro.at_ (j:=2) (v:=.bool x.ret) rfl)) (by decide) ?_
 refine XK.aY ?_
 refine XK.cond rfl (fun h=>?_) (fun h=>?_)
 ·
  refine XK.gw ?_
  exact XK.rX (h:=fun _ _=>by rw[vZ,hx];simp[h])
 ·
  refine XK.gw ?_
  exact XK.rX (h:=fun _ _=>by rw[vZ,hx];simp[h])
theorem aOD(p:Piece)(gs n2 k2:Nat)(s:aA)(A2:Option Addr)(h2:RP p gs 1 (.slice A2 n2 k2))(Mm:gM (eN p) pU 50 3 A2 n2 s.domains)(hn2:(n2:Int)≤1000000)(ids:List Nat)(Rm:∀i∈ids,i < n2):Jr p 285 [pt gs] ids (vZ s):=fun i hi w' hw'=>
 aOE i gs n2 k2 s A2 w' (h2.le hw') (Mm.mono (lH hw') (fun _ _ h=>h)) hn2 (Rm i hi)
end
section
set_option maxHeartbeats 4000000
set_option maxRecDepth 20000
def aCp(n:Nat)(xs:List Value)(v:Value)(hs:List HP)(_:Piece):Prop:=∃A c,v=.slice A n c∧hs=[HP.own 3 1 (.slice A n c) n xs]
theorem aFu(A:Option Addr)(n c:Nat)(xs:List Value)(w:World)(hs:aE (all w) 1 A n xs)(h1:∀u∈xs,u.oneCell'=true)(hn:n≤1000000):
  Calls Tryz.prog 280 #[.slice A n c] w (fun y w'=>(∃v hs q,y=.returned v∧q.w=w'∧aCp n xs v hs q∧iY w hs q)∧Below w.heap.size w w'):=by
 refine XK.en Tryz.func280 Tryz.ntmps280 ?_
 refine XK.gw ?_
 refine Uv (el:=3) (by kernel_rfl) rfl (by decide) ?_
 refine XK.gw ?_
 refine XK.cond rfl (fun hA=>?_) (fun hA=>?_)
 ·
  refine XK.gw ?_
  have hn0:n=0:=by
   rcases Nat.eq_zero_or_pos n with h | h
   ·exact h
   ·obtain⟨b,off,rfl,_⟩:=hs.2 h
    cases hA
  subst hn0
  have hx:xs=[]:=List.eq_nil_of_length_eq_zero (by simpa using hs.1)
  subst hx
  refine XK.fY 3 1 ?_
  refine XK.still [] [] [0] (by simp) rfl (by decide) (by decide) fun q _ _ hfr=>?_
  exact XK.rX (h:=fun w1 st=>⟨_,_,⟨w1,q.Z⟩,rfl,rfl,⟨_,_,rfl,rfl⟩,st.newR (by simp) (by simp) (hfr (by simp) (by simp))⟩)
 ·
  refine XK.gw ?_
  refine zH (el:=3) (sz:=1) (by kernel_rfl) (by kernel_rfl) (by decide) fun g=>?_
  refine XK.wW 0 1 0 rfl rfl (by omega) ?_
  dsimp only[List.set]
  refine XK.gw ?_
  refine fG 0 1 8 n (n':=n) (el:=3) (by kernel_rfl) (by kernel_rfl) (by decide) rfl rfl rfl (nG (by simp) hs) h1 (by omega) (by omega) (by omega) (by decide) fun A' k'=>?_
  dsimp only[List.set,List.nil_append]
  refine XK.gw ?_
  refine XK.still [] [] [0] (by simp) rfl (by decide) (by decide) fun q _ _ hfr=>?_
  exact XK.rX (h:=fun w1 st=>⟨_,_,⟨w1,q.Z⟩,rfl,rfl,⟨_,_,rfl,rfl⟩,st.newR (by simp) (by simp) (hfr (by simp) (by simp))⟩)
def Ke(n:Nat)(xs:List Value)(v:Value)(hs:List HP)(_:Piece):Prop:=∃A c,v=.slice A n c∧hs=[HP.own 4 1 (.slice A n c) n xs]
theorem Np(A:Option Addr)(n c:Nat)(xs:List Value)(w:World)(hs:aE (all w) 1 A n xs)(h1:∀u∈xs,u.oneCell'=true)(hn:n≤1000000):
  Calls Tryz.prog 171 #[.slice A n c] w (fun y w'=>(∃v hs q,y=.returned v∧q.w=w'∧Ke n xs v hs q∧iY w hs q)∧Below w.heap.size w w'):=by
 refine XK.en Tryz.func171 Tryz.ntmps171 ?_
 refine XK.gw ?_
 refine Uv (el:=4) (by kernel_rfl) rfl (by decide) ?_
 refine XK.gw ?_
 refine XK.cond rfl (fun hA=>?_) (fun hA=>?_)
 ·
  refine XK.gw ?_
  have hn0:n=0:=by
   rcases Nat.eq_zero_or_pos n with h | h
   ·exact h
   ·obtain⟨b,off,rfl,_⟩:=hs.2 h
    cases hA
  subst hn0
  have hx:xs=[]:=List.eq_nil_of_length_eq_zero (by simpa using hs.1)
  subst hx
  refine XK.fY 4 1 ?_
  refine XK.still [] [] [0] (by simp) rfl (by decide) (by decide) fun q _ _ hfr=>?_
  exact XK.rX (h:=fun w1 st=>⟨_,_,⟨w1,q.Z⟩,rfl,rfl,⟨_,_,rfl,rfl⟩,st.newR (by simp) (by simp) (hfr (by simp) (by simp))⟩)
 ·
  refine XK.gw ?_
  refine zH (el:=4) (sz:=1) (by kernel_rfl) (by kernel_rfl) (by decide) fun g=>?_
  refine XK.wW 0 1 0 rfl rfl (by omega) ?_
  dsimp only[List.set]
  refine XK.gw ?_
  refine fG 0 1 1 n (n':=n) (el:=4) (by kernel_rfl) (by kernel_rfl) (by decide) rfl rfl rfl (nG (by simp) hs) h1 (by omega) (by omega) (by omega) (by decide) fun A' k'=>?_
  dsimp only[List.set,List.nil_append]
  refine XK.gw ?_
  refine XK.still [] [] [0] (by simp) rfl (by decide) (by decide) fun q _ _ hfr=>?_
  exact XK.rX (h:=fun w1 st=>⟨_,_,⟨w1,q.Z⟩,rfl,rfl,⟨_,_,rfl,rfl⟩,st.newR (by simp) (by simp) (hfr (by simp) (by simp))⟩)
theorem aDj(A:Option Addr)(n c:Nat)(xs:List Value)(w:World)(F:Nat→Prop)(hp:(HP.own 3 1 (.slice A n c) n xs).sat F w)(hF:∀b,F b→b < w.heap.size)(h1:∀u∈xs,u.oneCell'=true)(hn:xs.length=n)(hn2:n≤1000000)(hA:0 < n→∃g,A=some ⟨g,0,none⟩):
  Calls Tryz.prog 281 #[.slice A n c] w (fun y w'=>y=.returned (.tuple #[])∧∃F',(HP.own 3 1 (.slice A n c) n xs.reverse).sat F' w'∧aV w w' F F'):=by
 refine XK.bY Tryz.func281 Tryz.ntmps281 hp hF ?_
 refine XK.gw ?_
 refine XK.aT [(3,iv ((n:Int) - 1)),(2,iv 0),(0,.slice A n c)] ?_
 refine XK.gw ?_
 refine XK.loop (fun m e R H=>∃(k:Nat) (l:List Value),m=n - k∧2*k≤n∧Gm xs k l∧e=[(3,iv ((n:Int) - 1 - k)),(2,iv k),(0,.slice A n c)]∧R=[⟨w,fun b=>b < w.heap.size∧¬F b⟩]∧H=[HP.own 3 1 (.slice A n c) n l]) n ⟨0,xs,by omega,by omega,.zero xs,by simp,rfl,rfl⟩ fun m e R H hI=>?_
 obtain⟨k,l,rfl,hk,hl,rfl,rfl,rfl⟩:=hI
 refine XK.gw ?_
 refine XK.if_ rfl (fun h=>?_) (fun h=>?_)
 ·
  refine XK.skip ?_
  refine XK.norm ?_
  refine XK.seq ?_
  have h':(k:Int) < (n:Int) - 1 - k:=h
  have Ak:=hl.1
  obtain⟨g,rfl⟩:∃g,A=some ⟨g,0,none⟩:=hA (by omega)
  obtain⟨u,hu⟩:∃u,l[xs.length - 1 - k]? =some u:=⟨_,List.getElem?_eq_getElem (by omega)⟩
  obtain⟨v,hv⟩:∃u,l[k]? =some u:=⟨_,List.getElem?_eq_getElem (by omega)⟩
  have hou:u.oneCell'=true:=by
   have:=hl.2 _ (by omega:xs.length - 1 - k < xs.length);rw[hu] at this
   split at this<;>exact h1 _ (List.mem_of_getElem? this.symm)
  have hov:v.oneCell'=true:=by
   have:=hl.2 _ (by omega:k < xs.length);rw[hv] at this
   split at this<;>exact h1 _ (List.mem_of_getElem? this.symm)
  refine XK.xX 0 rfl fun cs Sc mX hc3 hc4=>?_
  dsimp only[List.set]
  rw[Nat.mul_one] at Sc mX
  have Xr:=aCI mX hu
  have Ry:=aCI mX hv
  refine XK.block ?_
  refine XK.aME 16 (by kernel_rfl) (by kernel_rfl) ?_
  refine XA.dR 0 rfl rfl rfl (by decide) (iH rfl) (by kernel_rfl) (fun _ _ _ h=>h) (fun _ h=>h.bare) ?_
  refine XA.dR 1 rfl rfl rfl (by decide) (iH rfl) (by kernel_rfl) (fun _ _ _ h=>h) (fun _ h=>h.bare) ?_
  refine XA.dR 2 rfl rfl rfl (by decide) (iH rfl) (by kernel_rfl) (fun _ _ _ h=>h) (fun _ h=>h.bare) ?_
  refine XA.dR 3 rfl rfl rfl (by decide) (iH rfl) (by kernel_rfl) (fun _ _ _ h=>h) (fun _ h=>h.bare) ?_
  refine XA.dR 4 rfl rfl rfl (by decide) (iH rfl) (by kernel_rfl) (fun _ _ _ h=>h) (fun _ h=>h.bare) ?_
  refine XA.dR 5 rfl rfl rfl (by decide) (iH rfl) (by kernel_rfl) (fun _ _ _ h=>h) (fun _ h=>h.bare) ?_
  refine XA.dR 8 rfl rfl rfl (by decide) (iH rfl) (by kernel_rfl) (fun _ _ _ h=>h) (fun _ h=>h.bare) ?_
  refine XA.dR 9 rfl rfl rfl (by decide) (iH rfl) (by kernel_rfl) (fun _ _ _ h=>h) (fun _ h=>h.bare) ?_
  refine XA.dR 6 rfl rfl rfl (by decide) (aBF (n - 1 - k) (n - 1 - k) (el:=3) (sz:=1) (by kernel_rfl) (by kernel_rfl) rfl rfl (by omega) (by omega) (by omega)) (by kernel_rfl) (fun _ _ _ h=>h) (fun _ h=>h.bare) ?_
  refine XA.dR 10 rfl rfl rfl (by decide) (aBF (k) (k) (el:=3) (sz:=1) (by kernel_rfl) (by kernel_rfl) rfl rfl (by omega) (by omega) (by omega)) (by kernel_rfl) (fun _ _ _ h=>h) (fun _ h=>h.bare) ?_
  refine XA.either 7 11 rfl rfl (by kernel_rfl) ?_ ?_
  ·refine fX (by kernel_rfl) rfl (Rd.aB 0 rfl (by rw[←hn];exact Xr)) (by decide) ?_
   refine XK.nil ?_
   refine XK.dD ?_
   refine XA.back (fun _ h=>h.bare) ?_
   refine XA.next 11 rfl (by kernel_rfl) ?_
   refine fX (by kernel_rfl) rfl (Rd.aB 0 rfl Ry) (by decide) ?_
   refine XK.nil ?_
   refine XK.dD ?_
   refine XA.back (fun _ h=>h.bare) ?_
   refine XA.next 12 rfl (by kernel_rfl) ?_
   refine kd (dat (k) (k)) ?_
   refine XK.nil ?_
   refine XK.dD ?_
   refine XA.back (fun _ h=>h.bare) ?_
   refine XA.next 13 rfl (by kernel_rfl) ?_
   refine pE 0 rfl (by kernel_rfl) rfl rfl hou (by omega) ?_
   dsimp only[List.set]
   refine XK.nil ?_
   refine XK.dD ?_
   refine XA.back (fun _ h=>h.bare) ?_
   refine XA.next 14 rfl (by kernel_rfl) ?_
   refine kd (dat (n - 1 - k) (n - 1 - k)) ?_
   refine XK.nil ?_
   refine XK.dD ?_
   refine XA.back (fun _ h=>h.bare) ?_
   refine XA.next 15 rfl (by kernel_rfl) ?_
   refine pE 0 rfl (by kernel_rfl) rfl rfl hov (by simp;omega) ?_;dsimp only[List.set]
   refine XK.nil ?_
   refine XK.dD ?_
   refine XA.back (fun _ h=>h.bare) ?_
   refine XA.done (by kernel_rfl) ?_
   refine XK.norm ?_
   refine XK.region ?_
   refine aR rfl (by decide) ?_
   refine nD rfl rfl (eR (by omega)) (by decide) ?_
   refine aR rfl (by decide) ?_
   refine Uq rfl rfl (eR (by omega)) (by decide) ?_
   refine cM rfl (by decide) ?_
   refine cM rfl (by decide) ?_
   refine XK.aY ?_
   refine XK.wT 0 (n:=n) (c:=c) (sz:=1) (xs:=(l.set k u).set (xs.length - 1 - k) v) rfl (by simp;omega) (by rw[Nat.mul_one,hn];exact take_set (take_set mX)) hc3 hc4 ?_
   dsimp only[List.set]
   exact XK.aT [(3,iv ((n:Int) - 1 - k - 1)),(2,iv ((k:Int)+1)),(0,.slice (some ⟨g,0,none⟩) n c)] (XK.round (n - (k+1)) (by omega) ⟨k+1,_,rfl,by omega,hl.next (by omega) hu hv,(by rw[show(n:Int) - 1 - k - 1=(n:Int) - 1 - ((k+1:Nat):Int) by omega];rfl),rfl,rfl⟩)
  ·refine fX (by kernel_rfl) rfl (Rd.aB 0 rfl Ry) (by decide) ?_
   refine XK.nil ?_
   refine XK.dD ?_
   refine XA.back (fun _ h=>h.bare) ?_
   refine XA.next 7 rfl (by kernel_rfl) ?_
   refine fX (by kernel_rfl) rfl (Rd.aB 0 rfl (by rw[←hn];exact Xr)) (by decide) ?_
   refine XK.nil ?_
   refine XK.dD ?_
   refine XA.back (fun _ h=>h.bare) ?_
   refine XA.next 12 rfl (by kernel_rfl) ?_
   refine kd (dat (k) (k)) ?_
   refine XK.nil ?_
   refine XK.dD ?_
   refine XA.back (fun _ h=>h.bare) ?_
   refine XA.next 13 rfl (by kernel_rfl) ?_
   refine pE 0 rfl (by kernel_rfl) rfl rfl hou (by omega) ?_
   dsimp only[List.set]
   refine XK.nil ?_
   refine XK.dD ?_
   refine XA.back (fun _ h=>h.bare) ?_
   refine XA.next 14 rfl (by kernel_rfl) ?_
   refine kd (dat (n - 1 - k) (n - 1 - k)) ?_
   refine XK.nil ?_
   refine XK.dD ?_
   refine XA.back (fun _ h=>h.bare) ?_
   refine XA.next 15 rfl (by kernel_rfl) ?_
   refine pE 0 rfl (by kernel_rfl) rfl rfl hov (by simp;omega) ?_;dsimp only[List.set]
   refine XK.nil ?_
   refine XK.dD ?_
   refine XA.back (fun _ h=>h.bare) ?_
   refine XA.done (by kernel_rfl) ?_
   refine XK.norm ?_
   refine XK.region ?_
   refine aR rfl (by decide) ?_
   refine nD rfl rfl (eR (by omega)) (by decide) ?_
   refine aR rfl (by decide) ?_
   refine Uq rfl rfl (eR (by omega)) (by decide) ?_
   refine cM rfl (by decide) ?_
   refine cM rfl (by decide) ?_
   refine XK.aY ?_
   refine XK.wT 0 (n:=n) (c:=c) (sz:=1) (xs:=(l.set k u).set (xs.length - 1 - k) v) rfl (by simp;omega) (by rw[Nat.mul_one,hn];exact take_set (take_set mX)) hc3 hc4 ?_
   dsimp only[List.set]
   exact XK.aT [(3,iv ((n:Int) - 1 - k - 1)),(2,iv ((k:Int)+1)),(0,.slice (some ⟨g,0,none⟩) n c)] (XK.round (n - (k+1)) (by omega) ⟨k+1,_,rfl,by omega,hl.next (by omega) hu hv,(by rw[show(n:Int) - 1 - k - 1=(n:Int) - 1 - ((k+1:Nat):Int) by omega];rfl),rfl,rfl⟩)
 ·
  refine XK.gw ?_
  have h':¬(k:Int) < (n:Int) - 1 - k:=h
  have:=hl.all (by omega)
  subst this
  exact XK.r0 0 hF
end
section
set_option maxHeartbeats 4000000
set_option maxRecDepth 20000
theorem Lw(l:List Int):∀u∈aG l,u.oneCell'=true:=by
 intro u hu
 simp only[aG,List.mem_map] at hu
 obtain⟨x,_,rfl⟩:=hu
 rfl
theorem aD0{F:Nat→Prop}{w:World}{el:TypeId}{sz n c:Nat}{A:Option Addr}{xs:List Value}(h:(HP.own el sz (.slice A n c) n xs).sat F w)(hn:0 < n):∃g,A=some ⟨g,0,none⟩:=by
 rcases h.2.2 with⟨_,h0⟩ | ⟨g,cap,cur,hv,_⟩
 ·omega
 ·injection hv with hA
  exact⟨g,hA⟩
theorem aDk(l:List Nat):(aG (cJ l)).reverse=aG (cJ l.reverse):=by simp[aG,cJ]
def sG(s:aA)(dl cl ll:List Nat)(fd fc fl td tc tl:List Bool):List eH:=
 kW 17 4 (fun _=>1) (fA (dl) fd td)++(kW 20 7 (fun _=>1) (fA (cl) fc tc)++(kW 22 4 (fun _=>0) (fA (ll) fl tl)++(kW 22 4 (fun _=>1) (fA (ll) tl fl)++(kW 20 7 (fun _=>0) (fA (cl.reverse) tc fc)++(kW 17 4 (vZ s) (fA (dl.reverse) td fd))))))
def aGt(p0:Piece)(zM:List eH)(y:Value)(w w':World):Prop:=∃g,y=.func (.func 286) #[] #[pt g]∧∀q,p0.Le q→(fresh w w').Le q→Iter Tryz.prog 286 [pt g] (mJ zM) q in
theorem aO9(p0:Piece)(s:aA)(A1 A2 A3 A4 Ad Ac Al Fd Fc Fl Td Tc Tl:Option Addr)(n1 k1 n2 k2 n3 k3 n4 k4 nd cd nc cc nl kl uW Cx uX Cy uU Cv tZ Bw uA Bx tY Bu:Nat)(dl cl ll:List Nat)(fd fc fl td tc tl:List Bool)(w:World)
  (Ai:p0.Le (all w)) (Mm:gM (eN p0) pU 50 3 A2 n2 s.domains) (hn2:(n2:Int)≤1000000)
  (kA:aE p0 1 Ad nd (aG (cJ dl))) (hnd:nd=dl.length) (aEs:nd≤1000000) (Rv:∀i∈dl,i < n2)
  (fK:aE p0 1 Ac nc (aG (cJ cl))) (hnc:nc=cl.length) (aEt:nc≤1000000) (Xs:∀i∈cl,i < 1000000)
  (mM:aE p0 1 Al nl (aG (cJ ll))) (fV:nl=ll.length) (aEq:nl≤1000000) (Xj:∀i∈ll,i < 1000000)
  (Mk:aE p0 1 Fd uW (aP fd)) (Xo:uW=fd.length) (Me:aE p0 1 Td tZ (aP td)) (Xa:tZ=td.length) (Ml:aE p0 1 Fc uX (aP fc)) (Xp:uX=fc.length) (Mf:aE p0 1 Tc uA (aP tc)) (Xb:uA=tc.length) (hfl:aE p0 1 Fl uU (aP fl)) (Xn:uU=fl.length) (qK:aE p0 1 Tl tY (aP tl)) (Wz:tY=tl.length):
  Calls Tryz.prog 279 #[.agg #[.slice A1 n1 k1,.slice A2 n2 k2,.slice A3 n3 k3,.slice A4 n4 k4],.slice Ad nd cd,.slice Ac nc cc,.slice Al nl kl,.agg #[.slice Fd uW Cx,.slice Fc uX Cy,.slice Fl uU Cv],.agg #[.slice Td tZ Bw,.slice Tc uA Bx,.slice Tl tY Bu]] w (fun y w'=>(∃x,y=.returned x∧aGt p0 (sG s dl cl ll fd fc fl td tc tl) x w w')∧Below w.heap.size w w'):=by
 have aOX:=hnd
 refine XK.en Tryz.func279 Tryz.ntmps279 ?_
 refine XK.piece p0 (by simp) Ai ?_
 refine XK.gw ?_
 refine aS fun g1=>?_
 refine aS fun g2=>?_
 refine aS fun g3=>?_
 refine XK.gw ?_
 refine fB (aCp nc (aG (cJ cl))) (fun w1 st=>aFu Ac nc cc _ w1 (fK.le (st.le (by simp))) (Lw _) aEt) ?_
 rintro _ _ Vs ⟨A13,c13,rfl,rfl⟩ _
 refine XK.gw ?_
 refine On (f:=281) (fi:=[]) (ca:=[]) 0 (HP.own 3 1 (.slice A13 nc c13) nc (aG (cJ cl)).reverse) (by kernel_rfl) rfl rfl rfl ⟨by decide,rfl⟩ (fun w1 F st hp hF=>aDj A13 nc c13 _ w1 F hp hF (Lw _) (by simp[aG,cJ,hnc]) aEt (aD0 hp)) ?_
 dsimp only[List.set,List.cons_append,List.nil_append]
 rw[aDk]
 refine XK.gw ?_
 refine fB (aCp nd (aG (cJ dl))) (fun w1 st=>aFu Ad nd cd _ w1 (kA.le (st.le (by simp))) (Lw _) aEs) ?_
 rintro _ _ Kx ⟨A14,c14,rfl,rfl⟩ _
 refine XK.gw ?_
 refine On (f:=281) (fi:=[]) (ca:=[]) 0 (HP.own 3 1 (.slice A14 nd c14) nd (aG (cJ dl)).reverse) (by kernel_rfl) rfl rfl rfl ⟨by decide,rfl⟩ (fun w1 F st hp hF=>aDj A14 nd c14 _ w1 F hp hF (Lw _) (by simp[aG,cJ,hnd]) aEs (aD0 hp)) ?_
 dsimp only[List.set,List.cons_append,List.nil_append]
 rw[aDk]
 refine XK.aY ?_
 refine XK.weak [0,1,2,3,4] rfl (by decide) (R':=[p0,all w]) (by simp) ?_
 refine XK.aAh p0 p0 [0,1,2,3,4] [] (by simp) (by simp) (fun b h=>.inl h) rfl (by decide) (by decide) fun q0 hq wF N0=>?_
 have f14:=aE.own (hq 0 _ (by simp) rfl)
 have f13:=aE.own (hq 1 _ (by simp) rfl)
 have t_d:RP q0 g3 0 (.slice Td tZ Bw):=RP.fZ (hq 2 _ (by simp) rfl) rfl
 have f_d:RP q0 g2 0 (.slice Fd uW Cx):=RP.fZ (hq 3 _ (by simp) rfl) rfl
 have t_c:RP q0 g3 1 (.slice Tc uA Bx):=RP.fZ (hq 2 _ (by simp) rfl) rfl
 have f_c:RP q0 g2 1 (.slice Fc uX Cy):=RP.fZ (hq 3 _ (by simp) rfl) rfl
 have t_l:RP q0 g3 2 (.slice Tl tY Bu):=RP.fZ (hq 2 _ (by simp) rfl) rfl
 have f_l:RP q0 g2 2 (.slice Fl uU Cv):=RP.fZ (hq 3 _ (by simp) rfl) rfl
 have b1:RP q0 g1 1 (.slice A2 n2 k2):=RP.fZ (hq 4 _ (by simp) rfl) rfl
 have E0:q0.Le q0:=fun b hb=>⟨hb,rfl⟩
 have aGO:=aOD q0 g1 n2 k2 s A2 b1 (Mm.mono (lH wF) (fun _ _ h=>h)) hn2
 have kA:=kA.le wF
 have fK:=fK.le wF
 have mM:=mM.le wF
 have Mk:=Mk.le wF
 have Ml:=Ml.le wF
 have hfl:=hfl.le wF
 have Me:=Me.le wF
 have Mf:=Mf.le wF
 have qK:=qK.le wF
 refine XK.seq ?_
 refine XK.draw 50 (by kernel_rfl) (by kernel_rfl) ?_
 refine XA.dA 0 rfl rfl rfl (iH rfl) ?_
 refine XA.dA 1 rfl rfl rfl (mQ (off:=0) (by kernel_rfl) rfl) ?_
 refine XA.dA 2 rfl rfl rfl (oJ (by kernel_rfl) rfl (f_d.rd (by simp))) ?_
 refine XA.dA 3 rfl rfl rfl (mQ (off:=0) (by kernel_rfl) rfl) ?_
 refine XA.dA 4 rfl rfl rfl (oJ (by kernel_rfl) rfl (t_d.rd (by simp))) ?_
 refine XA.dA 8 rfl rfl rfl (iH rfl) ?_
 refine XA.dA 9 rfl rfl rfl (mQ (off:=1) (by kernel_rfl) rfl) ?_
 refine XA.dA 10 rfl rfl rfl (oJ (by kernel_rfl) rfl (f_c.rd (by simp))) ?_
 refine XA.dA 11 rfl rfl rfl (mQ (off:=1) (by kernel_rfl) rfl) ?_
 refine XA.dA 12 rfl rfl rfl (oJ (by kernel_rfl) rfl (t_c.rd (by simp))) ?_
 refine XA.dA 16 rfl rfl rfl (iH rfl) ?_
 refine XA.dA 17 rfl rfl rfl (mQ (off:=2) (by kernel_rfl) rfl) ?_
 refine XA.dA 18 rfl rfl rfl (oJ (by kernel_rfl) rfl (f_l.rd (by simp))) ?_
 refine XA.dA 19 rfl rfl rfl (mQ (off:=2) (by kernel_rfl) rfl) ?_
 refine XA.dA 20 rfl rfl rfl (oJ (by kernel_rfl) rfl (t_l.rd (by simp))) ?_
 refine XA.dA 24 rfl rfl rfl (iH rfl) ?_
 refine XA.dA 25 rfl rfl rfl (mQ (off:=2) (by kernel_rfl) rfl) ?_
 refine XA.dA 26 rfl rfl rfl (oJ (by kernel_rfl) rfl (t_l.rd (by simp))) ?_
 refine XA.dA 27 rfl rfl rfl (mQ (off:=2) (by kernel_rfl) rfl) ?_
 refine XA.dA 28 rfl rfl rfl (oJ (by kernel_rfl) rfl (f_l.rd (by simp))) ?_
 refine XA.dA 32 rfl rfl rfl (iH rfl) ?_
 refine XA.dA 33 rfl rfl rfl (mQ (off:=1) (by kernel_rfl) rfl) ?_
 refine XA.dA 34 rfl rfl rfl (oJ (by kernel_rfl) rfl (t_c.rd (by simp))) ?_
 refine XA.dA 35 rfl rfl rfl (mQ (off:=1) (by kernel_rfl) rfl) ?_
 refine XA.dA 36 rfl rfl rfl (oJ (by kernel_rfl) rfl (f_c.rd (by simp))) ?_
 refine XA.dA 40 rfl rfl rfl (iH rfl) ?_
 refine XA.dA 41 rfl rfl rfl (mQ (off:=0) (by kernel_rfl) rfl) ?_
 refine XA.dA 42 rfl rfl rfl (oJ (by kernel_rfl) rfl (t_d.rd (by simp))) ?_
 refine XA.dA 43 rfl rfl rfl (mQ (off:=0) (by kernel_rfl) rfl) ?_
 refine XA.dA 44 rfl rfl rfl (oJ (by kernel_rfl) rfl (f_d.rd (by simp))) ?_
 refine XA.dA 46 rfl rfl rfl (aFj (vf:=[]) (vc:=[pt g1]) rfl rfl) ?_
 refine XA.aDM (j:=49) 15 415 [sn] fun M=>?_
 refine XA.maybe 5 49 rfl rfl (dN (by kernel_rfl)) (by decide) (by kernel_rfl) (by kernel_rfl) (fun _ h=>h) (fun M=>?_)
 refine pI p0 q0 (Ka q0 (fA (dl) fd td)) (fun w1 st=>Ld q0 nd tZ uW cd Bw Cx Ad Td Fd (dl) fd td w1 (kA.le E0) hnd (by omega) (Me.le E0) Xa (Mk.le E0) Xo (fun i hi=>by have:=Rv i hi;omega)) ?_
 rintro _ w1 q1 ⟨x0,y0,z0,rfl,hit⟩ hf L1 N1
 have it0:=hit q1 L1 hf
 have E1:=E0.trans' L1
 clear hf
 refine XK.nil ?_
 refine XK.dD ?_
 refine XA.mZ (by decide) rfl (fun _ h=>h.aK) ?_
 refine XA.maybe 6 49 rfl rfl (dN (by kernel_rfl)) (by decide) (by kernel_rfl) (by kernel_rfl) (fun _ h=>h.aK) (fun M=>?_)
 refine pI p0 q1 (Oh 1) (fun w1 st=>Tz 1 w1) ?_
 rintro _ w1 q2 ⟨u0,rfl,Ce⟩ hf L2 N2
 have va0:=Ce q2 hf
 have E2:=E1.trans' L2
 clear hf
 refine XK.nU (R':=[q2,q0,p0,all w]) (by simp) ?_
 refine XK.nil ?_
 refine XK.dD ?_
 refine XA.mZ (by decide) rfl (fun _ h=>h.aK) ?_
 refine XA.maybe 7 49 rfl rfl (dN (by kernel_rfl)) (by decide) (by kernel_rfl) (by kernel_rfl) (fun _ h=>h.aK) (fun M=>?_)
 refine pI p0 q2 (Jt q2 (uD 17 4 (fun _=>1) (fA (dl) fd td))) (fun w1 st=>Kr q2 288 289 [pt x0,pt y0,pt z0] [pt u0] 17 4 (fun _=>1) (fA (dl) fd td) w1 (it0.le L2) (by kernel_rfl) (by kernel_rfl) (va0 _) (fun i hi=>by have:=Rv i (List.mem_filter.1 hi).1;omega)) ?_
 rintro _ w1 q3 ⟨c0,d0,e0,f0,rfl,hst⟩ hf L3 N3
 have st0:=hst q3 L3 hf
 have E3:=E2.trans' L3
 clear hf
 refine XK.nU (R':=[q3,q0,p0,all w]) (by simp) ?_
 refine XK.nil ?_
 refine XK.dD ?_
 refine XA.mZ (by decide) rfl (fun _ h=>h.aK) ?_
 refine XA.maybe 13 49 rfl rfl (dN (by kernel_rfl)) (by decide) (by kernel_rfl) (by kernel_rfl) (fun _ h=>h.aK) (fun M=>?_)
 refine pI p0 q3 (Ka q3 (fA (cl) fc tc)) (fun w1 st=>Ld q3 nc uA uX cc Bx Cy Ac Tc Fc (cl) fc tc w1 (fK.le E3) hnc (by omega) (Mf.le E3) Xb (Ml.le E3) Xp (fun i hi=>by have:=Xs i hi;omega)) ?_
 rintro _ w1 q4 ⟨x1,y1,z1,rfl,hit⟩ hf L4 N4
 have it1:=hit q4 L4 hf
 have E4:=E3.trans' L4
 clear hf
 refine XK.nU (R':=[q4,q0,p0,all w]) (by simp) ?_
 refine XK.nil ?_
 refine XK.dD ?_
 refine XA.mZ (by decide) rfl (fun _ h=>h.aK) ?_
 refine XA.maybe 14 49 rfl rfl (dN (by kernel_rfl)) (by decide) (by kernel_rfl) (by kernel_rfl) (fun _ h=>h.aK) (fun M=>?_)
 refine pI p0 q4 (Oh 1) (fun w1 st=>Tz 1 w1) ?_
 rintro _ w1 q5 ⟨u1,rfl,Ce⟩ hf L5 N5
 have va1:=Ce q5 hf
 have E5:=E4.trans' L5
 clear hf
 refine XK.nU (R':=[q5,q0,p0,all w]) (by simp) ?_
 refine XK.nil ?_
 refine XK.dD ?_
 refine XA.mZ (by decide) rfl (fun _ h=>h.aK) ?_
 refine XA.maybe 15 49 rfl rfl (dN (by kernel_rfl)) (by decide) (by kernel_rfl) (by kernel_rfl) (fun _ h=>h.aK) (fun M=>?_)
 refine pI p0 q5 (Jt q5 (uD 20 7 (fun _=>1) (fA (cl) fc tc))) (fun w1 st=>Kr q5 288 289 [pt x1,pt y1,pt z1] [pt u1] 20 7 (fun _=>1) (fA (cl) fc tc) w1 (it1.le L5) (by kernel_rfl) (by kernel_rfl) (va1 _) (fun i hi=>by have:=Xs i (List.mem_filter.1 hi).1;omega)) ?_
 rintro _ w1 q6 ⟨c1,d1,e1,f1,rfl,hst⟩ hf L6 N6
 have jI:=hst q6 L6 hf
 have E6:=E5.trans' L6
 clear hf
 refine XK.nU (R':=[q6,q0,p0,all w]) (by simp) ?_
 refine XK.nil ?_
 refine XK.dD ?_
 refine XA.mZ (by decide) rfl (fun _ h=>h.aK) ?_
 refine XA.maybe 21 49 rfl rfl (dN (by kernel_rfl)) (by decide) (by kernel_rfl) (by kernel_rfl) (fun _ h=>h.aK) (fun M=>?_)
 refine pI p0 q6 (Ka q6 (fA (ll) fl tl)) (fun w1 st=>Ld q6 nl tY uU kl Bu Cv Al Tl Fl (ll) fl tl w1 (mM.le E6) fV (by omega) (qK.le E6) Wz (hfl.le E6) Xn (fun i hi=>by have:=Xj i hi;omega)) ?_
 rintro _ w1 q7 ⟨x2,y2,z2,rfl,hit⟩ hf L7 N7
 have it2:=hit q7 L7 hf
 have E7:=E6.trans' L7
 clear hf
 refine XK.nU (R':=[q7,q0,p0,all w]) (by simp) ?_
 refine XK.nil ?_
 refine XK.dD ?_
 refine XA.mZ (by decide) rfl (fun _ h=>h.aK) ?_
 refine XA.maybe 22 49 rfl rfl (dN (by kernel_rfl)) (by decide) (by kernel_rfl) (by kernel_rfl) (fun _ h=>h.aK) (fun M=>?_)
 refine pI p0 q7 (Oh 0) (fun w1 st=>Tz 0 w1) ?_
 rintro _ w1 q8 ⟨u2,rfl,Ce⟩ hf L8 N8
 have va2:=Ce q8 hf
 have E8:=E7.trans' L8
 clear hf
 refine XK.nU (R':=[q8,q0,p0,all w]) (by simp) ?_
 refine XK.nil ?_
 refine XK.dD ?_
 refine XA.mZ (by decide) rfl (fun _ h=>h.aK) ?_
 refine XA.maybe 23 49 rfl rfl (dN (by kernel_rfl)) (by decide) (by kernel_rfl) (by kernel_rfl) (fun _ h=>h.aK) (fun M=>?_)
 refine pI p0 q8 (Jt q8 (uD 22 4 (fun _=>0) (fA (ll) fl tl))) (fun w1 st=>Kr q8 288 289 [pt x2,pt y2,pt z2] [pt u2] 22 4 (fun _=>0) (fA (ll) fl tl) w1 (it2.le L8) (by kernel_rfl) (by kernel_rfl) (va2 _) (fun i hi=>by have:=Xj i (List.mem_filter.1 hi).1;omega)) ?_
 rintro _ w1 q9 ⟨c2,d2,e2,f2,rfl,hst⟩ hf L9 N9
 have sX:=hst q9 L9 hf
 have E9:=E8.trans' L9
 clear hf
 refine XK.nU (R':=[q9,q0,p0,all w]) (by simp) ?_
 refine XK.nil ?_
 refine XK.dD ?_
 refine XA.mZ (by decide) rfl (fun _ h=>h.aK) ?_
 refine XA.maybe 29 49 rfl rfl (dN (by kernel_rfl)) (by decide) (by kernel_rfl) (by kernel_rfl) (fun _ h=>h.aK) (fun M=>?_)
 refine pI p0 q9 (Ka q9 (fA (ll) tl fl)) (fun w1 st=>Ld q9 nl uU tY kl Cv Bu Al Fl Tl (ll) tl fl w1 (mM.le E9) fV (by omega) (hfl.le E9) Xn (qK.le E9) Wz (fun i hi=>by have:=Xj i hi;omega)) ?_
 rintro _ w1 q10 ⟨x3,y3,z3,rfl,hit⟩ hf Gs N10
 have it3:=hit q10 Gs hf
 have E10:=E9.trans' Gs
 clear hf
 refine XK.nU (R':=[q10,q0,p0,all w]) (by simp) ?_
 refine XK.nil ?_
 refine XK.dD ?_
 refine XA.mZ (by decide) rfl (fun _ h=>h.aK) ?_
 refine XA.maybe 30 49 rfl rfl (dN (by kernel_rfl)) (by decide) (by kernel_rfl) (by kernel_rfl) (fun _ h=>h.aK) (fun M=>?_)
 refine pI p0 q10 (Oh 1) (fun w1 st=>Tz 1 w1) ?_
 rintro _ w1 Py ⟨u3,rfl,Ce⟩ hf Gr N11
 have va3:=Ce Py hf
 have E11:=E10.trans' Gr
 clear hf
 refine XK.nU (R':=[Py,q0,p0,all w]) (by simp) ?_
 refine XK.nil ?_
 refine XK.dD ?_
 refine XA.mZ (by decide) rfl (fun _ h=>h.aK) ?_
 refine XA.maybe 31 49 rfl rfl (dN (by kernel_rfl)) (by decide) (by kernel_rfl) (by kernel_rfl) (fun _ h=>h.aK) (fun M=>?_)
 refine pI p0 Py (Jt Py (uD 22 4 (fun _=>1) (fA (ll) tl fl))) (fun w1 st=>Kr Py 288 289 [pt x3,pt y3,pt z3] [pt u3] 22 4 (fun _=>1) (fA (ll) tl fl) w1 (it3.le Gr) (by kernel_rfl) (by kernel_rfl) (va3 _) (fun i hi=>by have:=Xj i (List.mem_filter.1 hi).1;omega)) ?_
 rintro _ w1 Px ⟨c3,d3,e3,f3,rfl,hst⟩ hf Gq N12
 have Eb:=hst Px Gq hf
 have Zf:=E11.trans' Gq
 clear hf
 refine XK.nU (R':=[Px,q0,p0,all w]) (by simp) ?_
 refine XK.nil ?_
 refine XK.dD ?_
 refine XA.mZ (by decide) rfl (fun _ h=>h.aK) ?_
 refine XA.maybe 37 49 rfl rfl (dN (by kernel_rfl)) (by decide) (by kernel_rfl) (by kernel_rfl) (fun _ h=>h.aK) (fun M=>?_)
 refine pI p0 Px (Ka Px (fA (cl.reverse) tc fc)) (fun w1 st=>Ld Px nc uX uA c13 Cy Bx A13 Fc Tc (cl.reverse) tc fc w1 (f13.le Zf) (by simpa using hnc) (by omega) (Ml.le Zf) Xp (Mf.le Zf) Xb (fun i hi=>by have:=(fun i hi=>Xs i (by simpa using hi)) i hi;omega)) ?_
 rintro _ w1 Vs ⟨x4,y4,z4,rfl,hit⟩ hf Bo N13
 have it4:=hit Vs Bo hf
 have E13:=Zf.trans' Bo
 clear hf
 refine XK.nU (R':=[Vs,q0,p0,all w]) (by simp) ?_
 refine XK.nil ?_
 refine XK.dD ?_
 refine XA.mZ (by decide) rfl (fun _ h=>h.aK) ?_
 refine XA.maybe 38 49 rfl rfl (dN (by kernel_rfl)) (by decide) (by kernel_rfl) (by kernel_rfl) (fun _ h=>h.aK) (fun M=>?_)
 refine pI p0 Vs (Oh 0) (fun w1 st=>Tz 0 w1) ?_
 rintro _ w1 Kx ⟨u4,rfl,Ce⟩ hf Bn N14
 have va4:=Ce Kx hf
 have E14:=E13.trans' Bn
 clear hf
 refine XK.nU (R':=[Kx,q0,p0,all w]) (by simp) ?_
 refine XK.nil ?_
 refine XK.dD ?_
 refine XA.mZ (by decide) rfl (fun _ h=>h.aK) ?_
 refine XA.maybe 39 49 rfl rfl (dN (by kernel_rfl)) (by decide) (by kernel_rfl) (by kernel_rfl) (fun _ h=>h.aK) (fun M=>?_)
 refine pI p0 Kx (Jt Kx (uD 20 7 (fun _=>0) (fA (cl.reverse) tc fc))) (fun w1 st=>Kr Kx 288 289 [pt x4,pt y4,pt z4] [pt u4] 20 7 (fun _=>0) (fA (cl.reverse) tc fc) w1 (it4.le Bn) (by kernel_rfl) (by kernel_rfl) (va4 _) (fun i hi=>by have:=(fun i hi=>Xs i (by simpa using hi)) i (List.mem_filter.1 hi).1;omega)) ?_
 rintro _ w1 Pw ⟨c4,d4,e4,f4,rfl,hst⟩ hf Bm N15
 have Ve:=hst Pw Bm hf
 have Ze:=E14.trans' Bm
 clear hf
 refine XK.nU (R':=[Pw,q0,p0,all w]) (by simp) ?_
 refine XK.nil ?_
 refine XK.dD ?_
 refine XA.mZ (by decide) rfl (fun _ h=>h.aK) ?_
 refine XA.maybe 45 49 rfl rfl (dN (by kernel_rfl)) (by decide) (by kernel_rfl) (by kernel_rfl) (fun _ h=>h.aK) (fun M=>?_)
 refine pI p0 Pw (Ka Pw (fA (dl.reverse) td fd)) (fun w1 st=>Ld Pw nd uW tZ c14 Cx Bw A14 Fd Td (dl.reverse) td fd w1 (f14.le Ze) (by simpa using hnd) (by omega) (Mk.le Ze) Xo (Me.le Ze) Xa (fun i hi=>by have:=(fun i hi=>Rv i (by simpa using hi)) i hi;omega)) ?_
 rintro _ w1 Pv ⟨x5,y5,z5,rfl,hit⟩ hf xF N16
 have it5:=hit Pv xF hf
 have E16:=Ze.trans' xF
 clear hf
 refine XK.nU (R':=[Pv,q0,p0,all w]) (by simp) ?_
 refine XK.nil ?_
 refine XK.dD ?_
 refine XA.mZ (by decide) rfl (fun _ h=>h.aK) ?_
 refine XA.maybe 47 49 rfl rfl (dN (by kernel_rfl)) (by decide) (by kernel_rfl) (by kernel_rfl) (fun _ h=>h.aK) (fun M=>?_)
 refine pI p0 Pv (Jt Pv (uD 17 4 (vZ s) (fA (dl.reverse) td fd))) (fun w1 st=>Kr Pv 288 285 [pt x5,pt y5,pt z5] [pt g1] 17 4 (vZ s) (fA (dl.reverse) td fd) w1 (it5.le (Piece.Le.refl _)) (by kernel_rfl) (by kernel_rfl) ((aGO (fA (dl.reverse) td fd) (fun i hi=>by have:=(fun i hi=>Rv i (by simpa using hi)) i (List.mem_filter.1 hi).1;omega)).le E16) (fun i hi=>by have:=(fun i hi=>Rv i (by simpa using hi)) i (List.mem_filter.1 hi).1;omega)) ?_
 rintro _ w1 Vr ⟨c5,d5,e5,f5,rfl,hst⟩ hf xE N17
 have Ea:=hst Vr xE hf
 have E17:=E16.trans' xE
 clear hf
 refine XK.nU (R':=[Vr,q0,p0,all w]) (by simp) ?_
 refine XK.nil ?_
 refine XK.dD ?_
 refine XA.mZ (by decide) rfl (fun _ h=>h.aK) ?_
 refine XA.maybe 48 49 rfl rfl (dN (by kernel_rfl)) (by decide) (by kernel_rfl) (by kernel_rfl) (fun _ h=>h.aK) (fun M=>?_)
 cases M with
 | none =>
  dsimp only[tF,wH,yA,Cu]
  refine dF fun gS=>?_
  refine XK.nil ?_
  refine XK.dD ?_
  refine XA.back (fun _ h=>h.tail.aK) ?_
  refine XA.next 49 rfl (by kernel_rfl) ?_
  refine bB fun g15=>?_
  refine XK.nil ?_
  refine XK.dD ?_
  refine XA.back (fun _ h=>h.tail.tail.aK) ?_
  refine XA.next 50 rfl (by kernel_rfl) ?_
  refine Zm rfl rfl ?_
  dsimp only[List.set]
  refine XA.bt ?_
  refine XA.done (by kernel_rfl) ?_
  refine XK.norm ?_
  refine XK.seq ?_
  refine XK.region ?_
  refine iD (vf:=[]) (vc:=[pt g15]) rfl rfl (by decide) ?_
  refine XK.gw ?_
  refine XK.aAh p0 Vr [0,1] [] (by simp) (by simp) N17 rfl (by decide) (by decide) fun qs Rb Ls Ns=>?_
  have r15:=RP.fZ (o:=0) (Rb 0 _ (by simp) rfl) rfl
  obtain⟨FS,sS,zS⟩:=Rb 1 _ (by simp) rfl
  have rS:=aE.fZ (n:=6) (sz:=1) (c:=6) sS zS rfl
  refine XK.jQ rfl rfl fun w1 st=>⟨⟨_,rfl,g15,rfl,fun q2 Cm jZ=>?_⟩,st.below (by simp)⟩
  have Lq:=aDD (p0:=p0) st (by simp:qs∈_) Ns (((wF.trans' E17).trans' Ls)) Cm jZ
  have hall:=aFL q2 g15 6 6 _ [⟨287,[pt c0,pt d0,pt e0,pt f0],kW 17 4 (fun _=>1) (fA (dl) fd td)⟩,⟨287,[pt c1,pt d1,pt e1,pt f1],kW 20 7 (fun _=>1) (fA (cl) fc tc)⟩,⟨287,[pt c2,pt d2,pt e2,pt f2],kW 22 4 (fun _=>0) (fA (ll) fl tl)⟩,⟨287,[pt c3,pt d3,pt e3,pt f3],kW 22 4 (fun _=>1) (fA (ll) tl fl)⟩,⟨287,[pt c4,pt d4,pt e4,pt f4],kW 20 7 (fun _=>0) (fA (cl.reverse) tc fc)⟩,⟨287,[pt c5,pt d5,pt e5,pt f5],kW 17 4 (vZ s) (fA (dl.reverse) td fd)⟩] (r15.le Lq) (rS.le Lq) rfl (by omega) (fun r hr=>by
   simp only[List.mem_cons,List.not_mem_nil,or_false] at hr
   rcases hr with rfl | rfl | rfl | rfl | rfl | rfl
   ·exact⟨by kernel_rfl,by have h:=st0.le (((((((((((((((L4.trans' L5).trans' L6).trans' L7).trans' L8).trans' L9).trans' Gs).trans' Gr).trans' Gq).trans' Bo).trans' Bn).trans' Bm).trans' xF).trans' xE).trans' Ls).trans' Lq);rw[vW] at h;exact h⟩
   ·exact⟨by kernel_rfl,by have h:=jI.le ((((((((((((L7.trans' L8).trans' L9).trans' Gs).trans' Gr).trans' Gq).trans' Bo).trans' Bn).trans' Bm).trans' xF).trans' xE).trans' Ls).trans' Lq);rw[vW] at h;exact h⟩
   ·exact⟨by kernel_rfl,by have h:=sX.le (((((((((Gs.trans' Gr).trans' Gq).trans' Bo).trans' Bn).trans' Bm).trans' xF).trans' xE).trans' Ls).trans' Lq);rw[vW] at h;exact h⟩
   ·exact⟨by kernel_rfl,by have h:=Eb.le ((((((Bo.trans' Bn).trans' Bm).trans' xF).trans' xE).trans' Ls).trans' Lq);rw[vW] at h;exact h⟩
   ·exact⟨by kernel_rfl,by have h:=Ve.le (((xF.trans' xE).trans' Ls).trans' Lq);rw[vW] at h;exact h⟩
   ·exact⟨by kernel_rfl,by have h:=Ea.le (((Piece.Le.refl _).trans' Ls).trans' Lq);rw[vW] at h;exact h⟩)
  simpa[xU,sG] using hall
 | some g15 =>
  dsimp only[tF,wH,yA,Cu]
  refine dF fun gS=>?_
  refine XK.nil ?_
  refine XK.dD ?_
  refine XA.back (fun _ h=>h.tail.tail.aK) ?_
  refine XA.next 50 rfl (by kernel_rfl) ?_
  refine Zm rfl rfl ?_
  dsimp only[List.set]
  refine XA.bt ?_
  refine XA.done (by kernel_rfl) ?_
  refine XK.norm ?_
  refine XK.seq ?_
  refine XK.region ?_
  refine iD (vf:=[]) (vc:=[pt g15]) rfl rfl (by decide) ?_
  refine XK.gw ?_
  refine XK.aAh p0 Vr [0,1] [] (by simp) (by simp) N17 rfl (by decide) (by decide) fun qs Rb Ls Ns=>?_
  have r15:=RP.fZ (o:=0) (Rb 1 _ (by simp) rfl) rfl
  obtain⟨FS,sS,zS⟩:=Rb 0 _ (by simp) rfl
  have rS:=aE.fZ (n:=6) (sz:=1) (c:=6) sS zS rfl
  refine XK.jQ rfl rfl fun w1 st=>⟨⟨_,rfl,g15,rfl,fun q2 Cm jZ=>?_⟩,st.below (by simp)⟩
  have Lq:=aDD (p0:=p0) st (by simp:qs∈_) Ns (((wF.trans' E17).trans' Ls)) Cm jZ
  have hall:=aFL q2 g15 6 6 _ [⟨287,[pt c0,pt d0,pt e0,pt f0],kW 17 4 (fun _=>1) (fA (dl) fd td)⟩,⟨287,[pt c1,pt d1,pt e1,pt f1],kW 20 7 (fun _=>1) (fA (cl) fc tc)⟩,⟨287,[pt c2,pt d2,pt e2,pt f2],kW 22 4 (fun _=>0) (fA (ll) fl tl)⟩,⟨287,[pt c3,pt d3,pt e3,pt f3],kW 22 4 (fun _=>1) (fA (ll) tl fl)⟩,⟨287,[pt c4,pt d4,pt e4,pt f4],kW 20 7 (fun _=>0) (fA (cl.reverse) tc fc)⟩,⟨287,[pt c5,pt d5,pt e5,pt f5],kW 17 4 (vZ s) (fA (dl.reverse) td fd)⟩] (r15.le Lq) (rS.le Lq) rfl (by omega) (fun r hr=>by
   simp only[List.mem_cons,List.not_mem_nil,or_false] at hr
   rcases hr with rfl | rfl | rfl | rfl | rfl | rfl
   ·exact⟨by kernel_rfl,by have h:=st0.le (((((((((((((((L4.trans' L5).trans' L6).trans' L7).trans' L8).trans' L9).trans' Gs).trans' Gr).trans' Gq).trans' Bo).trans' Bn).trans' Bm).trans' xF).trans' xE).trans' Ls).trans' Lq);rw[vW] at h;exact h⟩
   ·exact⟨by kernel_rfl,by have h:=jI.le ((((((((((((L7.trans' L8).trans' L9).trans' Gs).trans' Gr).trans' Gq).trans' Bo).trans' Bn).trans' Bm).trans' xF).trans' xE).trans' Ls).trans' Lq);rw[vW] at h;exact h⟩
   ·exact⟨by kernel_rfl,by have h:=sX.le (((((((((Gs.trans' Gr).trans' Gq).trans' Bo).trans' Bn).trans' Bm).trans' xF).trans' xE).trans' Ls).trans' Lq);rw[vW] at h;exact h⟩
   ·exact⟨by kernel_rfl,by have h:=Eb.le ((((((Bo.trans' Bn).trans' Bm).trans' xF).trans' xE).trans' Ls).trans' Lq);rw[vW] at h;exact h⟩
   ·exact⟨by kernel_rfl,by have h:=Ve.le (((xF.trans' xE).trans' Ls).trans' Lq);rw[vW] at h;exact h⟩
   ·exact⟨by kernel_rfl,by have h:=Ea.le (((Piece.Le.refl _).trans' Ls).trans' Lq);rw[vW] at h;exact h⟩)
  simpa[xU,sG] using hall
end
section
set_option maxHeartbeats 4000000
set_option maxRecDepth 20000
def xD(g:List (List Int)):Prop:=∀(k:Nat) (l:List Int),g[k]? =some l→∀u∈l,0≤u∧u < (k:Int)
theorem xD.in{g:List (List Int)}(h:xD g):vI g:=by
 intro l hl u hu
 obtain⟨k,hk⟩:=List.getElem?_of_mem hl
 have:=h k l hk u hu
 have:=(List.getElem?_eq_some_iff.1 hk).1
 omega
theorem xD.next{g:List (List Int)}(h:xD g){k:Nat}(hk:k < g.length):Er g (List.range k)=some k:=by
 refine aDA hk (fun j hj=>aA8 (by simpa using hj)) ?_
 unfold rO
 obtain⟨l,hl⟩:∃l,g[k]? =some l:=⟨_,List.getElem?_eq_getElem hk⟩
 rw[hl]
 simp only[Option.getD_some,Bool.and_eq_true,Bool.not_eq_true',List.all_eq_true]
 refine⟨by simp,fun u hu=>?_⟩
 have:=h k l hl u hu
 simp;omega
theorem xD.order{g:List (List Int)}(h:xD g):∀(m k:Nat),k+m=g.length→qD g m (List.range k)=some (List.range g.length)
 | 0,k,hk=>by rw[qD];simp at hk;rw[hk]
 | m+1,k,hk=>by
  rw[qD,h.next (by omega)]
  have:=xD.order h m (k+1) (by omega)
  rw[List.range_succ] at this
  exact this
theorem xD.eT{g:List (List Int)}(h:xD g)(hl:g.length≤100):eT g=(0,List.range g.length):=by
 have h1:Bg g=false:=aFD fun k l hk j u hj=>by
  have:=h.in l (List.mem_of_getElem? hk) u (List.mem_of_getElem? hj)
  exact this
 have h2:oB g=0:=by unfold oB;rw[if_neg (by omega),h1];rfl
 have h3:=h.order g.length 0 (by omega)
 unfold Go.Proofs.YtdcdccmpcmjmhaaGreatDoor.eT
 rw[if_neg (by simp[h2])]
 simp only[List.range_zero] at h3
 rw[h3]
end
section
set_option maxHeartbeats 4000000
set_option maxRecDepth 20000
theorem yS{es:List Int}(h:∀e∈es,e=0):iW es=0:=Ft fun j hj=>by rw[List.getElem?_eq_getElem hj,h _ (List.getElem_mem hj)]
theorem Dy{n lo hi:Int}(h1:lo≤n)(h2:n≤hi):gD n lo hi=true:=by simp[gD,h1,h2]
theorem xO{b:Bool}{e:Int}(h:b=false):gI b e=0:=by rw[h];rfl
section
variable{s:aA}(h:s.made)
include h
theorem aDT:xD (fO s):=by
 intro k l hl u hu
 simp only[fO,List.getElem?_map,Option.map_eq_some_iff] at hl
 obtain⟨c,hc,rfl⟩:=hl
 exact(h.aD k c hc).1 u hu
theorem aDR:xD (fM s):=by
 intro k l hl u hu
 simp only[fM,List.getElem?_map,Option.map_eq_some_iff] at hl
 obtain⟨d,hd,rfl⟩:=hl
 have:=(h.domains k d hd).1
 split at hu
 ·cases hu
 ·rename_i hne
  simp at hu
  subst hu
  exact this.resolve_left hne
theorem aDQ:xD (bX s):=by
 intro k l hl u hu
 simp only[bX,List.getElem?_map,Option.map_eq_some_iff] at hl
 obtain⟨d,hd,rfl⟩:=hl
 obtain⟨_,_,_,_,_,_,_,_,_,_,_,h1⟩:=h.aC k d hd
 exact h1 u hu
theorem Qo:s.small:=by
 refine⟨by have:=h.nc;omega,by have:=h.nd;omega,by have:=h.nr;omega,by have:=h.nv;omega,fun c hc=>?_,fun d hd=>?_⟩
 ·obtain⟨k,hk⟩:=List.getElem?_of_mem hc
  rcases(h.aD k c hk).2 with h1 | h1 | h1 | h1 | h1
  ·rw[h1.2.1];simp
  all_goals(have:=h1.2.1;omega)
 ·obtain⟨k,hk⟩:=List.getElem?_of_mem hd
  obtain⟨_,_,_,_,_,_,_,_,_,_,h1,_⟩:=h.aC k d hk
  omega
theorem aAM:eT (fO s)=(0,List.range s.aD.length)∧eT (fM s)=(0,List.range s.domains.length)∧eT (bX s)=(0,List.range s.aC.length):=by
 refine⟨?_,?_,?_⟩
 ·have:=(aDT h).eT (by simp[fO];have:=h.nc;omega)
  simpa[fO] using this
 ·have:=(aDR h).eT (by simp[fM];have:=h.nd;omega)
  simpa[fM] using this
 ·have:=(aDQ h).eT (by simp[bX];have:=h.nv;omega)
  simpa[bX] using this
theorem aKu{k:Nat}{c:dV}(hc:s.aD[k]? =some c):Jk s.aD.length c=0:=by
 have hk:=(List.getElem?_eq_some_iff.1 hc).1
 obtain⟨h1,h2⟩:=h.aD k c hc
 refine yS fun e he=>?_
 simp only[List.mem_cons,List.not_mem_nil,or_false] at he
 rcases he with rfl | rfl | rfl
 ·refine xO ?_
  rcases h2 with h2 | h2 | h2 | h2 | h2
  ·simp[jJ,h2.1,h2.2.1]
  ·simp[jJ,h2.1,h2.2.1]
  ·simp[jJ,h2.1,h2.2.1]
  ·simp[jJ,h2.1,h2.2.1]
  ·simp[jJ,h2.1,h2.2.1,gD]
 ·refine yS fun e he=>?_
  simp only[List.mem_map] at he
  obtain⟨f,hf,rfl⟩:=he
  have:=h1 f hf
  exact xO (by rw[Dy (by omega) (by omega)];rfl)
 ·refine xO ?_
  rcases h2 with h2 | h2 | h2 | h2 | h2
  ·obtain⟨h3,_,h4,h5,_⟩:=h2
   simp[qG,h3];omega
  ·obtain⟨h3,_,_,h4,h5,h6,h7,h8,h9⟩:=h2
   simp[qG,h3,gD];omega
  ·obtain⟨h3,_,_,_,h4,h5,_⟩:=h2
   simp[qG,h3,gD];omega
  ·simp[qG,h2.1]
  ·simp[qG,h2.1]
theorem aKt{k:Nat}{d:Dom}(hd:s.domains[k]? =some d):Nd s.domains.length d=0:=by
 have hk:=(List.getElem?_eq_some_iff.1 hd).1
 obtain⟨h1,h2,h3⟩:=h.domains k d hd
 refine yS fun e he=>?_
 simp only[List.mem_cons,List.not_mem_nil,or_false] at he
 rcases he with rfl | rfl
 ·refine xO ?_
  rcases h1 with h1 | h1
  ·simp[h1]
  ·rw[Dy (by omega) (by omega)];simp
 ·exact xO (by rw[Dy (by omega) (by omega)];rfl)
theorem aDS{k:Nat}{d:bK}(hd:s.aC[k]? =some d):Ni s.aD.length s.domains.length s.aL.length s.aC.length d=0∧Lm d=0:=by
 have hk:=(List.getElem?_eq_some_iff.1 hd).1
 obtain⟨a1,a2,a3,a4,a5,a6,_,_,a7,_,a8,a9⟩:=h.aC k d hd
 refine⟨yS fun e he=>?_,?_⟩
 ·simp only[List.mem_cons,List.not_mem_nil,or_false] at he
  rcases he with rfl | rfl | rfl | rfl
  ·exact xO (by rw[Dy (by omega) (by omega)];rfl)
  ·exact xO (by rw[Dy (by omega) (by omega)];rfl)
  ·exact xO (by rw[Dy (by omega) (by omega)];rfl)
  ·refine yS fun e he=>?_
   simp only[List.mem_map] at he
   obtain⟨f,hf,rfl⟩:=he
   have:=a9 f hf
   exact xO (by rw[Dy (by omega) (by omega)];rfl)
 ·refine xO ?_
  simp
  omega
theorem Wg:Tv s=0:=by
 obtain⟨o1,o2,o3⟩:=aAM h
 refine yS fun e he=>?_
 simp only[Ym,List.mem_cons,List.not_mem_nil,or_false] at he
 have h1:=h.nc
 have h2:=h.nd
 have h3:=h.nr
 have h4:=h.nv
 rcases he with rfl | rfl | rfl | rfl | rfl | rfl | rfl | rfl
 ·rw[Ct,if_neg (by omega)]
  refine yS fun e he=>?_
  obtain⟨d,hd,rfl⟩:=List.mem_map.1 he
  obtain⟨k,hk⟩:=List.getElem?_of_mem hd
  exact(aDS h hk).2
 ·refine yS fun e he=>?_
  obtain⟨d,hd,rfl⟩:=List.mem_map.1 he
  obtain⟨k,hk⟩:=List.getElem?_of_mem hd
  exact aKu h hk
 ·rw[Be,o1];rfl
 ·refine yS fun e he=>?_
  obtain⟨d,hd,rfl⟩:=List.mem_map.1 he
  obtain⟨k,hk⟩:=List.getElem?_of_mem hd
  exact aKt h hk
 ·rw[Be,o2];rfl
 ·refine yS fun e he=>?_
  obtain⟨d,hd,rfl⟩:=List.mem_map.1 he
  have:=h.aL d hd
  exact xO (by rw[Dy (by omega) (by omega)];rfl)
 ·refine yS fun e he=>?_
  obtain⟨d,hd,rfl⟩:=List.mem_map.1 he
  obtain⟨k,hk⟩:=List.getElem?_of_mem hd
  exact(aDS h hk).1
 ·rw[Be,o3];rfl
end
structure aA.uL(s:aA):Prop where
 aD:Fits dV.fit s.aD
 aC:Fits (bK.fit s.aD.length s.domains.length s.aL.length) s.aC
 nc:s.aD.length≤9
 nd:s.domains.length≤4
 nr:s.aL.length≤3
 nv:s.aC.length≤4
 Nt:Tv s=0
 small:s.small
theorem aA.made.uL{s:aA}(h:s.made):s.uL:=⟨h.aD,h.aC,h.nc.2,h.nd.2,h.nr.2,h.nv.2,Wg h,Qo h⟩
end
section
set_option maxHeartbeats 4000000
set_option maxRecDepth 20000
attribute [local irreducible] KC KI KQ
def Oe(g:List (List Int))(v:Value)(w w':World):Prop:=∃A m c,v=.tuple #[.slice A m c,iv (eT g).1]∧m=(eT g).2.length∧aE (fresh w w') 1 A m (aG (cJ (eT g).2))
theorem Jw.aA3{w w':World}{g:List (List Int)}{y:Ending}(h:Jw w (eT g).2 (eT g).1 y w'):(∃v,y=.returned v∧Oe g v w w')∧Below w.heap.size w w':=by
 obtain⟨⟨A,m,c,hy,hm,hs⟩,hb⟩:=h
 exact⟨⟨_,hy,A,m,c,rfl,hm,hs⟩,hb⟩
theorem aKy{k n:Nat}(h:k < n):(aG ((cJ (List.range k))++List.replicate (n - k) 0)).set k (iv (k:Int))=aG ((cJ (List.range (k+1)))++List.replicate (n - (k+1)) 0):=by
 rw[Wm,List.set_append_right _ _ (by simp[cJ])]
 rw[show k - (cJ (List.range k)).length=0 by simp[cJ],show n - k=(n - (k+1))+1 by omega,List.replicate_succ,List.set_cons_zero,List.range_succ,aAD,List.append_assoc];rfl
theorem aOC(s:aA)(dl cl ll:List Nat)(fd fc fl td tc tl:List Bool):(sG s dl cl ll fd fc fl td tc tl).length≤2*(dl.length+cl.length+ll.length):=by
 have h:=fun(a:List Nat) (x y:List Bool)=>List.length_filter_le (xP x y) a
 have h1:=h dl fd td;have h2:=h cl fc tc;have h3:=h ll fl tl;have h4:=h ll tl fl;have h5:=h cl.reverse tc fc;have h6:=h dl.reverse td fd
 rw[List.length_reverse] at h5 h6
 simp only[sG,kW,fA,List.length_append,List.length_map]
 omega
theorem aE.aJE{Y:Nat→Prop}{w:World}{F:Nat→Prop}{e:TypeId}{sz n:Nat}{v:Value}{xs:List Value}(h:(HP.own e sz v n xs).sat F w)(hF:∀b,F b→Y b):∃A c,v=.slice A n c∧aE ⟨w,Y⟩ sz A n xs∧n≤c:=by
 obtain⟨A,c,hv,hs⟩:=aE.oA (Y:=Y) h hF
 refine⟨A,c,hv,hs,?_⟩
 obtain⟨_,ho⟩:=h
 rcases ho.2 with⟨rfl,hn⟩ | ⟨g,cap,cur,rfl,_,_,h3,_⟩
 ·omega
 ·cases hv
  exact h3
set_option maxHeartbeats 1000000 in
theorem aHl(s:aA)(A1 A2 A3 A4 Fd Fc Fl Td Tc Tl:Option Addr)(n1 k1 n2 k2 n3 k3 n4 k4 uW Cx uX Cy uU Cv tZ Bw uA Bx tY Bu:Nat)(fd fc fl td tc tl:List Bool)(w:World)(hW:eI w s A1 n1 A2 n2 A3 n3 A4 n4)(aBr:Tv s=0)(hD3:(eT (fM s)).2.length≤1000000)(hC3:(eT (fO s)).2.length≤1000000)(hDb:∀i∈(eT (fM s)).2,i < n2)(hCb:∀i∈(eT (fO s)).2,i < 1000000)
    (Mk:aE (all w) 1 Fd uW (aP fd)) (Xo:uW=fd.length) (Me:aE (all w) 1 Td tZ (aP td)) (Xa:tZ=td.length) (Ml:aE (all w) 1 Fc uX (aP fc)) (Xp:uX=fc.length) (Mf:aE (all w) 1 Tc uA (aP tc)) (Xb:uA=tc.length) (hfl:aE (all w) 1 Fl uU (aP fl)) (Xn:uU=fl.length) (qK:aE (all w) 1 Tl tY (aP tl)) (Wz:tY=tl.length):
    Calls Tryz.prog 278 #[.agg #[.slice A1 n1 k1,.slice A2 n2 k2,.slice A3 n3 k3,.slice A4 n4 k4],.agg #[.slice Fd uW Cx,.slice Fc uX Cy,.slice Fl uU Cv],.agg #[.slice Td tZ Bw,.slice Tc uA Bx,.slice Tl tY Bu]] w (fun y w'=>(∃A c,y=.returned (.slice A (sG s (eT (fM s)).2 (eT (fO s)).2 (List.range n3) fd fc fl td tc tl).length c)∧aE (fresh w w') 4 A (sG s (eT (fM s)).2 (eT (fO s)).2 (List.range n3) fd fc fl td tc tl).length ((sG s (eT (fM s)).2 (eT (fO s)).2 (List.range n3) fd fc fl td tc tl).flatMap eH.cells)∧(sG s (eT (fM s)).2 (eT (fO s)).2 (List.range n3) fd fc fl td tc tl).length≤c)∧Below w.heap.size w w'):=by
  have lX:=hW.kL
  have hn2:=hW.kY
  have lW:=hW.mL
  have bQ:=hW.small
  unfold aA.small at bQ
  obtain⟨hs1,eL,lV,mW,jT,lU⟩:=bQ
  refine XC.enter (vs:=[.agg #[.slice A1 n1 k1,.slice A2 n2 k2,.slice A3 n3 k3,.slice A4 n4 k4],.agg #[.slice Fd uW Cx,.slice Fc uX Cy,.slice Fl uU Cv],.agg #[.slice Td tZ Bw,.slice Tc uA Bx,.slice Tl tY Bu]]) Tryz.func278 rfl Tryz.ntmps278 (by simp) (St.start w) ?_
  dsimp only[List.cons_append,List.nil_append]
  refine XC.seq ?_
  refine XC.iL (by kernel_rfl) ?_
  refine aS fun g1=>?_
  refine aS fun g2=>?_
  refine aS fun g3=>?_
  refine cM rfl (by decide) ?_
  refine XC.iP ?_
  refine XC.norm ?_
  refine XC.seq ?_
  refine XC.seq ?_
  refine XC.iL (by kernel_rfl) ?_
  refine sN 4 rfl ?_
  refine cG (fun w1 st=>Yl s A1 A2 A3 A4 n1 k1 n2 k2 n3 k3 n4 k4 w1 (hW.le (st.started (by simp)))) ?_
  refine Kj rfl rfl (by decide) ?_
  refine XC.iP ?_
  refine XC.norm ?_
  refine XC.if_ rfl (fun h=>?_) (fun h=>?_)
  ·
    refine XC.seq ?_
    refine XC.iL (by kernel_rfl) ?_
    refine cM rfl (by decide) ?_
    refine XC.iP ?_
    refine XC.norm ?_
    refine XC.ret ?_
    refine XC.norm ?_
    exact absurd aBr h
  ·
    refine XC.skip ?_
    refine XC.norm ?_
    refine XC.seq ?_
    refine XC.iL (by kernel_rfl) ?_
    refine sN 4 rfl ?_
    refine gO [(all w)] (sM (fM s)) (fun w1 st=>aFb s A1 A2 A3 A4 n1 k1 n2 k2 n3 k3 n4 k4 w1 (hW.le (st.started (by simp)))) ?_
    rintro _ w1 qda ⟨Ag,cg,rfl,iU⟩ hf Lq _
    have iU:=iU.le hf
    have aOM:=Lq (all w) (by simp)
    clear hf Lq
    refine gO [qda] (Oe (fM s)) (fun w1 st=>(Vv Ag _ cg (fM s) w1 (iU.le (st.le (by simp))) rfl (by simp[fM];omega) (fun l hl=>by
        simp only[fM,List.mem_map] at hl
        obtain⟨x,_,rfl⟩:=hl
        split<;>simp)).mono fun y w2 h=>h.aA3) ?_
    rintro _ w1 qd ⟨AD,mD,cD,rfl,hmD,hsD⟩ hf Lq _
    have hsD:=hsD.le hf
    have Lqd:=Lq qda (by simp)
    clear hf Lq iU
    refine aR rfl (by decide) ?_
    refine Dx rfl rfl (by decide) ?_
    refine Dx rfl rfl (by decide) ?_
    refine cM rfl (by decide) ?_
    refine cM rfl (by decide) ?_
    refine XC.iP ?_
    refine XC.norm ?_
    refine XC.seq ?_
    refine XC.iL (by kernel_rfl) ?_
    refine sN 4 rfl ?_
    refine gO [qd] (sM (fO s)) (fun w1 st=>aFv s A1 A2 A3 A4 n1 k1 n2 k2 n3 k3 n4 k4 w1 (hW.le (st.started (by simp)))) ?_
    rintro _ w1 qca ⟨Ag,cg,rfl,iU⟩ hf Lq _
    have iU:=iU.le hf
    have aGf:=Lq qd (by simp)
    clear hf Lq
    refine gO [qca] (Oe (fO s)) (fun w1 st=>(Vv Ag _ cg (fO s) w1 (iU.le (st.le (by simp))) rfl (by simp[fO];omega) (fun l hl=>by
        simp only[fO,List.mem_map] at hl
        obtain⟨x,hx,rfl⟩:=hl
        have:=jT x hx;omega)).mono fun y w2 h=>h.aA3) ?_
    rintro _ w1 qc ⟨AC,mC,cC,rfl,hmC,hsC⟩ hf Lq _
    have hsC:=hsC.le hf
    have Lqc:=Lq qca (by simp)
    clear hf Lq iU
    refine aR rfl (by decide) ?_
    refine Dx rfl rfl (by decide) ?_
    refine Dx rfl rfl (by decide) ?_
    refine cM rfl (by decide) ?_
    refine cM rfl (by decide) ?_
    refine XC.iP ?_
    refine XC.norm ?_
    refine XC.seq ?_
    refine XC.iL (by kernel_rfl) ?_
    refine jH (off:=2) (by kernel_rfl) rfl (by decide) ?_
    refine oL rfl ?_
    refine pF (el:=88) (by kernel_rfl) rfl (by decide) ?_
    refine jG 8 (el:=3) (z:=iv 0) (by kernel_rfl) (by kernel_rfl) rfl rfl rfl (by omega) (by omega) (by decide) fun g4=>?_
    refine cM rfl (by decide) ?_
    refine XC.iP ?_
    refine XC.norm ?_
    refine XC.seq ?_
    refine XC.seq ?_
    refine XC.iL (by kernel_rfl) ?_
    refine aR rfl (by decide) ?_
    refine pF (el:=3) (by kernel_rfl) rfl (by decide) ?_
    refine aR rfl (by decide) ?_
    refine XC.iP ?_
    refine XC.norm ?_
    refine XK.aT [(36,iv 0),(35,iv n3),(11,.slice (some ⟨g4,0,none⟩) n3 n3),(9,.slice AC mC cC),(7,.slice AD mD cD),(5,pt g3),(4,pt g2),(3,pt g1)] ?_
    refine XK.weak (R':=[qc,all w]) [0,1,2,3,4] rfl (by decide) (by simp) ?_
    refine XC.block ?_
    refine XC.loop (fun m L e R H=>∃k:Nat,k≤n3∧m=n3 - k∧L=[]∧e=[(36,iv k),(35,iv n3),(11,.slice (some ⟨g4,0,none⟩) n3 n3),(9,.slice AC mC cC),(7,.slice AD mD cD),(5,pt g3),(4,pt g2),(3,pt g1)]∧R=[qc,all w]∧H=[HP.aB g4 3 (aG ((cJ (List.range k))++List.replicate (n3 - k) 0)),HP.aB g3 116 [.slice Td tZ Bw,.slice Tc uA Bx,.slice Tl tY Bu],HP.aB g2 116 [.slice Fd uW Cx,.slice Fc uX Cy,.slice Fl uU Cv],HP.aB g1 30 [.slice A1 n1 k1,.slice A2 n2 k2,.slice A3 n3 k3,.slice A4 n4 k4],HP.marks []]) n3 ⟨0,by omega,rfl,rfl,rfl,rfl,by simp[aG,cJ,Value.cells]⟩ fun m L e R H hI=>?_
    obtain⟨k,hk,rfl,rfl,rfl,rfl,rfl⟩:=hI
    refine XC.seq ?_
    refine XC.iL (by kernel_rfl) ?_
    refine xN rfl rfl (by decide) ?_
    refine XC.iP ?_
    refine XC.norm ?_
    refine XC.seq ?_
    refine XC.if_ rfl (fun h=>?_) (fun h=>?_)
    ·
      refine XC.skip ?_
      refine XC.norm ?_
      refine XC.seq ?_
      refine XC.block ?_
      refine XC.seq ?_
      refine XC.iL (by kernel_rfl) ?_
      refine aR rfl (by decide) ?_
      refine cM rfl (by decide) ?_
      refine XC.iP ?_
      refine XC.norm ?_
      refine XC.iL (by kernel_rfl) ?_
      refine aR rfl (by decide) ?_
      refine aR rfl (by decide) ?_
      refine aR rfl (by decide) ?_
      refine kd (dat (k) (k)) ?_
      refine pE 0 rfl (by kernel_rfl) rfl rfl rfl (by simp[aG,cJ];omega) ?_
      dsimp only[List.set]
      rw[aKy (by omega)]
      refine XC.iP ?_
      refine XC.norm ?_
      refine XC.iL (by kernel_rfl) ?_
      refine nD rfl rfl (eR (by omega)) (by decide) ?_
      refine aR rfl (by decide) ?_
      refine XC.iP ?_
      refine XC.norm ?_
      exact XK.aT [(36,iv (k+1)),(35,iv n3),(11,.slice (some ⟨g4,0,none⟩) n3 n3),(9,.slice AC mC cC),(7,.slice AD mD cD),(5,pt g3),(4,pt g2),(3,pt g1)] (XC.round (n3 - (k+1)) (by omega) ⟨k+1,by omega,rfl,rfl,rfl,rfl,rfl⟩)
    ·
      refine XC.exit ?_
      refine XC.norm ?_
      refine XC.seq ?_
      refine XC.iL (by kernel_rfl) ?_
      refine bB fun g5=>?_
      refine XC.iP ?_
      refine XC.norm ?_
      refine XC.seq ?_
      refine XC.seq ?_
      refine XK.still [qc] [1] [0,2,3,4,5] (by simp) rfl (by decide) (by decide) fun q5 Xg L5 _=>?_
      have L5:=L5 qc (by simp)
      have hk3:k=n3:=by omega
      have aEu:=aE.fZ (n:=n3) (sz:=1) (c:=n3) (Xg 1 _ (by simp) rfl).choose_spec.1 (Xg 1 _ (by simp) rfl).choose_spec.2 (by simp[aG,cJ];omega)
      rw[hk3,Nat.sub_self,List.replicate_zero,List.append_nil] at aEu
      have L0:(all w).Le q5:=(((aOM.trans' Lqd).trans' aGf).trans' Lqc).trans' L5
      refine XK.weak (R':=[q5,all w]) [0,1,2,3,4] rfl (by decide) (by simp) ?_
      refine XC.iL (by kernel_rfl) ?_
      refine sN 4 rfl ?_
      refine aR rfl (by decide) ?_
      refine aR rfl (by decide) ?_
      refine aR rfl (by decide) ?_
      refine sN 3 rfl ?_
      refine sN 3 rfl ?_
      refine gO [q5] (aGt q5 (sG s (eT (fM s)).2 (eT (fO s)).2 (List.range n3) fd fc fl td tc tl)) (fun w1 st=>aO9 q5 s A1 A2 A3 A4 AD AC (some ⟨g4,0,none⟩) Fd Fc Fl Td Tc Tl n1 k1 n2 k2 n3 k3 n4 k4 mD cD mC cC n3 n3 uW Cx uX Cy uU Cv tZ Bw uA Bx tY Bu (eT (fM s)).2 (eT (fO s)).2 (List.range n3) fd fc fl td tc tl w1 (st.le (by simp)) (hW.dom.mono (lH L0) (fun _ _ h=>h)) (by omega) (hsD.le ((aGf.trans' Lqc).trans' L5)) hmD (by omega) hDb (hsC.le L5) hmC (by omega) hCb aEu (by simp) (by omega) (fun i hi=>by have:=List.mem_range.1 hi;omega) (Mk.le L0) Xo (Me.le L0) Xa (Ml.le L0) Xp (Mf.le L0) Xb (hfl.le L0) Xn (qK.le L0) Wz) ?_
      rintro _ w1 q6 ⟨g6,rfl,hall⟩ hf L6 _
      have hit:=hall q6 (L6 q5 (by simp)) hf
      refine XC.iP ?_
      refine XC.norm ?_
      refine XC.block ?_
      refine XK.fY 247 4 ?_
      refine XK.pair ?_
      generalize hSL:sG s (eT (fM s)).2 (eT (fO s)).2 (List.range n3) fd fc fl td tc tl=SL at hit
      refine XK.sV 0 (f:=fun v=>HP.many [HP.own 247 4 v 0 ((SL.take 0).flatMap eH.cells),HP.aB g5 121 [v]]) (sn) rfl ?_
      dsimp only[List.set]
      refine XK.weak (R':=[q6,all w]) [0,4] rfl (by decide) (by simp) ?_
      refine XK.aT [(50,.func (.func 286) #[] #[pt g6]),(13,pt g5)] ?_
      refine XC.range (gf:=286) (lb:=[pt g6]) (encs:=mJ SL) (p:=q6) rfl (by kernel_rfl) hit (by simp) (fun vs hvs=>?_) (by decide) (fun k=>[(HP.ex fun v=>HP.many [HP.own 247 4 v k ((SL.take k).flatMap eH.cells),HP.aB g5 121 [v]])]) (fun _=>[HP.ex fun(_:Empty)=>HP.emp])
        (fun k vs e1 H1=>∃(g7:Nat) (s:eH),vs=[pH s]∧e1=[(14,pt g7),(13,pt g5)]∧H1=[HP.aB g7 247 s.cells,(HP.ex fun v=>HP.many [HP.own 247 4 v k ((SL.take k).flatMap eH.cells),HP.aB g5 121 [v]])]) rfl ?_ ?_ ?_ ?_
      · simp only[mJ,List.mem_map] at hvs
        obtain⟨s,_,rfl⟩:=hvs
        rfl
      · intro l2 k vs W1 q X hvs bQ
        obtain⟨s,rfl⟩:∃s,vs=[pH s]:=by
          simp only[mJ,List.getElem?_map,Option.map_eq_some_iff] at hvs
          obtain⟨s,_,e⟩:=hvs
          exact⟨s,e.symm⟩
        dsimp only[List.cons_append,List.nil_append]
        refine XC.iL (by kernel_rfl) ?_
        refine bB fun g7=>?_
        refine jV 0 rfl rfl rfl (by kernel_rfl) (by simp[pH,eH.cells,Value.cells,Value.oneCell']) (by simp[pH,eH.cells,Value.cells]) ?_
        rw[show eE [Value.int .i64 0,iv 0,.int .u32 0,.int .u32 0] 0 (pH s).cells.toList=s.cells by simp[eE,pH,eH.cells,Value.cells]]
        dsimp only[List.set]
        refine XC.iP ?_
        refine XK.aT [(14,pt g7),(13,pt g5)] ?_
        exact XC.assigned (H1:=[HP.aB g7 247 s.cells,(HP.ex fun v=>HP.many [HP.own 247 4 v k ((SL.take k).flatMap eH.cells),HP.aB g5 121 [v]])]) ⟨g7,s,rfl,rfl,rfl⟩
      · rintro l2 k vs W1 q X _ _ hvs bQ ⟨g7,s,rfl,rfl,rfl⟩
        have Xc:SL[k]? =some s:=by
          simp only[mJ,List.getElem?_map,Option.map_eq_some_iff] at hvs
          obtain⟨s',h,e⟩:=hvs
          have:s'=s:=by
            cases s;cases s'
            simp[pH,eH.cells] at e
            simp[e]
          exact this▸h
        have Rj:=(List.getElem?_eq_some_iff.1 Xc).1
        have aPn:SL.length≤6000000:=by rw[←hSL];refine Nat.le_trans (aOC _ _ _ _ _ _ _ _ _ _) ?_;simp only[List.length_range];omega
        have oF:((SL.take (k+1)).flatMap eH.cells)=((SL.take k).flatMap eH.cells)++s.cells:=by
          rw[List.take_add_one,Xc];simp
        dsimp only[List.cons_append,List.nil_append]
        refine XC.block ?_
        refine XK.ox 1 fun v=>?_
        refine XK.tk 1 0 ?_
        refine XK.tk 2 1 ?_
        refine XC.iL (by kernel_rfl) ?_
        refine fX (by kernel_rfl) rfl (Rd.aB 0 rfl rfl) (by decide) ?_
        refine vN 4 (by kernel_rfl) rfl (aH.whole 2 rfl) rfl (by decide) ?_
        refine aCv (cs:=s.cells) (el:=247) (sz:=4) (zs:=[iv 0,iv 0,.int .u32 0,.int .u32 0]) (by kernel_rfl) (dN (by kernel_rfl)) (by kernel_rfl) rfl (by decide) (by decide) rfl (by simp[eF,fH,Value.cells,List.range_succ,List.set,eH.cells]) (by decide) fun g8=>?_
        refine fG 2 4 24 1 (n':=k+1) (el:=247) (by kernel_rfl) (by kernel_rfl) (by decide) rfl rfl rfl (kX 0 rfl rfl) (by simp[eH.cells,Value.oneCell']) rfl (by omega) (by omega) (by decide) fun A' k'=>?_
        dsimp only[List.set]
        refine pE 1 rfl (by kernel_rfl) rfl rfl rfl (by simp) ?_
        dsimp only[List.set]
        refine XC.iP ?_
        refine XK.weak [2,1,4,5] rfl (by decide) (fun _ hp=>hp) ?_
        refine XK.gv 1 0 ?_
        refine XK.gv 0 1 ?_
        refine XK.sV 0 (f:=fun v=>HP.many [HP.own 247 4 v (k+1) ((SL.take (k+1)).flatMap eH.cells),HP.aB g5 121 [v]]) (.slice A' (k+1) k') (by rw[oF];rfl) ?_
        dsimp only[List.set]
        refine XC.norm ?_
        exact XC.aBR
      rotate_left
      · intro D k hk
        exact XK.Vx 0 rfl fun a=>a.elim
      intro D
      dsimp only[List.cons_append,List.nil_append]
      refine XK.ox 0 fun v=>?_
      refine XK.tk 0 0 ?_
      refine XK.tk 1 1 ?_
      refine XC.norm ?_
      refine XC.seq ?_
      refine XC.iL (by kernel_rfl) ?_
      refine fX (by kernel_rfl) rfl (Rd.aB 0 rfl rfl) (by decide) ?_
      refine cM rfl (by decide) ?_
      refine XC.iP ?_
      refine XC.norm ?_
      refine XC.ret ?_
      refine XC.norm ?_
      refine XK.still [] [1] [3] (by simp) rfl (by decide) (by decide) fun qf Rc _ hfr=>?_
      obtain⟨Ff,sf,zf⟩:=Rc 1 _ (by simp) rfl
      obtain⟨Av,cv,rfl,rU,Ry⟩:=aE.aJE (Y:=qf.Z) sf zf
      refine XC.jQ (Hs:=[]) rfl rfl fun w1 st=>⟨⟨Av,cv,by simp[mJ],?_,by simpa[mJ] using Ry⟩,st.below (by simp)⟩
      have hlen:(mJ SL).length=SL.length:=by simp[mJ]
      rw[hlen,List.take_length] at rU
      exact aE.le rU (st.jD (by simp) (hfr (by simp) (by simp)))
end
section
set_option maxHeartbeats 4000000
set_option maxRecDepth 20000
def Yf:Value→Value→Bool
 | .int _ a,.int _ b=>a==b
 | .bool a,.bool b=>a==b
 | _,_=>false
def My:List Value→List Value→Bool
 | [],[]=>true
 | x::xs,y::ys=>Yf x y&&My xs ys
 | _,_=>false
def Fs(P:Program):List Field→Nat→List Value→List Value→Bool
 | [],_,[],[]=>true
 | f :: fs, i, x :: xs, y :: ys => f.name != "_" && f.offset == i && (match P.underlying f.type, x, y with
   | some (.int _),.int kx _,.int ky _=>decide (kx=ky)
   | some .bool,.bool _,.bool _=>true
   | _,_,_=>false)&&Fs P fs (i+1) xs ys
 | _,_,_,_=>false
section
variable{P:Program}{w:World}
theorem Vh{t:TypeId}{cs:Array Value}{i:Nat}{v:Value}{d:TypeDesc}(hu:P.underlying t=some d)(hd:(∃k,d=.int k)∨d=.bool)(hx:cs[i]? =some v):(part t cs i).run P w=.ok v w:=by
 rcases hd with⟨k,rfl⟩ | rfl<;>simp[part,isAgg,run_underlying hu,hx]
theorem aCU(d:Nat)(xs ys:Array Value):∀(fs:List Field) (i:Nat),Fs P fs i (xs.toList.drop i) (ys.toList.drop i)=true→(Op.eqFields (d+1) xs ys fs).run P w=.ok (My (xs.toList.drop i) (ys.toList.drop i)) w
 | [], i, h => by
  cases hx:xs.toList.drop i with
  | nil=>cases hy:ys.toList.drop i with
   | nil=>simp[Op.eqFields,My]
   | cons y yr=>rw[hx,hy] at h;simp[Fs] at h
  | cons x xr=>rw[hx] at h;simp[Fs] at h
 | f :: fs, i, h => by
  cases hx:xs.toList.drop i with
  | nil=>rw[hx] at h;simp[Fs] at h
  | cons x xr =>
   cases hy:ys.toList.drop i with
   | nil=>rw[hx,hy] at h;simp[Fs] at h
   | cons y yr =>
    rw[hx,hy] at h
    simp only[Fs,Bool.and_eq_true,bne_iff_ne,beq_iff_eq] at h
    obtain⟨⟨⟨h1,h2⟩,h3⟩,h4⟩:=h
    have ex:xs[i]? =some x:=by
     have:(xs.toList.drop i)[0]? =some x:=by rw[hx];rfl
     simpa using this
    have ey:ys[i]? =some y:=by
     have:(ys.toList.drop i)[0]? =some y:=by rw[hy];rfl
     simpa using this
    have dx:xr=xs.toList.drop (i+1):=by rw[←List.tail_drop,hx];rfl
    have dy:yr=ys.toList.drop (i+1):=by rw[←List.tail_drop,hy];rfl
    subst dx
    subst dy
    have ih:=aCU d xs ys fs (i+1) h4
    have key:∃u,P.underlying f.type=some u∧((∃k,u=.int k)∨u=.bool)∧(Op.equalIn (d+1) f.type x y).run P w=.ok (Yf x y) w:=by
     split at h3
     ·rename_i k kx a ky b hu
      have:=of_decide_eq_true h3
      subst this
      exact⟨_,hu,.inl ⟨_,rfl⟩,run_equalIn_int w d f.type kx _ a b hu⟩
     ·rename_i a b hu
      exact⟨_,hu,.inr rfl,run_equalIn_bool' w d f.type a b hu⟩
     ·cases h3
    obtain⟨u,hu,hk,he⟩:=key
    simp only[Op.eqFields,if_pos h1,Sem.run_bind,h2,Vh hu hk ex,Vh hu hk ey,Result.andThen_ok,he,Sem.run_ite,Sem.run_pure,ih,My]
    cases Yf x y<;>simp
variable{N:bO}{w0:World}{e:Env}{R:List Piece}{H:List HP}{Q:Exit→Act→World→Prop}{ops:Array Oper}{rest:List Oper}
variable{d:Nat}{ty:TypeId}{pos:String}{aF:Array Edge}
def Mv(P:Program)(t:TypeId)(xs ys:List Value):Bool:=(match P.underlying t with
 | some (.struct fs)=>Fs P fs.toList 0 xs ys
 | _=>false)&& !P.stoodInHeld t&& !P.eqGuardType P.depth t
theorem aHH{t:TypeId}{xs ys:List Value}(h:Mv P t xs ys=true):(Op.equal t (.agg xs.toArray) (.agg ys.toArray)).run P w=.ok (My xs ys) w∧∀op x y,(eqGuard op t x y (.agg xs.toArray) (.agg ys.toArray)).run P w=.ok () w:=by
 unfold Mv at h
 simp only[Bool.and_eq_true,Bool.not_eq_true'] at h
 obtain⟨⟨h1,h2⟩,h3⟩:=h
 refine⟨?_,fun op x y=>run_eqGuard_agg w op t x y _ _ h3⟩
 split at h1
 ·rename_i fs hu
  have hf:P.fieldsOf t=fs:=by unfold Program.fieldsOf;rw[hu]
  have:=run_equalIn_struct (P:=P) w 9999 t xs.toArray ys.toArray (by rw[hf];exact hu) h2
  unfold Op.equal Op.maxDepth
  rw[this,hf]
  have:=aCU (P:=P) (w:=w) 9998 xs.toArray ys.toArray fs.toList 0 (by simpa using h1)
  simpa using this
 ·cases h1
end
end
section
set_option maxHeartbeats 4000000
set_option maxRecDepth 20000
structure dJ where
 d:List Bool
 c:List Bool
 l:List Bool
def xA(p:Piece)(x:dJ)(v:Value):Prop:=∃A1 k1 A2 k2 A3 k3,v=.agg #[.slice A1 x.d.length k1,.slice A2 x.c.length k2,.slice A3 x.l.length k3]∧
 aE p 1 A1 x.d.length (aP x.d)∧aE p 1 A2 x.c.length (aP x.c)∧aE p 1 A3 x.l.length (aP x.l)
theorem xA.le{p q:Piece}{x:dJ}{v:Value}(h:xA p x v)(hl:p.Le q):xA q x v:=by
 obtain⟨A1,k1,A2,k2,A3,k3,h0,h1,h2,h3⟩:=h
 exact⟨A1,k1,A2,k2,A3,k3,h0,h1.le hl,h2.le hl,h3.le hl⟩
def Ob(Rl:Value→World→World→Prop)(w:World):Ending→World→Prop:=fun y w'=>(∃v,y=.returned v∧Rl v w w')∧Below w.heap.size w w'
end
section
set_option maxHeartbeats 4000000
set_option maxRecDepth 20000
def xW(l:List Bool)(id:Int)(b:Bool):List Bool:=l.set id.toNat b
theorem aAw(l:List Bool)(id:Int)(b:Bool):(xW l id b).length=l.length:=by simp[xW]
structure dJ.sm(x:dJ):Prop where
 d:x.d.length≤1000000
 c:x.c.length≤1000000
 l:x.l.length≤1000000
theorem aBP(l:List Bool)(k:Nat)(b:Bool):(aP l).set k (.bool b)=aP (l.set k b):=by simp[aP,List.map_set]
theorem aBQ(l:List Bool):(aP l).length=l.length:=by simp[aP]
theorem Nw(l:List Bool):∀u∈aP l,u.oneCell'=true:=by
 intro u hu
 simp only[aP,List.mem_map] at hu
 obtain⟨x,_,rfl⟩:=hu
 rfl
structure eH.ok(p:eH):Prop where
 pr: -9223372036854775808≤p.pr∧p.pr≤9223372036854775807
 msg: -9223372036854775808≤p.msg∧p.msg≤9223372036854775807
 id:0≤p.id∧p.id < 4294967296
 v:0≤p.v∧p.v < 4294967296
end
section
set_option maxHeartbeats 4000000
set_option maxRecDepth 20000
structure oX(p:Piece)(s:aA)(A1:Option Addr)(n1:Nat)(A2:Option Addr)(n2:Nat)(A3:Option Addr)(n3:Nat)(A4:Option Addr)(n4:Nat):Prop where
 qP:gM (eN p) (pV (eN p)) 86 6 A1 n1 s.aD
 dom:gM (eN p) pU 50 3 A2 n2 s.domains
 xS:gM (eN p) tM 88 1 A3 n3 s.aL
 dev:gM (eN p) (oY (eN p)) 38 6 A4 n4 s.aC
section
variable{p q:Piece}{w:World}{s:aA}{A1 A2 A3 A4:Option Addr}{n1 n2 n3 n4:Nat}
theorem oX.le(h:oX p s A1 n1 A2 n2 A3 n3 A4 n4)(hl:p.Le q):oX q s A1 n1 A2 n2 A3 n3 A4 n4:=
 ⟨h.qP.mono (lH hl) (fun _ _=>pV.mono (lH hl)),h.dom.mono (lH hl) (fun _ _ h=>h),h.xS.mono (lH hl) (fun _ _ h=>h),h.dev.mono (lH hl) (fun _ _=>oY.mono (lH hl))⟩
theorem oX.W(h:oX p s A1 n1 A2 n2 A3 n3 A4 n4)(hl:p.Le (all w))(hs:s.small):eI w s A1 n1 A2 n2 A3 n3 A4 n4:=⟨(h.le hl).qP,(h.le hl).dom,(h.le hl).xS,(h.le hl).dev,hs⟩
theorem oX.len(h:oX p s A1 n1 A2 n2 A3 n3 A4 n4):n1=s.aD.length∧n2=s.domains.length∧n3=s.aL.length∧n4=s.aC.length:=by
 obtain⟨⟨_,_,h1,_⟩,⟨_,_,h2,_⟩,⟨_,_,h3,_⟩,⟨_,_,h4,_⟩⟩:=h
 exact⟨h1,h2,h3,h4⟩
theorem zB.P{cs:Array Value}(h:zB (eN p) s cs):∃A1 n1 k1 A2 n2 k2 A3 n3 k3 A4 n4 k4,cs=#[.slice A1 n1 k1,.slice A2 n2 k2,.slice A3 n3 k3,.slice A4 n4 k4]∧oX p s A1 n1 A2 n2 A3 n3 A4 n4:=by
 obtain⟨A1,n1,k1,A2,n2,k2,A3,n3,k3,A4,n4,k4,h0,h1,h2,h3,h4⟩:=h
 exact⟨A1,n1,k1,A2,n2,k2,A3,n3,k3,A4,n4,k4,h0,h1,h2,h3,h4⟩
end
def allM(s:aA)(x y:dJ):List eH:=sG s (List.range s.domains.length) (List.range s.aD.length) (List.range s.aL.length) x.d x.c x.l y.d y.c y.l
def aFV(l:List eH)(v:Value)(w w':World):Prop:=∃A c,v=.slice A l.length c∧aE (fresh w w') 4 A l.length (l.flatMap eH.cells)∧l.length≤c
theorem aHm{q qx qy:Piece}{s:aA}{A1 A2 A3 A4:Option Addr}{n1 k1 n2 k2 n3 k3 n4 k4:Nat}{x y:dJ}{v1 v2:Value}{w:World}(hS:oX q s A1 n1 A2 n2 A3 n3 A4 n4)(hm:s.made)(hq:q.Le (all w))(hx:xA qx x v1)(Cj:qx.Le (all w))(hy:xA qy y v2)(hqy:qy.Le (all w)):
  Calls Tryz.prog 278 #[.agg #[.slice A1 n1 k1,.slice A2 n2 k2,.slice A3 n3 k3,.slice A4 n4 k4],v1,v2] w (Ob (aFV (allM s x y)) w):=by
 obtain⟨o1,o2,o3⟩:=aAM hm
 obtain⟨rfl,rfl,rfl,rfl⟩:=hS.len
 obtain⟨B1,b1,B2,b2,B3,b3,rfl,hx1,rQ,hx3⟩:=hx
 obtain⟨C1,c1,C2,c2,C3,c3,rfl,hy1,zX,hy3⟩:=hy
 have h1:=hm.nc
 have h2:=hm.nd
 have h:=aHl s A1 A2 A3 A4 B1 B2 B3 C1 C2 C3 _ k1 _ k2 _ k3 _ k4 _ b1 _ b2 _ b3 _ c1 _ c2 _ c3 x.d x.c x.l y.d y.c y.l w (hS.W hq (Qo hm)) (Wg hm) (by rw[o2];simp;omega) (by rw[o1];simp;omega)
  (fun i hi=>by rw[o2] at hi;have:=List.mem_range.1 hi;omega) (fun i hi=>by rw[o1] at hi;have:=List.mem_range.1 hi;omega)
  (hx1.le Cj) rfl (hy1.le hqy) rfl (rQ.le Cj) rfl (zX.le hqy) rfl (hx3.le Cj) rfl (hy3.le hqy) rfl
 rw[o1,o2] at h
 have hL:sG s ((0:Int),List.range s.domains.length).2 ((0:Int),List.range s.aD.length).2 (List.range s.aL.length) x.d x.c x.l y.d y.c y.l=allM s x y:=rfl
 rw[hL] at h
 clear hL
 generalize allM s x y=L at h⊢
 refine Calls.mono h ?_
 rintro z w' ⟨⟨A,c,hz,hs,hc⟩,hb⟩
 exact⟨⟨_,hz,⟨A,c,rfl,hs,hc⟩⟩,hb⟩
end
section
set_option maxHeartbeats 4000000
set_option maxRecDepth 20000
theorem gM.vY{α:Type}{p:Piece}{R:α→List Value→Prop}{t:TypeId}{sz n:Nat}{A:Option Addr}{es:List α}(h:gM (eN p) R t sz A n es){k:Nat}{e:α}(hk:es[k]? =some e):
  ∃b off r,A=some ⟨b,off,none⟩∧p.Z b∧r.length=sz∧R e r∧∀f u,r[f]? =some u→p.w.cell? ⟨b,off+k*sz+f,none⟩=some u:=by
 obtain⟨rows,h1,h2,h3⟩:=h
 have hlt:k < n:=by
  rw[h2]
  rcases Nat.lt_or_ge k es.length with h | h
  ·exact h
  ·rw[List.getElem?_eq_none h] at hk;cases hk
 obtain⟨b,off,hA,hb,hc⟩:=aE.at_ h3 hlt
 obtain⟨r,h4,h5,h6⟩:=h1.get hk
 refine⟨b,off,r,hA,hb,h4,h5,fun f u hu=>hc f u ?_⟩
 have hf:f < sz:=by
  rw[←h4]
  rcases Nat.lt_or_ge f r.length with h | h
  ·exact h
  ·rw[List.getElem?_eq_none h] at hu;cases hu
 rw[h6 f hf,hu]
theorem aKf{p:eH}{pr msg:Int}{val:Nat→Int}{ids:List Nat}(h:p∈kW pr msg val ids):∃i∈ids,p=⟨pr,msg,i,val i⟩:=by
 simp only[kW,List.mem_map] at h
 obtain⟨i,hi,rfl⟩:=h
 exact⟨i,hi,rfl⟩
theorem aIr(s:aA)(k:Nat):vZ s k=0∨vZ s k=2:=by unfold vZ;split<;>simp
theorem Ks{pr msg:Int}{val:Nat→Int}{ids:List Nat}(h1:pr=17∨pr=20∨pr=22)(h2:msg=4∨msg=7)(hv:∀k,val k=0∨val k=1∨val k=2)(hi:∀i∈ids,i < 1000):∀p∈kW pr msg val ids,p.ok:=by
 intro p hp
 obtain⟨i,hi',rfl⟩:=aKf hp
 have h3:=hi i hi'
 have h4:=hv i
 exact⟨by dsimp only;omega,by dsimp only;omega,by dsimp only;omega,by dsimp only;omega⟩
theorem aOB{s:aA}(hm:s.made)(x y:dJ):∀p∈allM s x y,p.ok:=by
 have h1:=hm.nc
 have h2:=hm.nd
 have h3:=hm.nr
 have mr:∀(n:Nat) (fr to:List Bool),n≤9→∀i∈fA (List.range n) fr to,i < 1000:=fun n fr to hn i hi=>by have:=List.mem_range.1 (List.mem_filter.1 hi).1;omega
 have mv:∀(n:Nat) (fr to:List Bool),n≤9→∀i∈fA (List.range n).reverse fr to,i < 1000:=fun n fr to hn i hi=>by have:=List.mem_range.1 (List.mem_reverse.1 (List.mem_filter.1 hi).1);omega
 intro p hp
 simp only[allM,sG,List.mem_append] at hp
 rcases hp with hp | hp | hp | hp | hp | hp
 ·exact Ks (by omega) (by omega) (fun _=>by omega) (mr _ _ _ (by omega)) p hp
 ·exact Ks (by omega) (by omega) (fun _=>by omega) (mr _ _ _ (by omega)) p hp
 ·exact Ks (by omega) (by omega) (fun _=>by omega) (mr _ _ _ (by omega)) p hp
 ·exact Ks (by omega) (by omega) (fun _=>by omega) (mr _ _ _ (by omega)) p hp
 ·exact Ks (by omega) (by omega) (fun _=>by omega) (mv _ _ _ (by omega)) p hp
 ·exact Ks (by omega) (by omega) (fun k=>by have:=aIr s k;omega) (mv _ _ _ (by omega)) p hp
end
section
set_option maxHeartbeats 4000000
set_option maxRecDepth 20000
structure dJ.of(x:dJ)(s:aA):Prop where
 d:x.d.length=s.domains.length
 c:x.c.length=s.aD.length
 l:x.l.length=s.aL.length
end
section
set_option maxHeartbeats 4000000
set_option maxRecDepth 20000
structure AL where
 d:Nat
 t:TypeId
 cs:List Value
 val:Nat→Value
def nO(al:Nat→AL)(g:Nat→Nat)(ds:List Nat)(e:Env):Env:=ds.map (fun i=>((al i).d,(al i).val (g i)))++e
def pK(al:Nat→AL)(g:Nat→Nat)(ds:List Nat)(H:List HP):List HP:=ds.map (fun i=>HP.aB (g i) (al i).t (al i).cs)++H
def iN(ds:List Nat)(l:Array Bool):Array Bool:=ds.foldr (fun i a=>a.setIfInBounds i true) l
def Hf:List Nat→List (List Nat)
 | []=>[[]]
 | i::l=>(Hf l).map (i:: ·)++Hf l
theorem Kq(p:Nat→Bool):∀l:List Nat,l.filter p∈Hf l
 | []=>by simp[Hf]
 | i::l=>by
  unfold Hf
  rw[List.filter_cons]
  split
  ·exact List.mem_append_left _ (List.mem_map_of_mem (Kq p l))
  ·exact List.mem_append_right _ (Kq p l)
def aIP(ops:Array Oper)(idx:List Nat)(ex:List (List Nat))(listed:Array Bool):Bool:=
 (Hf idx).all fun sub=>ex.contains sub||(!(Region.ready .any ops (iN sub listed)).isEmpty&&(Region.ready .any ops (iN sub listed)).all fun j=>idx.contains j&& !sub.contains j)
theorem Wf{l1 l2:List Nat}(h:l1.Perm l2)(l:Array Bool):iN l1 l=iN l2 l:=by
 induction h with
 | nil=>rfl
 | cons x _ ih=>show(iN _ l).setIfInBounds x true=_;rw[ih];rfl
 | swap x y s=>
  show((iN s l).setIfInBounds x true).setIfInBounds y true=((iN s l).setIfInBounds y true).setIfInBounds x true
  by_cases hxy:x=y
  ·rw[hxy]
  ·exact Array.setIfInBounds_comm _ _ hxy
 | trans _ _ h1 h2=>exact h1.trans h2
section
variable{P:Program}{N:bO}{w0 w:World}{e:Env}{R R0:List Piece}{H H0:List HP}{Q:Exit→Act→World→Prop}{ops:Array Oper}{m fuel:Nat}{listed:Array Bool}{K:Act→World→Prop}
variable{al:Nat→AL}{g g':Nat→Nat}
theorem Ya(k:Nat)(v:Value)(e:Env)(t:Nat):Env.get ((k,v)::e) t=if k=t then some v else e.get t:=by
 show(match Nat.beq k t with | true=>some v | false=>Env.get e t)=_
 by_cases h:k=t
 ·subst h;rw[if_pos rfl,Nat.beq_refl]
 ·rw[if_neg h]
  cases hb:Nat.beq k t with
  | true=>exact absurd (Nat.eq_of_beq_eq_true hb) h
  | false=>rfl
theorem aEU{l1 l2:List Nat}(h:l1.Perm l2)(hn:(l1.map fun i=>(al i).d).Nodup)(t:Nat):(nO al g l1 e).get t=(nO al g l2 e).get t:=by
 induction h with
 | nil=>rfl
 | cons x _ ih=>
  show Env.get ((_,_)::nO al g _ e) t=Env.get ((_,_)::nO al g _ e) t
  rw[Ya,Ya,ih (List.nodup_cons.1 (show((al x).d::List.map (fun i=>(al i).d) _).Nodup from hn)).2]
 | swap x y s=>
  show Env.get ((_,_)::(_,_)::nO al g s e) t=Env.get ((_,_)::(_,_)::nO al g s e) t
  have hne:(al y).d≠(al x).d:=fun he=>(List.nodup_cons.1 (show((al y).d::(al x).d::List.map (fun i=>(al i).d) s).Nodup from hn)).1 (by rw[he];exact List.mem_cons_self)
  simp only[Ya]
  by_cases h1:(al x).d=t
  ·rw[if_pos h1,if_neg (fun h2=>hne (h2.trans h1.symm)),if_pos h1]
  ·rw[if_neg h1,if_neg h1]
 | trans h1 h2 i1 i2=>exact(i1 hn).trans (i2 ((h1.map _).nodup_iff.1 hn))
theorem aEo{l1 l2:List Nat}(h:l1.Perm l2):∀pre:List HP,St w0 R (pre++pK al g l1 H) w→St w0 R (pre++pK al g l2 H) w:=by
 induction h with
 | nil=>exact fun _ h=>h
 | cons x _ ih=>
  intro pre st
  have:=ih (pre++[HP.aB (g x) (al x).t (al x).cs]) (by rw[List.append_assoc];exact st)
  rw[List.append_assoc] at this
  exact this
 | swap x y s =>
  intro pre st
  refine st.weak (fun _ hp=>hp) (fun i=>if i=pre.length then pre.length+1 else if i=pre.length+1 then pre.length else i) (fun i j _ _ he=>?_) (fun i p hi=>?_)
  ·split at he<;>split at he<;>(try split at he)<;>(try split at he)<;>omega
  ·change (pre++HP.aB (g x) (al x).t (al x).cs::HP.aB (g y) (al y).t (al y).cs::pK al g s H)[i]? =some p at hi
   show(pre++HP.aB (g y) (al y).t (al y).cs::HP.aB (g x) (al x).t (al x).cs::pK al g s H)[_]? =some p
   rcases Nat.lt_or_ge i pre.length with h | h
   ·rw[if_neg (by omega),if_neg (by omega),List.getElem?_append_left h]
    rwa [List.getElem?_append_left h] at hi
   ·obtain⟨k,rfl⟩:∃k,i=pre.length+k:=⟨i - pre.length,by omega⟩
    rw[List.getElem?_append_right (by omega),Nat.add_sub_cancel_left] at hi
    match k,hi with
    | 0,hi=>
     rw[if_pos (by omega),List.getElem?_append_right (by omega),Nat.add_sub_cancel_left]
     exact hi
    | 1,hi=>
     rw[if_neg (by omega),if_pos rfl,List.getElem?_append_right (by omega),Nat.sub_self]
     exact hi
    | k+2,hi=>
     rw[if_neg (by omega),if_neg (by omega),List.getElem?_append_right (by omega),Nat.add_sub_cancel_left]
     exact hi
 | trans _ _ i1 i2=>exact fun pre st=>i2 pre (i1 pre st)
def Zc(P:Program)(N:bO)(e:Env)(o:Oper)(x:AL):Prop:=∀a w,dM N e a→(execOp a.eval o).run P w=.ok (.value (x.val w.heap.size)) (w.alloc (.cells x.cs.toArray x.t))
theorem aDP{t ty:TypeId}{d:Nat}{pos:String}{aF:Array Edge}{cs:List Value}(ht:Br P t cs):Zc P N e ⟨some d,.alloc t,ty,pos,aF,none⟩ ⟨d,t,cs,fun g=>.pointer (some ⟨g,0,none⟩)⟩:=fun a w hr=>by
 obtain⟨i,z,hi,hz,rfl⟩:=ht
 simp[execOp,Instr.alloc,zeroValue,typeInfo,hi,hz,newVar,newRow]
theorem wC(bytes:Nat){x y:Operand}{t el ty:TypeId}{d n:Nat}{z:Value}{pos:String}{aF:Array Edge}{kd qI:IntKind}(ht:P.underlying t=some (.slice el))(hT:(P.info? el).map (fun i=>(i.zero,i.size,i.bytes))=some (some z,1,bytes))(Qt:z.cells=#[z])(hx:e.ev x=some (.int kd (n:Int)))(hy:e.ev y=some (.int qI (n:Int)))
  (hb:bytes*n≤281474976710656) (hn:(n:Int)≤9223372036854775807):Zc P N e ⟨some d,.makeSlice t x y,ty,pos,aF,none⟩ ⟨d,el,List.replicate n z,fun g=>.slice (some ⟨g,0,none⟩) n n⟩:=fun a w hr=>by
 obtain⟨i,hi,he⟩:=Option.map_eq_some_iff.1 hT
 simp only[Prod.mk.injEq] at he
 obtain⟨h1,h2,rfl⟩:=he
 have:=run_make (P:=P) w t el i z ht hi h1 kd qI n n (by omega) (Int.le_refl _) (by rw[←Int.natCast_mul];omega) hn
 have hm:madeCells z.cells (n*i.size)=(List.replicate n z).toArray:=by
  rw[h2,Nat.mul_one,Qt]
  unfold madeCells
  apply Array.ext
  ·simp
  ·intro j h1 h2
   simp
   rw[Nat.mod_one]
   rfl
 simp only[Int.toNat_natCast,hm] at this
 simp only[execOp,hr.ev hx,hr.ev hy,Sem.run_bind,this,Result.andThen_ok,Sem.run_pure]
structure pW(P:Program)(N:bO)(ops:Array Oper)(e:Env)(x:AL)(i:Nat):Prop where
 ok:∃o,ops[i]? =some o∧o.guard=none∧o.dst=some x.d∧Zc P N e o x
 lt:x.d < N.n
 new:e.get x.d=none
theorem pW.of{o:Oper}{x:AL}{i:Nat}(h1:ops[i]? =some o)(h2:o.guard=none)(h3:o.dst=some x.d)(h4:Zc P N e o x)(h5:x.d < N.n)(h6:e.get x.d=none):pW P N ops e x i:=⟨⟨o,h1,h2,h3,h4⟩,h5,h6⟩
theorem aMv{ds:List Nat}(hn:∀i∈ds,e.get (al i).d=none){t:Nat}{v:Value}(h:e.get t=some v):(nO al g ds e).get t=some v:=by
 induction ds with
 | nil=>exact h
 | cons i ds ih=>
  show Env.get ((_,_)::nO al g ds e) t=some v
  rw[Ya,if_neg (fun he=>by have:=hn i (by simp);rw[he,h] at this;cases this)]
  exact ih fun j hj=>hn j (by simp[hj])
theorem dM.aMw{a:Act}{ds:List Nat}(hn:∀i∈ds,e.get (al i).d=none)(h:dM N (nO al g ds e) a):dM N e a:=⟨h.size,h.defers,fun t v ht=>h.get t v (aMv hn ht)⟩
theorem St.unA{ds:List Nat}(h:St w0 R (pK al g ds H) w):St w0 R H w:=h.weak (fun _ hp=>hp) (fun i=>i+ds.length) (fun i j _ _ he=>by omega) (fun i p hi=>by
 show(ds.map _++H)[i+ds.length]? =some p
 rw[List.getElem?_append_right (by simp)]
 simpa using hi)
theorem XA.Yx(idx:List Nat)(ex:List (List Nat))(al:Nat→AL)(hok:∀i∈idx,pW P N ops e (al i) i)(hd:(idx.map fun i=>(al i).d).Nodup)(hr:aIP ops idx ex listed=true)(hS:∀w,St w0 R H w→St w0 R0 H0 w)
  (k:∀sub∈Hf idx,ex.contains sub=true→∀g:Nat→Nat,XA P N w0 ops Q R0 H0 m (fuel+(idx.length - sub.length)) (iN sub listed) (nO al g sub e) R (pK al g sub H)):XA P N w0 ops Q R0 H0 m (fuel+idx.length) listed e R H:=by
 have hni:idx.Nodup:=(List.pairwise_map.1 hd).imp fun h e=>h (by rw[e])
 have key:∀(n:Nat) (ds:List Nat) (g:Nat→Nat),ds.Nodup→(∀i∈ds,i∈idx)→ds.length+n=idx.length→XA P N w0 ops Q R0 H0 m (fuel+n) (iN ds listed) (nO al g ds e) R (pK al g ds H):=by
  intro n
  induction n with
  | zero =>
   intro ds g hn hin hl
   have Ah:(idx.filter fun i=>ds.contains i).Perm ds:=by
    rw[List.perm_iff_count]
    intro a
    rw[(hni.sublist List.filter_sublist).count,hn.count]
    by_cases ha:a∈ds
    ·rw[if_pos ha,if_pos (by simp[ha,hin a ha])]
    ·rw[if_neg ha,if_neg (by simp[ha])]
   have hlen:=Ah.length_eq
   have heq:(idx.filter fun i=>ds.contains i)=idx:=List.filter_sublist.eq_of_length (by omega)
   have dH:=List.all_eq_true.1 hr _ (Kq (fun i=>ds.contains i) idx)
   rw[Bool.or_eq_true] at dH
   rcases dH with hc | hc
   ·have h:=k _ (Kq _ idx) hc g
    rw[Wf Ah,show fuel+(idx.length - (idx.filter fun i=>ds.contains i).length)=fuel+0 by omega] at h
    exact fun up a w bT st=>h up a w ⟨bT.size,bT.defers,fun t v ht=>bT.get t v (by rw[←aEU Ah (by rw[heq];exact hd)];exact ht)⟩ (aEo Ah.symm [] st)
   ·exfalso
    rw[Bool.and_eq_true,List.all_eq_true] at hc
    obtain⟨h1,h2⟩:=hc
    rw[heq] at h1 h2
    cases hrd:Region.ready .any ops (iN idx listed) with
    | nil=>rw[hrd] at h1;cases h1
    | cons j js=>
     rw[hrd] at h2
     have:=h2 j (by simp)
     simp at this
  | succ n ih =>
   intro ds g hn hin hl
   have Ah:(idx.filter fun i=>ds.contains i).Perm ds:=by
    rw[List.perm_iff_count]
    intro a
    rw[(hni.sublist List.filter_sublist).count,hn.count]
    by_cases ha:a∈ds
    ·rw[if_pos ha,if_pos (by simp[ha,hin a ha])]
    ·rw[if_neg ha,if_neg (by simp[ha])]
   have hlen:=Ah.length_eq
   have dH:=List.all_eq_true.1 hr _ (Kq (fun i=>ds.contains i) idx)
   rw[Bool.or_eq_true] at dH
   rcases dH with hc | hc
   ·have h:=k _ (Kq _ idx) hc g
    rw[Wf Ah,show fuel+(idx.length - (idx.filter fun i=>ds.contains i).length)=fuel+(n+1) by omega] at h
    have hnd:((idx.filter fun i=>ds.contains i).map fun i=>(al i).d).Nodup:=hd.sublist (List.filter_sublist.map _)
    exact fun up a w bT st=>h up a w ⟨bT.size,bT.defers,fun t v ht=>bT.get t v (by rw[←aEU Ah hnd];exact ht)⟩ (aEo Ah.symm [] st)
   ·rw[Bool.and_eq_true,List.all_eq_true,Wf Ah] at hc
    obtain⟨h1,h2⟩:=hc
    intro up a w bT st
    show Gv P ops Q (St w0 R0 H0) m ((fuel+n)+1) (iN ds listed) a w
    refine⟨(fun h=>by rw[h] at h1;exact absurd h1 (by decide)),fun j hj=>?_⟩
    have hj2:=h2 j hj
    simp only[Bool.and_eq_true,Bool.not_eq_true',List.contains_eq_mem,decide_eq_true_eq,decide_eq_false_iff_not,List.mem_filter,not_and] at hj2
    have hjd:j∉ds:=hj2.2 hj2.1
    obtain⟨⟨o,ho,hog,hod,hmk⟩,hlt,hnew⟩:=hok j hj2.1
    have hrun:=hmk a w (bT.aMw fun i hi=>(hok i (hin i hi)).new)
    let g':Nat→Nat:=fun i=>if i=j then w.heap.size else g i
    have Rq:nO al g' (j::ds) e=((al j).d,(al j).val w.heap.size)::nO al g ds e:=by
     show((al j).d,(al j).val (g' j))::(ds.map _++e)=_
     rw[show g' j=w.heap.size from if_pos rfl]
     congr 1
     unfold nO
     congr 1
     refine List.map_congr_left fun i hi=>?_
     rw[show g' i=g i from if_neg (fun he:i=j=>hjd (he▸hi))]
    have Ap:pK al g' (j::ds) H=HP.aB w.heap.size (al j).t (al j).cs::pK al g ds H:=by
     show HP.aB (g' j) _ _::(ds.map _++H)=_
     rw[show g' j=w.heap.size from if_pos rfl]
     congr 1
     unfold pK
     congr 1
     refine List.map_congr_left fun i hi=>?_
     rw[show g' i=g i from if_neg (fun he:i=j=>hjd (he▸hi))]
    have st':St w0 R (pK al g' (j::ds) H) (w.alloc (.cells (al j).cs.toArray (al j).t)):=by
     rw[Ap]
     exact st.new (Ny w _) (aED w _ _)
    have h:=ih (j::ds) g' (List.nodup_cons.2 ⟨hjd,hn⟩) (fun i hi=>by
     rcases List.mem_cons.1 hi with rfl | hi
     ·exact hj2.1
     ·exact hin i hi) (by simp only[List.length_cons];omega)
    rw[Rq] at h
    have yG:=h (up.jK hj) (a.put (some (al j).d) ((al j).val w.heap.size)) _ (bT.put hlt _) st'
    unfold wpOp
    simp only[ho]
    have hw:Region.wanted o (yielded ops a.tmps)=true:=by simp[Region.wanted,hog]
    simp only[hw,if_true,Oper.wp,hrun,Oper.upon,hod]
    exact .inl ⟨fun _=>hS _ st'.unA,yG⟩
 have:=key idx.length [] (fun _=>0) List.nodup_nil (fun i hi=>by cases hi) (by simp)
 exact this
end
end
section
set_option maxHeartbeats 4000000
set_option maxRecDepth 20000
def qQ(s:aA):Nat→Nat→List Nat
 | 0,_=>[]
 | k + 1, c => match s.aD[c]? with
  | some x=>c::(match x.src with
   | []=>[]
   | f::_=>qQ s k f.toNat)
  | none=>[]
def kQ(s:aA)(c:Nat):List Nat:=qQ s s.aD.length c
theorem aFz(s:aA):∀(k c:Nat),∀i∈qQ s k c,i < s.aD.length
 | 0,c,i,h=>by simp[qQ] at h
 | k + 1, c, i, h => by
  unfold qQ at h
  cases hc:s.aD[c]? with
  | none=>rw[hc] at h;simp at h
  | some x =>
   rw[hc] at h
   dsimp only at h
   have hlt:=(List.getElem?_eq_some_iff.1 hc).1
   cases hs:x.src with
   | nil=>rw[hs] at h;simp at h;omega
   | cons f fs=>
    rw[hs] at h
    rcases List.mem_cons.1 h with rfl | h
    ·exact hlt
    ·exact aFz s k _ i h
theorem Yo(s:aA):∀(k c:Nat),(qQ s k c).length≤k
 | 0,c=>by simp[qQ]
 | k + 1, c => by
  unfold qQ
  split
  ·rename_i x hx
   split
   ·simp
   ·rename_i f fs hs
    have:=Yo s k f.toNat
    simp only[List.length_cons]
    omega
  ·simp
theorem aNV{s:aA}{k c:Nat}{x:dV}(h:s.aD[c]? =some x):qQ s (k+1) c=c::(match x.src with
      | []=>[]
      | f::_=>qQ s k f.toNat):=by
  show(match s.aD[c]? with | some x=>_ | none=>_)=_
  rw[h]
def Uz(s:aA):Nat→Nat→List Nat
 | 0,_=>[]
 | k+1,d=>match s.domains[d]? with
  | some x=>d::(if x.above= -1 then[] else Uz s k x.above.toNat)
  | none=>[]
def Gw(s:aA)(d:Nat):List Nat:=Uz s (d+1) d
def Uf(s:aA):Int→List Nat→Prop
 | d,[]=>d= -1
 | d,i::r=>d=(i:Int)∧∃x,s.domains[i]? =some x∧Uf s x.above r
theorem aCD{s:aA}(hm:s.made):∀(k d:Nat),d < k→d < s.domains.length→Uf s d (Uz s k d)
 | k + 1, d, hk, hd => by
  have hx:s.domains[d]? =some (s.domains[d]'hd):=List.getElem?_eq_getElem _
  have hf:=(hm.domains d _ hx).1
  show Uf s d (match s.domains[d]? with | some x=>d::(if x.above= -1 then[] else Uz s k x.above.toNat) | none=>[])
  rw[hx]
  refine⟨rfl,_,hx,?_⟩
  by_cases h1:(s.domains[d]'hd).above= -1
  ·rw[if_pos h1];exact h1
  ·rw[if_neg h1]
   have h2:((s.domains[d]'hd).above.toNat:Int)=(s.domains[d]'hd).above:=by omega
   have:=aCD hm k (s.domains[d]'hd).above.toNat (by omega) (by omega)
   rwa [h2] at this
theorem aGS{s:aA}(hm:s.made){d:Nat}(hd:d < s.domains.length):Uf s d (Gw s d):=aCD hm _ _ (by omega) hd
def tA(ids:List Nat)(l:List Bool):List Bool:=ids.foldl (fun d (i:Nat)=>xW d (i:Int) true) l
theorem aAx(ids:List Nat)(l:List Bool):(tA ids l).length=l.length:=by
 unfold tA
 induction ids generalizing l with
 | nil=>rfl
 | cons i ids ih=>rw[List.foldl_cons,ih,aAw]
def vV(s:aA)(i:Nat):Bool:=match s.aD[i]? with
 | some c=>decide (c.kind=112∨c.kind=103)
 | none=>false
def iB(s:aA):dJ:=⟨List.replicate s.domains.length false,List.replicate s.aD.length false,List.replicate s.aL.length false⟩
def Kk(s:aA)(w:dJ)(x:bK):dJ:=⟨tA (Gw s x.domain.toNat) w.d,tA ((kQ s x.clock.toNat).filter (vV s)) w.c,xW w.l x.reset true⟩
def lQ(s:aA)(act:List Bool):Nat→dJ
 | 0=>iB s
 | j+1=>if hasB act j then(match s.aC[j]? with
  | some x=>Kk s (lQ s act j) x
  | none=>lQ s act j) else lQ s act j
def fP(s:aA)(act:List Bool):dJ:=lQ s act s.aC.length
theorem Uy(s:aA)(act:List Bool):∀j,(lQ s act j).of s
 | 0=>⟨by simp[lQ,iB],by simp[lQ,iB],by simp[lQ,iB]⟩
 | j + 1 => by
  have ih:=Uy s act j
  unfold lQ
  split
  ·split
   ·exact⟨by rw[Kk,aAx];exact ih.d,by rw[Kk,aAx];exact ih.c,by rw[Kk,aAw];exact ih.l⟩
   ·exact ih
  ·exact ih
theorem aGF{s:aA}{act:List Bool}{j:Nat}{x:bK}(hx:s.aC[j]? =some x)(ha:hasB act j=true):lQ s act (j+1)=Kk s (lQ s act j) x:=by
 show(if hasB act j then _ else _)=_
 rw[if_pos ha,hx]
theorem aGE{s:aA}{act:List Bool}{j:Nat}(ha:hasB act j=false):lQ s act (j+1)=lQ s act j:=by
 show(if hasB act j then _ else _)=_
 rw[if_neg (by rw[ha];decide)]
end
section
set_option maxHeartbeats 4000000
set_option maxRecDepth 20000
structure aA.cI(s:aA):Prop where
 t:s.uL
 domains:Fits Dom.fit s.domains
 aL:∀r∈s.aL,0≤r∧r≤3
theorem aA.made.cI{s:aA}(h:s.made):s.cI:=⟨h.uL,h.domains,h.aL⟩
structure dY where
 on:Bool
 left:Int
def vD(c:dV):dY:=⟨false,if c.kind=112 then c.lock else 0⟩
def byF(c:dV):Int:=if c.kind=100 then c.div else 0
def vS(c:dV)(x:dY):Bool:=if c.kind=112 then x.on&&decide (x.left=0) else if c.kind=103 then x.on else true
def upK(s:aA)(st:List dY)(i:Nat):Bool:=match s.aD[i]?,st[i]? with
 | some c,some x=>vS c x
 | _,_=>false
def runs(s:aA)(st:List dY)(i:Nat):Bool:=(kQ s i).all (upK s st)
theorem aBN{s:aA}(hf:Fits dV.fit s.aD):∀(c k:Nat),c < k→qQ s k c=qQ s (c+1) c:=by
 intro c
 induction c using Nat.strongRecOn with
 | _ c ih =>
  intro k hk
  obtain⟨k,rfl⟩:=Nat.exists_eq_add_of_lt hk
  rw[show c+k+1=(c+k)+1 from rfl]
  unfold qQ
  cases hc:s.aD[c]? with
  | none=>rfl
  | some x =>
   dsimp only
   cases hs:x.src with
   | nil=>rfl
   | cons f fs=>
    have hfit:=(hf c x hc).1 f (by rw[hs];simp)
    have h1:f.toNat < c:=by omega
    dsimp only
    rw[ih f.toNat h1 (c+k) (by omega),ih f.toNat h1 c h1]
theorem aNW{s:aA}(hf:Fits dV.fit s.aD){i:Nat}{c:dV}(hc:s.aD[i]? =some c):kQ s i=i::(match c.src with
  | []=>[]
  | f::_=>kQ s f.toNat):=by
 have hlt:i < s.aD.length:=(List.getElem?_eq_some_iff.1 hc).1
 unfold kQ
 rw[aBN hf i _ hlt]
 rw[qQ,hc]
 dsimp only
 cases hs:c.src with
 | nil=>rfl
 | cons f fs=>
  have hfit:=(hf i c hc).1 f (by rw[hs];simp)
  dsimp only
  rw[aBN hf f.toNat i (by omega),aBN hf f.toNat s.aD.length (by omega)]
theorem aH6{s:aA}(hf:Fits dV.fit s.aD){st:List dY}{i:Nat}{c:dV}{x:dY}(hc:s.aD[i]? =some c)(hx:st[i]? =some x):runs s st i=(vS c x&&(match c.src with
  | []=>true
  | f::_=>runs s st f.toNat)):=by
 unfold runs
 rw[aNW hf hc,List.all_cons]
 have:upK s st i=vS c x:=by unfold upK;rw[hc,hx]
 rw[this]
 cases c.src<;>rfl
def bE(n:Nat)(i:Int):Bool:=decide (0≤i∧i < (n:Int))
def rM(s:aA)(st:List dY)(i:Int):Bool:=bE s.aD.length i&&runs s st i.toNat
def Qg(c:dV)(x:dY)(b:Bool):dY:=⟨b,if c.kind=112∧b=false then c.lock else x.left⟩
def jY(s:aA)(st:List dY)(i:Int)(b:Bool):Int×List dY:=
 if bE s.aD.length i=false then(4,st) else match s.aD[i.toNat]?,st[i.toNat]? with
 | some c,some x=>if c.kind≠112∧c.kind≠103 then(1,st) else(0,st.set i.toNat (Qg c x b))
 | _,_=>(4,st)
def aCJ(c:dV):Nat:=(c.src.headD 0).toNat
def xQ(s:aA)(st:List dY)(c:dV)(x:dY):dY:=
 if c.kind=112∧x.on=true then(if runs s st (aCJ c)=false then⟨true,c.lock⟩ else if 0 < x.left then⟨true,x.left - 1⟩ else x) else x
def kV(s:aA)(st:List dY):List dY:=List.zipWith (xQ s st) s.aD st
structure nT(s:aA)(st:List dY):Prop where
 len:st.length=s.aD.length
 left:∀x∈st,0≤x.left∧x.left≤3
structure eZ where
 phase:Int
 left:Int
 kept:Bool
 keep:Bool
def vA:eZ:=⟨48,0,false,false⟩
def Nc(x:eZ):Bool:=decide (x.phase=48∨x.phase=116)
def qB(st:List eZ)(d:Int):Int:=if bE st.length d then(st[d.toNat]?.map (·.phase)).getD 0 else 0
def Uc(st:List eZ)(a:Int):Bool:=decide (a= -1)||decide ((st[a.toNat]?.map (·.phase)).getD 0=49)
def sU(s:aA)(st:List eZ)(d:Int):Int×List eZ:=
 if bE st.length d=false then(4,st) else match s.domains[d.toNat]?,st[d.toNat]? with
 | some c,some x=>if Nc x=false∨Uc st c.above=false then(6,st) else(0,st.set d.toNat ⟨114,c.delay,decide (x.phase=116),x.keep⟩)
 | _,_=>(4,st)
def Fo(d:Int)(c:Dom)(x:eZ):Bool:=decide (c.above=d)&& !Nc x
def Fm(s:aA)(st:List eZ)(d:Int):Bool:=(List.zipWith (Fo d) s.domains st).any id
def uZ(s:aA)(st:List eZ)(d:Int)(keep:Bool):Int×List eZ:=
 if bE st.length d=false then(4,st) else match s.domains[d.toNat]?,st[d.toNat]? with
 | some c,some x=>if x.phase≠49 then(6,st) else if keep=true∧c.ret=false then(1,st) else if Fm s st d then(7,st) else(0,st.set d.toNat ⟨99,x.left,x.kept,keep⟩)
 | _,_=>(4,st)
def gX(x:eZ):Int×eZ:=
 if x.phase=114 then(if 0 < x.left then(0,⟨114,x.left - 1,x.kept,x.keep⟩) else(if x.kept then 114 else 110,⟨104,x.left,x.kept,x.keep⟩))
 else if x.phase=104 then(111,⟨49,x.left,x.kept,x.keep⟩)
 else if x.phase=99 then(if x.keep then(115,⟨116,x.left,x.kept,x.keep⟩) else(108,⟨48,x.left,x.kept,x.keep⟩))
 else(0,x)
def jE(st:List eZ)(n:Nat):List (Int×Nat):=(List.range n).filterMap fun i=>(st[i]?).bind fun x=>if(gX x).1=0 then none else some ((gX x).1,i)
def nW(st:List eZ):List eZ:=st.map fun x=>(gX x).2
structure rA(s:aA)(st:List eZ):Prop where
 len:st.length=s.domains.length
 left:∀x∈st,0≤x.left∧x.left≤3
 phase:∀x∈st,0≤x.phase∧x.phase < 256
structure iK where
 left:Int
 held:Bool
 wanted:Bool
def oN:iK:=⟨0,true,false⟩
def Fh(st:List iK)(i:Int):Bool:= !bE st.length i||(st[i.toNat]?.map (·.held)).getD true
def pQ(s:aA)(st:List iK)(i:Int):Int×List iK:=
 if bE st.length i=false then(4,st) else(0,st.set i.toNat ⟨(s.aL[i.toNat]?).getD 0,true,false⟩)
def uI(st:List iK)(i:Int):Int×List iK:=
 if bE st.length i=false then(4,st) else match st[i.toNat]? with
 | some x=>if x.held=false then(6,st) else(0,st.set i.toNat ⟨x.left,x.held,true⟩)
 | none=>(4,st)
def lF(x:iK):iK:=if x.held=false then x else if 0 < x.left then⟨x.left - 1,x.held,x.wanted⟩ else if x.wanted then⟨x.left,false,false⟩ else x
def Dz(st:List iK):List iK:=st.map lF
structure Bl(s:aA)(st:List iK):Prop where
 len:st.length=s.aL.length
 left:∀x∈st,0≤x.left∧x.left≤3
structure dB where
 now:List Int
 saved:List Int
 kept:Bool
def Bb(d:bK):dB:=⟨d.aI.map (·.reset),d.aI.map fun _=>0,false⟩
def Bf(d:bK)(x:dB):dB:=⟨d.aI.map (·.reset),x.saved,false⟩
def Hg(r:Rg)(p:Int×Int):Int:=if r.kept then p.1 else p.2
def sY(d:bK)(x:dB):dB:=⟨x.now,List.zipWith Hg d.aI (x.now.zip x.saved),true⟩
def Vm(k:Bool)(r:Rg)(v:Int):Int:=if k&&r.kept then v else r.reset
def Ei(d:bK)(x:dB):dB:=⟨List.zipWith (Vm x.kept) d.aI x.saved,x.saved,x.kept⟩
structure vJ(d:bK)(x:dB):Prop where
 now:x.now.length=d.aI.length
 saved:x.saved.length=d.aI.length
 u:(∀v∈x.now,0≤v∧v < 4294967296)∧∀v∈x.saved,0≤v∧v < 4294967296
structure eJ where
 at_:Int
 denied:Int
def Kw:eJ:=⟨0,0⟩
def nH(a:Int):Int:=if a=0 then 114 else if a=1 then 97 else if a=2 then 115 else 100
def qR(x:eJ):Int×eJ:=if x.at_≠0 then(6,x) else(0,⟨1,x.denied⟩)
def mU(x:eJ):Int×eJ:=if x.at_≠2∧x.at_≠3 then(6,x) else(0,⟨0,x.denied⟩)
def vU(x:eJ)(Jq bZ:Bool):eJ:=if x.at_≠1 then x else if bZ then⟨3,IntKind.i64.wrap (x.denied+1)⟩ else if Jq then x else⟨2,0⟩
def xC(x:eJ):Prop:=0≤x.at_∧x.at_≤3
end
section
set_option maxHeartbeats 4000000
set_option maxRecDepth 20000
def Og(n:Nat)(xs:List Value)(v:Value)(hs:List HP)(_:Piece):Prop:=∃A c,v=.slice A n c∧hs=[HP.own 48 2 (.slice A n c) n xs]
theorem Ts(A:Option Addr)(n c:Nat)(xs:List Value)(w:World)(hs:aE (all w) 2 A n xs)(h1:∀u∈xs,u.oneCell'=true)(hn:n≤1000000):
  Calls Tryz.prog 146 #[.slice A n c] w (fun y w'=>(∃v hs q,y=.returned v∧q.w=w'∧Og n xs v hs q∧iY w hs q)∧Below w.heap.size w w'):=by
 refine XK.en Tryz.func146 Tryz.ntmps146 ?_
 refine XK.go ?_
 refine Uv (el:=48) (by kernel_rfl) rfl (by decide) ?_
 refine XK.aY ?_
 refine XK.cond rfl (fun hA=>?_) (fun hA=>?_)
 ·refine XK.go ?_
  have hn0:n=0:=by
   rcases Nat.eq_zero_or_pos n with h | h
   ·exact h
   ·obtain⟨b,off,rfl,_⟩:=hs.2 h
    cases hA
  subst hn0
  have hx:xs=[]:=List.eq_nil_of_length_eq_zero (by simpa using hs.1)
  subst hx
  refine XK.fY 48 2 ?_
  refine XK.still [] [] [0] (by simp) rfl (by decide) (by decide) fun q _ _ hfr=>?_
  exact XK.rX (h:=fun w1 st=>⟨_,_,⟨w1,q.Z⟩,rfl,rfl,⟨_,_,rfl,rfl⟩,st.newR (by simp) (by simp) (hfr (by simp) (by simp))⟩)
 ·refine XK.go ?_
  refine zH (el:=48) (sz:=2) (by kernel_rfl) (by kernel_rfl) (by decide) fun g=>?_
  refine XK.wW 0 2 0 rfl rfl (by omega) ?_
  dsimp only[List.set]
  refine XK.go ?_
  refine fG 0 2 8 n (n':=n) (el:=48) (by kernel_rfl) (by kernel_rfl) (by decide) rfl rfl rfl (nG (by simp) hs) h1 (by omega) (by omega) (by omega) (by decide) fun A' k'=>?_
  dsimp only[List.set,List.nil_append]
  refine XK.go ?_
  refine XK.still [] [] [0] (by simp) rfl (by decide) (by decide) fun q _ _ hfr=>?_
  exact XK.rX (h:=fun w1 st=>⟨_,_,⟨w1,q.Z⟩,rfl,rfl,⟨_,_,rfl,rfl⟩,st.newR (by simp) (by simp) (hfr (by simp) (by simp))⟩)
def aCo(n:Nat)(xs:List Value)(v:Value)(hs:List HP)(_:Piece):Prop:=∃A c,v=.slice A n c∧hs=[HP.own 23 1 (.slice A n c) n xs]
theorem aFt(A:Option Addr)(n c:Nat)(xs:List Value)(w:World)(hs:aE (all w) 1 A n xs)(h1:∀u∈xs,u.oneCell'=true)(hn:n≤1000000):
  Calls Tryz.prog 164 #[.slice A n c] w (fun y w'=>(∃v hs q,y=.returned v∧q.w=w'∧aCo n xs v hs q∧iY w hs q)∧Below w.heap.size w w'):=by
 refine XK.en Tryz.func164 Tryz.ntmps164 ?_
 refine XK.go ?_
 refine Uv (el:=23) (by kernel_rfl) rfl (by decide) ?_
 refine XK.aY ?_
 refine XK.cond rfl (fun hA=>?_) (fun hA=>?_)
 ·refine XK.go ?_
  have hn0:n=0:=by
   rcases Nat.eq_zero_or_pos n with h | h
   ·exact h
   ·obtain⟨b,off,rfl,_⟩:=hs.2 h
    cases hA
  subst hn0
  have hx:xs=[]:=List.eq_nil_of_length_eq_zero (by simpa using hs.1)
  subst hx
  refine XK.fY 23 1 ?_
  refine XK.still [] [] [0] (by simp) rfl (by decide) (by decide) fun q _ _ hfr=>?_
  exact XK.rX (h:=fun w1 st=>⟨_,_,⟨w1,q.Z⟩,rfl,rfl,⟨_,_,rfl,rfl⟩,st.newR (by simp) (by simp) (hfr (by simp) (by simp))⟩)
 ·refine XK.go ?_
  refine zH (el:=23) (sz:=1) (by kernel_rfl) (by kernel_rfl) (by decide) fun g=>?_
  refine XK.wW 0 1 0 rfl rfl (by omega) ?_
  dsimp only[List.set]
  refine XK.go ?_
  refine fG 0 1 4 n (n':=n) (el:=23) (by kernel_rfl) (by kernel_rfl) (by decide) rfl rfl rfl (nG (by simp) hs) h1 (by omega) (by omega) (by omega) (by decide) fun A' k'=>?_
  dsimp only[List.set,List.nil_append]
  refine XK.go ?_
  refine XK.still [] [] [0] (by simp) rfl (by decide) (by decide) fun q _ _ hfr=>?_
  exact XK.rX (h:=fun w1 st=>⟨_,_,⟨w1,q.Z⟩,rfl,rfl,⟨_,_,rfl,rfl⟩,st.newR (by simp) (by simp) (hfr (by simp) (by simp))⟩)
end
section
set_option maxHeartbeats 4000000
set_option maxRecDepth 20000
def kU(l:List Int):List Value:=l.map (Value.int .u32)
theorem Va(l:List Int):(kU l).length=l.length:=by simp[kU]
theorem aAb{l:List Int}{i:Nat}{v:Int}(h:l[i]? =some v):(kU l)[i]? =some (.int .u32 v):=by simp[kU,h]
theorem aAa(l:List Int)(i:Nat)(v:Int):(kU l).set i (.int .u32 v)=kU (l.set i v):=by simp[kU,List.map_set]
structure FL where
 f:Nat
 gn:Nat
 gs:Nat
 A:Option Addr
 c:Nat
def pS(d:bK)(A:Option Addr)(p:Piece):Prop:=aE p 2 A d.aI.length (d.aI.flatMap Rg.cells)
theorem pS.le{d:bK}{A:Option Addr}(p q:Piece)(hl:p.Le q)(h:pS d A p):pS d A q:=aE.le h hl
def Fu(L:FL)(d:bK)(k:Bool):List Value:=[.slice L.A d.aI.length L.c,.slice (some ⟨L.gn,0,none⟩) d.aI.length d.aI.length,.slice (some ⟨L.gs,0,none⟩) d.aI.length d.aI.length,.bool k]
def eP(L:FL)(d:bK)(x:dB):HP:=HP.many [HP.aB L.f 298 (Fu L d x.kept),HP.aB L.gn 23 (kU x.now),HP.aB L.gs 23 (kU x.saved),HP.bH (pS d L.A) (pS.le (d:=d) (A:=L.A))]
structure zF(w:World)(L:FL)(d:bK)(x:dB):Prop where
 r0:cZ w L.f 0 (Fu L d x.kept)
 now:cZ w L.gn 0 (kU x.now)
 saved:cZ w L.gs 0 (kU x.saved)
 made:aE (all w) 2 L.A d.aI.length (d.aI.flatMap Rg.cells)
theorem zF.below{w w':World}{L:FL}{d:bK}{x:dB}(h:zF w L d x)(hb:Below w.heap.size w w'):zF w' L d x:=⟨h.r0.below hb,h.now.below hb,h.saved.below hb,h.made.le (gQ hb)⟩
theorem sD{w:World}{g:Nat}{t:TypeId}{cs:List Value}(h:rF w g t cs.toArray):cZ w g 0 cs:=⟨h.lt,fun j v hv=>by rw[h.cell,Nat.zero_add];simpa using hv⟩
theorem eP.reads{L:FL}{d:bK}{x:dB}{F:Nat→Prop}{w:World}(h:(eP L d x).sat F w)(hF:∀b,F b→b < w.heap.size):zF w L d x:=by
 obtain⟨G,g1,g2,_⟩:=h
 exact⟨sD (g1 0 _ rfl).2,sD (g1 1 _ rfl).2,sD (g1 2 _ rfl).2,aE.le (g1 3 _ rfl) (fun b hb=>⟨hF b (g2 3 b hb),rfl⟩)⟩
section
variable{N:bO}{w0 w:World}{e:Env}{R:List Piece}{H:List HP}{K:Act→World→Prop}{L:FL}{d:bK}{x:dB}
theorem St.aB6(t:St w0 R H w)(i:Nat)(hi:H[i]? =some (eP L d x)):zF w L d x:=by
 obtain⟨F,h1,h2,_⟩:=t.chunk hi
 exact eP.reads h1 h2
theorem XK.Qf(i:Nat)(hi:H[i]? =some (eP L d x))(h:XK N w0 K e R (HP.aB L.gs 23 (kU x.saved)::HP.aB L.gn 23 (kU x.now)::HP.aB L.f 298 (Fu L d x.kept)::H.set i (HP.many [HP.emp,HP.emp,HP.emp,HP.bH (pS d L.A) (pS.le (d:=d) (A:=L.A))]))):XK N w0 K e R H:=by
 have hlt:=wI hi
 refine XK.take i 0 hi rfl ?_
 refine XK.take (i+1) 1 (by rw[List.getElem?_cons_succ,List.getElem?_set_self hlt]) rfl ?_
 refine XK.take (i+2) 2 (by simp[hlt];rfl) rfl ?_
 simpa[List.set_cons_succ,List.set_set] using h
theorem XK.Tr(i:Nat)(hi:H[i]? =some (HP.many [HP.emp,HP.emp,HP.emp,HP.bH (pS d L.A) (pS.le (d:=d) (A:=L.A))]))(h:XK N w0 K e R (H.set i (eP L d x))):XK N w0 K e R (HP.aB L.gs 23 (kU x.saved)::HP.aB L.gn 23 (kU x.now)::HP.aB L.f 298 (Fu L d x.kept)::H):=by
 have hlt:=wI hi
 refine XK.nM (i+2) 2 (by simpa using hi) rfl ?_
 dsimp only[List.set]
 refine XK.nM (i+1) 1 (by simp[hlt];rfl) rfl ?_
 dsimp only[List.set]
 refine XK.nM i 0 (by simp[hlt];rfl) rfl ?_
 simpa[List.set_set,eP] using h
end
theorem Pp(L:FL)(d:bK)(x:dB)(w:World)(hR:zF w L d x):
  Calls Tryz.prog 72 #[.pointer (some ⟨L.f,0,none⟩)] w (Rt (iv d.aI.length) w):=by
 have h0:=hR.r0.at_ (j:=0) rfl
 refine XK.en Tryz.func72 Tryz.ntmps72 ?_
 refine XK.go ?_
 exact XK.rE
theorem aDn(p:Piece)(S:Nat→HP)(L:FL)(d:bK)(hrl:d.aI.length≤100)(f:FuncId)(hf:eG Tryz.prog f=true)(ca:List Value)
  (hread:∀i,i≤d.aI.length→∀w F,(S i).sat F w→(∀b,F b→b < w.heap.size)→∃x,zF w L d x)
  (hstep:∀i r,d.aI[i]? =some r→∀w F,(S i).sat F w→(∀b,F b→b < w.heap.size)→p.Le ⟨w,fun b=>b < w.heap.size∧¬F b⟩→
   Calls Tryz.prog f (([iv (i:Int),.agg r.cells.toArray]:List Value)++ca).toArray w (fun y w'=>y=.returned (.tuple #[])∧∃F',(S (i+1)).sat F' w'∧aV w w' F F'))
  (w:World) (F:Nat→Prop) (hp:(S 0).sat F w) (hF:∀b,F b→b < w.heap.size) (Cl:p.Le ⟨w,fun b=>b < w.heap.size∧¬F b⟩):
  Calls Tryz.prog 188 #[.pointer (some ⟨L.f,0,none⟩),.func (.func f) #[] ca.toArray] w (fun y w'=>y=.returned (.tuple #[])∧∃F',(S d.aI.length).sat F' w'∧aV w w' F F'):=by
 have hfr:∀{i:Nat} {R:List Piece} {H:List HP} {w1:World},i≤d.aI.length→St w R (S i::H) w1→∃x,zF w1 L d x:=fun hi t=>by
  obtain⟨G,g1,g2,_⟩:=t.chunk (i:=0) rfl
  exact hread _ hi _ G g1 g2
 refine XK.bY Tryz.func188 Tryz.ntmps188 hp hF ?_
 refine XK.go ?_
 refine aJ (v:=iv d.aI.length) (fun w1 t=>by
  obtain⟨x,hx⟩:=hfr (Nat.zero_le _) t
  exact Pp L d x w1 hx) ?_
 refine XK.go ?_
 refine XK.aT [(7,iv 0),(6,iv d.aI.length),(1,.func (.func f) #[] ca.toArray),(0,.pointer (some ⟨L.f,0,none⟩))] ?_
 refine XK.loop (fun m e R H=>∃i:Nat,i≤d.aI.length∧m=d.aI.length - i∧e=[(7,iv i),(6,iv d.aI.length),(1,.func (.func f) #[] ca.toArray),(0,.pointer (some ⟨L.f,0,none⟩))]∧R=[⟨w,fun b=>b < w.heap.size∧¬F b⟩]∧H=[S i]) d.aI.length ⟨0,by omega,rfl,rfl,rfl,rfl⟩ fun m e R H hI=>?_
 obtain⟨i,hi,rfl,rfl,rfl,rfl⟩:=hI
 refine XK.go ?_
 refine XK.if_ rfl (fun hlt=>?_) (fun hge=>?_)
 ·have hlt:i < d.aI.length:=by omega
  obtain⟨r,hr⟩:=get_some hlt
  have hb0:∃b off,L.A=some ⟨b,off,none⟩:=by
   obtain⟨x,hx⟩:=hread 0 (Nat.zero_le _) w F hp hF
   obtain⟨b,off,h,_⟩:=hx.made.2 (by omega)
   exact⟨b,off,h⟩
  obtain⟨b,off,hA⟩:=hb0
  have aBg:Rd w [⟨w,fun b=>b < w.heap.size∧¬F b⟩] [S i] L.f 0 (.slice (some ⟨b,off,none⟩) d.aI.length L.c):=fun w1 t=>by
   obtain⟨x,hx⟩:=hfr hi t
   rw[←hA]
   exact(hx.r0.at_ (j:=0) rfl).2
  have aOU:aH w [⟨w,fun b=>b < w.heap.size∧¬F b⟩] [S i] b (off+i*2) r.cells:=fun w1 t=>by
   obtain⟨x,hx⟩:=hfr hi t
   obtain⟨b',off',mO,hro⟩:=aE.row (rows:=d.aI.map Rg.cells) (by rw[←List.flatMap_def];exact hx.made) (fun r hr=>by obtain⟨q,_,rfl⟩:=List.mem_map.1 hr;rfl) (by rw[List.getElem?_map,hr];rfl) hlt
   rw[hA] at mO
   cases mO
   exact hro.2
  refine XK.go ?_
  refine kd (dat i (off+i*2)) ?_
  refine XK.go ?_
  refine aC4 0 (fi:=[]) (ca:=ca) (vs:=[iv (i:Int),.agg r.cells.toArray]) (p:=S i) (S (i+1)) hf rfl rfl rfl ⟨(by decide),rfl⟩ (fun w1 G t hG uP hle=>by
   have hpl:=Piece.Le.trans Cl (hle _ (by simp))
   simpa using hstep i r hr w1 G hG uP hpl) ?_
  dsimp only[List.set]
  refine XK.go ?_
  exact XK.rd (d.aI.length - (i+1)) ⟨i+1,hlt,rfl,rfl,rfl,rfl⟩
 ·obtain rfl:i=d.aI.length:=by omega
  refine XK.go ?_
  exact XK.r0 0 hF
end
section
set_option maxHeartbeats 4000000
set_option maxRecDepth 20000
def iS(vs old:List Int)(i:Nat):List Int:=vs.take i++old.drop i
theorem Qi(vs old:List Int):iS vs old 0=old:=by simp[iS]
theorem Ql{vs old:List Int}{n:Nat}(h1:vs.length=n)(h2:old.length=n):iS vs old n=vs:=by
 rw[iS,List.drop_eq_nil_of_le (by omega),List.append_nil,List.take_of_length_le (by omega)]
theorem Qk{vs old:List Int}{i n:Nat}(h1:vs.length=n)(h2:old.length=n)(hi:i≤n):(iS vs old i).length=n:=by simp[iS];omega
theorem Qj{vs old:List Int}{i:Nat}{v:Int}(h1:vs.length=old.length)(hv:vs[i]? =some v):(iS vs old i).set i v=iS vs old (i+1):=by
 have hi:=(List.getElem?_eq_some_iff.1 hv).1
 refine List.ext_getElem? fun j=>?_
 rw[List.getElem?_set]
 unfold iS
 by_cases he:i=j
 ·subst he
  rw[if_pos rfl,if_pos (by simp;omega),List.getElem?_append_left (by simp;omega),List.getElem?_take_of_lt (by omega),hv]
 ·rw[if_neg he]
  rcases Nat.lt_or_ge j i with hj | hj
  ·rw[List.getElem?_append_left (by simp;omega),List.getElem?_append_left (by simp;omega),List.getElem?_take_of_lt hj,List.getElem?_take_of_lt (by omega)]
  ·rw[List.getElem?_append_right (by simp;omega),List.getElem?_append_right (by simp;omega),List.getElem?_drop,List.getElem?_drop]
   congr 1
   simp
   omega
theorem aJV{vs old:List Int}{i:Nat}{v:Int}(h1:vs.length=old.length)(hi:i < old.length)(hv:old[i]? =some v):(iS vs old i)[i]? =some v:=by
 rw[iS,List.getElem?_append_right (by simp;omega),List.getElem?_drop]
 simp only[List.length_take]
 rw[show i+(i - min i vs.length)=i by omega]
 exact hv
theorem aI1(p:Piece)(L:FL)(d:bK)(x:dB)(f:FuncId)(hf:eG Tryz.prog f=true)(ca:List Value)(g2 g3 i:Nat)(r:Rg)(v:Int)(hr:d.aI[i]? =some r)(Ak:x.now.length=d.aI.length)
  (h2:p.Z g2∧p.w.cell? ⟨g2,0,none⟩=some (.pointer (some ⟨L.f,0,none⟩))) (h3:p.Z g3∧p.w.cell? ⟨g3,0,none⟩=some (.func (.func f) #[] ca.toArray))
  (hw:∀w F,(eP L d x).sat F w→(∀b,F b→b < w.heap.size)→p.Le (all w)→Calls Tryz.prog f (([iv (i:Int),.agg r.cells.toArray]:List Value)++ca).toArray w (Rt (.int .u32 v) w))
  (w:World) (F:Nat→Prop) (hp:(eP L d x).sat F w) (hF:∀b,F b→b < w.heap.size) (Cl:p.Le ⟨w,fun b=>b < w.heap.size∧¬F b⟩):
  Calls Tryz.prog 233 #[iv (i:Int),.agg r.cells.toArray,pt g3,pt g2] w (fun y w'=>y=.returned (.tuple #[])∧∃F',(eP L d ⟨x.now.set i v,x.saved,x.kept⟩).sat F' w'∧aV w w' F F'):=by
 have hlt:=(List.getElem?_eq_some_iff.1 hr).1
 obtain⟨c2,e2⟩:=Cl g2 h2.1
 obtain⟨c3,e3⟩:=Cl g3 h3.1
 have k2:w.cell? ⟨g2,0,none⟩=some (.pointer (some ⟨L.f,0,none⟩)):=(World.cell?_of_block (w:=p.w) e2).trans h2.2
 have k3:w.cell? ⟨g3,0,none⟩=some (.func (.func f) #[] ca.toArray):=(World.cell?_of_block (w:=p.w) e3).trans h3.2
 refine XK.bY Tryz.func233 Tryz.ntmps233 hp hF ?_
 refine XK.go ?_
 refine aS fun g1=>?_
 refine XK.go ?_
 have r2:Rd w [⟨w,fun b=>b < w.heap.size∧¬F b⟩] [HP.aB g1 48 r.cells,eP L d x] g2 0 (.pointer (some ⟨L.f,0,none⟩)):=Rd.ro (List.mem_singleton.2 rfl) c2 k2
 have r3:Rd w [⟨w,fun b=>b < w.heap.size∧¬F b⟩] [HP.aB g1 48 r.cells,eP L d x] g3 0 (.func (.func f) #[] ca.toArray):=Rd.ro (List.mem_singleton.2 rfl) c3 k3
 have r4:Rd w [⟨w,fun b=>b < w.heap.size∧¬F b⟩] [HP.aB g1 48 r.cells,eP L d x] L.f 1 (.slice (some ⟨L.gn,0,none⟩) d.aI.length d.aI.length):=fun w1 t=>((t.aB6 1 rfl).r0.at_ (j:=1) rfl).2
 refine XK.draw 9 (by kernel_rfl) (by kernel_rfl) ?_
 refine XA.q 0 ?_
 refine XA.q 1 ?_
 refine XA.q 2 ?_
 refine XA.q 3 ?_
 refine XA.q 4 ?_
 refine XA.q 5 ?_
 refine XA.q 6 ?_
 refine XA.q 7 ?_
 refine XA.next 8 rfl (by kernel_rfl) ?_
 refine Wl (fi:=[]) (ca:=ca) (vs:=[iv (i:Int),.agg r.cells.toArray]) (v:=.int .u32 v) (hf:=hf) (fun w1 t=>by
  obtain⟨G,g1',g2',g3',_⟩:=t.chunk (i:=1) rfl
  have hle:p.Le (all w1):=fun b hb=>by
   obtain⟨a1,a2⟩:=(Piece.Le.trans Cl (g3' _ (List.mem_singleton.2 rfl))) b hb
   exact⟨a1.1,a2⟩
  simpa using hw w1 G g1' g2' hle) ?_
 refine XA.bk ?_
 refine XA.next 9 rfl (by kernel_rfl) ?_
 refine kd (dat i i) ?_
 refine XA.bt ?_
 refine XA.next 10 rfl (by kernel_rfl) ?_
 refine XK.Qf 1 rfl ?_
 dsimp only[List.set]
 have Mb:=Va x.now
 refine dL rfl rfl ?_
 dsimp only[List.set]
 rw[aAa]
 refine XK.Tr (x:=⟨x.now.set i v,x.saved,x.kept⟩) 1 rfl ?_
 refine XA.bt ?_
 refine XA.done (by kernel_rfl) ?_
 refine XK.go ?_
 exact XK.r0 1 hF
theorem aDo(L:FL)(d:bK)(x:dB)(hrl:d.aI.length≤100)(f:FuncId)(hf:eG Tryz.prog f=true)(ca:List Value)(p:Piece)(vs:List Int)(hvl:vs.length=d.aI.length)(Ak:x.now.length=d.aI.length)
  (hw:∀(i:Nat) (r:Rg) (v:Int),d.aI[i]? =some r→vs[i]? =some v→∀(now:List Int) w F,(eP L d ⟨now,x.saved,x.kept⟩).sat F w→(∀b,F b→b < w.heap.size)→p.Le (all w)→Calls Tryz.prog f (([iv (i:Int),.agg r.cells.toArray]:List Value)++ca).toArray w (Rt (.int .u32 v) w))
  (w:World) (F:Nat→Prop) (hp:(eP L d x).sat F w) (hF:∀b,F b→b < w.heap.size) (Cl:p.Le ⟨w,fun b=>b < w.heap.size∧¬F b⟩):
  Calls Tryz.prog 190 #[.pointer (some ⟨L.f,0,none⟩),.func (.func f) #[] ca.toArray] w (fun y w'=>y=.returned (.tuple #[])∧∃F',(eP L d ⟨vs,x.saved,x.kept⟩).sat F' w'∧aV w w' F F'):=by
 refine XK.bY Tryz.func190 Tryz.ntmps190 hp hF ?_
 refine XK.go ?_
 refine aS fun g2=>?_
 refine aS fun g3=>?_
 refine XK.go ?_
 refine iD (vf:=[]) (vc:=[pt g3,pt g2]) rfl rfl (by decide) ?_
 refine XK.still [⟨w,fun b=>b < w.heap.size∧¬F b⟩] [0,1] [2] (by simp) rfl (by decide) (by decide) fun q hq hLe _=>?_
 obtain⟨F3,s3,z3⟩:=hq 0 _ (by simp) rfl
 obtain⟨F2,s2,z2⟩:=hq 1 _ (by simp) rfl
 have hpq:p.Le q:=Piece.Le.trans Cl (hLe _ (by simp))
 refine cX 0 (eP L d ⟨vs,x.saved,x.kept⟩) (fun w1 G t hG uP hle=>by
  have key:=aDn q (fun i=>eP L d ⟨iS vs x.now i,x.saved,x.kept⟩) L d hrl 233 (by kernel_rfl) [pt g3,pt g2]
   (fun i _ w F h1 h2=>⟨_,eP.reads h1 h2⟩) (fun i r hr w2 F2' h1 h2 h3=>by
    have hlt:=(List.getElem?_eq_some_iff.1 hr).1
    obtain⟨v,hv⟩:=get_some (l:=vs) (i:=i) (by omega)
    have:=aI1 q L d ⟨iS vs x.now i,x.saved,x.kept⟩ f hf ca g2 g3 i r v hr (Qk hvl Ak (by omega))
     ⟨z2 _ s2.1,by rw[s2.2.cell];rfl⟩ ⟨z3 _ s3.1,by rw[s3.2.cell];rfl⟩ (fun w3 F3 a1 a2 a3=>hw i r v hr hv _ w3 F3 a1 a2 (Piece.Le.trans hpq a3)) w2 F2' h1 h2 h3
    try dsimp only at this
    rw[Qj (by omega) hv] at this
    exact this) w1 G (by show(eP L d ⟨iS vs x.now 0,x.saved,x.kept⟩).sat G w1;rw[Qi];exact hG) uP (hle q (by simp))
  try dsimp only at key
  rw[Ql hvl Ak] at key
  exact key) ?_
 dsimp only[List.set]
 refine XK.go ?_
 exact XK.r0 0 hF
end
section
set_option maxHeartbeats 4000000
set_option maxRecDepth 20000
structure GL where
 t:Nat
 A:Option Addr
 c:Nat
def mP(c:Dom)(x:eZ):List Value:=[iv c.above,iv c.delay,.bool c.ret,.int .u8 x.phase,iv x.left,.bool x.kept,.bool x.keep]
def nP(s:aA)(st:List eZ):List (List Value):=List.zipWith mP s.domains st
abbrev sL(L:GL)(s:aA)(st:List eZ):HP:=Bk 273 231 7 L.t L.A s.domains.length L.c (nP s st)
abbrev aGl(w:World)(L:GL)(s:aA)(st:List eZ):Prop:=zC w 7 L.t L.A s.domains.length L.c (nP s st)
section
variable{s:aA}{st:List eZ}
theorem Yj(hok:rA s st):(nP s st).length=s.domains.length∧∀r∈nP s st,r.length=7:=by
 have:=hok.len
 refine⟨by simp[nP];omega,fun r hr=>?_⟩
 obtain⟨j,hj⟩:=List.getElem?_of_mem hr
 rw[nP,List.getElem?_zipWith] at hj
 split at hj<;>cases hj
 rfl
theorem Fy{i:Nat}{c:Dom}{x:eZ}(hc:s.domains[i]? =some c)(hx:st[i]? =some x):(nP s st)[i]? =some (mP c x):=by
 rw[nP,List.getElem?_zipWith,hc,hx]
theorem aBC{i:Nat}{c:Dom}{x:eZ}(hc:s.domains[i]? =some c)(hi:i < st.length):(nP s st).set i (mP c x)=nP s (st.set i x):=by
 refine List.ext_getElem? fun j=>?_
 rw[List.getElem?_set]
 by_cases he:i=j
 ·subst he
  rw[if_pos rfl,Fy hc (x:=x) (by rw[List.getElem?_set_self hi])]
  rw[if_pos]
  have h1:=(List.getElem?_eq_some_iff.1 hc).1
  simp[nP];omega
 ·rw[if_neg he,nP,nP,List.getElem?_zipWith,List.getElem?_zipWith,List.getElem?_set_ne he]
end
theorem aA0(t n c b off i:Nat)(w:World)(h0:eS w t 0 (.slice (some ⟨b,off,none⟩) n c))(hi:i < n):
  Calls Tryz.prog 91 #[pt t,iv (i:Int)] w (Rt (.pointer (some ⟨b,off+i*7,none⟩)) w):=by
 refine XK.en Tryz.func91 Tryz.ntmps91 ?_
 refine XK.go ?_
 refine aW (t:=11) rfl (fun h=>absurd h (by omega)) (fun _=>?_)
 refine XK.go ?_
 refine XK.if_ rfl (fun h=>absurd h (by omega)) (fun _=>?_)
 refine XK.go ?_
 refine kd (dat i (off+i*7)) ?_
 refine XK.go ?_
 exact XK.rE
theorem aAz(t n c:Nat)(A:Option Addr)(i:Int)(w:World)(h0:eS w t 0 (.slice A n c))(hi:bE n i=false):
  Calls Tryz.prog 91 #[pt t,iv i] w (Rt (.pointer none) w):=by
 have hi:=of_decide_eq_false hi
 refine XK.en Tryz.func91 Tryz.ntmps91 ?_
 refine XK.go ?_
 refine aW (t:=11) rfl (fun h=>?_) (fun h=>?_)
 ·refine XK.go ?_
  exact XK.rE
 ·refine XK.go ?_
  refine XK.if_ rfl (fun h=>?_) (fun h=>absurd hi (by omega))
  refine XK.go ?_
  exact XK.rE
theorem aDx(g o:Nat)(p:Int)(w:World)(h3:eS w g (o+3) (.int .u8 p)):
  Calls Tryz.prog 239 #[.pointer (some ⟨g,o,none⟩)] w (Rt (.bool (decide (p=48∨p=116))) w):=by
 refine XK.en Tryz.func239 Tryz.ntmps239 ?_
 refine XK.go ?_
 refine aW (t:=8) rfl (fun h=>?_) (fun h=>?_)
 ·refine XK.go ?_
  refine XK.gN (by simp) ?_
  simp[h]
 ·refine XK.go ?_
  refine XK.gN (by simp) ?_
  simp[h]
theorem aDw(L:GL)(s:aA)(st:List eZ)(hok:rA s st)(d:Int)(w:World)(hR:aGl w L s st):
  Calls Tryz.prog 42 #[.pointer (some ⟨L.t,0,none⟩),iv d] w (Rt (.int .u8 (qB st d)) w):=by
 have hl:=hok.len
 cases hi:bE s.domains.length d
 ·refine XK.en Tryz.func42 Tryz.ntmps42 ?_
  refine XK.go ?_
  refine aJ (fun w1 t=>aAz L.t s.domains.length L.c L.A d w1 ((hR.below (t.below (by simp))).r0) hi) ?_
  refine XK.go ?_
  refine XK.gN (by simp) ?_
  simp[qB,hl,hi]
 ·obtain⟨n,rfl⟩:∃n:Nat,d=n:=⟨d.toNat,by have:=of_decide_eq_true hi;omega⟩
  have hlt:n < s.domains.length:=by have:=of_decide_eq_true hi;omega
  obtain⟨c,hc⟩:=get_some hlt
  obtain⟨x,hx⟩:=get_some (l:=st) (i:=n) (by omega)
  obtain⟨b,off,hA,hro⟩:=hR.at_ (Yj hok).2 (Fy hc hx) hlt
  have h3:=hro.at_ (j:=3) rfl
  refine XK.en Tryz.func42 Tryz.ntmps42 ?_
  refine XK.go ?_
  refine aJ (fun w1 t=>aA0 L.t s.domains.length L.c b off n w1 (by rw[←hA];exact(hR.below (t.below (by simp))).r0) hlt) ?_
  refine XK.go ?_
  refine XK.gN (by simp) ?_
  simp[qB,hl,hi,hx]
theorem aJd(L:GL)(s:aA)(st:List eZ)(hH:s.cI)(hok:rA s st)(d:Int)(w:World)(F:Nat→Prop)(hp:(sL L s st).sat F w)(hF:∀b,F b→b < w.heap.size):
  Calls Tryz.prog 223 #[.pointer (some ⟨L.t,0,none⟩),iv d] w (fun y w'=>y=.returned (iv (sU s st d).1)∧∃F',(sL L s (sU s st d).2).sat F' w'∧aV w w' F F'):=by
 have hl:=hok.len
 cases hi:bE s.domains.length d
 ·have hr:sU s st d=(4,st):=by simp[sU,hl,hi]
  rw[hr]
  refine XK.bY Tryz.func223 Tryz.ntmps223 hp hF ?_
  refine XK.go ?_
  refine aJ (fun w1 t=>aAz L.t s.domains.length L.c L.A d w1 ((t.aAp 0 rfl).r0) hi) ?_
  refine XK.go ?_
  exact XK.rT 0 hF
 ·obtain⟨n,rfl⟩:∃n:Nat,d=n:=⟨d.toNat,by have:=of_decide_eq_true hi;omega⟩
  have hlt:n < s.domains.length:=by have:=of_decide_eq_true hi;omega
  obtain⟨c,hc⟩:=get_some hlt
  obtain⟨x,hx⟩:=get_some (l:=st) (i:=n) (by omega)
  obtain⟨fV,fU⟩:=Yj hok
  have Wx:sU s st (n:Int)=if Nc x=false∨Uc st c.above=false then(6,st) else(0,st.set n ⟨114,c.delay,decide (x.phase=116),x.keep⟩):=by
   simp[sU,hl,hi,hc,hx]
  obtain⟨Xq,_,_⟩:=hH.domains n c hc
  refine XK.bY Tryz.func223 Tryz.ntmps223 hp hF ?_
  refine XK.aA5 0 rfl (by omega) fun g cs hA h1 h2 h3 h4=>?_
  dsimp only[List.set]
  have hs:=Cw h2 fV fU (Fy hc hx)
  have hlen:n*7+7≤cs.length:=by omega
  have hs1:=hs.set 5 (.bool (decide (x.phase=116))) (by simp[mP]) (by omega)
  have eL:=hs1.set 3 (.int .u8 114) (by simp[mP]) (by simp;omega)
  have lV:=eL.set 4 (iv c.delay) (by simp[mP]) (by simp;omega)
  have hu3:=(((sH.refl cs (n*7) 7).set 5 (.bool (decide (x.phase=116))) (by decide)).set 3 (.int .u8 114) (by decide)).set 4 (iv c.delay) (by decide)
  have hf:=Ba (r':=mP c ⟨114,c.delay,decide (x.phase=116),x.keep⟩) h2 fV fU hlt (by omega) rfl lV hu3
  rw[aBC hc (by omega)] at hf
  refine XK.go ?_
  refine aJ (fun w1 t=>aA0 L.t s.domains.length L.c g 0 n w1 ((t.box (i:=1) rfl).at_ (j:=0) rfl) hlt) ?_
  rw[Nat.zero_add]
  refine XK.go ?_
  refine XK.jO ?_
  refine XQ.go ?_
  refine XQ.call (fun w1 t=>aDx g (n*7) x.phase w1 ⟨(t.aB (i:=0) rfl).lt,Rd.sub 0 3 rfl hs rfl rfl w1 t⟩) ?_
  refine XQ.go ?_
  refine XQ.split 14 rfl (fun hd=>?_) (fun hd=>?_)
  ·rw[Wx,if_pos (.inl (decide_eq_false hd))]
   refine XQ.end_ ?_
   refine XK.go ?_
   refine XK.Dj 0 hA h1 h2 h3 h4 rfl ?_
   exact XK.rT 0 hF
  ·have hdn:Nc x=true:=decide_eq_true (Classical.not_not.1 hd)
   refine XQ.go ?_
   refine XQ.split 21 rfl (fun ha=>?_) (fun ha=>?_)
   ·obtain⟨a,yO,rY⟩:∃a:Nat,c.above=a∧a < n:=⟨c.above.toNat,by omega,by omega⟩
    obtain⟨ca,hca⟩:=get_some (l:=s.domains) (i:=a) (by omega)
    obtain⟨xa,hxa⟩:=get_some (l:=st) (i:=a) (by omega)
    have hsa:=Cw h2 fV fU (Fy hca hxa)
    refine XQ.go ?_
    refine XQ.kd (dat a (a*7)) ?_
    refine XQ.end_ ?_
    have hal:Uc st c.above=decide (xa.phase=49):=by
     unfold Uc
     rw[yO,Int.toNat_natCast,hxa]
     first | (simp;done) | (simp;omega)
    refine XK.if_ rfl (fun h=>?_) (fun h=>?_)
    ·rw[Wx,if_pos (.inr (by rw[hal];exact decide_eq_false h))]
     refine XK.go ?_
     refine XK.Dj 0 hA h1 h2 h3 h4 rfl ?_
     exact XK.rT 0 hF
    ·rw[Wx,if_neg (by rw[hal,hdn];simp;exact Classical.not_not.1 h)]
     refine XK.go ?_
     refine XK.Dj 0 hA (by simpa using h1) hf h3 h4 rfl ?_
     exact XK.rT 0 hF
   ·have ha:=Classical.not_not.1 ha
    rw[Wx,if_neg (by rw[hdn];simp[Uc,ha])]
    refine XQ.end_ ?_
    refine XK.go ?_
    refine XK.Dj 0 hA (by simpa using h1) hf h3 h4 rfl ?_
    exact XK.rT 0 hF
end
end Go.Proofs.YtdcdccmpcmjmhaaGreatDoor
