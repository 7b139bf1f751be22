/- conf: what is right of a clock, a domain, a reset line, a device, and of how many there are. -/
import Derived.KernelRfl
import Derived.Laws.StructEq
import Derived.Test.YtdcdccmpcmjmhaaGreatDoorProg
import Derived.Test.YtdcdccmpcmjmhaaGreatDoorRpmNeedsK2
namespace Go.Proofs.YtdcdccmpcmjmhaaGreatDoor
set_option linter.all false
set_option maxHeartbeats 4000000
set_option maxRecDepth 20000
open Go.RowKit Go.Proofs.Tryz
section
def lZ(kind:Int)(n:Nat):Bool:=if kind=111 then decide (n=0) else if kind=112∨kind=100∨kind=103 then decide (n=1) else if kind=109 then iU n 1 4 else false
def uL(kind rate mul div lock:Int):Bool:=
 if kind=111 then decide (1≤rate)&&decide (rate≤1099511627776) else if kind=112 then iU mul 1 1000&&iU div 1 1000&&iU lock 0 20 else if kind=100 then iU div 1 1000 else true
def Np(n1:Nat)(c:eF):Int:=lE [jD (!lZ c.kind c.src.length) 1,lE (c.src.map fun f=>jD (!iU f 0 ((n1:Int) - 1)) 4),jD (!uL c.kind c.rate c.mul c.div c.lock) 3]
def Sa(n2:Nat)(d:Dom):Int:=lE [jD (decide (¬d.above= -1)&& !iU d.above 0 ((n2:Int) - 1)) 4,jD (!iU d.delay 0 20) 3]
def aA9(r:Int):Int:=jD (!iU r 0 20) 3
def Se(n1 n2 n3 n4:Nat)(d:bO):Int:=
 lE [jD (!iU d.clock 0 ((n1:Int) - 1)) 4,jD (!iU d.domain 0 ((n2:Int) - 1)) 4,jD (!iU d.reset 0 ((n3:Int) - 1)) 4,lE (d.fR.map fun f=>jD (!iU f 0 ((n4:Int) - 1)) 4)]
def Qe(d:bO):Int:=jD (decide ((8:Int) < d.aP.length)||decide ((6:Int) < d.fR.length)) 8
theorem aI9(l:List Value):(l.map fun v=>[v]).flatten=l:=by induction l<;>simp_all
theorem aLF(kind rate mul div lock:Int)(A:Option Addr)(n k:Nat)(w:World):
  Cz 196 #[.agg #[.int .u8 kind,.slice A n k,.int .u64 rate,iv mul,iv div,iv lock]] w (Rt (.bool (lZ kind n)) w):=by
 refine aL func196 ntmps196 ?_;refine aB ?_;refine bA fun g1=>?_;refine aB ?_;refine aG rfl (fun h=>?_) (fun h=>?_)
 ·
  refine aB ?_;exact aS (h:=fun _ _=>by first | (exfalso;omega) | (simp[lZ, *];done) | (simp[lZ, *];omega))
 ·
  refine aB ?_;refine aG rfl (fun h=>?_) (fun h=>?_)
  ·
   refine aB ?_;refine aG rfl (fun h=>?_) (fun h=>?_)
   ·
    refine aB ?_;exact aS (h:=fun _ _=>by first | (exfalso;omega) | (simp[lZ, *];done) | (simp[lZ, *];omega))
   ·
    refine aB ?_;refine aG rfl (fun h=>?_) (fun h=>?_)
    ·
     refine aB ?_;refine dH (fun w1 st=>vF _ _ _ w1) ?_;refine aB ?_;exact aS (h:=fun _ _=>by first | (exfalso;omega) | (simp[lZ, *];done) | (simp[lZ, *];omega))
    ·
     refine aB ?_;exact aS (h:=fun _ _=>by first | (exfalso;omega) | (simp[lZ, *];done) | (simp[lZ, *];omega))
  ·
   refine aB ?_;refine aG rfl (fun h=>?_) (fun h=>?_)
   ·
    refine aB ?_;refine aG rfl (fun h=>?_) (fun h=>?_)
    ·
     refine aB ?_;exact aS (h:=fun _ _=>by first | (exfalso;omega) | (simp[lZ, *];done) | (simp[lZ, *];omega))
    ·
     refine aB ?_;refine aG rfl (fun h=>?_) (fun h=>?_)
     ·
      refine aB ?_;refine dH (fun w1 st=>vF _ _ _ w1) ?_;refine aB ?_;exact aS (h:=fun _ _=>by first | (exfalso;omega) | (simp[lZ, *];done) | (simp[lZ, *];omega))
     ·
      refine aB ?_;exact aS (h:=fun _ _=>by first | (exfalso;omega) | (simp[lZ, *];done) | (simp[lZ, *];omega))
   ·
    refine aB ?_;refine aG rfl (fun h=>?_) (fun h=>?_)
    ·
     refine aB ?_;exact aS (h:=fun _ _=>by first | (exfalso;omega) | (simp[lZ, *];done) | (simp[lZ, *];omega))
    ·
     refine aB ?_;refine aG rfl (fun h=>?_) (fun h=>?_)
     ·
      refine aB ?_;refine dH (fun w1 st=>vF _ _ _ w1) ?_;refine aB ?_;exact aS (h:=fun _ _=>by first | (exfalso;omega) | (simp[lZ, *];done) | (simp[lZ, *];omega))
     ·
      refine aB ?_;exact aS (h:=fun _ _=>by first | (exfalso;omega) | (simp[lZ, *];done) | (simp[lZ, *];omega))
theorem aOa(kind rate mul div lock:Int)(A:Option Addr)(n k:Nat)(w:World):
  Cz 202 #[.agg #[.int .u8 kind,.slice A n k,.int .u64 rate,iv mul,iv div,iv lock]] w (Rt (.bool (uL kind rate mul div lock)) w):=by
 refine aL func202 ntmps202 ?_;refine aB ?_;refine bA fun g1=>?_;refine aB ?_;refine aG rfl (fun h=>?_) (fun h=>?_)
 ·
  refine aB ?_;refine sE (t:=10) rfl (fun hg=>?_) (fun hg=>?_)
  ·
   refine aB ?_;exact aS (h:=fun _ _=>by simp[uL, *])
  ·
   refine aB ?_;exact aS (h:=fun _ _=>by simp[uL, *])
 ·
  refine aB ?_;refine aG rfl (fun h=>?_) (fun h=>?_)
  ·
   refine aB ?_;refine dH (fun w1 st=>vF _ _ _ w1) ?_;refine aB ?_;refine sE (t:=20) rfl (fun hg=>?_) (fun hg=>?_)
   ·
    refine aB ?_;refine dH (fun w1 st=>vF _ _ _ w1) ?_;refine aB ?_;refine sE (t:=25) rfl (fun hg=>?_) (fun hg=>?_)
    ·
     refine aB ?_;refine dH (fun w1 st=>vF _ _ _ w1) ?_;refine aB ?_;exact aS (h:=fun _ _=>by simp[uL, *])
    ·
     refine aB ?_;exact aS (h:=fun _ _=>by simp[uL, *])
   ·
    refine aB ?_;exact aS (h:=fun _ _=>by simp[uL, *])
  ·
   refine aB ?_;refine aG rfl (fun h=>?_) (fun h=>?_)
   ·
    refine aB ?_;refine dH (fun w1 st=>vF _ _ _ w1) ?_;refine aB ?_;exact aS (h:=fun _ _=>by simp[uL, *])
   ·
    refine aB ?_;exact aS (h:=fun _ _=>by simp[uL, *])
theorem aSa(kind rate mul div lock:Int)(A:Option Addr)(n k:Nat)(gc:Nat)(w:World)(hb:eC w gc 0 [.int .u8 kind,.slice A n k,.int .u64 rate,iv mul,iv div,iv lock]):
  Cz 195 #[pt gc] w (Rt (iv (jD (!lZ kind n) 1)) w):=by
 refine aL func195 ntmps195 ?_;refine aB ?_;refine dH (fun w1 st=>aLF _ _ _ _ _ _ _ _ w1) ?_;refine aB ?_;refine dH (fun w1 st=>wH _ _ w1) ?_;refine aB ?_;exact aS (h:=fun _ _=>rfl)
theorem aRX(kind rate mul div lock:Int)(A:Option Addr)(n k:Nat)(gc:Nat)(w:World)(hb:eC w gc 0 [.int .u8 kind,.slice A n k,.int .u64 rate,iv mul,iv div,iv lock]):
  Cz 201 #[pt gc] w (Rt (iv (jD (!uL kind rate mul div lock) 3)) w):=by
 refine aL func201 ntmps201 ?_;refine aB ?_;refine dH (fun w1 st=>aOa _ _ _ _ _ _ _ _ w1) ?_;refine aB ?_;refine dH (fun w1 st=>wH _ _ w1) ?_;refine aB ?_;exact aS (h:=fun _ _=>rfl)
theorem aRY(f:Int)(A1 A2 A3 A4:Option Addr)(n1 k1 n2 k2 n3 k3 n4 k4:Nat)(gs:Nat)(w:World)(hs:eC w gs 0 [.slice A1 n1 k1,.slice A2 n2 k2,.slice A3 n3 k3,.slice A4 n4 k4])(mK:(n1:Int)≤9223372036854775806):
  Cz 199 #[iv f,pt gs] w (Rt (iv (jD (!iU f 0 ((n1:Int) - 1)) 4)) w):=by
 refine aL func199 ntmps199 ?_;refine aB ?_;refine dH (fun w1 st=>vF _ _ _ w1) ?_;refine aB ?_;refine dH (fun w1 st=>wH _ _ w1) ?_;refine aB ?_;exact aS (h:=fun _ _=>rfl)
theorem aRZ(kind rate mul div lock:Int)(A:Option Addr)(n k:Nat)(A1 A2 A3 A4:Option Addr)(n1 k1 n2 k2 n3 k3 n4 k4:Nat)(gc gs:Nat)(w:World)(hb:eC w gc 0 [.int .u8 kind,.slice A n k,.int .u64 rate,iv mul,iv div,iv lock])(hs:eC w gs 0 [.slice A1 n1 k1,.slice A2 n2 k2,.slice A3 n3 k3,.slice A4 n4 k4])(mK:(n1:Int)≤9223372036854775806)(zs:List Int)(hA:aI (all w) 1 A n (aK zs))(hn:n=zs.length)(hz:(n:Int)≤9223372036854775806):
  Cz 197 #[pt gc,pt gs] w (Rt (iv (lE (zs.map fun f=>jD (!iU f 0 ((n1:Int) - 1)) 4))) w):=by
 refine aL func197 ntmps197 ?_;refine aA ?_;refine kL (vf:=[]) (vc:=[pt gs]) rfl rfl (by decide) ?_
 refine dH (fun w1 st=>aIL _ _ _ 199 [pt gs] ((aK zs).map fun v=>[v]) (zs.map fun f=>jD (!iU f 0 ((n1:Int) - 1)) 4) w1 (by rw[aI9];exact hA.le (jR (st.started (by simp)))) (by simp) (by simp[aK];omega) (by simp;omega) (by omega) (by kernel_rfl) (fun i r x hr hx w2 eX=>by
  obtain⟨f,hf,rfl⟩:∃f,zs[i]? =some f∧r=[iv f]:=by
   rw[List.getElem?_map,aK,List.getElem?_map] at hr;cases hq:zs[i]? with
   | none=>simp[hq] at hr
   | some f=>simp[hq] at hr;exact⟨f,rfl,hr.symm⟩
  rw[List.getElem?_map,hf] at hx;cases hx
  exact aRY f A1 A2 A3 A4 n1 k1 n2 k2 n3 k3 n4 k4 gs w2 ((hs.below (st.started (by simp))).below eX) mK)) ?_
 refine aA ?_;exact aS (h:=fun _ _=>rfl)
theorem aRW(kind rate mul div lock:Int)(A:Option Addr)(n k:Nat)(A1 A2 A3 A4:Option Addr)(n1 k1 n2 k2 n3 k3 n4 k4:Nat)(w:World)(mK:(n1:Int)≤9223372036854775806)(zs:List Int)(hA:aI (all w) 1 A n (aK zs))(hn:n=zs.length)(hz:(n:Int)≤9223372036854775806):
  Cz 122 #[.agg #[.slice A1 n1 k1,.slice A2 n2 k2,.slice A3 n3 k3,.slice A4 n4 k4],.agg #[.int .u8 kind,.slice A n k,.int .u64 rate,iv mul,iv div,iv lock]] w (Rt (iv (Np n1 ⟨kind,zs,rate,mul,div,lock⟩)) w):=by
 refine aL func122 ntmps122 ?_;refine aA ?_;refine bA fun g1=>?_;refine bA fun g2=>?_;refine aA ?_;refine kL (vf:=[]) (vc:=[pt g2]) rfl rfl (by decide) ?_;refine kL (vf:=[]) (vc:=[pt g2,pt g1]) rfl rfl (by decide) ?_;refine kL (vf:=[]) (vc:=[pt g2]) rfl rfl (by decide) ?_;refine eL fun g3=>?_
 refine dH (fun w1 st=>aBx _ _ _ [(195,[pt g2]),(197,[pt g2,pt g1]),(201,[pt g2])] [jD (!lZ kind n) 1,lE (zs.map fun f=>jD (!iU f 0 ((n1:Int) - 1)) 4),jD (!uL kind rate mul div lock) 3] w1 (st.rN (i:=0) (n:=3) (sz:=1) (cs:=[.func (.func 195) #[] #[pt g2],.func (.func 197) #[] #[pt g2,pt g1],.func (.func 201) #[] #[pt g2]]) rfl rfl) rfl rfl (by decide) (by simp only[List.mem_cons,List.not_mem_nil,or_false];rintro f (rfl | rfl | rfl)<;>kernel_rfl) (fun i f x hf hx w2 eX=>by
  have jU:=(st.started (by simp)).trans (eX.mono st.size)
  match i,hf,hx with
  | 0,hf,hx=>cases hf;cases hx;exact aSa kind rate mul div lock A n k g2 w2 (st.box (cs:=[.int .u8 kind,.slice A n k,.int .u64 rate,.int .i64 mul,.int .i64 div,.int .i64 lock]) (i:=1) rfl|>.below eX)
  | 1,hf,hx=>cases hf;cases hx;exact aRZ kind rate mul div lock A n k A1 A2 A3 A4 n1 k1 n2 k2 n3 k3 n4 k4 g2 g1 w2 (st.box (cs:=[.int .u8 kind,.slice A n k,.int .u64 rate,.int .i64 mul,.int .i64 div,.int .i64 lock]) (i:=1) rfl|>.below eX) (st.box (cs:=[.slice A1 n1 k1,.slice A2 n2 k2,.slice A3 n3 k3,.slice A4 n4 k4]) (i:=2) rfl|>.below eX) mK zs (hA.le (jR jU)) hn hz
  | 2,hf,hx=>cases hf;cases hx;exact aRX kind rate mul div lock A n k g2 w2 (st.box (cs:=[.int .u8 kind,.slice A n k,.int .u64 rate,.int .i64 mul,.int .i64 div,.int .i64 lock]) (i:=1) rfl|>.below eX)
  | i+3,hf,_=>simp at hf)) ?_
 refine aA ?_;exact aS (h:=fun _ _=>by simp[Np,hn])
theorem aRt(above delay:Int)(ret:Bool)(A1 A2 A3 A4:Option Addr)(n1 k1 n2 k2 n3 k3 n4 k4:Nat)(gd gs:Nat)(w:World)(hd:eC w gd 0 [iv above,iv delay,.bool ret])(hs:eC w gs 0 [.slice A1 n1 k1,.slice A2 n2 k2,.slice A3 n3 k3,.slice A4 n4 k4])(oN:(n2:Int)≤9223372036854775806):
  Cz 204 #[pt gd,pt gs] w (Rt (iv (jD (decide (¬above= -1)&& !iU above 0 ((n2:Int) - 1)) 4)) w):=by
 refine aL func204 ntmps204 ?_;refine aB ?_;refine bU (t:=6) rfl (fun hg=>?_) (fun hg=>?_)
 ·
  refine aB ?_;refine dH (fun w1 st=>vF _ _ _ w1) ?_;refine aB ?_;refine dH (fun w1 st=>wH _ _ w1) ?_;refine aB ?_;exact aS (h:=fun _ _=>by simp[hg])
 ·
  refine aB ?_;refine dH (fun w1 st=>wH _ _ w1) ?_;refine aB ?_;exact aS (h:=fun _ _=>by simp[hg])
theorem aRs(above delay:Int)(ret:Bool)(gd:Nat)(w:World)(hd:eC w gd 0 [iv above,iv delay,.bool ret]):
  Cz 205 #[pt gd] w (Rt (iv (jD (!iU delay 0 20) 3)) w):=by
 refine aL func205 ntmps205 ?_;refine aB ?_;refine dH (fun w1 st=>vF _ _ _ w1) ?_;refine aB ?_;refine dH (fun w1 st=>wH _ _ w1) ?_;refine aB ?_;exact aS (h:=fun _ _=>rfl)
theorem aRr(above delay:Int)(ret:Bool)(A1 A2 A3 A4:Option Addr)(n1 k1 n2 k2 n3 k3 n4 k4:Nat)(w:World)(oN:(n2:Int)≤9223372036854775806):
  Cz 129 #[.agg #[.slice A1 n1 k1,.slice A2 n2 k2,.slice A3 n3 k3,.slice A4 n4 k4],.agg #[iv above,iv delay,.bool ret]] w (Rt (iv (Sa n2 ⟨above,delay,ret⟩)) w):=by
 refine aL func129 ntmps129 ?_;refine aA ?_;refine bA fun g1=>?_;refine bA fun g2=>?_;refine aA ?_;refine kL (vf:=[]) (vc:=[pt g2,pt g1]) rfl rfl (by decide) ?_;refine kL (vf:=[]) (vc:=[pt g2]) rfl rfl (by decide) ?_;refine eL fun g3=>?_
 refine dH (fun w1 st=>aBx _ _ _ [(204,[pt g2,pt g1]),(205,[pt g2])] [jD (decide (¬above= -1)&& !iU above 0 ((n2:Int) - 1)) 4,jD (!iU delay 0 20) 3] w1 (st.rN (i:=0) (n:=2) (sz:=1) (cs:=[.func (.func 204) #[] #[pt g2,pt g1],.func (.func 205) #[] #[pt g2]]) rfl rfl) rfl rfl (by decide) (by simp only[List.mem_cons,List.not_mem_nil,or_false];rintro f (rfl | rfl)<;>kernel_rfl) (fun i f x hf hx w2 eX=>by
  have jU:=(st.started (by simp)).trans (eX.mono st.size)
  match i,hf,hx with
  | 0,hf,hx=>cases hf;cases hx;exact aRt above delay ret A1 A2 A3 A4 n1 k1 n2 k2 n3 k3 n4 k4 g2 g1 w2 (st.box (cs:=[.int .i64 above,.int .i64 delay,.bool ret]) (i:=1) rfl|>.below eX) (st.box (cs:=[.slice A1 n1 k1,.slice A2 n2 k2,.slice A3 n3 k3,.slice A4 n4 k4]) (i:=2) rfl|>.below eX) oN
  | 1,hf,hx=>cases hf;cases hx;exact aRs above delay ret g2 w2 (st.box (cs:=[.int .i64 above,.int .i64 delay,.bool ret]) (i:=1) rfl|>.below eX)
  | i+2,hf,_=>simp at hf)) ?_
 refine aA ?_;exact aS (h:=fun _ _=>rfl)
theorem aMD(r:Int)(w:World):
  Cz 134 #[.agg #[iv r]] w (Rt (iv (aA9 r)) w):=by
 refine aL func134 ntmps134 ?_;refine aB ?_;refine bA fun g1=>?_;refine aB ?_;refine dH (fun w1 st=>vF _ _ _ w1) ?_;refine aB ?_;refine dH (fun w1 st=>wH _ _ w1) ?_;refine aB ?_;exact aS (h:=fun _ _=>rfl)
theorem aRD(clock domain reset iT:Int)(A B:Option Addr)(n k nb kb:Nat)(A1 A2 A3 A4:Option Addr)(n1 k1 n2 k2 n3 k3 n4 k4:Nat)(gd gs:Nat)(w:World)(hd:eC w gd 0 [iv clock,iv domain,iv reset,.int .u32 iT,.slice B nb kb,.slice A n k])(hs:eC w gs 0 [.slice A1 n1 k1,.slice A2 n2 k2,.slice A3 n3 k3,.slice A4 n4 k4])(mK:(n1:Int)≤9223372036854775806):
  Cz 206 #[pt gd,pt gs] w (Rt (iv (jD (!iU clock 0 ((n1:Int) - 1)) 4)) w):=by
 refine aL func206 ntmps206 ?_;refine aB ?_;refine dH (fun w1 st=>vF _ _ _ w1) ?_;refine aB ?_;refine dH (fun w1 st=>wH _ _ w1) ?_;refine aB ?_;exact aS (h:=fun _ _=>rfl)
theorem aRC(clock domain reset iT:Int)(A B:Option Addr)(n k nb kb:Nat)(A1 A2 A3 A4:Option Addr)(n1 k1 n2 k2 n3 k3 n4 k4:Nat)(gd gs:Nat)(w:World)(hd:eC w gd 0 [iv clock,iv domain,iv reset,.int .u32 iT,.slice B nb kb,.slice A n k])(hs:eC w gs 0 [.slice A1 n1 k1,.slice A2 n2 k2,.slice A3 n3 k3,.slice A4 n4 k4])(oN:(n2:Int)≤9223372036854775806):
  Cz 207 #[pt gd,pt gs] w (Rt (iv (jD (!iU domain 0 ((n2:Int) - 1)) 4)) w):=by
 refine aL func207 ntmps207 ?_;refine aB ?_;refine dH (fun w1 st=>vF _ _ _ w1) ?_;refine aB ?_;refine dH (fun w1 st=>wH _ _ w1) ?_;refine aB ?_;exact aS (h:=fun _ _=>rfl)
theorem aRB(clock domain reset iT:Int)(A B:Option Addr)(n k nb kb:Nat)(A1 A2 A3 A4:Option Addr)(n1 k1 n2 k2 n3 k3 n4 k4:Nat)(gd gs:Nat)(w:World)(hd:eC w gd 0 [iv clock,iv domain,iv reset,.int .u32 iT,.slice B nb kb,.slice A n k])(hs:eC w gs 0 [.slice A1 n1 k1,.slice A2 n2 k2,.slice A3 n3 k3,.slice A4 n4 k4])(hz3:(n3:Int)≤9223372036854775806):
  Cz 208 #[pt gd,pt gs] w (Rt (iv (jD (!iU reset 0 ((n3:Int) - 1)) 4)) w):=by
 refine aL func208 ntmps208 ?_;refine aB ?_;refine dH (fun w1 st=>vF _ _ _ w1) ?_;refine aB ?_;refine dH (fun w1 st=>wH _ _ w1) ?_;refine aB ?_;exact aS (h:=fun _ _=>rfl)
theorem aR9(f:Int)(A1 A2 A3 A4:Option Addr)(n1 k1 n2 k2 n3 k3 n4 k4:Nat)(gs:Nat)(w:World)(hs:eC w gs 0 [.slice A1 n1 k1,.slice A2 n2 k2,.slice A3 n3 k3,.slice A4 n4 k4])(Qo:(n4:Int)≤9223372036854775806):
  Cz 210 #[iv f,pt gs] w (Rt (iv (jD (!iU f 0 ((n4:Int) - 1)) 4)) w):=by
 refine aL func210 ntmps210 ?_;refine aB ?_;refine dH (fun w1 st=>vF _ _ _ w1) ?_;refine aB ?_;refine dH (fun w1 st=>wH _ _ w1) ?_;refine aB ?_;exact aS (h:=fun _ _=>rfl)
theorem aRA(clock domain reset iT:Int)(A B:Option Addr)(n k nb kb:Nat)(A1 A2 A3 A4:Option Addr)(n1 k1 n2 k2 n3 k3 n4 k4:Nat)(gd gs:Nat)(w:World)(hd:eC w gd 0 [iv clock,iv domain,iv reset,.int .u32 iT,.slice B nb kb,.slice A n k])(hs:eC w gs 0 [.slice A1 n1 k1,.slice A2 n2 k2,.slice A3 n3 k3,.slice A4 n4 k4])(Qo:(n4:Int)≤9223372036854775806)(zs:List Int)(hA:aI (all w) 1 A n (aK zs))(hn:n=zs.length)(hz:(n:Int)≤9223372036854775806):
  Cz 209 #[pt gd,pt gs] w (Rt (iv (lE (zs.map fun f=>jD (!iU f 0 ((n4:Int) - 1)) 4))) w):=by
 refine aL func209 ntmps209 ?_;refine aA ?_;refine kL (vf:=[]) (vc:=[pt gs]) rfl rfl (by decide) ?_
 refine dH (fun w1 st=>aIL _ _ _ 210 [pt gs] ((aK zs).map fun v=>[v]) (zs.map fun f=>jD (!iU f 0 ((n4:Int) - 1)) 4) w1 (by rw[aI9];exact hA.le (jR (st.started (by simp)))) (by simp) (by simp[aK];omega) (by simp;omega) (by omega) (by kernel_rfl) (fun i r x hr hx w2 eX=>by
  obtain⟨f,hf,rfl⟩:∃f,zs[i]? =some f∧r=[iv f]:=by
   rw[List.getElem?_map,aK,List.getElem?_map] at hr;cases hq:zs[i]? with
   | none=>simp[hq] at hr
   | some f=>simp[hq] at hr;exact⟨f,rfl,hr.symm⟩
  rw[List.getElem?_map,hf] at hx;cases hx
  exact aR9 f A1 A2 A3 A4 n1 k1 n2 k2 n3 k3 n4 k4 gs w2 ((hs.below (st.started (by simp))).below eX) Qo)) ?_
 refine aA ?_;exact aS (h:=fun _ _=>rfl)
theorem aR8(rg:List Rg)(clock domain reset iT:Int)(A B:Option Addr)(n k nb kb:Nat)(A1 A2 A3 A4:Option Addr)(n1 k1 n2 k2 n3 k3 n4 k4:Nat)(w:World)(mK:(n1:Int)≤9223372036854775806)(oN:(n2:Int)≤9223372036854775806)(hz3:(n3:Int)≤9223372036854775806)(Qo:(n4:Int)≤9223372036854775806)(zs:List Int)(hA:aI (all w) 1 A n (aK zs))(hn:n=zs.length)(hz:(n:Int)≤9223372036854775806):
  Cz 138 #[.agg #[.slice A1 n1 k1,.slice A2 n2 k2,.slice A3 n3 k3,.slice A4 n4 k4],.agg #[iv clock,iv domain,iv reset,.int .u32 iT,.slice B nb kb,.slice A n k]] w (Rt (iv (Se n1 n2 n3 n4 ⟨clock,domain,reset,iT,rg,zs⟩)) w):=by
 refine aL func138 ntmps138 ?_;refine aA ?_;refine bA fun g1=>?_;refine bA fun g2=>?_;refine aA ?_;refine kL (vf:=[]) (vc:=[pt g2,pt g1]) rfl rfl (by decide) ?_;refine kL (vf:=[]) (vc:=[pt g2,pt g1]) rfl rfl (by decide) ?_;refine kL (vf:=[]) (vc:=[pt g2,pt g1]) rfl rfl (by decide) ?_;refine kL (vf:=[]) (vc:=[pt g2,pt g1]) rfl rfl (by decide) ?_;refine eL fun g3=>?_
 refine dH (fun w1 st=>aBx _ _ _ [(206,[pt g2,pt g1]),(207,[pt g2,pt g1]),(208,[pt g2,pt g1]),(209,[pt g2,pt g1])] [jD (!iU clock 0 ((n1:Int) - 1)) 4,jD (!iU domain 0 ((n2:Int) - 1)) 4,jD (!iU reset 0 ((n3:Int) - 1)) 4,lE (zs.map fun f=>jD (!iU f 0 ((n4:Int) - 1)) 4)] w1 (st.rN (i:=0) (n:=4) (sz:=1) (cs:=[.func (.func 206) #[] #[pt g2,pt g1],.func (.func 207) #[] #[pt g2,pt g1],.func (.func 208) #[] #[pt g2,pt g1],.func (.func 209) #[] #[pt g2,pt g1]]) rfl rfl) rfl rfl (by decide) (by simp only[List.mem_cons,List.not_mem_nil,or_false];rintro f (rfl | rfl | rfl | rfl)<;>kernel_rfl) (fun i f x hf hx w2 eX=>by
  have jU:=(st.started (by simp)).trans (eX.mono st.size)
  match i,hf,hx with
  | 0,hf,hx=>cases hf;cases hx;exact aRD clock domain reset iT A B n k nb kb A1 A2 A3 A4 n1 k1 n2 k2 n3 k3 n4 k4 g2 g1 w2 (st.box (cs:=[.int .i64 clock,.int .i64 domain,.int .i64 reset,.int .u32 iT,.slice B nb kb,.slice A n k]) (i:=1) rfl|>.below eX) (st.box (cs:=[.slice A1 n1 k1,.slice A2 n2 k2,.slice A3 n3 k3,.slice A4 n4 k4]) (i:=2) rfl|>.below eX) mK
  | 1,hf,hx=>cases hf;cases hx;exact aRC clock domain reset iT A B n k nb kb A1 A2 A3 A4 n1 k1 n2 k2 n3 k3 n4 k4 g2 g1 w2 (st.box (cs:=[.int .i64 clock,.int .i64 domain,.int .i64 reset,.int .u32 iT,.slice B nb kb,.slice A n k]) (i:=1) rfl|>.below eX) (st.box (cs:=[.slice A1 n1 k1,.slice A2 n2 k2,.slice A3 n3 k3,.slice A4 n4 k4]) (i:=2) rfl|>.below eX) oN
  | 2,hf,hx=>cases hf;cases hx;exact aRB clock domain reset iT A B n k nb kb A1 A2 A3 A4 n1 k1 n2 k2 n3 k3 n4 k4 g2 g1 w2 (st.box (cs:=[.int .i64 clock,.int .i64 domain,.int .i64 reset,.int .u32 iT,.slice B nb kb,.slice A n k]) (i:=1) rfl|>.below eX) (st.box (cs:=[.slice A1 n1 k1,.slice A2 n2 k2,.slice A3 n3 k3,.slice A4 n4 k4]) (i:=2) rfl|>.below eX) hz3
  | 3,hf,hx=>cases hf;cases hx;exact aRA clock domain reset iT A B n k nb kb A1 A2 A3 A4 n1 k1 n2 k2 n3 k3 n4 k4 g2 g1 w2 (st.box (cs:=[.int .i64 clock,.int .i64 domain,.int .i64 reset,.int .u32 iT,.slice B nb kb,.slice A n k]) (i:=1) rfl|>.below eX) (st.box (cs:=[.slice A1 n1 k1,.slice A2 n2 k2,.slice A3 n3 k3,.slice A4 n4 k4]) (i:=2) rfl|>.below eX) Qo zs (hA.le (jR jU)) hn hz
  | i+4,hf,_=>simp at hf)) ?_
 refine aA ?_;exact aS (h:=fun _ _=>rfl)
theorem aQs(rg:List Rg)(zs:List Int)(clock domain reset iT:Int)(A B:Option Addr)(n k nb kb:Nat)(w:World)(Ab:nb=rg.length)(hn:n=zs.length):
  Cz 193 #[.agg #[iv clock,iv domain,iv reset,.int .u32 iT,.slice B nb kb,.slice A n k]] w (Rt (iv (Qe ⟨clock,domain,reset,iT,rg,zs⟩)) w):=by
 refine aL func193 ntmps193 ?_;refine aB ?_;refine bA fun g1=>?_;refine aB ?_;refine bU (t:=7) rfl (fun hg=>?_) (fun hg=>?_)
 ·
  refine aB ?_;refine dH (fun w1 st=>wH _ _ w1) ?_;refine aB ?_;exact aS (h:=fun _ _=>by subst Ab hn;simp[Qe,hg])
 ·
  refine aB ?_;refine dH (fun w1 st=>wH _ _ w1) ?_;refine aB ?_;exact aS (h:=fun _ _=>by subst Ab hn;simp[Qe,hg])
end
section
def aD.small(s:aD):Prop:=s.aF.length≤1000000∧s.domains.length≤1000000∧s.aT.length≤1000000∧s.aC.length≤1000000∧(∀c∈s.aF,c.src.length≤1000000)∧∀d∈s.aC,d.fR.length≤1000000
structure fE(w:World)(s:aD)(A1:Option Addr)(n1:Nat)(A2:Option Addr)(n2:Nat)(A3:Option Addr)(n3:Nat)(A4:Option Addr)(n4:Nat):Prop where
 jJ:jN (fF (all w)) (tZ (fF (all w))) 86 6 A1 n1 s.aF
 dom:jN (fF (all w)) vA 50 3 A2 n2 s.domains
 Cj:jN (fF (all w)) yV 88 1 A3 n3 s.aT
 dev:jN (fF (all w)) (sY (fF (all w))) 38 6 A4 n4 s.aC
 small:s.small
section
variable{w w':World}{s:aD}{A1 A2 A3 A4:Option Addr}{n1 n2 n3 n4:Nat}
theorem fE.le(h:fE w s A1 n1 A2 n2 A3 n3 A4 n4)(hb:Below w.heap.size w w'):fE w' s A1 n1 A2 n2 A3 n3 A4 n4:=
 ⟨h.jJ.mono (nU (jR hb)) (fun _ _=>tZ.mono (nU (jR hb))),h.dom.mono (nU (jR hb)) (fun _ _ h=>h),h.Cj.mono (nU (jR hb)) (fun _ _ h=>h),h.dev.mono (nU (jR hb)) (fun _ _=>sY.mono (nU (jR hb))),h.small⟩
theorem fE.mZ(h:fE w s A1 n1 A2 n2 A3 n3 A4 n4):n1=s.aF.length:=by obtain⟨_,_,h,_⟩:=h.jJ;exact h
theorem fE.nL(h:fE w s A1 n1 A2 n2 A3 n3 A4 n4):n2=s.domains.length:=by obtain⟨_,_,h,_⟩:=h.dom;exact h
theorem fE.pM(h:fE w s A1 n1 A2 n2 A3 n3 A4 n4):n3=s.aT.length:=by obtain⟨_,_,h,_⟩:=h.Cj;exact h
theorem fE.nK(h:fE w s A1 n1 A2 n2 A3 n3 A4 n4):n4=s.aC.length:=by obtain⟨_,_,h,_⟩:=h.dev;exact h
end
theorem jN.row{α:Type}{w:World}{R:α→List Value→Prop}{t:TypeId}{sz n:Nat}{A:Option Addr}{es:List α}(h:jN (fF (all w)) R t sz A n es){k:Nat}{e:α}(hk:es[k]? =some e):
  ∃b off r,A=some ⟨b,off,none⟩∧r.length=sz∧R e r∧eC w b (off+k*sz) r:=by
 obtain⟨rows,h1,h2,h3⟩:=h
 have hke:=(List.getElem?_eq_some_iff.1 hk).1
 have hl:=h1.len.1
 obtain⟨r,hr⟩:∃r,rows[k]? =some r:=⟨_,List.getElem?_eq_getElem (by omega)⟩
 obtain⟨e',he,hrl,hR⟩:=h1.at_ hr;rw[hk] at he;cases he;obtain⟨b,off,hA,hro⟩:=aI.row h3 h1.aBN hr (by omega);exact⟨b,off,r,hA,hrl,hR,hro⟩
def gO(s:aD):List (List Int):=s.aF.map (·.src)
def gM(s:aD):List (List Int):=s.domains.map fun d=>if d.above= -1 then[] else[d.above]
def cQ(s:aD):List (List Int):=s.aC.map (·.fR)
def Ft(g:List (List Int)):Int:=jD (decide ((fQ g).1=5)) 5
theorem aEl{vs:List Value}{v z:Value}{k n:Nat}(h:vs.length=k)(hk:k < n):(vs++List.replicate (n - k) z).set k v=(vs++[v])++List.replicate (n - (k+1)) z:=by
 rw[List.set_append_right _ _ (by omega),h,Nat.sub_self,show n - k=(n - (k+1))+1 by omega,List.replicate_succ,List.set_cons_zero,List.append_assoc];rfl
theorem aQG{vs:List Value}{z:Value}{k n:Nat}(hk:k < n):vs++List.replicate (n - k) z=(vs++[z])++List.replicate (n - (k+1)) z:=by
 rw[show n - k=(n - (k+1))+1 by omega,List.replicate_succ,List.append_assoc];rfl
theorem Je{g:List (List Int)}{k:Nat}{vs:List Value}{q q':Piece}{l:List Int}{v:Value}(h:Rows (qP (fF q)) 1 (g.take k) (vs.map fun v=>[v]))(hl:q.Le q')(hg:g[k]? =some l)(hv:qP (fF q') l [v]):Rows (qP (fF q')) 1 (g.take (k+1)) ((vs++[v]).map fun v=>[v]):=by
 rw[List.take_add_one,hg,Option.toList_some,List.map_append];exact(h.mono (fun _ _=>qP.mono (nU hl))).snoc rfl hv
theorem aFn{q q2:Piece}{g:List (List Int)}{vs:List Value}{gG n:Nat}{t:TypeId}(h:Rows (qP (fF q)) 1 g (vs.map fun v=>[v]))(hl:q.Le q2)(h1:∃F,(HP.aE gG t vs).sat F q2.w∧∀b,F b→q2.Z b)(hn:n=g.length):mV q2 (some ⟨gG,0,none⟩) n g:=by
 obtain⟨F,hs,hz⟩:=h1;refine⟨_,h.mono (fun _ _=>qP.mono (nU hl)),hn,?_⟩;rw[show(vs.map fun v=>[v]).flatten=vs by clear h hs;induction vs<;>simp_all];refine sW (c:=0) hs hz ?_
 have:=h.len.1
 simp at this;omega
def aFh(zs:List Int)(v:Value)(w w':World):Prop:=∃A c,v=.slice A zs.length c∧aI (fresh w w') 1 A zs.length (aK zs)
def wF(g:List (List Int))(v:Value)(w w':World):Prop:=∃A c,v=.slice A g.length c∧mV (fresh w w') A g.length g
theorem aSn(A:Option Addr)(n c:Nat)(g:List (List Int))(w:World)(hg:mV (all w) A n g)(hn:n=g.length)(hn2:(n:Int)≤9223372036854775806)(hlen:∀l∈g,(l.length:Int)≤9223372036854775806):
  Cz 203 #[.slice A n c] w (Rt (iv (fQ g).1) w):=by
 refine aL func203 ntmps203 ?_;refine aB ?_;refine uP (fun v=>∃A m c,v=.tuple #[.slice A m c,iv (fQ g).1]) (fun w1 st=>(aAF A n c g w1 (hg.le (jR (st.started (by simp)))) hn hn2 hlen).mono fun y w2 h=>?_) ?_
 ·obtain⟨⟨A',m,c',hy,_,_⟩,hb⟩:=h;exact⟨⟨_,hy,A',m,c',rfl⟩,hb⟩
 rintro _ ⟨A',m,c',rfl⟩;refine aB ?_;exact aS (h:=fun _ _=>rfl)
theorem aE1(A:Option Addr)(n c:Nat)(g:List (List Int))(w:World)(hg:mV (all w) A n g)(hn:n=g.length)(hn2:(n:Int)≤9223372036854775806)(hlen:∀l∈g,(l.length:Int)≤9223372036854775806):
  Cz 124 #[.slice A n c] w (Rt (iv (Ft g)) w):=by
 refine aL func124 ntmps124 ?_;refine aB ?_;refine dH (fun w1 st=>aSn A n c g w1 (hg.le (jR (st.started (by simp)))) hn hn2 hlen) ?_;refine aB ?_;refine dH (fun w1 st=>wH _ _ w1) ?_;refine aB ?_;exact aS (h:=fun _ _=>rfl)
theorem aHe(A:Option Addr)(n c:Nat)(zs:List Int)(w:World)(hs:aI (all w) 1 A n (aK zs))(hn:n=zs.length)(hn2:n≤1000000):
  Cz 140 #[.slice A n c] w (fun y w'=>(∃v,y=.returned v∧aFh zs v w w')∧Below w.heap.size w w'):=by
 refine aL func140 ntmps140 ?_;refine aB ?_;refine iO 3 1 ?_;refine gH 0 1 8 n (n':=n) (v:=sn) (el:=3) (by kernel_rfl) (by kernel_rfl) (by decide) rfl rfl rfl (qV (by simp) hs) (by simp[aK,Value.oneCell']) (by omega) (by omega) (by omega) (by decide) fun A' k'=>?_;refine aB ?_;refine dP [] [0] [] (by simp) rfl (by decide) (by decide) fun q hq _ hfr=>?_;subst hn;exact aS (h:=fun w1 st=>⟨_,rfl,A',k',rfl,(aI.own (hq 0 _ (by simp) rfl)).le (st.mF (by simp) (hfr (by simp) (by simp)))⟩)
theorem aJk(s:aD)(A1 A2 A3 A4:Option Addr)(n1 k1 n2 k2 n3 k3 n4 k4:Nat)(w:World)(hW:fE w s A1 n1 A2 n2 A3 n3 A4 n4):
  Cz 125 #[.agg #[.slice A1 n1 k1,.slice A2 n2 k2,.slice A3 n3 k3,.slice A4 n4 k4]] w (fun y w'=>(∃v,y=.returned v∧wF (gO s) v w w')∧Below w.heap.size w w'):=by
 have hn:=hW.mZ
 have cS:=hW.small
 unfold aD.small at cS;obtain⟨hs1,fX,rU,tG,nX,oO⟩:=cS;refine aL func125 ntmps125 ?_;refine aB ?_;refine bA fun g1=>?_;refine aB ?_;refine lX 24 (el:=22) (z:=sn) (by kernel_rfl) (by kernel_rfl) rfl rfl rfl (by omega) (by omega) (by decide) fun g2=>?_;refine aB ?_;refine bJ [(13,iv 0),(12,iv n1),(11,.slice A1 n1 k1),(3,.slice (some ⟨g2,0,none⟩) n1 n1),(1,pt g1)] ?_;refine dP [] [] [0,1] (by simp) rfl (by decide) (by decide) fun q0 _ _ Cu=>?_;refine aB ?_;refine eI (fun m e R H=>∃(k:Nat) (vs:List Value) (q:Piece),k≤n1∧m=n1 - k∧qR w q∧Rows (qP (fF q)) 1 ((gO s).take k) (vs.map fun v=>[v])∧vs.length=k∧e=[(13,iv k),(12,iv n1),(11,.slice A1 n1 k1),(3,.slice (some ⟨g2,0,none⟩) n1 n1),(1,pt g1)]∧R=[q,all w]∧H=[HP.aE g2 22 (vs++List.replicate (n1 - k) (sn)),HP.aE g1 30 [.slice A1 n1 k1,.slice A2 n2 k2,.slice A3 n3 k3,.slice A4 n4 k4]]) n1 ⟨0,[],_,by omega,rfl,Cu (by simp) (by simp),trivial,rfl,rfl,rfl,rfl⟩ fun m e R H hI=>?_;obtain⟨k,vs,q,hk,rfl,qY,hrows,hvl,rfl,rfl,rfl⟩:=hI;refine aB ?_;refine aG rfl (fun h=>?_) (fun h=>?_)
 ·
  refine aB ?_
  have hkn:k < s.aF.length:=by omega
  obtain⟨e,he⟩:∃e,s.aF[k]? =some e:=⟨_,List.getElem?_eq_getElem hkn⟩
  obtain⟨b,off,r,rfl,hrl,hR,hro⟩:=hW.jJ.row he;obtain⟨Af,nf,kf,rfl,hnf,pN⟩:=hR
  have yH:(gO s)[k]? =some (e.src):=by simp[gO,he]
  refine aB ?_;refine bR fun g3=>?_;refine fP rfl (by decide) ?_;refine uB rfl rfl ?_;simp only[iH,Value.cells,List.set,List.take,List.drop,List.nil_append,List.append_nil,List.length_cons,List.length_nil,List.cons_append,Nat.reduceAdd];refine aB ?_;refine jP [q] (aFh e.src) (fun w1 st=>aHe Af nf kf e.src w1 (aI.le pN (jR (st.started (by simp)))) hnf (by have:=nX e (List.mem_of_getElem? he);omega)) ?_;rintro _ w1 q' ⟨Ao,co,rfl,rR⟩ hf' hle aDN;refine kd (dat (k) (k)) ?_;refine tA 1 rfl (by kernel_rfl) rfl rfl rfl (by simp;omega) ?_;dsimp only[List.set];rw[aEl hvl (by omega)];refine aB ?_;exact dY (n1 - (k+1)) ⟨k+1,vs++[_],q',by omega,rfl,aDN (by simpa using qY),Je hrows (hle q (by simp)) yH ⟨Ao,_,co,rfl,rfl,aI.le rR hf'⟩,by simp[hvl],rfl,rfl,rfl⟩
 ·
  refine aB ?_;obtain rfl:k=n1:=by omega
  rw[Nat.sub_self,List.replicate_zero,List.append_nil];rw[List.take_of_length_le (by simp[gO];omega)] at hrows;refine aB ?_;refine dP [q] [0] [] (by simp) rfl (by decide) (by decide) fun q2 hq hle hfr=>?_
  have kK:k=(gO s).length:=by simp[gO];omega
  exact aS (h:=fun w1 st=>⟨_,rfl,some ⟨g2,0,none⟩,k,by rw[←kK],by rw[←kK];exact(aFn hrows (hle q (by simp)) (hq 0 _ (by simp) rfl) kK).le (st.mF (by simp) (hfr (by simp) (by simpa using qY)))⟩)
theorem aHp(s:aD)(A1 A2 A3 A4:Option Addr)(n1 k1 n2 k2 n3 k3 n4 k4:Nat)(w:World)(hW:fE w s A1 n1 A2 n2 A3 n3 A4 n4):
  Cz 63 #[.agg #[.slice A1 n1 k1,.slice A2 n2 k2,.slice A3 n3 k3,.slice A4 n4 k4]] w (fun y w'=>(∃v,y=.returned v∧wF (cQ s) v w w')∧Below w.heap.size w w'):=by
 have hn:=hW.nK
 have cS:=hW.small
 unfold aD.small at cS;obtain⟨hs1,fX,rU,tG,nX,oO⟩:=cS;refine aL func63 ntmps63 ?_;refine aB ?_;refine bA fun g1=>?_;refine aB ?_;refine lX 24 (el:=22) (z:=sn) (by kernel_rfl) (by kernel_rfl) rfl rfl rfl (by omega) (by omega) (by decide) fun g2=>?_;refine aB ?_;refine bJ [(13,iv 0),(12,iv n4),(11,.slice A4 n4 k4),(3,.slice (some ⟨g2,0,none⟩) n4 n4),(1,pt g1)] ?_;refine dP [] [] [0,1] (by simp) rfl (by decide) (by decide) fun q0 _ _ Cu=>?_;refine aB ?_;refine eI (fun m e R H=>∃(k:Nat) (vs:List Value) (q:Piece),k≤n4∧m=n4 - k∧qR w q∧Rows (qP (fF q)) 1 ((cQ s).take k) (vs.map fun v=>[v])∧vs.length=k∧e=[(13,iv k),(12,iv n4),(11,.slice A4 n4 k4),(3,.slice (some ⟨g2,0,none⟩) n4 n4),(1,pt g1)]∧R=[q,all w]∧H=[HP.aE g2 22 (vs++List.replicate (n4 - k) (sn)),HP.aE g1 30 [.slice A1 n1 k1,.slice A2 n2 k2,.slice A3 n3 k3,.slice A4 n4 k4]]) n4 ⟨0,[],_,by omega,rfl,Cu (by simp) (by simp),trivial,rfl,rfl,rfl,rfl⟩ fun m e R H hI=>?_;obtain⟨k,vs,q,hk,rfl,qY,hrows,hvl,rfl,rfl,rfl⟩:=hI;refine aB ?_;refine aG rfl (fun h=>?_) (fun h=>?_)
 ·
  refine aB ?_
  have hkn:k < s.aC.length:=by omega
  obtain⟨e,he⟩:∃e,s.aC[k]? =some e:=⟨_,List.getElem?_eq_getElem hkn⟩
  obtain⟨b,off,r,rfl,hrl,hR,hro⟩:=hW.dev.row he;obtain⟨Ar,nr,kr,Af,nf,kf,rfl,_,hnf,_,pN⟩:=hR
  have yH:(cQ s)[k]? =some (e.fR):=by simp[cQ,he]
  refine aB ?_;refine bR fun g3=>?_;refine fP rfl (by decide) ?_;refine uB rfl rfl ?_;simp only[iH,Value.cells,List.set,List.take,List.drop,List.nil_append,List.append_nil,List.length_cons,List.length_nil,List.cons_append,Nat.reduceAdd];refine aB ?_;refine jP [q] (aFh e.fR) (fun w1 st=>aHe Af nf kf e.fR w1 (aI.le pN (jR (st.started (by simp)))) hnf (by have:=oO e (List.mem_of_getElem? he);omega)) ?_;rintro _ w1 q' ⟨Ao,co,rfl,rR⟩ hf' hle aDN;refine kd (dat (k) (k)) ?_;refine tA 1 rfl (by kernel_rfl) rfl rfl rfl (by simp;omega) ?_;dsimp only[List.set];rw[aEl hvl (by omega)];refine aB ?_;exact dY (n4 - (k+1)) ⟨k+1,vs++[_],q',by omega,rfl,aDN (by simpa using qY),Je hrows (hle q (by simp)) yH ⟨Ao,_,co,rfl,rfl,aI.le rR hf'⟩,by simp[hvl],rfl,rfl,rfl⟩
 ·
  refine aB ?_;obtain rfl:k=n4:=by omega
  rw[Nat.sub_self,List.replicate_zero,List.append_nil];rw[List.take_of_length_le (by simp[cQ];omega)] at hrows;refine aB ?_;refine dP [q] [0] [] (by simp) rfl (by decide) (by decide) fun q2 hq hle hfr=>?_
  have kK:k=(cQ s).length:=by simp[cQ];omega
  exact aS (h:=fun w1 st=>⟨_,rfl,some ⟨g2,0,none⟩,k,by rw[←kK],by rw[←kK];exact(aFn hrows (hle q (by simp)) (hq 0 _ (by simp) rfl) kK).le (st.mF (by simp) (hfr (by simp) (by simpa using qY)))⟩)
theorem aIQ(s:aD)(A1 A2 A3 A4:Option Addr)(n1 k1 n2 k2 n3 k3 n4 k4:Nat)(w:World)(hW:fE w s A1 n1 A2 n2 A3 n3 A4 n4):
  Cz 131 #[.agg #[.slice A1 n1 k1,.slice A2 n2 k2,.slice A3 n3 k3,.slice A4 n4 k4]] w (fun y w'=>(∃v,y=.returned v∧wF (gM s) v w w')∧Below w.heap.size w w'):=by
 have hn:=hW.nL
 have cS:=hW.small
 unfold aD.small at cS;obtain⟨hs1,fX,rU,tG,nX,oO⟩:=cS;refine aL func131 ntmps131 ?_;refine aB ?_;refine bA fun g1=>?_;refine aB ?_;refine lX 24 (el:=22) (z:=sn) (by kernel_rfl) (by kernel_rfl) rfl rfl rfl (by omega) (by omega) (by decide) fun g2=>?_;refine aB ?_;refine bJ [(13,iv 0),(12,iv n2),(11,.slice A2 n2 k2),(3,.slice (some ⟨g2,0,none⟩) n2 n2),(1,pt g1)] ?_;refine dP [] [] [0,1] (by simp) rfl (by decide) (by decide) fun q0 _ _ Cu=>?_;refine aB ?_;refine eI (fun m e R H=>∃(k:Nat) (vs:List Value) (q:Piece),k≤n2∧m=n2 - k∧qR w q∧Rows (qP (fF q)) 1 ((gM s).take k) (vs.map fun v=>[v])∧vs.length=k∧e=[(13,iv k),(12,iv n2),(11,.slice A2 n2 k2),(3,.slice (some ⟨g2,0,none⟩) n2 n2),(1,pt g1)]∧R=[q,all w]∧H=[HP.aE g2 22 (vs++List.replicate (n2 - k) (sn)),HP.aE g1 30 [.slice A1 n1 k1,.slice A2 n2 k2,.slice A3 n3 k3,.slice A4 n4 k4]]) n2 ⟨0,[],_,by omega,rfl,Cu (by simp) (by simp),trivial,rfl,rfl,rfl,rfl⟩ fun m e R H hI=>?_;obtain⟨k,vs,q,hk,rfl,qY,hrows,hvl,rfl,rfl,rfl⟩:=hI;refine aB ?_;refine aG rfl (fun h=>?_) (fun h=>?_)
 ·
  refine aB ?_
  have hkn:k < s.domains.length:=by omega
  obtain⟨e,he⟩:∃e,s.domains[k]? =some e:=⟨_,List.getElem?_eq_getElem hkn⟩
  obtain⟨b,off,r,rfl,hrl,hR,hro⟩:=hW.dom.row he;obtain rfl:=hR
  have yH:(gM s)[k]? =some (if e.above= -1 then[] else[e.above]):=by simp[gM,he]
  refine aB ?_;refine bR fun g3=>?_;refine fP rfl (by decide) ?_;refine uB rfl rfl ?_;simp only[iH,Value.cells,List.set,List.take,List.drop,List.nil_append,List.append_nil,List.length_cons,List.length_nil,List.cons_append,Nat.reduceAdd];refine aB ?_;refine aG rfl (fun h=>?_) (fun h=>?_)
  ·
   refine aB ?_;refine eL fun g4=>?_;refine kd (dat (k) (k)) ?_;refine tA 2 rfl (by kernel_rfl) rfl rfl rfl (by simp;omega) ?_;dsimp only[List.set];rw[aEl hvl (by omega)];refine aB ?_;refine dP [q] [0] [2,3] (by simp) rfl (by decide) (by decide) fun q' mE hle Ey=>?_;obtain⟨Fg,Mo,Mh⟩:=mE 0 _ (by simp) rfl
   have rR:=sW (n:=1) (sz:=1) (c:=0) Mo Mh rfl
   exact dY (n2 - (k+1)) ⟨k+1,vs++[_],q',by omega,rfl,Ey (by simp) (by simpa using qY),Je hrows (hle q (by simp)) yH (by rw[if_neg h];exact⟨_,1,1,rfl,rfl,rR⟩),by simp[hvl],rfl,rfl,rfl⟩
  ·
   refine aB ?_;rw[aQG (k:=k) (by omega)];exact dY (n2 - (k+1)) ⟨k+1,vs++[_],q,by omega,rfl,qY,Je hrows (fun b hb=>⟨hb,rfl⟩) yH (by rw[if_pos (Classical.not_not.1 h)];exact⟨_,0,0,rfl,rfl,aI.nil _ 1⟩),by simp[hvl],rfl,rfl,rfl⟩
 ·
  refine aB ?_;obtain rfl:k=n2:=by omega
  rw[Nat.sub_self,List.replicate_zero,List.append_nil];rw[List.take_of_length_le (by simp[gM];omega)] at hrows;refine aB ?_;refine dP [q] [0] [] (by simp) rfl (by decide) (by decide) fun q2 hq hle hfr=>?_
  have kK:k=(gM s).length:=by simp[gM];omega
  exact aS (h:=fun w1 st=>⟨_,rfl,some ⟨g2,0,none⟩,k,by rw[←kK],by rw[←kK];exact(aFn hrows (hle q (by simp)) (hq 0 _ (by simp) rfl) kK).le (st.mF (by simp) (hfr (by simp) (by simpa using qY)))⟩)
end
section
def Ho(s:aD):Int:=if(12:Int) < s.aF.length∨(6:Int) < s.domains.length∨(6:Int) < s.aT.length∨(6:Int) < s.aC.length then 8 else lE (s.aC.map Qe)
def aB6(s:aD):List Int:=[Ho s,lE (s.aF.map (Np s.aF.length)),Ft (gO s),lE (s.domains.map (Sa s.domains.length)),Ft (gM s),lE (s.aT.map aA9),
 lE (s.aC.map (Se s.aF.length s.domains.length s.aT.length s.aC.length)),Ft (cQ s)]
def Yq(s:aD):Int:=lE (aB6 s)
theorem jN.rows{α:Type}{w:World}{R:α→List Value→Prop}{t:TypeId}{sz n:Nat}{A:Option Addr}{es:List α}(h:jN (fF (all w)) R t sz A n es)(h1:∀e r,R e r→∀u∈r,u.oneCell'=true):
  ∃rows:List (List Value),aI (all w) sz A n rows.flatten∧(∀r∈rows,r.length=sz)∧(∀r∈rows,∀u∈r,u.oneCell'=true)∧rows.length=n∧n=es.length∧∀(i:Nat) (r:List Value),rows[i]? =some r→∃e,es[i]? =some e∧R e r:=by
 obtain⟨rows,h2,h3,h4⟩:=h;refine⟨rows,h4,h2.aBN,fun r hr=>?_,by rw[h2.len.1,h3],h3,fun i r hr=>?_⟩
 ·obtain⟨i,hi⟩:=List.getElem?_of_mem hr;obtain⟨e,_,_,hR⟩:=h2.at_ hi;exact h1 e r hR
 ·obtain⟨e,he,_,hR⟩:=h2.at_ hr;exact⟨e,he,hR⟩
theorem tZ.one{S:xE}(e:eF)(r:List Value)(h:tZ S e r):∀u∈r,u.oneCell'=true:=by obtain⟨A,n,k,rfl,_⟩:=h;simp[Value.oneCell']
theorem vA.one(e:Dom)(r:List Value)(h:vA e r):∀u∈r,u.oneCell'=true:=by cases h;simp[Value.oneCell']
theorem yV.one(e:Int)(r:List Value)(h:yV e r):∀u∈r,u.oneCell'=true:=by cases h;simp[Value.oneCell']
theorem sY.one{S:xE}(e:bO)(r:List Value)(h:sY S e r):∀u∈r,u.oneCell'=true:=by obtain⟨A,n,k,A',n',k',rfl,_⟩:=h;simp[Value.oneCell']
theorem aQr(s : aD)(A1 A2 A3 A4 : Option Addr)(n1 k1 n2 k2 n3 k3 n4 k4 : Nat)(w : World)(hW : fE w s A1 n1 A2 n2 A3 n3 A4 n4) :
    Cz 118 #[.agg #[.slice A1 n1 k1,.slice A2 n2 k2,.slice A3 n3 k3,.slice A4 n4 k4]] w (Rt (iv (Ho s)) w):=by
  have qG:=hW.mZ
  have hn2:=hW.nL
  have oQ:=hW.pM
  have qX:=hW.nK
  have cS:=hW.small
  unfold aD.small at cS;obtain⟨hs1,fX,rU,tG,nX,oO⟩:=cS;obtain⟨rows,eH,iI,yD,Gx,hr5,Gw⟩:=hW.dev.rows sY.one;refine aL func118 ntmps118 ?_;refine aB ?_;refine bA fun g1=>?_;refine aB ?_;refine bU (t:=7) rfl (fun hg=>?_) (fun hg=>?_)
  ·
    refine aB ?_;exact aS (h:=fun _ _=>by rw[Ho,if_pos (by omega)])
  ·
    refine aB ?_;refine bU (t:=13) rfl (fun hg=>?_) (fun hg=>?_)
    ·
      refine aB ?_;exact aS (h:=fun _ _=>by rw[Ho,if_pos (by omega)])
    ·
      refine aB ?_;refine bU (t:=19) rfl (fun hg=>?_) (fun hg=>?_)
      ·
        refine aB ?_;exact aS (h:=fun _ _=>by rw[Ho,if_pos (by omega)])
      ·
        refine aB ?_;refine aG rfl (fun h=>?_) (fun h=>?_)
        ·
          refine aB ?_;exact aS (h:=fun _ _=>by rw[Ho,if_pos (by omega)])
        ·
          refine aB ?_
          refine dH (fun w1 st=>aIM A4 n4 k4 193 [] rows (s.aC.map Qe) w1 (eH.le (jR (st.started (by simp)))) iI yD Gx (by simp;omega) (by omega) (by kernel_rfl) (fun i r x hr hx w2 eX=>by
    have jU:=(st.started (by simp)).trans (eX.mono st.size)
    obtain⟨e,he,hR⟩:=Gw i r hr;rw[List.getElem?_map,he] at hx;cases hx;obtain⟨Ar,nr,kr,Af,nf,kf,rfl,iJ,hnf,_,pN⟩:=hR
    exact aQs e.aP e.fR _ _ _ _ _ _ _ _ _ _ w2 iJ hnf)) ?_
          refine aB ?_;exact aS (h:=fun _ _=>by rw[Ho,if_neg (by omega)])
theorem check_1(s:aD)(A1 A2 A3 A4:Option Addr)(n1 k1 n2 k2 n3 k3 n4 k4:Nat)(w:World)(hW:fE w s A1 n1 A2 n2 A3 n3 A4 n4)(gs:Nat)(hs:eC w gs 0 [.slice A1 n1 k1,.slice A2 n2 k2,.slice A3 n3 k3,.slice A4 n4 k4]):
  Cz 117 #[pt gs] w (Rt (iv (Ho s)) w):=by
 have qG:=hW.mZ
 have hn2:=hW.nL
 have oQ:=hW.pM
 have qX:=hW.nK
 have cS:=hW.small
 unfold aD.small at cS;obtain⟨hs1,fX,rU,tG,nX,oO⟩:=cS;refine aL func117 ntmps117 ?_;refine aB ?_;refine dH (fun w1 st=>aQr s A1 A2 A3 A4 n1 k1 n2 k2 n3 k3 n4 k4 w1 (hW.le (st.started (by simp)))) ?_;refine aB ?_;exact aS (h:=fun _ _=>rfl)
theorem aSw(kind rate mul div lock:Int)(A:Option Addr)(n k:Nat)(A1 A2 A3 A4:Option Addr)(n1 k1 n2 k2 n3 k3 n4 k4:Nat)(gs:Nat)(w:World)(hs:eC w gs 0 [.slice A1 n1 k1,.slice A2 n2 k2,.slice A3 n3 k3,.slice A4 n4 k4])(mK:(n1:Int)≤9223372036854775806)(zs:List Int)(hA:aI (all w) 1 A n (aK zs))(hn:n=zs.length)(hz:(n:Int)≤9223372036854775806):
  Cz 121 #[.agg #[.int .u8 kind,.slice A n k,.int .u64 rate,iv mul,iv div,iv lock],pt gs] w (Rt (iv (Np n1 ⟨kind,zs,rate,mul,div,lock⟩)) w):=by
 refine aL func121 ntmps121 ?_;refine aB ?_;refine bA fun g1=>?_;refine aB ?_;refine dH (fun w1 st=>aRW kind rate mul div lock A n k A1 A2 A3 A4 n1 k1 n2 k2 n3 k3 n4 k4 w1 mK zs (hA.le (jR (st.started (by simp)))) hn hz) ?_;refine aB ?_;exact aS (h:=fun _ _=>rfl)
theorem aSt(above delay:Int)(ret:Bool)(A1 A2 A3 A4:Option Addr)(n1 k1 n2 k2 n3 k3 n4 k4:Nat)(gs:Nat)(w:World)(hs:eC w gs 0 [.slice A1 n1 k1,.slice A2 n2 k2,.slice A3 n3 k3,.slice A4 n4 k4])(oN:(n2:Int)≤9223372036854775806):
  Cz 128 #[.agg #[iv above,iv delay,.bool ret],pt gs] w (Rt (iv (Sa n2 ⟨above,delay,ret⟩)) w):=by
 refine aL func128 ntmps128 ?_;refine aB ?_;refine bA fun g1=>?_;refine aB ?_;refine dH (fun w1 st=>aRr above delay ret A1 A2 A3 A4 n1 k1 n2 k2 n3 k3 n4 k4 w1 oN) ?_;refine aB ?_;exact aS (h:=fun _ _=>rfl)
theorem aSp(rg:List Rg)(clock domain reset iT:Int)(A B:Option Addr)(n k nb kb:Nat)(A1 A2 A3 A4:Option Addr)(n1 k1 n2 k2 n3 k3 n4 k4:Nat)(gs:Nat)(w:World)(hs:eC w gs 0 [.slice A1 n1 k1,.slice A2 n2 k2,.slice A3 n3 k3,.slice A4 n4 k4])(mK:(n1:Int)≤9223372036854775806)(oN:(n2:Int)≤9223372036854775806)(hz3:(n3:Int)≤9223372036854775806)(Qo:(n4:Int)≤9223372036854775806)(zs:List Int)(hA:aI (all w) 1 A n (aK zs))(hn:n=zs.length)(hz:(n:Int)≤9223372036854775806):
  Cz 137 #[.agg #[iv clock,iv domain,iv reset,.int .u32 iT,.slice B nb kb,.slice A n k],pt gs] w (Rt (iv (Se n1 n2 n3 n4 ⟨clock,domain,reset,iT,rg,zs⟩)) w):=by
 refine aL func137 ntmps137 ?_;refine aB ?_;refine bA fun g1=>?_;refine aB ?_;refine dH (fun w1 st=>aR8 rg clock domain reset iT A B n k nb kb A1 A2 A3 A4 n1 k1 n2 k2 n3 k3 n4 k4 w1 mK oN hz3 Qo zs (hA.le (jR (st.started (by simp)))) hn hz) ?_;refine aB ?_;exact aS (h:=fun _ _=>rfl)
theorem aSx(s:aD)(A1 A2 A3 A4:Option Addr)(n1 k1 n2 k2 n3 k3 n4 k4:Nat)(w:World)(hW:fE w s A1 n1 A2 n2 A3 n3 A4 n4)(gs:Nat)(hs:eC w gs 0 [.slice A1 n1 k1,.slice A2 n2 k2,.slice A3 n3 k3,.slice A4 n4 k4]):
  Cz 119 #[pt gs] w (Rt (iv (lE (s.aF.map (Np s.aF.length)))) w):=by
 have qG:=hW.mZ
 have hn2:=hW.nL
 have oQ:=hW.pM
 have qX:=hW.nK
 have cS:=hW.small
 unfold aD.small at cS;obtain⟨hs1,fX,rU,tG,nX,oO⟩:=cS;obtain⟨rows,eH,iI,yD,Gx,hr5,Gw⟩:=hW.jJ.rows tZ.one;rw[←qG];refine aL func119 ntmps119 ?_;refine aA ?_;refine kL (vf:=[]) (vc:=[pt gs]) rfl rfl (by decide) ?_
 refine dH (fun w1 st=>aQZ A1 n1 k1 121 [pt gs] rows (s.aF.map (Np n1)) w1 (eH.le (jR (st.started (by simp)))) iI yD Gx (by simp;omega) (by omega) (by kernel_rfl) (fun i r x hr hx w2 eX=>by
  have jU:=(st.started (by simp)).trans (eX.mono st.size)
  obtain⟨e,he,hR⟩:=Gw i r hr;rw[List.getElem?_map,he] at hx;cases hx;obtain⟨Af,nf,kf,rfl,hnf,pN⟩:=hR
  exact aSw _ _ _ _ _ _ _ _ A1 A2 A3 A4 n1 k1 n2 k2 n3 k3 n4 k4 gs w2 (hs.below jU) (by omega) e.src (aI.le pN (jR jU)) hnf (by have:=nX e (List.mem_of_getElem? he);omega))) ?_
 refine aA ?_;exact aS (h:=fun _ _=>rfl)
theorem aSu(s:aD)(A1 A2 A3 A4:Option Addr)(n1 k1 n2 k2 n3 k3 n4 k4:Nat)(w:World)(hW:fE w s A1 n1 A2 n2 A3 n3 A4 n4)(gs:Nat)(hs:eC w gs 0 [.slice A1 n1 k1,.slice A2 n2 k2,.slice A3 n3 k3,.slice A4 n4 k4]):
  Cz 126 #[pt gs] w (Rt (iv (lE (s.domains.map (Sa s.domains.length)))) w):=by
 have qG:=hW.mZ
 have hn2:=hW.nL
 have oQ:=hW.pM
 have qX:=hW.nK
 have cS:=hW.small
 unfold aD.small at cS;obtain⟨hs1,fX,rU,tG,nX,oO⟩:=cS;obtain⟨rows,eH,iI,yD,Gx,hr5,Gw⟩:=hW.dom.rows vA.one;rw[←hn2];refine aL func126 ntmps126 ?_;refine aA ?_;refine kL (vf:=[]) (vc:=[pt gs]) rfl rfl (by decide) ?_
 refine dH (fun w1 st=>aQY A2 n2 k2 128 [pt gs] rows (s.domains.map (Sa n2)) w1 (eH.le (jR (st.started (by simp)))) iI yD Gx (by simp;omega) (by omega) (by kernel_rfl) (fun i r x hr hx w2 eX=>by
  have jU:=(st.started (by simp)).trans (eX.mono st.size)
  obtain⟨e,he,hR⟩:=Gw i r hr;rw[List.getElem?_map,he] at hx;cases hx;obtain rfl:=hR
  exact aSt _ _ _ A1 A2 A3 A4 n1 k1 n2 k2 n3 k3 n4 k4 gs w2 (hs.below jU) (by omega))) ?_
 refine aA ?_;exact aS (h:=fun _ _=>rfl)
theorem aSr(s:aD)(A1 A2 A3 A4:Option Addr)(n1 k1 n2 k2 n3 k3 n4 k4:Nat)(w:World)(hW:fE w s A1 n1 A2 n2 A3 n3 A4 n4)(gs:Nat)(hs:eC w gs 0 [.slice A1 n1 k1,.slice A2 n2 k2,.slice A3 n3 k3,.slice A4 n4 k4]):
  Cz 132 #[pt gs] w (Rt (iv (lE (s.aT.map aA9))) w):=by
 have qG:=hW.mZ
 have hn2:=hW.nL
 have oQ:=hW.pM
 have qX:=hW.nK
 have cS:=hW.small
 unfold aD.small at cS;obtain⟨hs1,fX,rU,tG,nX,oO⟩:=cS;obtain⟨rows,eH,iI,yD,Gx,hr5,Gw⟩:=hW.Cj.rows yV.one;refine aL func132 ntmps132 ?_;refine aB ?_
 refine dH (fun w1 st=>aQX A3 n3 k3 134 [] rows (s.aT.map aA9) w1 (eH.le (jR (st.started (by simp)))) iI yD Gx (by simp;omega) (by omega) (by kernel_rfl) (fun i r x hr hx w2 eX=>by
  have jU:=(st.started (by simp)).trans (eX.mono st.size)
  obtain⟨e,he,hR⟩:=Gw i r hr;rw[List.getElem?_map,he] at hx;cases hx;obtain rfl:=hR
  exact aMD _ w2)) ?_
 refine aB ?_;exact aS (h:=fun _ _=>rfl)
theorem aSq(s:aD)(A1 A2 A3 A4:Option Addr)(n1 k1 n2 k2 n3 k3 n4 k4:Nat)(w:World)(hW:fE w s A1 n1 A2 n2 A3 n3 A4 n4)(gs:Nat)(hs:eC w gs 0 [.slice A1 n1 k1,.slice A2 n2 k2,.slice A3 n3 k3,.slice A4 n4 k4]):
  Cz 135 #[pt gs] w (Rt (iv (lE (s.aC.map (Se s.aF.length s.domains.length s.aT.length s.aC.length)))) w):=by
 have qG:=hW.mZ
 have hn2:=hW.nL
 have oQ:=hW.pM
 have qX:=hW.nK
 have cS:=hW.small
 unfold aD.small at cS;obtain⟨hs1,fX,rU,tG,nX,oO⟩:=cS;obtain⟨rows,eH,iI,yD,Gx,hr5,Gw⟩:=hW.dev.rows sY.one;rw[←qG,←hn2,←oQ,←qX];refine aL func135 ntmps135 ?_;refine aA ?_;refine kL (vf:=[]) (vc:=[pt gs]) rfl rfl (by decide) ?_
 refine dH (fun w1 st=>aIM A4 n4 k4 137 [pt gs] rows (s.aC.map (Se n1 n2 n3 n4)) w1 (eH.le (jR (st.started (by simp)))) iI yD Gx (by simp;omega) (by omega) (by kernel_rfl) (fun i r x hr hx w2 eX=>by
  have jU:=(st.started (by simp)).trans (eX.mono st.size)
  obtain⟨e,he,hR⟩:=Gw i r hr;rw[List.getElem?_map,he] at hx;cases hx;obtain⟨Ar,nr,kr,Af,nf,kf,rfl,iJ,hnf,_,pN⟩:=hR
  exact aSp e.aP _ _ _ _ _ _ _ _ _ _ A1 A2 A3 A4 n1 k1 n2 k2 n3 k3 n4 k4 gs w2 (hs.below jU) (by omega) (by omega) (by omega) (by omega) e.fR (aI.le pN (jR jU)) hnf (by have:=oO e (List.mem_of_getElem? he);omega))) ?_
 refine aA ?_;exact aS (h:=fun _ _=>rfl)
theorem aSv(s:aD)(A1 A2 A3 A4:Option Addr)(n1 k1 n2 k2 n3 k3 n4 k4:Nat)(w:World)(hW:fE w s A1 n1 A2 n2 A3 n3 A4 n4)(gs:Nat)(hs:eC w gs 0 [.slice A1 n1 k1,.slice A2 n2 k2,.slice A3 n3 k3,.slice A4 n4 k4]):
  Cz 123 #[pt gs] w (Rt (iv (Ft (gO s))) w):=by
 have qG:=hW.mZ
 have hn2:=hW.nL
 have oQ:=hW.pM
 have qX:=hW.nK
 have cS:=hW.small
 unfold aD.small at cS;obtain⟨hs1,fX,rU,tG,nX,oO⟩:=cS;refine aL func123 ntmps123 ?_;refine aB ?_;refine jP [] (wF (gO s)) (fun w1 st=>aJk s A1 A2 A3 A4 n1 k1 n2 k2 n3 k3 n4 k4 w1 (hW.le (st.started (by simp)))) ?_;rintro _ w1 q ⟨Ag,cg,rfl,lD⟩ hf' _ Ey
 have Wn:=lD.le hf'
 have kK:(gO s).length=n1:=by simp[gO];omega
 refine dH (fun w1 st=>aE1 Ag _ cg (gO s) w1 (Wn.le (st.le (by simp))) rfl (by omega) (fun l hl=>by
  simp only[gO,List.mem_map] at hl;obtain⟨x,hx,rfl⟩:=hl
  have:=nX x hx;omega)) ?_
 refine aB ?_;exact aS (h:=fun _ _=>rfl)
theorem aSs(s:aD)(A1 A2 A3 A4:Option Addr)(n1 k1 n2 k2 n3 k3 n4 k4:Nat)(w:World)(hW:fE w s A1 n1 A2 n2 A3 n3 A4 n4)(gs:Nat)(hs:eC w gs 0 [.slice A1 n1 k1,.slice A2 n2 k2,.slice A3 n3 k3,.slice A4 n4 k4]):
  Cz 130 #[pt gs] w (Rt (iv (Ft (gM s))) w):=by
 have qG:=hW.mZ
 have hn2:=hW.nL
 have oQ:=hW.pM
 have qX:=hW.nK
 have cS:=hW.small
 unfold aD.small at cS;obtain⟨hs1,fX,rU,tG,nX,oO⟩:=cS;refine aL func130 ntmps130 ?_;refine aB ?_;refine jP [] (wF (gM s)) (fun w1 st=>aIQ s A1 A2 A3 A4 n1 k1 n2 k2 n3 k3 n4 k4 w1 (hW.le (st.started (by simp)))) ?_;rintro _ w1 q ⟨Ag,cg,rfl,lD⟩ hf' _ Ey
 have Wn:=lD.le hf'
 have kK:(gM s).length=n2:=by simp[gM];omega
 refine dH (fun w1 st=>aE1 Ag _ cg (gM s) w1 (Wn.le (st.le (by simp))) rfl (by omega) (fun l hl=>by
  simp only[gM,List.mem_map] at hl;obtain⟨x,hx,rfl⟩:=hl
  split<;>simp)) ?_
 refine aB ?_;exact aS (h:=fun _ _=>rfl)
theorem aSo(s:aD)(A1 A2 A3 A4:Option Addr)(n1 k1 n2 k2 n3 k3 n4 k4:Nat)(w:World)(hW:fE w s A1 n1 A2 n2 A3 n3 A4 n4)(gs:Nat)(hs:eC w gs 0 [.slice A1 n1 k1,.slice A2 n2 k2,.slice A3 n3 k3,.slice A4 n4 k4]):
  Cz 139 #[pt gs] w (Rt (iv (Ft (cQ s))) w):=by
 have qG:=hW.mZ
 have hn2:=hW.nL
 have oQ:=hW.pM
 have qX:=hW.nK
 have cS:=hW.small
 unfold aD.small at cS;obtain⟨hs1,fX,rU,tG,nX,oO⟩:=cS;refine aL func139 ntmps139 ?_;refine aB ?_;refine jP [] (wF (cQ s)) (fun w1 st=>aHp s A1 A2 A3 A4 n1 k1 n2 k2 n3 k3 n4 k4 w1 (hW.le (st.started (by simp)))) ?_;rintro _ w1 q ⟨Ag,cg,rfl,lD⟩ hf' _ Ey
 have Wn:=lD.le hf'
 have kK:(cQ s).length=n4:=by simp[cQ];omega
 refine dH (fun w1 st=>aE1 Ag _ cg (cQ s) w1 (Wn.le (st.le (by simp))) rfl (by omega) (fun l hl=>by
  simp only[cQ,List.mem_map] at hl;obtain⟨x,hx,rfl⟩:=hl
  have:=oO x hx;omega)) ?_
 refine aB ?_;exact aS (h:=fun _ _=>rfl)
theorem aB5(s:aD)(A1 A2 A3 A4:Option Addr)(n1 k1 n2 k2 n3 k3 n4 k4:Nat)(w:World)(hW:fE w s A1 n1 A2 n2 A3 n3 A4 n4):
  Cz 62 #[.agg #[.slice A1 n1 k1,.slice A2 n2 k2,.slice A3 n3 k3,.slice A4 n4 k4]] w (Rt (iv (Yq s)) w):=by
 refine aL func62 ntmps62 ?_;refine aA ?_;refine bA fun g1=>?_;refine aA ?_;refine kL (vf:=[]) (vc:=[pt g1]) rfl rfl (by decide) ?_;refine kL (vf:=[]) (vc:=[pt g1]) rfl rfl (by decide) ?_;refine kL (vf:=[]) (vc:=[pt g1]) rfl rfl (by decide) ?_;refine kL (vf:=[]) (vc:=[pt g1]) rfl rfl (by decide) ?_;refine kL (vf:=[]) (vc:=[pt g1]) rfl rfl (by decide) ?_;refine kL (vf:=[]) (vc:=[pt g1]) rfl rfl (by decide) ?_;refine kL (vf:=[]) (vc:=[pt g1]) rfl rfl (by decide) ?_;refine kL (vf:=[]) (vc:=[pt g1]) rfl rfl (by decide) ?_;refine eL fun g2=>?_
 refine dH (fun w1 st=>aBx _ _ _ [(117,[pt g1]),(119,[pt g1]),(123,[pt g1]),(126,[pt g1]),(130,[pt g1]),(132,[pt g1]),(135,[pt g1]),(139,[pt g1])] (aB6 s) w1 (st.rN (i:=0) (n:=8) (sz:=1) (cs:=[.func (.func 117) #[] #[pt g1],.func (.func 119) #[] #[pt g1],.func (.func 123) #[] #[pt g1],.func (.func 126) #[] #[pt g1],.func (.func 130) #[] #[pt g1],.func (.func 132) #[] #[pt g1],.func (.func 135) #[] #[pt g1],.func (.func 139) #[] #[pt g1]]) rfl rfl) rfl rfl (by decide) (by simp only[List.mem_cons,List.not_mem_nil,or_false];rintro f (rfl | rfl | rfl | rfl | rfl | rfl | rfl | rfl)<;>kernel_rfl) (fun i f x hf hx w2 eX=>by
  have jU:=(st.started (by simp)).trans (eX.mono st.size)
  unfold aB6 at hx
  match i,hf,hx with
  | 0,hf,hx=>cases hf;cases hx;exact check_1 s A1 A2 A3 A4 n1 k1 n2 k2 n3 k3 n4 k4 w2 (hW.le jU) g1 (st.box (cs:=[.slice A1 n1 k1,.slice A2 n2 k2,.slice A3 n3 k3,.slice A4 n4 k4]) (i:=1) rfl|>.below eX)
  | 1,hf,hx=>cases hf;cases hx;exact aSx s A1 A2 A3 A4 n1 k1 n2 k2 n3 k3 n4 k4 w2 (hW.le jU) g1 (st.box (cs:=[.slice A1 n1 k1,.slice A2 n2 k2,.slice A3 n3 k3,.slice A4 n4 k4]) (i:=1) rfl|>.below eX)
  | 2,hf,hx=>cases hf;cases hx;exact aSv s A1 A2 A3 A4 n1 k1 n2 k2 n3 k3 n4 k4 w2 (hW.le jU) g1 (st.box (cs:=[.slice A1 n1 k1,.slice A2 n2 k2,.slice A3 n3 k3,.slice A4 n4 k4]) (i:=1) rfl|>.below eX)
  | 3,hf,hx=>cases hf;cases hx;exact aSu s A1 A2 A3 A4 n1 k1 n2 k2 n3 k3 n4 k4 w2 (hW.le jU) g1 (st.box (cs:=[.slice A1 n1 k1,.slice A2 n2 k2,.slice A3 n3 k3,.slice A4 n4 k4]) (i:=1) rfl|>.below eX)
  | 4,hf,hx=>cases hf;cases hx;exact aSs s A1 A2 A3 A4 n1 k1 n2 k2 n3 k3 n4 k4 w2 (hW.le jU) g1 (st.box (cs:=[.slice A1 n1 k1,.slice A2 n2 k2,.slice A3 n3 k3,.slice A4 n4 k4]) (i:=1) rfl|>.below eX)
  | 5,hf,hx=>cases hf;cases hx;exact aSr s A1 A2 A3 A4 n1 k1 n2 k2 n3 k3 n4 k4 w2 (hW.le jU) g1 (st.box (cs:=[.slice A1 n1 k1,.slice A2 n2 k2,.slice A3 n3 k3,.slice A4 n4 k4]) (i:=1) rfl|>.below eX)
  | 6,hf,hx=>cases hf;cases hx;exact aSq s A1 A2 A3 A4 n1 k1 n2 k2 n3 k3 n4 k4 w2 (hW.le jU) g1 (st.box (cs:=[.slice A1 n1 k1,.slice A2 n2 k2,.slice A3 n3 k3,.slice A4 n4 k4]) (i:=1) rfl|>.below eX)
  | 7,hf,hx=>cases hf;cases hx;exact aSo s A1 A2 A3 A4 n1 k1 n2 k2 n3 k3 n4 k4 w2 (hW.le jU) g1 (st.box (cs:=[.slice A1 n1 k1,.slice A2 n2 k2,.slice A3 n3 k3,.slice A4 n4 k4]) (i:=1) rfl|>.below eX)
  | i+8,hf,_=>simp at hf)) ?_
 refine aA ?_;exact aS (h:=fun _ _=>rfl)
end
section
attribute [local irreducible] KC KI KQ
def bE(l:List Bool):List Value:=l.map .bool
theorem aJy{l:List Bool}{i:Nat}{b:Bool}(h:l[i]? =some b):(bE l)[i]? =some (.bool b):=by simp[bE,h]
def hasB(l:List Bool)(i:Nat):Bool:=l[i]?.getD false
def RP(p:Piece)(g o:Nat)(v:Value):Prop:=p.Z g∧p.w.cell? ⟨g,o,none⟩=some v
theorem RP.le{p q:Piece}{g o:Nat}{v:Value}(h:RP p g o v)(hl:p.Le q):RP q g o v:=⟨(hl g h.1).1,(World.cell?_of_block (w:=p.w) (a:=⟨g,o,none⟩) (hl g h.1).2).trans h.2⟩
theorem RP.rd{w0:World}{R:List Piece}{H:List HP}{p:Piece}{g o:Nat}{v:Value}(h:RP p g o v)(hp:p∈R):Rd w0 R H g o v:=Rd.ro hp h.1 h.2
theorem Iter.le{P:Program}{g:FuncId}{lb:List Value}{encs:List (List Value)}{p q:Piece}(h:Iter P g lb encs p)(hl:p.Le q):Iter P g lb encs q:=fun l J Jx W F hq hd=>h l J Jx W F (fun b hb=>⟨(hq b (hl b hb).1).1,((hq b (hl b hb).1).2).trans (hl b hb).2⟩) (fun b hb=>hd b (hl b hb).1)
theorem aQF{α:Type}{l:List α}{s:α→Bool}{k:Nat}{x:α}(hx:l[k]? =some x)(hs:s x=true):(l.filter s)[((l.take k).filter s).length]? =some x∧((l.take (k+1)).filter s).length=((l.take k).filter s).length+1:=by
 have h1:l.take (k+1)=l.take k++[x]:=by rw[List.take_add_one,hx];rfl
 have h2:l=l.take k++x::l.drop (k+1):=by
  have hlt:=(List.getElem?_eq_some_iff.1 hx).1
  have hv:=(List.getElem?_eq_some_iff.1 hx).2
  rw[←hv,List.getElem_cons_drop hlt,List.take_append_drop]
 refine⟨?_,by rw[h1,List.filter_append];simp[hs]⟩
 have h3:l.filter s=(l.take k).filter s++(x::l.drop (k+1)).filter s:=by rw[←List.filter_append,←h2]
 rw[h3,List.getElem?_append_right (Nat.le_refl _),Nat.sub_self,List.filter_cons_of_pos hs];rfl
theorem aIC{α:Type}{l:List α}{s:α→Bool}{k:Nat}{x:α}(hx:l[k]? =some x)(hs:s x=false):((l.take (k+1)).filter s).length=((l.take k).filter s).length:=by
 rw[List.take_add_one,hx,Option.toList_some,List.filter_append];simp[hs]
def sG(fr to:List Bool)(i:Nat):Bool:=hasB to i&& !hasB fr i
def eV(order:List Nat)(fr to:List Bool):List Nat:=order.filter (sG fr to)
def wR(ids:List Nat):List (List Value):=ids.map fun(i:Nat)=>[iv (i:Int)]
theorem aDX(A:Option Addr)(n c i:Nat)(bs:List Bool)(w:World)(hs:aI (all w) 1 A n (bE bs))(hn:n=bs.length)(hi:(i:Int)≤9223372036854775807):
  Cz 152 #[.slice A n c,iv i] w (Rt (.bool (hasB bs i)) w):=by
 refine aL func152 ntmps152 ?_;refine aB ?_;refine bU (t:=9) rfl (fun hg=>?_) (fun hg=>?_)
 ·
  refine aB ?_
  have hin:i < bs.length:=by omega
  obtain⟨b,off,rfl,hz,hc⟩:=hs.2 (by omega);obtain⟨v,hv⟩:∃v,bs[i]? =some v:=⟨_,List.getElem?_eq_getElem hin⟩
  have c1:fK w b (off+i) (.bool v):=⟨hz,hc i _ (aJy hv)⟩
  refine aB ?_;exact aS (h:=fun _ _=>by rw[hasB,hv];rfl)
 ·
  refine aB ?_;exact aS (h:=fun _ _=>by rw[hasB,List.getElem?_eq_none (by omega)];rfl)
theorem aOp(p:Piece)(g1 g2 g3 n Jk nf c ct cf:Nat)(A At Af:Option Addr)(order:List Nat)(fr to:List Bool)(h1:RP p g1 0 (.slice A n c))(h2:RP p g2 0 (.slice At Jk ct))(h3:RP p g3 0 (.slice Af nf cf))
  (hs:aI p 1 A n (aK (dL order))) (hn:n=order.length) (hn2:(n:Int)≤9223372036854775806) (hst:aI p 1 At Jk (bE to)) (hnt:Jk=to.length) (pN:aI p 1 Af nf (bE fr)) (hnf:nf=fr.length) (Ms:∀i∈order,(i:Int)≤9223372036854775807):
  Iter Tryz.prog 288 [pt g1,pt g2,pt g3] (wR (eV order fr to)) p:=by
 unfold Iter;intro l J Jx W F hp hd hJ hF hY;refine aCc (vs:=[.func (.yield l) #[] #[],pt g1,pt g2,pt g3]) func288 rfl ntmps288 (by simp) (aFc hp hd hJ hF) ?_;dsimp only[List.cons_append,List.nil_append];refine kE ?_;refine kU (by kernel_rfl) ?_;refine jC (by kernel_rfl) rfl (h1.rd (by simp)) (by decide) ?_;refine Dx (el:=3) (by kernel_rfl) rfl (by decide) ?_;refine cP rfl (by decide) ?_;refine kV ?_;refine eU ?_;refine bJ [(9,iv 0),(8,iv n),(7,.slice A n c),(3,pt g3),(2,pt g2),(0,.func (.yield l) #[] #[])] ?_;refine Bo ?_;refine aER (fun m L e R H=>∃k:Nat,k≤n∧m=n - k∧L=[]∧e=[(9,iv k),(8,iv n),(7,.slice A n c),(3,pt g3),(2,pt g2),(0,.func (.yield l) #[] #[])]∧R=[p,nt W F]∧H=[J (((order.take k).filter (sG fr to)).length),tX []]) n ⟨0,by omega,rfl,rfl,rfl,rfl,rfl⟩ fun m L e R H hI=>?_;obtain⟨k,hk,rfl,rfl,rfl,rfl,rfl⟩:=hI;refine kE ?_;refine kU (by kernel_rfl) ?_;refine Pa rfl rfl (by decide) ?_;refine kV ?_;refine eU ?_;refine kE ?_;refine aCb rfl (fun h=>?_) (fun h=>?_)
 ·
  refine Ip ?_;refine eU ?_;refine kE ?_;refine Bo ?_;refine kE ?_
  have hkn:k < order.length:=by omega
  obtain⟨b,off,rfl,hz,hc⟩:=hs.2 (by omega);obtain⟨i,hi⟩:∃i,order[k]? =some i:=⟨_,List.getElem?_eq_getElem hkn⟩
  have hib:=Ms i (List.mem_of_getElem? hi)
  refine kU (by kernel_rfl) ?_;refine kd (dat (k) (off+k)) ?_;refine jC (by kernel_rfl) rfl (Rd.ro (p:=p) (by simp) hz (hc k (iv (i:Int)) (by simp[aK,dL,hi]))) (by decide) ?_;refine fP rfl (by decide) ?_;refine kV ?_;refine eU ?_;refine kE ?_;refine aJY ?_;refine jH (by kernel_rfl) ?_;refine jC (by kernel_rfl) rfl (h2.rd (by simp)) (by decide) ?_;refine jI ?_;refine jH (by kernel_rfl) ?_;refine cP rfl (by decide) ?_;refine jI ?_;refine jH (by kernel_rfl) ?_;refine dH (fun w1 st=>aDX _ _ _ i to w1 (hst.le (st.le (by simp))) hnt (by omega)) ?_;refine jI ?_;refine jH (by kernel_rfl) ?_;refine cP rfl (by decide) ?_;refine jI ?_;refine sE (t:=16) rfl (fun hg=>?_) (fun hg=>?_)
  ·
   refine jH (by kernel_rfl) ?_;refine fO rfl rfl ?_;refine jC (by kernel_rfl) rfl (h3.rd (by simp)) (by decide) ?_;refine jI ?_;refine jH (by kernel_rfl) ?_;refine fO rfl rfl ?_;refine cP rfl (by decide) ?_;refine jI ?_;refine jH (by kernel_rfl) ?_;refine fO rfl rfl ?_;refine dH (fun w1 st=>aDX _ _ _ i fr w1 (pN.le (st.le (by simp))) hnf (by omega)) ?_;refine jI ?_;refine jH (by kernel_rfl) ?_;refine fO rfl rfl ?_;(first | refine Ln rfl (by decide) ?_ | refine zF rfl (by decide) ?_);refine jI ?_;refine jH (by kernel_rfl) ?_;(first | refine pW rfl rfl (by decide) ?_ | refine pY rfl rfl (by decide) ?_);refine jI ?_;refine jH (by kernel_rfl) ?_;refine cP rfl (by decide) ?_;refine jI ?_;refine sE (t:=22) rfl (fun Ex=>?_) (fun Ex=>?_)
   ·
    refine jH (by kernel_rfl) ?_;refine fO rfl rfl ?_;refine cP rfl (by decide) ?_;refine jI ?_;refine jH (by kernel_rfl) ?_;refine fO rfl rfl ?_;refine cP rfl (by decide) ?_;refine jI ?_
    have hsel:sG fr to i=true:=by rw[sG,hg,Ex];rfl
    obtain⟨gL,nQ⟩:=aQF hi hsel;refine aT1 rfl rfl ?_;refine aEP 0 rfl rfl (by decide) (by simp:nt W F∈[p,nt W F]) (xF.refl W) rfl (fun W1 F1 h1 h2 h3=>hY _ [iv i] W1 F1 (by simp[wR,eV,gL]) h1 h2 h3) ?_ ?_
    rotate_left
    ·
     refine jH (by kernel_rfl) ?_;refine fO rfl rfl ?_;refine zF rfl (by decide) ?_;refine jI ?_;refine jH (by kernel_rfl) ?_;(first | refine pW rfl rfl (by decide) ?_ | refine pY rfl rfl (by decide) ?_);refine jI ?_;refine Kz ?_;refine eU ?_;refine Iq rfl (fun _=>?_) (fun h=>by cases h);refine Od ?_;refine eU ?_;refine Tg (Hs:=[Jx (((order.take k).filter (sG fr to)).length+1)]) (.inl rfl) rfl fun w1 st=>?_;obtain⟨F',h1,h2⟩:=st.turns hF (by simp[nt]) (i:=0) rfl;exact⟨⟨_,rfl⟩,F',h2,.inr ⟨_,by simp[wR,eV];exact(List.getElem?_eq_some_iff.1 gL).1,h1⟩⟩
    dsimp only[List.set];refine jH (by kernel_rfl) ?_;refine fO rfl rfl ?_;refine zF rfl (by decide) ?_;refine jI ?_;refine jH (by kernel_rfl) ?_;(first | refine pW rfl rfl (by decide) ?_ | refine pY rfl rfl (by decide) ?_);refine jI ?_;refine Kz ?_;refine eU ?_;refine Iq rfl (fun h=>by cases h) (fun _=>?_)
    ·skip
     refine Ip ?_;refine eU ?_;refine kU (by kernel_rfl) ?_;refine zJ rfl rfl (iR (by omega)) (by decide) ?_;refine cP rfl (by decide) ?_;refine kV ?_;refine eU ?_;exact bJ [(9,iv (k+1)),(8,iv n),(7,.slice (some ⟨b,off,none⟩) n c),(3,pt g3),(2,pt g2),(0,.func (.yield l) #[] #[])] (Zp (n - (k+1)) (by omega) ⟨k+1,by omega,rfl,rfl,rfl,rfl,by rw[nQ]⟩)
   ·
    refine jH (by kernel_rfl) ?_;refine fV rfl rfl rfl (by decide) ?_;refine jI ?_;refine jH (by kernel_rfl) ?_;refine fV rfl rfl rfl (by decide) ?_;refine jI ?_;refine jH (by kernel_rfl) ?_;refine fV rfl rfl rfl (by decide) ?_;refine jI ?_;refine jH (by kernel_rfl) ?_;refine fV rfl rfl rfl (by decide) ?_;refine jI ?_;refine jH (by kernel_rfl) ?_;(first | refine pW rfl rfl (by decide) ?_ | refine pY rfl rfl (by decide) ?_);refine jI ?_;refine Kz ?_;refine eU ?_;refine Iq rfl (fun h=>by cases h) (fun _=>?_);refine Ip ?_;refine eU ?_;refine kU (by kernel_rfl) ?_;refine zJ rfl rfl (iR (by omega)) (by decide) ?_;refine cP rfl (by decide) ?_;refine kV ?_;refine eU ?_
    have hsel:sG fr to i=false:=by rw[sG,hg];simpa using Ex
    exact bJ [(9,iv (k+1)),(8,iv n),(7,.slice (some ⟨b,off,none⟩) n c),(3,pt g3),(2,pt g2),(0,.func (.yield l) #[] #[])] (Zp (n - (k+1)) (by omega) ⟨k+1,by omega,rfl,rfl,rfl,rfl,by rw[aIC hi hsel]⟩)
  ·
   refine jH (by kernel_rfl) ?_;refine fV rfl rfl rfl (by decide) ?_;refine jI ?_;refine jH (by kernel_rfl) ?_;refine fV rfl rfl rfl (by decide) ?_;refine jI ?_;refine jH (by kernel_rfl) ?_;refine fV rfl rfl rfl (by decide) ?_;refine jI ?_;refine jH (by kernel_rfl) ?_;refine fV rfl rfl rfl (by decide) ?_;refine jI ?_;refine jH (by kernel_rfl) ?_;(first | refine pW rfl rfl (by decide) ?_ | refine pY rfl rfl (by decide) ?_);refine jI ?_;refine jH (by kernel_rfl) ?_;refine cP rfl (by decide) ?_;refine jI ?_;refine jH (by kernel_rfl) ?_;refine fV rfl rfl rfl (by decide) ?_;refine jI ?_;refine jH (by kernel_rfl) ?_;refine fV rfl rfl rfl (by decide) ?_;refine jI ?_;refine jH (by kernel_rfl) ?_;refine fV rfl rfl rfl (by decide) ?_;refine jI ?_;refine jH (by kernel_rfl) ?_;refine fV rfl rfl rfl (by decide) ?_;refine jI ?_;refine jH (by kernel_rfl) ?_;(first | refine pW rfl rfl (by decide) ?_ | refine pY rfl rfl (by decide) ?_);refine jI ?_;refine Kz ?_;refine eU ?_;refine Iq rfl (fun h=>by cases h) (fun _=>?_);refine Ip ?_;refine eU ?_;refine kU (by kernel_rfl) ?_;refine zJ rfl rfl (iR (by omega)) (by decide) ?_;refine cP rfl (by decide) ?_;refine kV ?_;refine eU ?_
   have hsel:sG fr to i=false:=by rw[sG,hg];rfl
   exact bJ [(9,iv (k+1)),(8,iv n),(7,.slice (some ⟨b,off,none⟩) n c),(3,pt g3),(2,pt g2),(0,.func (.yield l) #[] #[])] (Zp (n - (k+1)) (by omega) ⟨k+1,by omega,rfl,rfl,rfl,rfl,by rw[aIC hi hsel]⟩)
 ·
  refine aES ?_;refine eU ?_;refine Tg (Hs:=[J (((order.take k).filter (sG fr to)).length)]) (.inr rfl) rfl fun w1 st=>?_;obtain⟨F',h1,h2⟩:=st.turns hF (by simp[nt]) (i:=0) rfl;rw[List.take_of_length_le (by omega)] at h1;exact⟨⟨_,rfl⟩,F',h2,.inl (by simpa[wR,eV] using h1)⟩
end
section
attribute [local irreducible] KC KI KQ
def aKg(pr msg i v:Int):Value:=.agg #[iv pr,iv msg,.int .u32 i,.int .u32 v]
def xU(pr msg:Int)(val:Nat→Int)(ids:List Nat):List (List Value):=ids.map fun(i:Nat)=>[aKg pr msg i (val i)]
def Oe(p:Piece)(wJ:FuncId)(zK:List Value)(ids:List Nat)(val:Nat→Int):Prop:=∀i∈ids,∀w',p.Le (all w')→Cz wJ (Value.int .i64 (i:Int)::zK).toArray w' (Rt (.int .u32 (val i)) w')
theorem Piece.Le.trans'{p q r:Piece}(h:p.Le q)(k:q.Le r):p.Le r:=fun b hb=>⟨(k b (h b hb).1).1,(k b (h b hb).1).2.trans (h b hb).2⟩
theorem Oe.le{p q:Piece}{wJ:FuncId}{zK:List Value}{ids:List Nat}{val:Nat→Int}(h:Oe p wJ zK ids val)(hl:p.Le q):Oe q wJ zK ids val:=fun i hi w' hq=>h i hi w' (hl.trans' hq)
theorem tW{q:Piece}{g o:Nat}{t:TypeId}{cs:List Value}{v:Value}(h:∃F,(HP.aE g t cs).sat F q.w∧∀b,F b→q.Z b)(hv:cs[o]? =some v):RP q g o v:=by
 obtain⟨F,hs,hz⟩:=h;refine⟨hz g hs.1,?_⟩
 have:vC q.w g t cs.toArray:=hs.2
 rw[this.cell]
 simpa using hv
theorem aSU(i v:Int)(g:Nat)(w:World)(h:fK w g 0 (.int .u32 v)):Cz 289 #[iv i,pt g] w (Rt (.int .u32 v) w):=by
 refine aL func289 ntmps289 ?_;refine aB ?_;exact aS (h:=fun _ _=>rfl)
def Ts(v:Int)(y:Value)(w w':World):Prop:=∃g,y=.func (.func 289) #[] #[pt g]∧∀q,(fresh w w').Le q→∀ids,Oe q 289 [pt g] ids fun _=>v
theorem Yw(v:Int)(w:World):Cz 284 #[.int .u32 v] w (fun y w'=>(∃x,y=.returned x∧Ts v x w w')∧Below w.heap.size w w'):=by
 refine aL func284 ntmps284 ?_;refine aA ?_;refine bA fun g1=>?_;refine aA ?_;refine kL (vf:=[]) (vc:=[pt g1]) rfl rfl (by decide) ?_;refine aA ?_;refine dP [] [0] [] (by simp) rfl (by decide) (by decide) fun q hq _ hfr=>?_;refine nR rfl rfl fun w1 st=>⟨⟨_,rfl,g1,rfl,fun q2 hf ids i hi=>?_⟩,st.below (by simp)⟩
 have cT:=(tW (o:=0) (v:=.int .u32 v) (hq 0 _ (by simp) rfl) rfl).le ((st.mF (by simp) (hfr (by simp) (by simp))).trans' hf)
 intro w' hw'
 have:=cT.le hw'
 exact aSU _ v g1 w' this
def Ot(p0:Piece)(ids:List Nat)(y:Value)(w w':World):Prop:=∃g1 g2 g3,y=.func (.func 288) #[] #[pt g1,pt g2,pt g3]∧∀q,p0.Le q→(fresh w w').Le q→Iter Tryz.prog 288 [pt g1,pt g2,pt g3] (wR ids) q
theorem Py(p0:Piece)(n Jk nf c ct cf:Nat)(A At Af:Option Addr)(order:List Nat)(fr to:List Bool)(w:World)
  (hs:aI p0 1 A n (aK (dL order))) (hn:n=order.length) (hn2:(n:Int)≤9223372036854775806) (hst:aI p0 1 At Jk (bE to)) (hnt:Jk=to.length) (pN:aI p0 1 Af nf (bE fr)) (hnf:nf=fr.length) (Ms:∀i∈order,(i:Int)≤9223372036854775807):
  Cz 283 #[.slice A n c,.slice Af nf cf,.slice At Jk ct] w (fun y w'=>(∃x,y=.returned x∧Ot p0 (eV order fr to) x w w')∧Below w.heap.size w w'):=by
 refine aL func283 ntmps283 ?_;refine aA ?_;refine bA fun g1=>?_;refine bA fun g2=>?_;refine bA fun g3=>?_;refine aA ?_;refine kL (vf:=[]) (vc:=[pt g1,pt g3,pt g2]) rfl rfl (by decide) ?_;refine aA ?_;refine dP [] [0,1,2] [] (by simp) rfl (by decide) (by decide) fun q hq _ hfr=>?_;refine nR rfl rfl fun w1 st=>⟨⟨_,rfl,g1,g3,g2,rfl,fun q2 Ev hf=>?_⟩,st.below (by simp)⟩
 have hle:=(st.mF (by simp) (hfr (by simp) (by simp))).trans' hf
 exact aOp q2 g1 g3 g2 n Jk nf c ct cf A At Af order fr to ((tW (hq 2 _ (by simp) rfl) rfl).le hle) ((tW (hq 0 _ (by simp) rfl) rfl).le hle) ((tW (hq 1 _ (by simp) rfl) rfl).le hle) (hs.le Ev) hn hn2 (hst.le Ev) hnt (pN.le Ev) hnf Ms
theorem aL9(p:Piece)(g1 g2 g3 g4:Nat)(gf wJ:FuncId)(lb zK:List Value)(pr msg:Int)(val:Nat→Int)(ids:List Nat)(h1:RP p g1 0 (.func (.func gf) #[] lb.toArray))(h2:RP p g2 0 (iv pr))(h3:RP p g3 0 (iv msg))(h4:RP p g4 0 (.func (.func wJ) #[] zK.toArray))
  (hit:Iter Tryz.prog gf lb (wR ids) p) (Wo:fH Tryz.prog gf=true) (hvc:fH Tryz.prog wJ=true) (hval:Oe p wJ zK ids val) (Wl:∀i∈ids,i < 4294967296):
  Iter Tryz.prog 287 [pt g1,pt g2,pt g3,pt g4] (xU pr msg val ids) p:=by
 unfold Iter;intro l J Jx W F hp hd hJ hF hY;refine aCc (vs:=[.func (.yield l) #[] #[],pt g1,pt g2,pt g3,pt g4]) func287 rfl ntmps287 (by simp) (aFc hp hd hJ hF) ?_;dsimp only[List.cons_append,List.nil_append];refine kE ?_;refine kU (by kernel_rfl) ?_;refine bA fun g5=>?_;refine kV ?_;refine eU ?_;refine kE ?_;refine kU (by kernel_rfl) ?_;refine jC (by kernel_rfl) rfl (h1.rd (by simp)) (by decide) ?_;refine kV ?_;refine eU ?_;refine bJ [(7,.func (.func gf) #[] lb.toArray),(5,pt g5),(4,pt g4),(3,pt g3),(2,pt g2)] ?_;refine Bo ?_
 refine aEQ (gf:=gf) (lb:=lb) (encs:=wR ids) (p:=p) rfl Wo hit (by simp) (fun vs hvs=>?_) (by decide) (fun k=>[HP.aE g5 416 [.func (.yield l) #[] #[]],J k]) (fun k=>[HP.aE g5 416 [.func (.yield l) #[] #[]],Jx k])
  (fun k vs e1 H1=>e1=[(6,vs.headD (.tuple #[])),(5,pt g5),(4,pt g4),(3,pt g3),(2,pt g2)]∧H1=[HP.aE g5 416 [.func (.yield l) #[] #[]],J k]) rfl ?_ ?_ ?_ ?_
 ·simp only[wR,List.mem_map] at hvs;obtain⟨i,_,rfl⟩:=hvs;rfl
 ·
  intro l2 k vs W1 q X hvs cS
  obtain⟨i,hi,rfl⟩:∃i,ids[k]? =some i∧vs=[iv (i:Int)]:=by
   simp only[wR,List.getElem?_map,Option.map_eq_some_iff] at hvs;obtain⟨i,h,e⟩:=hvs;exact⟨i,h,e.symm⟩
  refine kU (by kernel_rfl) ?_;refine fP rfl (by decide) ?_;refine kV ?_;refine bJ [(6,iv (i:Int)),(5,pt g5),(4,pt g4),(3,pt g3),(2,pt g2)] ?_;exact aEU ⟨rfl,rfl⟩
 ·
  rintro l2 k vs W1 q X _ _ hvs cS ⟨rfl,rfl⟩
  obtain⟨i,hik,rfl⟩:∃i,ids[k]? =some i∧vs=[iv (i:Int)]:=by
   simp only[wR,List.getElem?_map,Option.map_eq_some_iff] at hvs;obtain⟨i,h,e⟩:=hvs;exact⟨i,h,e.symm⟩
  have hi:=List.mem_of_getElem? hik
  have hib:=Wl i hi
  dsimp only[List.cons_append,List.nil_append,List.headD_cons];refine Bo ?_;refine kE ?_;refine aT9 9 (by kernel_rfl) (by kernel_rfl) ?_;simp only[List.take_succ_cons,List.take_zero,List.drop_succ_cons,List.drop_zero];refine gD 0 rfl rfl rfl (Kq (by kernel_rfl) rfl (Rd.aE 0 rfl rfl)) ?_;refine gD 1 rfl rfl rfl (Kq (by kernel_rfl) rfl (h2.rd (by simp))) ?_;refine gD 2 rfl rfl rfl (Kq (by kernel_rfl) rfl (h3.rd (by simp))) ?_;refine gD 3 rfl rfl rfl (mS rfl) ?_;refine gD 4 rfl rfl rfl (Ks (ds:=.int .i64) (by kernel_rfl) (by kernel_rfl) rfl (wrap_u32 (by omega))) ?_;refine gD 5 rfl rfl rfl (Kq (by kernel_rfl) rfl (h4.rd (by simp))) ?_;refine gD 6 rfl rfl rfl (mS rfl) ?_;refine cE 7 ?_;refine zH (f:=wJ) (fi:=[]) (ca:=zK) hvc rfl rfl (by decide) (fun w1 st=>hval i hi w1 (st.le (by simp))) ?_;refine nS ?_;refine gD 8 rfl rfl rfl (lT (zs:=[iv 0,iv 0,.int .u32 0,.int .u32 0]) (L:=[(0,1),(1,1),(2,1),(3,1)]) (iG (by kernel_rfl)) (by kernel_rfl) rfl (by simp[fI,gI,Value.cells];rfl)) ?_;refine kG ?_;refine aT0 ?_;refine aEP 1 rfl rfl (by decide) (by simp:nt W F∈[p,nt W F,q]) cS rfl (fun W2 F2 h1 h2 h3=>hY k _ W2 F2 (by simp[xU,hik];rfl) h1 h2 h3) ?_ ?_
  ·dsimp only[List.set];refine jH (by kernel_rfl) ?_;refine zF rfl (by decide) ?_;refine jI ?_;refine Kz ?_;refine eU ?_;refine Iq rfl (fun h=>by cases h) (fun _=>?_);refine Ip ?_;refine eU ?_;exact aET
  ·dsimp only[List.set];refine jH (by kernel_rfl) ?_;refine zF rfl (by decide) ?_;refine jI ?_;refine Kz ?_;refine eU ?_;refine Iq rfl (fun _=>?_) (fun h=>by cases h);refine Od ?_;refine eU ?_;exact aJZ
 ·
  intro D;dsimp only[List.cons_append,List.nil_append];refine eU ?_;refine Tg (Hs:=[HP.aE g5 416 [.func (.yield l) #[] #[]],J (wR ids).length]) (.inr rfl) rfl fun w1 st=>?_;obtain⟨F',h1,h2⟩:=st.turns hF (by simp[nt]) (i:=1) rfl;exact⟨⟨_,rfl⟩,F',h2,.inl (by simpa[wR,xU] using h1)⟩
 ·intro D k hk;dsimp only[List.cons_append,List.nil_append];refine Od ?_;refine eU ?_;refine Tg (Hs:=[HP.aE g5 416 [.func (.yield l) #[] #[]],Jx (k+1)]) (.inl rfl) rfl fun w1 st=>?_;obtain⟨F',h1,h2⟩:=st.turns hF (by simp[nt]) (i:=1) rfl;exact⟨⟨_,rfl⟩,F',h2,.inr ⟨k,by simpa[wR,xU] using hk,h1⟩⟩
def Oh(p0:Piece)(encs:List (List Value))(y:Value)(w w':World):Prop:=∃g1 g2 g3 g4,y=.func (.func 287) #[] #[pt g1,pt g2,pt g3,pt g4]∧∀q,p0.Le q→(fresh w w').Le q→Iter Tryz.prog 287 [pt g1,pt g2,pt g3,pt g4] encs q
theorem Pk(p0:Piece)(gf wJ:FuncId)(lb zK:List Value)(pr msg:Int)(val:Nat→Int)(ids:List Nat)(w:World)(hit:Iter Tryz.prog gf lb (wR ids) p0)(Wo:fH Tryz.prog gf=true)(hvc:fH Tryz.prog wJ=true)(hval:Oe p0 wJ zK ids val)(Wl:∀i∈ids,i < 4294967296):
  Cz 282 #[.func (.func gf) #[] lb.toArray,iv pr,iv msg,.func (.func wJ) #[] zK.toArray] w (fun y w'=>(∃x,y=.returned x∧Oh p0 (xU pr msg val ids) x w w')∧Below w.heap.size w w'):=by
 refine aL func282 ntmps282 ?_;refine aA ?_;refine bA fun g1=>?_;refine bA fun g2=>?_;refine bA fun g3=>?_;refine bA fun g4=>?_;refine aA ?_;refine kL (vf:=[]) (vc:=[pt g1,pt g2,pt g3,pt g4]) rfl rfl (by decide) ?_;refine aA ?_;refine dP [] [0,1,2,3] [] (by simp) rfl (by decide) (by decide) fun q hq _ hfr=>?_;refine nR rfl rfl fun w1 st=>⟨⟨_,rfl,g1,g2,g3,g4,rfl,fun q2 Ev hf=>?_⟩,st.below (by simp)⟩
 have hle:=(st.mF (by simp) (hfr (by simp) (by simp))).trans' hf
 exact aL9 q2 g1 g2 g3 g4 gf wJ lb zK pr msg val ids ((tW (hq 3 _ (by simp) rfl) rfl).le hle) ((tW (hq 2 _ (by simp) rfl) rfl).le hle) ((tW (hq 1 _ (by simp) rfl) rfl).le hle) ((tW (hq 0 _ (by simp) rfl) rfl).le hle) (hit.le Ev) Wo hvc (hval.le Ev) Wl
end
section
attribute [local irreducible] KC KI KQ
structure cZ where
 pr:Int
 msg:Int
 id:Int
 v:Int
def cZ.cells(s:cZ):List Value:=[iv s.pr,iv s.msg,.int .u32 s.id,.int .u32 s.v]
def tB(s:cZ):Value:=.agg s.cells.toArray
def pK(l:List cZ):List (List Value):=l.map fun s=>[tB s]
def jT(pr msg:Int)(val:Nat→Int)(ids:List Nat):List cZ:=ids.map fun(i:Nat)=>⟨pr,msg,i,val i⟩
theorem Po(pr msg:Int)(val:Nat→Int)(ids:List Nat):xU pr msg val ids=pK (jT pr msg val ids):=by
 simp[xU,pK,jT,tB,aKg,cZ.cells]
structure yW where
 gf:FuncId
 lb:List Value
 Eg:List cZ
def yW.fn(r:yW):Value:=.func (.func r.gf) #[] r.lb.toArray
def Ej(rows:List yW):List cZ:=rows.flatMap (·.Eg)
def uK(rows:List yW)(i:Nat):Nat:=(Ej (rows.take i)).length
theorem aNY{rows:List yW}{i:Nat}{r:yW}(h:rows[i]? =some r):uK rows (i+1)=uK rows i+r.Eg.length:=by
 simp[uK,Ej,List.take_add_one,h]
theorem aHj{rows:List yW}{i k:Nat}{r:yW}{s:cZ}(h:rows[i]? =some r)(hs:r.Eg[k]? =some s):(Ej rows)[uK rows i+k]? =some s:=by
 have hlt:=(List.getElem?_eq_some_iff.1 h).1
 have hv:=(List.getElem?_eq_some_iff.1 h).2
 have h2:rows=rows.take i++r::rows.drop (i+1):=by
  rw[←hv,List.getElem_cons_drop hlt,List.take_append_drop]
 have h3:Ej rows=Ej (rows.take i)++(r.Eg++Ej (rows.drop (i+1))):=by
  conv=>lhs;rw[h2]
  simp[Ej]
 have hk:=(List.getElem?_eq_some_iff.1 hs).1
 rw[h3,uK,List.getElem?_append_right (by omega),Nat.add_sub_cancel_left,List.getElem?_append_left hk];exact hs
theorem aNZ{rows:List yW}{i:Nat}(h:rows.length≤i):uK rows i=(Ej rows).length:=by rw[uK,List.take_of_length_le h]
theorem aTb(p:Piece)(g1 n c:Nat)(A:Option Addr)(rows:List yW)(h1:RP p g1 0 (.slice A n c))(hs:aI p 1 A n (rows.map yW.fn))(hn:n=rows.length)(hn2:(n:Int)≤1000000)
  (hrows:∀r∈rows,fH Tryz.prog r.gf=true∧Iter Tryz.prog r.gf r.lb (pK r.Eg) p):
  Iter Tryz.prog 286 [pt g1] (pK (Ej rows)) p:=by
 unfold Iter;intro l J Jx W F hp hd hJ hF hY;refine aCc (vs:=[.func (.yield l) #[] #[],pt g1]) func286 rfl ntmps286 (by simp) (aFc hp hd hJ hF) ?_;dsimp only[List.cons_append,List.nil_append];refine kE ?_;refine kU (by kernel_rfl) ?_;refine bA fun g2=>?_;refine kV ?_;refine eU ?_;refine kE ?_;refine kU (by kernel_rfl) ?_;refine jC (by kernel_rfl) rfl (h1.rd (by simp)) (by decide) ?_;refine Dx (el:=407) (by kernel_rfl) rfl (by decide) ?_;refine cP rfl (by decide) ?_;refine kV ?_;refine eU ?_;refine bJ [(8,iv 0),(7,iv n),(6,.slice A n c),(2,pt g2)] ?_;refine Bo ?_;refine aER (fun m L e R H=>∃i:Nat,i≤n∧m=n - i∧e=[(8,iv i),(7,iv n),(6,.slice A n c),(2,pt g2)]∧R=[p,nt W F]∧H=[HP.aE g2 416 [.func (.yield l) #[] #[]],J (uK rows i),tX L]) n ⟨0,by omega,rfl,rfl,rfl,rfl⟩ fun m L e R H hI=>?_;obtain⟨i,hi,rfl,rfl,rfl,rfl⟩:=hI;refine kE ?_;refine kU (by kernel_rfl) ?_;refine Pa rfl rfl (by decide) ?_;refine kV ?_;refine eU ?_;refine kE ?_;refine aCb rfl (fun h=>?_) (fun h=>?_)
 ·
  refine Ip ?_;refine eU ?_;refine kE ?_;refine Bo ?_;refine kE ?_
  have hin:i < rows.length:=by omega
  obtain⟨b,off,rfl,hz,hc⟩:=hs.2 (by omega);obtain⟨r,hr⟩:∃r,rows[i]? =some r:=⟨_,List.getElem?_eq_getElem hin⟩
  obtain⟨hcb,hit⟩:=hrows r (List.mem_of_getElem? hr)
  have hoff:=aNY hr
  refine kU (by kernel_rfl) ?_;refine kd (dat (i) (off+i)) ?_;refine jC (by kernel_rfl) rfl (Rd.ro (p:=p) (by simp) hz (hc i (yW.fn r) (by simp[hr]))) (by decide) ?_;refine fP rfl (by decide) ?_;refine kV ?_;refine eU ?_;refine kE ?_;refine kU (by kernel_rfl) ?_;refine cP rfl (by decide) ?_;refine kV ?_;refine eU ?_;refine Bo ?_;refine bJ [(12,yW.fn r),(8,iv i),(7,iv n),(6,.slice (some ⟨b,off,none⟩) n c),(2,pt g2)] ?_
  refine aEQ (gf:=r.gf) (lb:=r.lb) (encs:=pK r.Eg) (p:=p) rfl hcb hit (by simp) (fun vs hvs=>?_) (by decide) (fun k=>[HP.aE g2 416 [.func (.yield l) #[] #[]],J (uK rows i+k)]) (fun k=>[HP.aE g2 416 [.func (.yield l) #[] #[]],Jx (uK rows i+k)])
   (fun k vs e1 H1=>∃(g3:Nat) (s:cZ),vs=[tB s]∧e1=[(5,pt g3),(2,pt g2)]∧H1=[HP.aE g3 247 s.cells,HP.aE g2 416 [.func (.yield l) #[] #[]],J (uK rows i+k)]) rfl ?_ ?_ ?_ ?_
  ·simp only[pK,List.mem_map] at hvs;obtain⟨s,_,rfl⟩:=hvs;rfl
  ·
   intro l2 k vs W1 q X hvs cS
   obtain⟨s,rfl⟩:∃s,vs=[tB s]:=by
    simp only[pK,List.getElem?_map,Option.map_eq_some_iff] at hvs;obtain⟨s,_,e⟩:=hvs;exact⟨s,e.symm⟩
   dsimp only[List.cons_append,List.nil_append];refine kU (by kernel_rfl) ?_;refine bR fun g3=>?_;refine rL 0 rfl rfl rfl (by kernel_rfl) (by simp[tB,cZ.cells,Value.cells,Value.oneCell']) (by simp[tB,cZ.cells,Value.cells]) ?_;rw[show iH [Value.int .i64 0,iv 0,.int .u32 0,.int .u32 0] 0 (tB s).cells.toList=s.cells by simp[iH,tB,cZ.cells,Value.cells]];dsimp only[List.set];refine kV ?_;refine bJ [(5,pt g3),(2,pt g2)] ?_;exact aEU (H1:=[HP.aE g3 247 s.cells,HP.aE g2 416 [.func (.yield l) #[] #[]],J (uK rows i+k)]) ⟨g3,s,rfl,rfl,rfl⟩
  ·
   rintro l2 k vs W1 q X _ _ hvs cS ⟨g3,s,rfl,rfl,rfl⟩
   have hsk:r.Eg[k]? =some s:=by
    simp only[pK,List.getElem?_map,Option.map_eq_some_iff] at hvs;obtain⟨s',h,e⟩:=hvs
    have:s'=s:=by
     cases s;cases s';simp[tB,cZ.cells] at e;simp[e]
    exact this▸h
   have Ct:=aHj hr hsk
   dsimp only[List.cons_append,List.nil_append];refine Bo ?_;refine kE ?_;refine aJY ?_;refine jH (by kernel_rfl) ?_;refine jC (by kernel_rfl) rfl (Rd.aE 1 rfl rfl) (by decide) ?_;refine jI ?_;refine jH (by kernel_rfl) ?_;refine zG 4 (by kernel_rfl) rfl (aQ.whole 0 rfl) rfl (by decide) ?_;refine jI ?_;refine aEP 2 rfl rfl (by decide) (by simp:nt W F∈[p,nt W F,q]) cS rfl (fun W2 F2 h1 h2 h3=>hY (uK rows i+k) [tB s] W2 F2 (by simp[pK,Ct]) h1 h2 h3) ?_ ?_
   ·dsimp only[List.set];refine jH (by kernel_rfl) ?_;refine zF rfl (by decide) ?_;refine jI ?_;refine Kz ?_;refine eU ?_;refine Iq rfl (fun h=>by cases h) (fun _=>?_);refine Ip ?_;refine eU ?_;refine aY [1,2,3] rfl (by decide) (fun _ hp=>hp) ?_;exact aET
   ·dsimp only[List.set];refine jH (by kernel_rfl) ?_;refine zF rfl (by decide) ?_;refine jI ?_;refine Kz ?_;refine eU ?_;refine Iq rfl (fun _=>?_) (fun h=>by cases h);refine Od ?_;refine eU ?_;refine aY [1,2,3] rfl (by decide) (fun _ hp=>hp) ?_;exact aJZ
  rotate_left
  ·
   intro D k hk;dsimp only[List.cons_append,List.nil_append];refine Od ?_;refine eU ?_;refine Tg (Hs:=[HP.aE g2 416 [.func (.yield l) #[] #[]],Jx (uK rows i+(k+1))]) (.inl rfl) rfl fun w1 st=>?_;obtain⟨F',h1,h2⟩:=st.turns hF (by simp[nt]) (i:=1) rfl;obtain⟨s,fX⟩:∃s,r.Eg[k]? =some s:=⟨_,List.getElem?_eq_getElem (by simpa[pK] using hk)⟩
   have:=(List.getElem?_eq_some_iff.1 (aHj hr fX)).1
   exact⟨⟨_,rfl⟩,F',h2,.inr ⟨uK rows i+k,by simpa[pK] using this,h1⟩⟩
  intro D;dsimp only[List.cons_append,List.nil_append];refine eU ?_;refine kU (by kernel_rfl) ?_;refine zJ rfl rfl (iR (by omega)) (by decide) ?_;refine cP rfl (by decide) ?_;refine kV ?_;refine eU ?_;exact bJ [(8,iv (i+1)),(7,iv n),(6,.slice (some ⟨b,off,none⟩) n c),(2,pt g2)] (Zp (n - (i+1)) (by omega) ⟨i+1,by omega,rfl,rfl,rfl,by rw[hoff];simp[pK]⟩)
 ·
  refine aES ?_;refine eU ?_;refine Tg (Hs:=[HP.aE g2 416 [.func (.yield l) #[] #[]],J (uK rows i)]) (.inr rfl) rfl fun w1 st=>?_;obtain⟨F',h1,h2⟩:=st.turns hF (by simp[nt]) (i:=1) rfl;rw[aNZ (by omega)] at h1;exact⟨⟨_,rfl⟩,F',h2,.inl (by simpa[pK] using h1)⟩
def mJ(s:aD)(d:Nat):Int:=if(s.domains[d]?.map (·.ret)).getD false then 2 else 0
theorem aTd(d gs n2 k2:Nat)(s:aD)(A2:Option Addr)(w:World)(h2:fK w gs 1 (.slice A2 n2 k2))(Rf:jN (fF (all w)) vA 50 3 A2 n2 s.domains)(hn2:(n2:Int)≤1000000)(hd:d < n2):
  Cz 285 #[iv d,pt gs] w (Rt (.int .u32 (mJ s d)) w):=by
 have hl:n2=s.domains.length:=by obtain⟨_,_,h,_⟩:=Rf;exact h
 obtain⟨x,hx⟩:∃x,s.domains[d]? =some x:=⟨_,List.getElem?_eq_getElem (by omega)⟩
 obtain⟨b,off,r,rfl,hrl,rfl,hro⟩:=Rf.row hx;refine aL func285 ntmps285 ?_;refine cO ?_;refine eB ?_;refine fP rfl (by decide) ?_;refine dO ?_;refine cO ?_;refine cO ?_;refine eB ?_;refine pZ (off:=1) (by kernel_rfl) rfl (by decide) ?_;refine jC (by kernel_rfl) rfl (Bs (by simp) h2) (by decide) ?_;refine cP rfl (by decide) ?_;refine kd (dat (d) (off+d*3)) ?_;refine pZ (off:=2) (by kernel_rfl) rfl (by decide) ?_;refine jC (by kernel_rfl) rfl (Bs (by simp) (hro.at_ (j:=2) (v:=.bool x.ret) rfl)) (by decide) ?_;refine dO ?_;refine pU rfl (fun h=>?_) (fun h=>?_)
 ·
  refine aB ?_;exact aS (h:=fun _ _=>by rw[mJ,hx];simp[h])
 ·
  refine aB ?_;exact aS (h:=fun _ _=>by rw[mJ,hx];simp[h])
theorem aTc(p:Piece)(gs n2 k2:Nat)(s:aD)(A2:Option Addr)(h2:RP p gs 1 (.slice A2 n2 k2))(Rf:jN (fF p) vA 50 3 A2 n2 s.domains)(hn2:(n2:Int)≤1000000)(ids:List Nat)(Wl:∀i∈ids,i < n2):Oe p 285 [pt gs] ids (mJ s):=fun i hi w' hw'=>
 aTd i gs n2 k2 s A2 w' (h2.le hw') (Rf.mono (nU hw') (fun _ _ h=>h)) hn2 (Wl i hi)
end
section
def aFt(n:Nat)(xs:List Value)(v:Value)(hs:List HP)(_:Piece):Prop:=∃A c,v=.slice A n c∧hs=[HP.own 3 1 (.slice A n c) n xs]
theorem aJj(A:Option Addr)(n c:Nat)(xs:List Value)(w:World)(hs:aI (all w) 1 A n xs)(h1:∀u∈xs,u.oneCell'=true)(hn:n≤1000000):
  Cz 280 #[.slice A n c] w (fun y w'=>(∃v hs q,y=.returned v∧q.w=w'∧aFt n xs v hs q∧kA w hs q)∧Below w.heap.size w w'):=by
 refine aL func280 ntmps280 ?_;refine aB ?_;refine aAk (el:=3) (by kernel_rfl) rfl (by decide) ?_;refine aB ?_;refine pU rfl (fun hA=>?_) (fun hA=>?_)
 ·
  refine aB ?_
  have hn0:n=0:=by
   rcases Nat.eq_zero_or_pos n with h | h
   ·exact h
   ·obtain⟨b,off,rfl,_⟩:=hs.2 h;cases hA
  subst hn0
  have hx:xs=[]:=List.eq_nil_of_length_eq_zero (by simpa using hs.1)
  subst hx;refine iO 3 1 ?_;refine dP [] [] [0] (by simp) rfl (by decide) (by decide) fun q _ _ hfr=>?_;exact aS (h:=fun w1 st=>⟨_,_,⟨w1,q.Z⟩,rfl,rfl,⟨_,_,rfl,rfl⟩,st.newR (by simp) (by simp) (hfr (by simp) (by simp))⟩)
 ·
  refine aB ?_;refine Dw (el:=3) (sz:=1) (by kernel_rfl) (by kernel_rfl) (by decide) fun g=>?_;refine Bn 0 1 0 rfl rfl (by omega) ?_;dsimp only[List.set];refine aB ?_;refine gH 0 1 8 n (n':=n) (el:=3) (by kernel_rfl) (by kernel_rfl) (by decide) rfl rfl rfl (qV (by simp) hs) h1 (by omega) (by omega) (by omega) (by decide) fun A' k'=>?_;dsimp only[List.set,List.nil_append];refine aB ?_;refine dP [] [] [0] (by simp) rfl (by decide) (by decide) fun q _ _ hfr=>?_;exact aS (h:=fun w1 st=>⟨_,_,⟨w1,q.Z⟩,rfl,rfl,⟨_,_,rfl,rfl⟩,st.newR (by simp) (by simp) (hfr (by simp) (by simp))⟩)
def Ov(n:Nat)(xs:List Value)(v:Value)(hs:List HP)(_:Piece):Prop:=∃A c,v=.slice A n c∧hs=[HP.own 4 1 (.slice A n c) n xs]
theorem Sg(A:Option Addr)(n c:Nat)(xs:List Value)(w:World)(hs:aI (all w) 1 A n xs)(h1:∀u∈xs,u.oneCell'=true)(hn:n≤1000000):
  Cz 171 #[.slice A n c] w (fun y w'=>(∃v hs q,y=.returned v∧q.w=w'∧Ov n xs v hs q∧kA w hs q)∧Below w.heap.size w w'):=by
 refine aL func171 ntmps171 ?_;refine aB ?_;refine aAk (el:=4) (by kernel_rfl) rfl (by decide) ?_;refine aB ?_;refine pU rfl (fun hA=>?_) (fun hA=>?_)
 ·
  refine aB ?_
  have hn0:n=0:=by
   rcases Nat.eq_zero_or_pos n with h | h
   ·exact h
   ·obtain⟨b,off,rfl,_⟩:=hs.2 h;cases hA
  subst hn0
  have hx:xs=[]:=List.eq_nil_of_length_eq_zero (by simpa using hs.1)
  subst hx;refine iO 4 1 ?_;refine dP [] [] [0] (by simp) rfl (by decide) (by decide) fun q _ _ hfr=>?_;exact aS (h:=fun w1 st=>⟨_,_,⟨w1,q.Z⟩,rfl,rfl,⟨_,_,rfl,rfl⟩,st.newR (by simp) (by simp) (hfr (by simp) (by simp))⟩)
 ·
  refine aB ?_;refine Dw (el:=4) (sz:=1) (by kernel_rfl) (by kernel_rfl) (by decide) fun g=>?_;refine Bn 0 1 0 rfl rfl (by omega) ?_;dsimp only[List.set];refine aB ?_;refine gH 0 1 1 n (n':=n) (el:=4) (by kernel_rfl) (by kernel_rfl) (by decide) rfl rfl rfl (qV (by simp) hs) h1 (by omega) (by omega) (by omega) (by decide) fun A' k'=>?_;dsimp only[List.set,List.nil_append];refine aB ?_;refine dP [] [] [0] (by simp) rfl (by decide) (by decide) fun q _ _ hfr=>?_;exact aS (h:=fun w1 st=>⟨_,_,⟨w1,q.Z⟩,rfl,rfl,⟨_,_,rfl,rfl⟩,st.newR (by simp) (by simp) (hfr (by simp) (by simp))⟩)
theorem aGA(A:Option Addr)(n c:Nat)(xs:List Value)(w:World)(F:Nat→Prop)(hp:(HP.own 3 1 (.slice A n c) n xs).sat F w)(hF:∀b,F b→b < w.heap.size)(h1:∀u∈xs,u.oneCell'=true)(hn:xs.length=n)(hn2:n≤1000000)(hA:0 < n→∃g,A=some ⟨g,0,none⟩):
  Cz 281 #[.slice A n c] w (Wr (.tuple #[]) (HP.own 3 1 (.slice A n c) n xs.reverse) w F):=by
 refine dJ func281 ntmps281 hp hF ?_;refine aB ?_;refine bJ [(3,iv ((n:Int) - 1)),(2,iv 0),(0,.slice A n c)] ?_;refine aB ?_;refine eI (fun m e R H=>∃(k:Nat) (l:List Value),m=n - k∧2*k≤n∧Lf xs k l∧e=[(3,iv ((n:Int) - 1 - k)),(2,iv k),(0,.slice A n c)]∧R=[⟨w,fun b=>b < w.heap.size∧¬F b⟩]∧H=[HP.own 3 1 (.slice A n c) n l]) n ⟨0,xs,by omega,by omega,.zero xs,by simp,rfl,rfl⟩ fun m e R H hI=>?_;obtain⟨k,l,rfl,hk,hl,rfl,rfl,rfl⟩:=hI;refine aB ?_;refine aG rfl (fun h=>?_) (fun h=>?_)
 ·
  refine lU ?_;refine dW ?_;refine cO ?_
  have h':(k:Int) < (n:Int) - 1 - k:=h
  have Ew:=hl.1
  obtain⟨g,rfl⟩:∃g,A=some ⟨g,0,none⟩:=hA (by omega);obtain⟨u,hu⟩:∃u,l[xs.length - 1 - k]? =some u:=⟨_,List.getElem?_eq_getElem (by omega)⟩
  obtain⟨v,hv⟩:∃u,l[k]? =some u:=⟨_,List.getElem?_eq_getElem (by omega)⟩
  have hou:u.oneCell'=true:=by
   have:=hl.2 _ (by omega:xs.length - 1 - k < xs.length);rw[hu] at this
   split at this<;>exact h1 _ (List.mem_of_getElem? this.symm)
  have hov:v.oneCell'=true:=by
   have:=hl.2 _ (by omega:k < xs.length);rw[hv] at this
   split at this<;>exact h1 _ (List.mem_of_getElem? this.symm)
  refine Sr 0 rfl fun cs Xb oY hc3 hc4=>?_;dsimp only[List.set];rw[Nat.mul_one] at Xb oY
  have hcu:=aGa oY hu
  have Wz:=aGa oY hv
  refine sC ?_;refine aTx 16 (by kernel_rfl) (by kernel_rfl) ?_;refine fL 0 rfl rfl rfl (by decide) (mS rfl) (by kernel_rfl) (fun _ _ _ h=>h) (fun _ h=>h.bare) ?_;refine fL 1 rfl rfl rfl (by decide) (mS rfl) (by kernel_rfl) (fun _ _ _ h=>h) (fun _ h=>h.bare) ?_;refine fL 2 rfl rfl rfl (by decide) (mS rfl) (by kernel_rfl) (fun _ _ _ h=>h) (fun _ h=>h.bare) ?_;refine fL 3 rfl rfl rfl (by decide) (mS rfl) (by kernel_rfl) (fun _ _ _ h=>h) (fun _ h=>h.bare) ?_;refine fL 4 rfl rfl rfl (by decide) (mS rfl) (by kernel_rfl) (fun _ _ _ h=>h) (fun _ h=>h.bare) ?_;refine fL 5 rfl rfl rfl (by decide) (mS rfl) (by kernel_rfl) (fun _ _ _ h=>h) (fun _ h=>h.bare) ?_;refine fL 8 rfl rfl rfl (by decide) (mS rfl) (by kernel_rfl) (fun _ _ _ h=>h) (fun _ h=>h.bare) ?_;refine fL 9 rfl rfl rfl (by decide) (mS rfl) (by kernel_rfl) (fun _ _ _ h=>h) (fun _ h=>h.bare) ?_;refine fL 6 rfl rfl rfl (by decide) (aEu (n - 1 - k) (n - 1 - k) (el:=3) (sz:=1) (by kernel_rfl) (by kernel_rfl) rfl rfl (by omega) (by omega) (by omega)) (by kernel_rfl) (fun _ _ _ h=>h) (fun _ h=>h.bare) ?_;refine fL 10 rfl rfl rfl (by decide) (aEu (k) (k) (el:=3) (sz:=1) (by kernel_rfl) (by kernel_rfl) rfl rfl (by omega) (by omega) (by omega)) (by kernel_rfl) (fun _ _ _ h=>h) (fun _ h=>h.bare) ?_;refine Lc 7 11 rfl rfl (by kernel_rfl) ?_ ?_
  ·refine jC (by kernel_rfl) rfl (Rd.aE 0 rfl (by rw[←hn];exact hcu)) (by decide) ?_;refine iD ?_;refine gQ ?_;refine kW (fun _ h=>h.bare) ?_;refine cE 11 ?_;refine jC (by kernel_rfl) rfl (Rd.aE 0 rfl Wz) (by decide) ?_;refine iD ?_;refine gQ ?_;refine kW (fun _ h=>h.bare) ?_;refine cE 12 ?_;refine kd (dat (k) (k)) ?_;refine iD ?_;refine gQ ?_;refine kW (fun _ h=>h.bare) ?_;refine cE 13 ?_;refine tA 0 rfl (by kernel_rfl) rfl rfl hou (by omega) ?_;dsimp only[List.set];refine iD ?_;refine gQ ?_;refine kW (fun _ h=>h.bare) ?_;refine cE 14 ?_;refine kd (dat (n - 1 - k) (n - 1 - k)) ?_;refine iD ?_;refine gQ ?_;refine kW (fun _ h=>h.bare) ?_;refine cE 15 ?_;refine tA 0 rfl (by kernel_rfl) rfl rfl hov (by simp;omega) ?_;dsimp only[List.set];refine iD ?_;refine gQ ?_;refine kW (fun _ h=>h.bare) ?_;refine kG ?_;refine dW ?_;refine eB ?_;refine cP rfl (by decide) ?_;refine zJ rfl rfl (iR (by omega)) (by decide) ?_;refine cP rfl (by decide) ?_;refine aAe rfl rfl (iR (by omega)) (by decide) ?_;refine fP rfl (by decide) ?_;refine fP rfl (by decide) ?_;refine dO ?_;refine Oc 0 (n:=n) (c:=c) (sz:=1) (xs:=(l.set k u).set (xs.length - 1 - k) v) rfl (by simp;omega) (by rw[Nat.mul_one,hn];exact take_set (take_set oY)) hc3 hc4 ?_;dsimp only[List.set];exact bJ [(3,iv ((n:Int) - 1 - k - 1)),(2,iv ((k:Int)+1)),(0,.slice (some ⟨g,0,none⟩) n c)] (iC (n - (k+1)) (by omega) ⟨k+1,_,rfl,by omega,hl.next (by omega) hu hv,(by rw[show(n:Int) - 1 - k - 1=(n:Int) - 1 - ((k+1:Nat):Int) by omega];rfl),rfl,rfl⟩)
  ·refine jC (by kernel_rfl) rfl (Rd.aE 0 rfl Wz) (by decide) ?_;refine iD ?_;refine gQ ?_;refine kW (fun _ h=>h.bare) ?_;refine cE 7 ?_;refine jC (by kernel_rfl) rfl (Rd.aE 0 rfl (by rw[←hn];exact hcu)) (by decide) ?_;refine iD ?_;refine gQ ?_;refine kW (fun _ h=>h.bare) ?_;refine cE 12 ?_;refine kd (dat (k) (k)) ?_;refine iD ?_;refine gQ ?_;refine kW (fun _ h=>h.bare) ?_;refine cE 13 ?_;refine tA 0 rfl (by kernel_rfl) rfl rfl hou (by omega) ?_;dsimp only[List.set];refine iD ?_;refine gQ ?_;refine kW (fun _ h=>h.bare) ?_;refine cE 14 ?_;refine kd (dat (n - 1 - k) (n - 1 - k)) ?_;refine iD ?_;refine gQ ?_;refine kW (fun _ h=>h.bare) ?_;refine cE 15 ?_;refine tA 0 rfl (by kernel_rfl) rfl rfl hov (by simp;omega) ?_;dsimp only[List.set];refine iD ?_;refine gQ ?_;refine kW (fun _ h=>h.bare) ?_;refine kG ?_;refine dW ?_;refine eB ?_;refine cP rfl (by decide) ?_;refine zJ rfl rfl (iR (by omega)) (by decide) ?_;refine cP rfl (by decide) ?_;refine aAe rfl rfl (iR (by omega)) (by decide) ?_;refine fP rfl (by decide) ?_;refine fP rfl (by decide) ?_;refine dO ?_;refine Oc 0 (n:=n) (c:=c) (sz:=1) (xs:=(l.set k u).set (xs.length - 1 - k) v) rfl (by simp;omega) (by rw[Nat.mul_one,hn];exact take_set (take_set oY)) hc3 hc4 ?_;dsimp only[List.set];exact bJ [(3,iv ((n:Int) - 1 - k - 1)),(2,iv ((k:Int)+1)),(0,.slice (some ⟨g,0,none⟩) n c)] (iC (n - (k+1)) (by omega) ⟨k+1,_,rfl,by omega,hl.next (by omega) hu hv,(by rw[show(n:Int) - 1 - k - 1=(n:Int) - 1 - ((k+1:Nat):Int) by omega];rfl),rfl,rfl⟩)
 ·
  refine aB ?_
  have h':¬(k:Int) < (n:Int) - 1 - k:=h
  have:=hl.all (by omega)
  subst this;exact jZ 0 hF
end
section
theorem Qm(l:List Int):∀u∈aK l,u.oneCell'=true:=by
 intro u hu;simp only[aK,List.mem_map] at hu;obtain⟨x,_,rfl⟩:=hu;rfl
theorem aHd{F:Nat→Prop}{w:World}{el:TypeId}{sz n c:Nat}{A:Option Addr}{xs:List Value}(h:(HP.own el sz (.slice A n c) n xs).sat F w)(hn:0 < n):∃g,A=some ⟨g,0,none⟩:=by
 rcases h.2.2 with⟨_,h0⟩ | ⟨g,cap,cur,hv,_⟩
 ·omega
 ·injection hv with hA
  exact⟨g,hA⟩
theorem aGB(l:List Nat):(aK (dL l)).reverse=aK (dL l.reverse):=by simp[aK,dL]
section
variable{P:Program}{N:bZ}{w0:World}{e:Env}{R R' R0:List Piece}{H H0:List HP}{Q:Exit→Act→World→Prop}{ops:Array Oper}{m fuel dA d:Nat}{listed:Array Bool}{t ty:TypeId}{pos:String}{aH:Array Edge}{cs:List Value}{v:Value}
theorem Bc{x:Operand}{g o:Nat}{p:Piece}(h:RP p g o v)(hp:p∈R:=by simp)(ht:vK P t=true:=by kernel_rfl)(hx:e.ev x=some (.pointer (some ⟨g,o,none⟩)):=by rfl):bQ P N w0 e R H ⟨some d,.load t x,ty,pos,aH,none⟩ v:=Kq ht hx (h.rd hp)
theorem tS{i j:Nat}{M:Option Nat}(i':Nat)(R':List Piece){oi:Oper}(step:∀M,XK N w0 (wpList P ops (Exit.then (tT P w0 ops Q R0 H0 m (Fi M fuel) (zW M j (listed.setIfInBounds i true)) i') Q) [oi]) (vV M dA ((d,v)::e)) R' (yE M t cs H))(hi:ops[i']? =some oi:=by rfl)(hj:ops[j]? =some ⟨some dA,.alloc t,ty,pos,aH,none⟩:=by rfl)(ht:Dv P t cs:=by exact iG (by kernel_rfl))(hd:dA < N.n:=by decide)
  (Ah:Region.ready .any ops (listed.setIfInBounds i true)=[i',j]:=by kernel_rfl) (eH:Region.ready .any ops ((listed.setIfInBounds i true).setIfInBounds j true)=[i']:=by kernel_rfl) (hS:∀w,St w0 R' H w→St w0 R0 H0 w:=by exact fun _ h=>h.aZ) (hR:∀p∈R',p∈R:=by simp) (hij:i≠j:=by decide) (hb:Nat.beq d dA=false:=by rfl):
  XK N w0 (wpList P ops (Exit.then (tT P w0 ops Q R0 H0 m (Fi M (fuel+1)) (zW M j listed) i) Q) []) ((d,v)::vV M dA e) R (yE M t cs H):=aBQ hR (iD (gQ (Zr hij hb hS (Th i' j hi hj ht hd Ah eH hS step))))
end
def uU(s:aD)(dl cl ll:List Nat)(fd fc fl td tc tl:List Bool):List cZ:=
 jT 17 4 (fun _=>1) (eV (dl) fd td)++(jT 20 7 (fun _=>1) (eV (cl) fc tc)++(jT 22 4 (fun _=>0) (eV (ll) fl tl)++(jT 22 4 (fun _=>1) (eV (ll) tl fl)++(jT 20 7 (fun _=>0) (eV (cl.reverse) tc fc)++(jT 17 4 (mJ s) (eV (dl.reverse) td fd))))))
def aKA(p0:Piece)(Eg:List cZ)(y:Value)(w w':World):Prop:=∃g,y=.func (.func 286) #[] #[pt g]∧∀q,p0.Le q→(fresh w w').Le q→Iter Tryz.prog 286 [pt g] (pK Eg) q in
theorem aSW(p0:Piece)(s:aD)(A1 A2 A3 A4 Ad Ac Al Fd Fc Fl Td Tc Tl:Option Addr)(n1 k1 n2 k2 n3 k3 n4 k4 nd cd nc cc nl kl yO Hr yP Ht yN Hp xR Gj xS Gk xQ Gg:Nat)(dl cl ll:List Nat)(fd fc fl td tc tl:List Bool)(w:World)
  (Ev:p0.Le (all w)) (Rf:jN (fF p0) vA 50 3 A2 n2 s.domains) (hn2:(n2:Int)≤1000000)
  (iY:aI p0 1 Ad nd (aK (dL dl))) (hnd:nd=dl.length) (aId:nd≤1000000) (Ww:∀i∈dl,i < n2)
  (iA:aI p0 1 Ac nc (aK (dL cl))) (hnc:nc=cl.length) (aIe:nc≤1000000) (aBo:∀i∈cl,i < 1000000)
  (pO:aI p0 1 Al nl (aK (dL ll))) (iK:nl=ll.length) (aIb:nl≤1000000) (aBg:∀i∈ll,i < 1000000)
  (Rc:aI p0 1 Fd yO (bE fd)) (aBm:yO=fd.length) (Qs:aI p0 1 Td xR (bE td)) (aBd:xR=td.length) (Re:aI p0 1 Fc yP (bE fc)) (aBn:yP=fc.length) (Qt:aI p0 1 Tc xS (bE tc)) (aBe:xS=tc.length) (hfl:aI p0 1 Fl yN (bE fl)) (aBl:yN=fl.length) (nO:aI p0 1 Tl xQ (bE tl)) (aBb:xQ=tl.length):
  Cz 279 #[.agg #[.slice A1 n1 k1,.slice A2 n2 k2,.slice A3 n3 k3,.slice A4 n4 k4],.slice Ad nd cd,.slice Ac nc cc,.slice Al nl kl,.agg #[.slice Fd yO Hr,.slice Fc yP Ht,.slice Fl yN Hp],.agg #[.slice Td xR Gj,.slice Tc xS Gk,.slice Tl xQ Gg]] w (fun y w'=>(∃x,y=.returned x∧aKA p0 (uU s dl cl ll fd fc fl td tc tl) x w w')∧Below w.heap.size w w'):=by
 have aUh:=hnd
 refine aL func279 ntmps279 ?_;refine Bi p0 (by simp) Ev ?_;refine aB ?_;refine bA fun g1=>?_;refine bA fun g2=>?_;refine bA fun g3=>?_;refine aB ?_;refine iW (aFt nc (aK (dL cl))) (fun w1 st=>aJj Ac nc cc _ w1 (iA.le (st.le (by simp))) (Qm _) aIe) ?_;rintro _ _ q13 ⟨A13,c13,rfl,rfl⟩ _;refine aB ?_;refine Tx (f:=281) (fi:=[]) (ca:=[]) 0 (HP.own 3 1 (.slice A13 nc c13) nc (aK (dL cl)).reverse) (by kernel_rfl) rfl rfl rfl ⟨by decide,rfl⟩ (fun w1 F st hp hF=>aGA A13 nc c13 _ w1 F hp hF (Qm _) (by simp[aK,dL,hnc]) aIe (aHd hp)) ?_;dsimp only[List.set,List.cons_append,List.nil_append];rw[aGB];refine aB ?_;refine iW (aFt nd (aK (dL dl))) (fun w1 st=>aJj Ad nd cd _ w1 (iY.le (st.le (by simp))) (Qm _) aId) ?_;rintro _ _ Pv ⟨A14,c14,rfl,rfl⟩ _;refine aB ?_;refine Tx (f:=281) (fi:=[]) (ca:=[]) 0 (HP.own 3 1 (.slice A14 nd c14) nd (aK (dL dl)).reverse) (by kernel_rfl) rfl rfl rfl ⟨by decide,rfl⟩ (fun w1 F st hp hF=>aGA A14 nd c14 _ w1 F hp hF (Qm _) (by simp[aK,dL,hnd]) aId (aHd hp)) ?_;dsimp only[List.set,List.cons_append,List.nil_append];rw[aGB];refine dO ?_;refine aY [0,1,2,3,4] rfl (by decide) (R':=[p0,all w]) (by simp) ?_;refine aJO p0 p0 [0,1,2,3,4] [] (by simp) (by simp) (fun b h=>.inl h) rfl (by decide) (by decide) fun q0 hq Co N0=>?_
 have f14:=aI.own (hq 0 _ (by simp) rfl)
 have f13:=aI.own (hq 1 _ (by simp) rfl)
 have t_d:RP q0 g3 0 (.slice Td xR Gj):=tW (hq 2 _ (by simp) rfl) rfl
 have f_d:RP q0 g2 0 (.slice Fd yO Hr):=tW (hq 3 _ (by simp) rfl) rfl
 have t_c:RP q0 g3 1 (.slice Tc xS Gk):=tW (hq 2 _ (by simp) rfl) rfl
 have f_c:RP q0 g2 1 (.slice Fc yP Ht):=tW (hq 3 _ (by simp) rfl) rfl
 have t_l:RP q0 g3 2 (.slice Tl xQ Gg):=tW (hq 2 _ (by simp) rfl) rfl
 have f_l:RP q0 g2 2 (.slice Fl yN Hp):=tW (hq 3 _ (by simp) rfl) rfl
 have b1:RP q0 g1 1 (.slice A2 n2 k2):=tW (hq 4 _ (by simp) rfl) rfl
 have E0:q0.Le q0:=fun b hb=>⟨hb,rfl⟩
 have aLl:=aTc q0 g1 n2 k2 s A2 b1 (Rf.mono (nU Co) (fun _ _ h=>h)) hn2
 have iY:=iY.le Co
 have iA:=iA.le Co
 have pO:=pO.le Co
 have Rc:=Rc.le Co
 have Re:=Re.le Co
 have hfl:=hfl.le Co
 have Qs:=Qs.le Co
 have Qt:=Qt.le Co
 have nO:=nO.le Co
 refine cO ?_;refine rB 50 (by kernel_rfl) (by kernel_rfl) ?_;refine bB 0 ?_;refine bB 1 ?_;refine bB 2 ?_ (dI:=Bc f_d);refine bB 3 ?_;refine bB 4 ?_ (dI:=Bc t_d);refine bB 8 ?_;refine bB 9 ?_;refine bB 10 ?_ (dI:=Bc f_c);refine bB 11 ?_;refine bB 12 ?_ (dI:=Bc t_c);refine bB 16 ?_;refine bB 17 ?_;refine bB 18 ?_ (dI:=Bc f_l);refine bB 19 ?_;refine bB 20 ?_ (dI:=Bc t_l);refine bB 24 ?_;refine bB 25 ?_;refine bB 26 ?_ (dI:=Bc t_l);refine bB 27 ?_;refine bB 28 ?_ (dI:=Bc f_l);refine bB 32 ?_;refine bB 33 ?_;refine bB 34 ?_ (dI:=Bc t_c);refine bB 35 ?_;refine bB 36 ?_ (dI:=Bc f_c);refine bB 40 ?_;refine bB 41 ?_;refine bB 42 ?_ (dI:=Bc t_d);refine bB 43 ?_;refine bB 44 ?_ (dI:=Bc f_d);refine gD 46 rfl rfl rfl (aIY (vf:=[]) (vc:=[pt g1]) rfl rfl) ?_;refine aKb (j:=49) 15 415 [sn] fun M=>?_;refine Th 5 49 rfl rfl (iG (by kernel_rfl)) (by decide) (by kernel_rfl) (by kernel_rfl) (fun _ h=>h) (fun M=>?_);refine tE p0 q0 (Ot q0 (eV (dl) fd td)) (fun w1 st=>Py q0 nd xR yO cd Gj Hr Ad Td Fd (dl) fd td w1 (iY.le E0) hnd (by omega) (Qs.le E0) aBd (Rc.le E0) aBm (fun i hi=>by have:=Ww i hi;omega)) ?_;rintro _ w1 q1 ⟨x0,y0,z0,rfl,hit⟩ hf L1 N1
 have it0:=hit q1 L1 hf
 have E1:=E0.trans' L1
 refine tS 6 [q1,q0,p0,all w] fun M=>?_;refine tE p0 q1 (Ts 1) (fun w1 st=>Yw 1 w1) ?_;rintro _ w1 q2 ⟨u0,rfl,Gt⟩ hf L2 N2
 have va0:=Gt q2 hf
 have E2:=E1.trans' L2
 refine tS 7 [q2,q0,p0,all w] fun M=>?_;refine tE p0 q2 (Oh q2 (xU 17 4 (fun _=>1) (eV (dl) fd td))) (fun w1 st=>Pk q2 288 289 [pt x0,pt y0,pt z0] [pt u0] 17 4 (fun _=>1) (eV (dl) fd td) w1 (it0.le L2) (by kernel_rfl) (by kernel_rfl) (va0 _) (fun i hi=>by have:=Ww i (List.mem_filter.1 hi).1;omega)) ?_;rintro _ w1 q3 ⟨c0,d0,e0,f0,rfl,hst⟩ hf L3 N3
 have st0:=hst q3 L3 hf
 have E3:=E2.trans' L3
 refine tS 13 [q3,q0,p0,all w] fun M=>?_;refine tE p0 q3 (Ot q3 (eV (cl) fc tc)) (fun w1 st=>Py q3 nc xS yP cc Gk Ht Ac Tc Fc (cl) fc tc w1 (iA.le E3) hnc (by omega) (Qt.le E3) aBe (Re.le E3) aBn (fun i hi=>by have:=aBo i hi;omega)) ?_;rintro _ w1 q4 ⟨x1,y1,z1,rfl,hit⟩ hf L4 N4
 have it1:=hit q4 L4 hf
 have E4:=E3.trans' L4
 refine tS 14 [q4,q0,p0,all w] fun M=>?_;refine tE p0 q4 (Ts 1) (fun w1 st=>Yw 1 w1) ?_;rintro _ w1 q5 ⟨u1,rfl,Gt⟩ hf L5 N5
 have va1:=Gt q5 hf
 have E5:=E4.trans' L5
 refine tS 15 [q5,q0,p0,all w] fun M=>?_;refine tE p0 q5 (Oh q5 (xU 20 7 (fun _=>1) (eV (cl) fc tc))) (fun w1 st=>Pk q5 288 289 [pt x1,pt y1,pt z1] [pt u1] 20 7 (fun _=>1) (eV (cl) fc tc) w1 (it1.le L5) (by kernel_rfl) (by kernel_rfl) (va1 _) (fun i hi=>by have:=aBo i (List.mem_filter.1 hi).1;omega)) ?_;rintro _ w1 q6 ⟨c1,d1,e1,f1,rfl,hst⟩ hf L6 N6
 have mI:=hst q6 L6 hf
 have E6:=E5.trans' L6
 refine tS 21 [q6,q0,p0,all w] fun M=>?_;refine tE p0 q6 (Ot q6 (eV (ll) fl tl)) (fun w1 st=>Py q6 nl xQ yN kl Gg Hp Al Tl Fl (ll) fl tl w1 (pO.le E6) iK (by omega) (nO.le E6) aBb (hfl.le E6) aBl (fun i hi=>by have:=aBg i hi;omega)) ?_;rintro _ w1 q7 ⟨x2,y2,z2,rfl,hit⟩ hf L7 N7
 have it2:=hit q7 L7 hf
 have E7:=E6.trans' L7
 refine tS 22 [q7,q0,p0,all w] fun M=>?_;refine tE p0 q7 (Ts 0) (fun w1 st=>Yw 0 w1) ?_;rintro _ w1 q8 ⟨u2,rfl,Gt⟩ hf L8 N8
 have va2:=Gt q8 hf
 have E8:=E7.trans' L8
 refine tS 23 [q8,q0,p0,all w] fun M=>?_;refine tE p0 q8 (Oh q8 (xU 22 4 (fun _=>0) (eV (ll) fl tl))) (fun w1 st=>Pk q8 288 289 [pt x2,pt y2,pt z2] [pt u2] 22 4 (fun _=>0) (eV (ll) fl tl) w1 (it2.le L8) (by kernel_rfl) (by kernel_rfl) (va2 _) (fun i hi=>by have:=aBg i (List.mem_filter.1 hi).1;omega)) ?_;rintro _ w1 q9 ⟨c2,d2,e2,f2,rfl,hst⟩ hf L9 N9
 have xV:=hst q9 L9 hf
 have E9:=E8.trans' L9
 refine tS 29 [q9,q0,p0,all w] fun M=>?_;refine tE p0 q9 (Ot q9 (eV (ll) tl fl)) (fun w1 st=>Py q9 nl yN xQ kl Hp Gg Al Fl Tl (ll) tl fl w1 (pO.le E9) iK (by omega) (hfl.le E9) aBl (nO.le E9) aBb (fun i hi=>by have:=aBg i hi;omega)) ?_;rintro _ w1 q10 ⟨x3,y3,z3,rfl,hit⟩ hf L10 N10
 have it3:=hit q10 L10 hf
 have E10:=E9.trans' L10
 refine tS 30 [q10,q0,p0,all w] fun M=>?_;refine tE p0 q10 (Ts 1) (fun w1 st=>Yw 1 w1) ?_;rintro _ w1 Vd ⟨u3,rfl,Gt⟩ hf L11 N11
 have va3:=Gt Vd hf
 have E11:=E10.trans' L11
 refine tS 31 [Vd,q0,p0,all w] fun M=>?_;refine tE p0 Vd (Oh Vd (xU 22 4 (fun _=>1) (eV (ll) tl fl))) (fun w1 st=>Pk Vd 288 289 [pt x3,pt y3,pt z3] [pt u3] 22 4 (fun _=>1) (eV (ll) tl fl) w1 (it3.le L11) (by kernel_rfl) (by kernel_rfl) (va3 _) (fun i hi=>by have:=aBg i (List.mem_filter.1 hi).1;omega)) ?_;rintro _ w1 Vc ⟨c3,d3,e3,f3,rfl,hst⟩ hf L12 N12
 have Lv:=hst Vc L12 hf
 have E12:=E11.trans' L12
 refine tS 37 [Vc,q0,p0,all w] fun M=>?_;refine tE p0 Vc (Ot Vc (eV (cl.reverse) tc fc)) (fun w1 st=>Py Vc nc yP xS c13 Ht Gk A13 Fc Tc (cl.reverse) tc fc w1 (f13.le E12) (by simpa using hnc) (by omega) (Re.le E12) aBn (Qt.le E12) aBe (fun i hi=>by have:=(fun i hi=>aBo i (by simpa using hi)) i hi;omega)) ?_;rintro _ w1 q13 ⟨x4,y4,z4,rfl,hit⟩ hf L13 N13
 have it4:=hit q13 L13 hf
 have E13:=E12.trans' L13
 refine tS 38 [q13,q0,p0,all w] fun M=>?_;refine tE p0 q13 (Ts 0) (fun w1 st=>Yw 0 w1) ?_;rintro _ w1 Pv ⟨u4,rfl,Gt⟩ hf L14 N14
 have va4:=Gt Pv hf
 have E14:=E13.trans' L14
 refine tS 39 [Pv,q0,p0,all w] fun M=>?_;refine tE p0 Pv (Oh Pv (xU 20 7 (fun _=>0) (eV (cl.reverse) tc fc))) (fun w1 st=>Pk Pv 288 289 [pt x4,pt y4,pt z4] [pt u4] 20 7 (fun _=>0) (eV (cl.reverse) tc fc) w1 (it4.le L14) (by kernel_rfl) (by kernel_rfl) (va4 _) (fun i hi=>by have:=(fun i hi=>aBo i (by simpa using hi)) i (List.mem_filter.1 hi).1;omega)) ?_;rintro _ w1 Vb ⟨c4,d4,e4,f4,rfl,hst⟩ hf L15 N15
 have st4:=hst Vb L15 hf
 have E15:=E14.trans' L15
 refine tS 45 [Vb,q0,p0,all w] fun M=>?_;refine tE p0 Vb (Ot Vb (eV (dl.reverse) td fd)) (fun w1 st=>Py Vb nd yO xR c14 Hr Gj A14 Fd Td (dl.reverse) td fd w1 (f14.le E15) (by simpa using hnd) (by omega) (Rc.le E15) aBm (Qs.le E15) aBd (fun i hi=>by have:=(fun i hi=>Ww i (by simpa using hi)) i hi;omega)) ?_;rintro _ w1 Va ⟨x5,y5,z5,rfl,hit⟩ hf L16 N16
 have it5:=hit Va L16 hf
 have E16:=E15.trans' L16
 refine tS 47 [Va,q0,p0,all w] fun M=>?_;refine tE p0 Va (Oh Va (xU 17 4 (mJ s) (eV (dl.reverse) td fd))) (fun w1 st=>Pk Va 288 285 [pt x5,pt y5,pt z5] [pt g1] 17 4 (mJ s) (eV (dl.reverse) td fd) w1 (it5.le (Piece.Le.refl _)) (by kernel_rfl) (by kernel_rfl) ((aLl (eV (dl.reverse) td fd) (fun i hi=>by have:=(fun i hi=>Ww i (by simpa using hi)) i (List.mem_filter.1 hi).1;omega)).le E16) (fun i hi=>by have:=(fun i hi=>Ww i (by simpa using hi)) i (List.mem_filter.1 hi).1;omega)) ?_;rintro _ w1 q17 ⟨c5,d5,e5,f5,rfl,hst⟩ hf L17 N17
 have Lu:=hst q17 L17 hf
 have E17:=E16.trans' L17
 refine tS 48 [q17,q0,p0,all w] fun M=>?_;rcases M with _ | g15
 all_goals
  dsimp only[vV,yE,zW,Fi];refine eL fun gS=>?_;refine iD ?_;refine gQ ?_
 refine kW (fun _ h=>h.tail.aZ) ?_;refine cE 49 ?_;refine bR fun g15=>?_;refine iD ?_;refine gQ ?_
 rotate_left
 refine aY [1,0] rfl (by decide) (fun _ h=>h) ?_
 all_goals
  refine kW (fun _ h=>h.tail.tail.aZ) ?_;refine cE 50 ?_;refine aF1 rfl rfl ?_;dsimp only[List.set];refine fA ?_;refine kG ?_;refine dW ?_;refine cO ?_;refine eB ?_;refine kL (vf:=[]) (vc:=[pt g15]) rfl rfl (by decide) ?_;refine aB ?_;refine aJO p0 q17 [0,1] [] (by simp) (by simp) N17 rfl (by decide) (by decide) fun qs hqs Ls Ns=>?_
  have r15:=tW (o:=0) (hqs 0 _ (by simp) rfl) rfl
  obtain⟨FS,sS,zS⟩:=hqs 1 _ (by simp) rfl
  have rS:=sW (n:=6) (sz:=1) (c:=6) sS zS rfl
  refine nR rfl rfl fun w1 st=>⟨⟨_,rfl,g15,rfl,fun q2 Mr nQ=>?_⟩,st.below (by simp)⟩
  have Lq:=aOk (p0:=p0) st (by simp:qs∈_) Ns (((Co.trans' E17).trans' Ls)) Mr nQ
  have T17:=Ls.trans' Lq
  have T16:=L17.trans' T17
  have T15:=L16.trans' T16
  have T14:=L15.trans' T15
  have T13:=L14.trans' T14
  have T12:=L13.trans' T13
  have T11:=L12.trans' T12
  have T10:=L11.trans' T11
  have T9:=L10.trans' T10
  have T8:=L9.trans' T9
  have T7:=L8.trans' T8
  have T6:=L7.trans' T7
  have T5:=L6.trans' T6
  have T4:=L5.trans' T5
  have T3:=L4.trans' T4
  have hall:=aTb q2 g15 6 6 _ [⟨287,[pt c0,pt d0,pt e0,pt f0],jT 17 4 (fun _=>1) (eV (dl) fd td)⟩,⟨287,[pt c1,pt d1,pt e1,pt f1],jT 20 7 (fun _=>1) (eV (cl) fc tc)⟩,⟨287,[pt c2,pt d2,pt e2,pt f2],jT 22 4 (fun _=>0) (eV (ll) fl tl)⟩,⟨287,[pt c3,pt d3,pt e3,pt f3],jT 22 4 (fun _=>1) (eV (ll) tl fl)⟩,⟨287,[pt c4,pt d4,pt e4,pt f4],jT 20 7 (fun _=>0) (eV (cl.reverse) tc fc)⟩,⟨287,[pt c5,pt d5,pt e5,pt f5],jT 17 4 (mJ s) (eV (dl.reverse) td fd)⟩] (r15.le Lq) (rS.le Lq) rfl (by omega) (fun r hr=>by
   simp only[List.mem_cons,List.not_mem_nil,or_false] at hr;rcases hr with rfl | rfl | rfl | rfl | rfl | rfl
   ·exact⟨by kernel_rfl,by have h:=st0.le T3;rw[Po] at h;exact h⟩
   ·exact⟨by kernel_rfl,by have h:=mI.le T6;rw[Po] at h;exact h⟩
   ·exact⟨by kernel_rfl,by have h:=xV.le T9;rw[Po] at h;exact h⟩
   ·exact⟨by kernel_rfl,by have h:=Lv.le T12;rw[Po] at h;exact h⟩
   ·exact⟨by kernel_rfl,by have h:=st4.le T15;rw[Po] at h;exact h⟩
   ·exact⟨by kernel_rfl,by have h:=Lu.le T17;rw[Po] at h;exact h⟩)
  simpa[Ej,uU] using hall
end
section
def Bu(g:List (List Int)):Prop:=∀(k:Nat) (l:List Int),g[k]? =some l→∀u∈l,0≤u∧u < (k:Int)
theorem Bu.in{g:List (List Int)}(h:Bu g):yZ g:=by
 intro l hl u hu;obtain⟨k,hk⟩:=List.getElem?_of_mem hl
 have:=h k l hk u hu
 have:=(List.getElem?_eq_some_iff.1 hk).1
 omega
theorem Bu.next{g:List (List Int)}(h:Bu g){k:Nat}(hk:k < g.length):Jl g (List.range k)=some k:=by
 refine aHn hk (fun j hj=>aDi (by simpa using hj)) ?_;unfold vL;obtain⟨l,hl⟩:∃l,g[k]? =some l:=⟨_,List.getElem?_eq_getElem hk⟩
 rw[hl];simp only[Option.getD_some,Bool.and_eq_true,Bool.not_eq_true',List.all_eq_true];refine⟨by simp,fun u hu=>?_⟩
 have:=h k l hl u hu
 simp;omega
theorem Bu.order{g:List (List Int)}(h:Bu g):∀(m k:Nat),k+m=g.length→uJ g m (List.range k)=some (List.range g.length)
 | 0,k,hk=>by rw[uJ];simp at hk;rw[hk]
 | m+1,k,hk=>by
  rw[uJ,h.next (by omega)]
  have:=Bu.order h m (k+1) (by omega)
  rw[List.range_succ] at this;exact this
theorem Bu.fQ{g:List (List Int)}(h:Bu g)(hl:g.length≤100):fQ g=(0,List.range g.length):=by
 have h1:Fv g=false:=aJ0 fun k l hk j u hj=>by
  have:=h.in l (List.mem_of_getElem? hk) u (List.mem_of_getElem? hj)
  exact this
 have h2:rQ g=0:=by unfold rQ;rw[if_neg (by omega),h1];rfl
 have h3:=h.order g.length 0 (by omega)
 unfold Go.Proofs.YtdcdccmpcmjmhaaGreatDoor.fQ;rw[if_neg (by simp[h2])];simp only[List.range_zero] at h3;rw[h3]
end
section
theorem Dc{es:List Int}(h:∀e∈es,e=0):lE es=0:=Kj fun j hj=>by rw[List.getElem?_eq_getElem hj,h _ (List.getElem_mem hj)]
theorem Iz{n lo hi:Int}(h1:lo≤n)(h2:n≤hi):iU n lo hi=true:=by simp[iU,h1,h2]
theorem Cf{b:Bool}{e:Int}(h:b=false):jD b e=0:=by rw[h];rfl
section
variable{s:aD}(h:s.made)
include h
theorem aH9:Bu (gO s):=by
 intro k l hl u hu;simp only[gO,List.getElem?_map,Option.map_eq_some_iff] at hl;obtain⟨c,hc,rfl⟩:=hl;exact(h.aF k c hc).1 u hu
theorem aH7:Bu (gM s):=by
 intro k l hl u hu;simp only[gM,List.getElem?_map,Option.map_eq_some_iff] at hl;obtain⟨d,hd,rfl⟩:=hl
 have:=(h.domains k d hd).1
 split at hu
 ·cases hu
 ·rename_i hne
  simp at hu;subst hu;exact this.resolve_left hne
theorem aH6:Bu (cQ s):=by
 intro k l hl u hu;simp only[cQ,List.getElem?_map,Option.map_eq_some_iff] at hl;obtain⟨d,hd,rfl⟩:=hl;obtain⟨_,_,_,_,_,_,_,_,_,_,_,h1⟩:=h.aC k d hd;exact h1 u hu
theorem Qf:s.small:=by
 refine⟨by have:=h.nc;omega,by have:=h.nd;omega,by have:=h.nr;omega,by have:=h.nv;omega,fun c hc=>?_,fun d hd=>?_⟩
 ·obtain⟨k,hk⟩:=List.getElem?_of_mem hc;rcases(h.aF k c hk).2 with h1 | h1 | h1 | h1 | h1
  ·rw[h1.2.1];simp
  all_goals(have:=h1.2.1;omega)
 ·obtain⟨k,hk⟩:=List.getElem?_of_mem hd;obtain⟨_,_,_,_,_,_,_,_,_,_,h1,_⟩:=h.aC k d hk;omega
theorem aDu:fQ (gO s)=(0,List.range s.aF.length)∧fQ (gM s)=(0,List.range s.domains.length)∧fQ (cQ s)=(0,List.range s.aC.length):=by
 refine⟨?_,?_,?_⟩
 ·have:=(aH9 h).fQ (by simp[gO];have:=h.nc;omega)
  simpa[gO] using this
 ·have:=(aH7 h).fQ (by simp[gM];have:=h.nd;omega)
  simpa[gM] using this
 ·have:=(aH6 h).fQ (by simp[cQ];have:=h.nv;omega)
  simpa[cQ] using this
theorem aOF{k:Nat}{c:eF}(hc:s.aF[k]? =some c):Np s.aF.length c=0:=by
 have hk:=(List.getElem?_eq_some_iff.1 hc).1
 obtain⟨h1,h2⟩:=h.aF k c hc;refine Dc fun e he=>?_;simp only[List.mem_cons,List.not_mem_nil,or_false] at he;rcases he with rfl | rfl | rfl
 ·refine Cf ?_;rcases h2 with h2 | h2 | h2 | h2 | h2
  ·simp[lZ,h2.1,h2.2.1]
  ·simp[lZ,h2.1,h2.2.1]
  ·simp[lZ,h2.1,h2.2.1]
  ·simp[lZ,h2.1,h2.2.1]
  ·simp[lZ,h2.1,h2.2.1,iU]
 ·refine Dc fun e he=>?_;simp only[List.mem_map] at he;obtain⟨f,hf,rfl⟩:=he
  have:=h1 f hf
  exact Cf (by rw[Iz (by omega) (by omega)];rfl)
 ·refine Cf ?_;rcases h2 with h2 | h2 | h2 | h2 | h2
  ·obtain⟨h3,_,h4,h5,_⟩:=h2;simp[uL,h3];omega
  ·obtain⟨h3,_,_,h4,h5,h6,h7,h8,h9⟩:=h2;simp[uL,h3,iU];omega
  ·obtain⟨h3,_,_,_,h4,h5,_⟩:=h2;simp[uL,h3,iU];omega
  ·simp[uL,h2.1]
  ·simp[uL,h2.1]
theorem aOE{k:Nat}{d:Dom}(hd:s.domains[k]? =some d):Sa s.domains.length d=0:=by
 have hk:=(List.getElem?_eq_some_iff.1 hd).1
 obtain⟨h1,h2,h3⟩:=h.domains k d hd;refine Dc fun e he=>?_;simp only[List.mem_cons,List.not_mem_nil,or_false] at he;rcases he with rfl | rfl
 ·refine Cf ?_;rcases h1 with h1 | h1
  ·simp[h1]
  ·rw[Iz (by omega) (by omega)];simp
 ·exact Cf (by rw[Iz (by omega) (by omega)];rfl)
theorem aH8{k:Nat}{d:bO}(hd:s.aC[k]? =some d):Se s.aF.length s.domains.length s.aT.length s.aC.length d=0∧Qe d=0:=by
 have hk:=(List.getElem?_eq_some_iff.1 hd).1
 obtain⟨a1,a2,a3,a4,a5,a6,_,_,a7,_,a8,a9⟩:=h.aC k d hd;refine⟨Dc fun e he=>?_,?_⟩
 ·simp only[List.mem_cons,List.not_mem_nil,or_false] at he;rcases he with rfl | rfl | rfl | rfl
  ·exact Cf (by rw[Iz (by omega) (by omega)];rfl)
  ·exact Cf (by rw[Iz (by omega) (by omega)];rfl)
  ·exact Cf (by rw[Iz (by omega) (by omega)];rfl)
  ·refine Dc fun e he=>?_;simp only[List.mem_map] at he;obtain⟨f,hf,rfl⟩:=he
   have:=a9 f hf
   exact Cf (by rw[Iz (by omega) (by omega)];rfl)
 ·refine Cf ?_;simp;omega
theorem aAQ:Yq s=0:=by
 obtain⟨o1,o2,o3⟩:=aDu h;refine Dc fun e he=>?_;simp only[aB6,List.mem_cons,List.not_mem_nil,or_false] at he
 have h1:=h.nc
 have h2:=h.nd
 have h3:=h.nr
 have h4:=h.nv
 rcases he with rfl | rfl | rfl | rfl | rfl | rfl | rfl | rfl
 ·rw[Ho,if_neg (by omega)];refine Dc fun e he=>?_;obtain⟨d,hd,rfl⟩:=List.mem_map.1 he;obtain⟨k,hk⟩:=List.getElem?_of_mem hd;exact(aH8 h hk).2
 ·refine Dc fun e he=>?_;obtain⟨d,hd,rfl⟩:=List.mem_map.1 he;obtain⟨k,hk⟩:=List.getElem?_of_mem hd;exact aOF h hk
 ·rw[Ft,o1];rfl
 ·refine Dc fun e he=>?_;obtain⟨d,hd,rfl⟩:=List.mem_map.1 he;obtain⟨k,hk⟩:=List.getElem?_of_mem hd;exact aOE h hk
 ·rw[Ft,o2];rfl
 ·refine Dc fun e he=>?_;obtain⟨d,hd,rfl⟩:=List.mem_map.1 he
  have:=h.aT d hd
  exact Cf (by rw[Iz (by omega) (by omega)];rfl)
 ·refine Dc fun e he=>?_;obtain⟨d,hd,rfl⟩:=List.mem_map.1 he;obtain⟨k,hk⟩:=List.getElem?_of_mem hd;exact(aH8 h hk).1
 ·rw[Ft,o3];rfl
end
structure aD.wQ(s:aD):Prop where
 aF:Fits eF.fit s.aF
 aC:Fits (bO.fit s.aF.length s.domains.length s.aT.length) s.aC
 nc:s.aF.length≤9
 nd:s.domains.length≤4
 nr:s.aT.length≤3
 nv:s.aC.length≤4
 Sj:Yq s=0
 small:s.small
theorem aD.made.wQ{s:aD}(h:s.made):s.wQ:=⟨h.aF,h.aC,h.nc.2,h.nd.2,h.nr.2,h.nv.2,aAQ h,Qf h⟩
end
section
attribute [local irreducible] KC KI KQ
def To(g:List (List Int))(v:Value)(w w':World):Prop:=∃A m c,v=.tuple #[.slice A m c,iv (fQ g).1]∧m=(fQ g).2.length∧aI (fresh w w') 1 A m (aK (dL (fQ g).2))
theorem On.aDe{w w':World}{g:List (List Int)}{y:Ending}(h:On w (fQ g).2 (fQ g).1 y w'):(∃v,y=.returned v∧To g v w w')∧Below w.heap.size w w':=by
 obtain⟨⟨A,m,c,hy,hm,hs⟩,hb⟩:=h;exact⟨⟨_,hy,A,m,c,rfl,hm,hs⟩,hb⟩
theorem aOI{k n:Nat}(h:k < n):(aK ((dL (List.range k))++List.replicate (n - k) 0)).set k (iv (k:Int))=aK ((dL (List.range (k+1)))++List.replicate (n - (k+1)) 0):=by
 rw[aAW,List.set_append_right _ _ (by simp[dL])];rw[show k - (dL (List.range k)).length=0 by simp[dL],show n - k=(n - (k+1))+1 by omega,List.replicate_succ,List.set_cons_zero,List.range_succ,aDl,List.append_assoc];rfl
theorem aJ9(s:aD)(dl cl ll:List Nat)(fd fc fl td tc tl:List Bool):(uU s dl cl ll fd fc fl td tc tl).length≤2*(dl.length+cl.length+ll.length):=by
 have h:=fun(a:List Nat) (x y:List Bool)=>List.length_filter_le (sG x y) a
 have h1:=h dl fd td;have h2:=h cl fc tc;have h3:=h ll fl tl;have h4:=h ll tl fl;have h5:=h cl.reverse tc fc;have h6:=h dl.reverse td fd
 rw[List.length_reverse] at h5 h6;simp only[uU,jT,eV,List.length_append,List.length_map];omega
theorem aTO{Y:Nat→Prop}{w:World}{F:Nat→Prop}{e:TypeId}{sz n:Nat}{v:Value}{xs:List Value}(h:(HP.own e sz v n xs).sat F w)(hF:∀b,F b→Y b):∃A c,v=.slice A n c∧aI ⟨w,Y⟩ sz A n xs∧n≤c:=by
 obtain⟨A,c,hv,hs⟩:=uY (Y:=Y) h hF;refine⟨A,c,hv,hs,?_⟩;obtain⟨_,ho⟩:=h;rcases ho.2 with⟨rfl,hn⟩ | ⟨g,cap,cur,rfl,_,_,h3,_⟩
 ·omega
 ·cases hv;exact h3
set_option maxHeartbeats 1000000 in
theorem aL7(s:aD)(A1 A2 A3 A4 Fd Fc Fl Td Tc Tl:Option Addr)(n1 k1 n2 k2 n3 k3 n4 k4 yO Hr yP Ht yN Hp xR Gj xS Gk xQ Gg:Nat)(fd fc fl td tc tl:List Bool)(w:World)(hW:fE w s A1 n1 A2 n2 A3 n3 A4 n4)(aDW:Yq s=0)(hD3:(fQ (gM s)).2.length≤1000000)(hC3:(fQ (gO s)).2.length≤1000000)(hDb:∀i∈(fQ (gM s)).2,i < n2)(hCb:∀i∈(fQ (gO s)).2,i < 1000000)
    (Rc:aI (all w) 1 Fd yO (bE fd)) (aBm:yO=fd.length) (Qs:aI (all w) 1 Td xR (bE td)) (aBd:xR=td.length) (Re:aI (all w) 1 Fc yP (bE fc)) (aBn:yP=fc.length) (Qt:aI (all w) 1 Tc xS (bE tc)) (aBe:xS=tc.length) (hfl:aI (all w) 1 Fl yN (bE fl)) (aBl:yN=fl.length) (nO:aI (all w) 1 Tl xQ (bE tl)) (aBb:xQ=tl.length):
    Cz 278 #[.agg #[.slice A1 n1 k1,.slice A2 n2 k2,.slice A3 n3 k3,.slice A4 n4 k4],.agg #[.slice Fd yO Hr,.slice Fc yP Ht,.slice Fl yN Hp],.agg #[.slice Td xR Gj,.slice Tc xS Gk,.slice Tl xQ Gg]] w (fun y w'=>(∃A c,y=.returned (.slice A (uU s (fQ (gM s)).2 (fQ (gO s)).2 (List.range n3) fd fc fl td tc tl).length c)∧aI (fresh w w') 4 A (uU s (fQ (gM s)).2 (fQ (gO s)).2 (List.range n3) fd fc fl td tc tl).length ((uU s (fQ (gM s)).2 (fQ (gO s)).2 (List.range n3) fd fc fl td tc tl).flatMap cZ.cells)∧(uU s (fQ (gM s)).2 (fQ (gO s)).2 (List.range n3) fd fc fl td tc tl).length≤c)∧Below w.heap.size w w'):=by
  have qG:=hW.mZ
  have hn2:=hW.nL
  have oQ:=hW.pM
  have cS:=hW.small
  unfold aD.small at cS;obtain⟨hs1,fX,rU,tG,nX,oO⟩:=cS;refine aCc (vs:=[.agg #[.slice A1 n1 k1,.slice A2 n2 k2,.slice A3 n3 k3,.slice A4 n4 k4],.agg #[.slice Fd yO Hr,.slice Fc yP Ht,.slice Fl yN Hp],.agg #[.slice Td xR Gj,.slice Tc xS Gk,.slice Tl xQ Gg]]) func278 rfl ntmps278 (by simp) (St.start w) ?_;dsimp only[List.cons_append,List.nil_append];refine kE ?_;refine kU (by kernel_rfl) ?_;refine bA fun g1=>?_;refine bA fun g2=>?_;refine bA fun g3=>?_;refine bH ?_;refine kV ?_;refine eU ?_;refine kE ?_;refine kE ?_;refine kU (by kernel_rfl) ?_;refine bH ?_;refine dH (fun w1 st=>aB5 s A1 A2 A3 A4 n1 k1 n2 k2 n3 k3 n4 k4 w1 (hW.le (st.started (by simp)))) ?_;refine bH ?_;refine kV ?_;refine eU ?_;refine aCb rfl (fun h=>?_) (fun h=>?_)
  ·
    refine kE ?_;refine kU (by kernel_rfl) ?_;refine bH ?_;refine kV ?_;refine eU ?_;refine Od ?_;refine eU ?_;exact absurd aDW h
  ·
    refine Ip ?_;refine eU ?_;refine kE ?_;refine kU (by kernel_rfl) ?_;refine bH ?_;refine jP [(all w)] (wF (gM s)) (fun w1 st=>aIQ s A1 A2 A3 A4 n1 k1 n2 k2 n3 k3 n4 k4 w1 (hW.le (st.started (by simp)))) ?_;rintro _ w1 qda ⟨Ag,cg,rfl,lD⟩ hf Lq _
    have lD:=lD.le hf
    have aTW:=Lq (all w) (by simp)
    clear hf Lq
    refine jP [qda] (To (gM s)) (fun w1 st=>(aAF Ag _ cg (gM s) w1 (lD.le (st.le (by simp))) rfl (by simp[gM];omega) (fun l hl=>by
        simp only[gM,List.mem_map] at hl;obtain⟨x,_,rfl⟩:=hl
        split<;>simp)).mono fun y w2 h=>h.aDe) ?_
    rintro _ w1 qd ⟨AD,mD,cD,rfl,hmD,hsD⟩ hf Lq _
    have hsD:=hsD.le hf
    have Lqd:=Lq qda (by simp)
    clear hf Lq lD;refine bH ?_;refine bH ?_;refine bH ?_;refine bH ?_;refine bH ?_;refine kV ?_;refine eU ?_;refine kE ?_;refine kU (by kernel_rfl) ?_;refine bH ?_;refine jP [qd] (wF (gO s)) (fun w1 st=>aJk s A1 A2 A3 A4 n1 k1 n2 k2 n3 k3 n4 k4 w1 (hW.le (st.started (by simp)))) ?_;rintro _ w1 qca ⟨Ag,cg,rfl,lD⟩ hf Lq _
    have lD:=lD.le hf
    have aKr:=Lq qd (by simp)
    clear hf Lq
    refine jP [qca] (To (gO s)) (fun w1 st=>(aAF Ag _ cg (gO s) w1 (lD.le (st.le (by simp))) rfl (by simp[gO];omega) (fun l hl=>by
        simp only[gO,List.mem_map] at hl;obtain⟨x,hx,rfl⟩:=hl
        have:=nX x hx;omega)).mono fun y w2 h=>h.aDe) ?_
    rintro _ w1 qc ⟨AC,mC,cC,rfl,hmC,hsC⟩ hf Lq _
    have hsC:=hsC.le hf
    have Lqc:=Lq qca (by simp)
    clear hf Lq lD;refine bH ?_;refine bH ?_;refine bH ?_;refine bH ?_;refine bH ?_;refine kV ?_;refine eU ?_;refine kE ?_;refine kU (by kernel_rfl) ?_;refine bH ?_;refine bH ?_;refine bH ?_;refine lX 8 (el:=3) (z:=iv 0) (by kernel_rfl) (by kernel_rfl) rfl rfl rfl (by omega) (by omega) (by decide) fun g4=>?_;refine bH ?_;refine kV ?_;refine eU ?_;refine kE ?_;refine kE ?_;refine kU (by kernel_rfl) ?_;refine bH ?_;refine bH ?_;refine bH ?_;refine kV ?_;refine eU ?_;refine bJ [(36,iv 0),(35,iv n3),(11,.slice (some ⟨g4,0,none⟩) n3 n3),(9,.slice AC mC cC),(7,.slice AD mD cD),(5,pt g3),(4,pt g2),(3,pt g1)] ?_;refine aY (R':=[qc,all w]) [0,1,2,3,4] rfl (by decide) (by simp) ?_;refine Bo ?_;refine aER (fun m L e R H=>∃k:Nat,k≤n3∧m=n3 - k∧L=[]∧e=[(36,iv k),(35,iv n3),(11,.slice (some ⟨g4,0,none⟩) n3 n3),(9,.slice AC mC cC),(7,.slice AD mD cD),(5,pt g3),(4,pt g2),(3,pt g1)]∧R=[qc,all w]∧H=[HP.aE g4 3 (aK ((dL (List.range k))++List.replicate (n3 - k) 0)),HP.aE g3 116 [.slice Td xR Gj,.slice Tc xS Gk,.slice Tl xQ Gg],HP.aE g2 116 [.slice Fd yO Hr,.slice Fc yP Ht,.slice Fl yN Hp],HP.aE g1 30 [.slice A1 n1 k1,.slice A2 n2 k2,.slice A3 n3 k3,.slice A4 n4 k4],tX []]) n3 ⟨0,by omega,rfl,rfl,rfl,rfl,by simp[aK,dL,Value.cells]⟩ fun m L e R H hI=>?_;obtain⟨k,hk,rfl,rfl,rfl,rfl,rfl⟩:=hI;refine kE ?_;refine kU (by kernel_rfl) ?_;refine bH ?_;refine kV ?_;refine eU ?_;refine kE ?_;refine aCb rfl (fun h=>?_) (fun h=>?_)
    ·
      refine Ip ?_;refine eU ?_;refine kE ?_;refine Bo ?_;refine kE ?_;refine kU (by kernel_rfl) ?_;refine bH ?_;refine bH ?_;refine kV ?_;refine eU ?_;refine kU (by kernel_rfl) ?_;refine bH ?_;refine bH ?_;refine bH ?_;refine kd (dat (k) (k)) ?_;refine tA 0 rfl (by kernel_rfl) rfl rfl rfl (by simp[aK,dL];omega) ?_;dsimp only[List.set];rw[aOI (by omega)];refine kV ?_;refine eU ?_;refine kU (by kernel_rfl) ?_;refine bH ?_;refine bH ?_;refine kV ?_;refine eU ?_;exact bJ [(36,iv (k+1)),(35,iv n3),(11,.slice (some ⟨g4,0,none⟩) n3 n3),(9,.slice AC mC cC),(7,.slice AD mD cD),(5,pt g3),(4,pt g2),(3,pt g1)] (Zp (n3 - (k+1)) (by omega) ⟨k+1,by omega,rfl,rfl,rfl,rfl,rfl⟩)
    ·
      refine aES ?_;refine eU ?_;refine kE ?_;refine kU (by kernel_rfl) ?_;refine bR fun g5=>?_;refine kV ?_;refine eU ?_;refine kE ?_;refine kE ?_;refine dP [qc] [1] [0,2,3,4,5] (by simp) rfl (by decide) (by decide) fun q5 hq5 L5 _=>?_
      have L5:=L5 qc (by simp)
      have hk3:k=n3:=by omega
      have aIf:=sW (n:=n3) (sz:=1) (c:=n3) (hq5 1 _ (by simp) rfl).choose_spec.1 (hq5 1 _ (by simp) rfl).choose_spec.2 (by simp[aK,dL];omega)
      rw[hk3,Nat.sub_self,List.replicate_zero,List.append_nil] at aIf
      have L0:(all w).Le q5:=(((aTW.trans' Lqd).trans' aKr).trans' Lqc).trans' L5
      refine aY (R':=[q5,all w]) [0,1,2,3,4] rfl (by decide) (by simp) ?_;refine kU (by kernel_rfl) ?_;refine bH ?_;refine bH ?_;refine bH ?_;refine bH ?_;refine bH ?_;refine bH ?_;refine jP [q5] (aKA q5 (uU s (fQ (gM s)).2 (fQ (gO s)).2 (List.range n3) fd fc fl td tc tl)) (fun w1 st=>aSW q5 s A1 A2 A3 A4 AD AC (some ⟨g4,0,none⟩) Fd Fc Fl Td Tc Tl n1 k1 n2 k2 n3 k3 n4 k4 mD cD mC cC n3 n3 yO Hr yP Ht yN Hp xR Gj xS Gk xQ Gg (fQ (gM s)).2 (fQ (gO s)).2 (List.range n3) fd fc fl td tc tl w1 (st.le (by simp)) (hW.dom.mono (nU L0) (fun _ _ h=>h)) (by omega) (hsD.le ((aKr.trans' Lqc).trans' L5)) hmD (by omega) hDb (hsC.le L5) hmC (by omega) hCb aIf (by simp) (by omega) (fun i hi=>by have:=List.mem_range.1 hi;omega) (Rc.le L0) aBm (Qs.le L0) aBd (Re.le L0) aBn (Qt.le L0) aBe (hfl.le L0) aBl (nO.le L0) aBb) ?_;rintro _ w1 q6 ⟨g6,rfl,hall⟩ hf L6 _
      have hit:=hall q6 (L6 q5 (by simp)) hf
      refine kV ?_;refine eU ?_;refine Bo ?_;refine iO 247 4 ?_;refine nG ?_;generalize hSL:uU s (fQ (gM s)).2 (fQ (gO s)).2 (List.range n3) fd fc fl td tc tl=SL at hit;refine xB 0 (f:=fun v=>HP.many [HP.own 247 4 v 0 ((SL.take 0).flatMap cZ.cells),HP.aE g5 121 [v]]) (sn) rfl ?_;dsimp only[List.set];refine aY (R':=[q6,all w]) [0,4] rfl (by decide) (by simp) ?_;refine bJ [(50,.func (.func 286) #[] #[pt g6]),(13,pt g5)] ?_
      refine aEQ (gf:=286) (lb:=[pt g6]) (encs:=pK SL) (p:=q6) rfl (by kernel_rfl) hit (by simp) (fun vs hvs=>?_) (by decide) (fun k=>[(HP.ex fun v=>HP.many [HP.own 247 4 v k ((SL.take k).flatMap cZ.cells),HP.aE g5 121 [v]])]) (fun _=>[HP.ex fun(_:Empty)=>cG])
        (fun k vs e1 H1=>∃(g7:Nat) (s:cZ),vs=[tB s]∧e1=[(14,pt g7),(13,pt g5)]∧H1=[HP.aE g7 247 s.cells,(HP.ex fun v=>HP.many [HP.own 247 4 v k ((SL.take k).flatMap cZ.cells),HP.aE g5 121 [v]])]) rfl ?_ ?_ ?_ ?_
      · simp only[pK,List.mem_map] at hvs
        obtain⟨s,_,rfl⟩:=hvs;rfl
      · intro l2 k vs W1 q X hvs cS
        obtain⟨s,rfl⟩:∃s,vs=[tB s]:=by
          simp only[pK,List.getElem?_map,Option.map_eq_some_iff] at hvs;obtain⟨s,_,e⟩:=hvs;exact⟨s,e.symm⟩
        dsimp only[List.cons_append,List.nil_append];refine kU (by kernel_rfl) ?_;refine bR fun g7=>?_;refine rL 0 rfl rfl rfl (by kernel_rfl) (by simp[tB,cZ.cells,Value.cells,Value.oneCell']) (by simp[tB,cZ.cells,Value.cells]) ?_;rw[show iH [Value.int .i64 0,iv 0,.int .u32 0,.int .u32 0] 0 (tB s).cells.toList=s.cells by simp[iH,tB,cZ.cells,Value.cells]];dsimp only[List.set];refine kV ?_;refine bJ [(14,pt g7),(13,pt g5)] ?_;exact aEU (H1:=[HP.aE g7 247 s.cells,(HP.ex fun v=>HP.many [HP.own 247 4 v k ((SL.take k).flatMap cZ.cells),HP.aE g5 121 [v]])]) ⟨g7,s,rfl,rfl,rfl⟩
      · rintro l2 k vs W1 q X _ _ hvs cS ⟨g7,s,rfl,rfl,rfl⟩
        have hsk:SL[k]? =some s:=by
          simp only[pK,List.getElem?_map,Option.map_eq_some_iff] at hvs;obtain⟨s',h,e⟩:=hvs
          have:s'=s:=by
            cases s;cases s';simp[tB,cZ.cells] at e;simp[e]
          exact this▸h
        have Wj:=(List.getElem?_eq_some_iff.1 hsk).1
        have aUx:SL.length≤6000000:=by rw[←hSL];refine Nat.le_trans (aJ9 _ _ _ _ _ _ _ _ _ _) ?_;simp only[List.length_range];omega
        have mL:((SL.take (k+1)).flatMap cZ.cells)=((SL.take k).flatMap cZ.cells)++s.cells:=by
          rw[List.take_add_one,hsk];simp
        dsimp only[List.cons_append,List.nil_append];refine Bo ?_;refine lV 1 fun v=>?_;refine bF 1 0 ?_;refine bF 2 1 ?_;refine kU (by kernel_rfl) ?_;refine jC (by kernel_rfl) rfl (Rd.aE 0 rfl rfl) (by decide) ?_;refine zG 4 (by kernel_rfl) rfl (aQ.whole 2 rfl) rfl (by decide) ?_;refine aF2 (cs:=s.cells) (el:=247) (sz:=4) (zs:=[iv 0,iv 0,.int .u32 0,.int .u32 0]) (by kernel_rfl) (iG (by kernel_rfl)) (by kernel_rfl) rfl (by decide) (by decide) rfl (by simp[fI,gI,Value.cells,List.range_succ,List.set,cZ.cells]) (by decide) fun g8=>?_;refine gH 2 4 24 1 (n':=k+1) (el:=247) (by kernel_rfl) (by kernel_rfl) (by decide) rfl rfl rfl (nJ 0 rfl rfl) (by simp[cZ.cells,Value.oneCell']) rfl (by omega) (by omega) (by decide) fun A' k'=>?_;dsimp only[List.set];refine tA 1 rfl (by kernel_rfl) rfl rfl rfl (by simp) ?_;dsimp only[List.set];refine kV ?_;refine aY [2,1,4,5] rfl (by decide) (fun _ hp=>hp) ?_;refine aN 1 0 ?_;refine aN 0 1 ?_;refine xB 0 (f:=fun v=>HP.many [HP.own 247 4 v (k+1) ((SL.take (k+1)).flatMap cZ.cells),HP.aE g5 121 [v]]) (.slice A' (k+1) k') (by rw[mL];rfl) ?_;dsimp only[List.set];refine eU ?_;exact aET
      rotate_left
      · intro D k hk
        exact aBV 0 rfl fun a=>a.elim
      intro D;dsimp only[List.cons_append,List.nil_append];refine lV 0 fun v=>?_;refine bF 0 0 ?_;refine bF 1 1 ?_;refine eU ?_;refine kE ?_;refine kU (by kernel_rfl) ?_;refine bH ?_;refine bH ?_;refine kV ?_;refine eU ?_;refine Od ?_;refine eU ?_;refine dP [] [1] [3] (by simp) rfl (by decide) (by decide) fun qf Wc _ hfr=>?_;obtain⟨Ff,sf,zf⟩:=Wc 1 _ (by simp) rfl;obtain⟨Av,cv,rfl,vQ,Wz⟩:=aTO (Y:=qf.Z) sf zf;refine aT5 (Hs:=[]) rfl rfl fun w1 st=>⟨⟨Av,cv,by simp[pK],?_,by simpa[pK] using Wz⟩,st.below (by simp)⟩
      have hlen:(pK SL).length=SL.length:=by simp[pK]
      rw[hlen,List.take_length] at vQ;exact aI.le vQ (st.mF (by simp) (hfr (by simp) (by simp)))
end
section
def eqV:Value→Value→Bool
 | .int _ a,.int _ b=>a==b
 | .bool a,.bool b=>a==b
 | _,_=>false
def Rx:List Value→List Value→Bool
 | [],[]=>true
 | x::xs,y::ys=>eqV x y&&Rx xs ys
 | _,_=>false
def Ki(P:Program):List Field→Nat→List Value→List Value→Bool
 | [],_,[],[]=>true
 | f :: fs, i, x :: xs, y :: ys => f.name != "_" && f.offset == i && (match P.underlying f.type, x, y with
   | some (.int _),.int kx _,.int ky _=>decide (kx=ky)
   | some .bool,.bool _,.bool _=>true
   | _,_,_=>false)&&Ki P fs (i+1) xs ys
 | _,_,_,_=>false
section
variable{P:Program}{w:World}
theorem aAz{t:TypeId}{cs:Array Value}{i:Nat}{v:Value}{d:TypeDesc}(hu:P.underlying t=some d)(hd:(∃k,d=.int k)∨d=.bool)(hx:cs[i]? =some v):(part t cs i).run P w=.ok v w:=by
 rcases hd with⟨k,rfl⟩ | rfl<;>simp[part,isAgg,run_underlying hu,hx]
theorem aGv(d:Nat)(xs ys:Array Value):∀(fs:List Field) (i:Nat),Ki P fs i (xs.toList.drop i) (ys.toList.drop i)=true→(Op.eqFields (d+1) xs ys fs).run P w=.ok (Rx (xs.toList.drop i) (ys.toList.drop i)) w
 | [], i, h => by
  cases hx:xs.toList.drop i with
  | nil=>cases hy:ys.toList.drop i with
   | nil=>simp[Op.eqFields,Rx]
   | cons y yr=>rw[hx,hy] at h;simp[Ki] at h
  | cons x xr=>rw[hx] at h;simp[Ki] at h
 | f :: fs, i, h => by
  cases hx:xs.toList.drop i with
  | nil=>rw[hx] at h;simp[Ki] at h
  | cons x xr =>
   cases hy:ys.toList.drop i with
   | nil=>rw[hx,hy] at h;simp[Ki] at h
   | cons y yr =>
    rw[hx,hy] at h;simp only[Ki,Bool.and_eq_true,bne_iff_ne,beq_iff_eq] at h;obtain⟨⟨⟨h1,h2⟩,h3⟩,h4⟩:=h
    have ex:xs[i]? =some x:=by
     have:(xs.toList.drop i)[0]? =some x:=by rw[hx];rfl
     simpa using this
    have ey:ys[i]? =some y:=by
     have:(ys.toList.drop i)[0]? =some y:=by rw[hy];rfl
     simpa using this
    have dx:xr=xs.toList.drop (i+1):=by rw[←List.tail_drop,hx];rfl
    have dy:yr=ys.toList.drop (i+1):=by rw[←List.tail_drop,hy];rfl
    subst dx;subst dy
    have ih:=aGv d xs ys fs (i+1) h4
    have key:∃u,P.underlying f.type=some u∧((∃k,u=.int k)∨u=.bool)∧(Op.equalIn (d+1) f.type x y).run P w=.ok (eqV x y) w:=by
     split at h3
     ·rename_i k kx a ky b hu
      have:=of_decide_eq_true h3
      subst this;exact⟨_,hu,.inl ⟨_,rfl⟩,run_equalIn_int w d f.type kx _ a b hu⟩
     ·rename_i a b hu
      exact⟨_,hu,.inr rfl,run_equalIn_bool' w d f.type a b hu⟩
     ·cases h3
    obtain⟨u,hu,hk,he⟩:=key;simp only[Op.eqFields,if_pos h1,Sem.run_bind,h2,aAz hu hk ex,aAz hu hk ey,Result.andThen_ok,he,Sem.run_ite,Sem.run_pure,ih,Rx];cases eqV x y<;>simp
variable{N:bZ}{w0:World}{e:Env}{R:List Piece}{H:List HP}{Q:Exit→Act→World→Prop}{ops:Array Oper}{rest:List Oper}
variable{d:Nat}{ty:TypeId}{pos:String}{aH:Array Edge}
def Rs(P:Program)(t:TypeId)(xs ys:List Value):Bool:=(match P.underlying t with
 | some (.struct fs)=>Ki P fs.toList 0 xs ys
 | _=>false)&& !P.stoodInHeld t&& !P.eqGuardType P.depth t
theorem aMc{t:TypeId}{xs ys:List Value}(h:Rs P t xs ys=true):(Op.equal t (.agg xs.toArray) (.agg ys.toArray)).run P w=.ok (Rx xs ys) w∧∀op x y,(eqGuard op t x y (.agg xs.toArray) (.agg ys.toArray)).run P w=.ok () w:=by
 unfold Rs at h;simp only[Bool.and_eq_true,Bool.not_eq_true'] at h;obtain⟨⟨h1,h2⟩,h3⟩:=h;refine⟨?_,fun op x y=>run_eqGuard_agg w op t x y _ _ h3⟩;split at h1
 ·rename_i fs hu
  have hf:P.fieldsOf t=fs:=by unfold Program.fieldsOf;rw[hu]
  have:=run_equalIn_struct (P:=P) w 9999 t xs.toArray ys.toArray (by rw[hf];exact hu) h2
  unfold Op.equal Op.maxDepth;rw[this,hf]
  have:=aGv (P:=P) (w:=w) 9998 xs.toArray ys.toArray fs.toList 0 (by simpa using h1)
  simpa using this
 ·cases h1
end
end
section
structure bK where
 d:List Bool
 c:List Bool
 l:List Bool
def Bp(p:Piece)(x:bK)(v:Value):Prop:=∃A1 k1 A2 k2 A3 k3,v=.agg #[.slice A1 x.d.length k1,.slice A2 x.c.length k2,.slice A3 x.l.length k3]∧
 aI p 1 A1 x.d.length (bE x.d)∧aI p 1 A2 x.c.length (bE x.c)∧aI p 1 A3 x.l.length (bE x.l)
theorem Bp.le{p q:Piece}{x:bK}{v:Value}(h:Bp p x v)(hl:p.Le q):Bp q x v:=by
 obtain⟨A1,k1,A2,k2,A3,k3,h0,h1,h2,h3⟩:=h;exact⟨A1,k1,A2,k2,A3,k3,h0,h1.le hl,h2.le hl,h3.le hl⟩
def Tk(Rl:Value→World→World→Prop)(w:World):Ending→World→Prop:=fun y w'=>(∃v,y=.returned v∧Rl v w w')∧Below w.heap.size w w'
end
section
def gY(l:List Bool)(id:Int)(b:Bool):List Bool:=l.set id.toNat b
theorem Ma(l:List Bool)(id:Int)(b:Bool):(gY l id b).length=l.length:=by simp[gY]
def gP(x:bK)(p:cZ):bK:=
 if p.pr=17∧p.msg=4∧p.v≤2 then⟨gY x.d p.id (decide (p.v=1)),x.c,x.l⟩
 else if p.pr=20∧p.msg=7∧p.v≤1 then⟨x.d,gY x.c p.id (decide (p.v=1)),x.l⟩
 else if p.pr=22∧p.msg=4∧p.v≤1 then⟨x.d,x.c,gY x.l p.id (decide (p.v=0))⟩ else x
structure bK.sm(x:bK):Prop where
 d:x.d.length≤1000000
 c:x.c.length≤1000000
 l:x.l.length≤1000000
theorem aSF(x:bK)(p:cZ):(gP x p).d.length=x.d.length∧(gP x p).c.length=x.c.length∧(gP x p).l.length=x.l.length:=by
 unfold gP;split
 ·simp[Ma]
 ·split
  ·simp[Ma]
  ·split<;>simp[Ma]
theorem aEB(l:List Bool)(k:Nat)(b:Bool):(bE l).set k (.bool b)=bE (l.set k b):=by simp[bE,List.map_set]
theorem aEC(l:List Bool):(bE l).length=l.length:=by simp[bE]
theorem Sm(l:List Bool):∀u∈bE l,u.oneCell'=true:=by
 intro u hu;simp only[bE,List.mem_map] at hu;obtain⟨x,_,rfl⟩:=hu;rfl
structure cZ.ok(p:cZ):Prop where
 pr: -9223372036854775808≤p.pr∧p.pr≤9223372036854775807
 msg: -9223372036854775808≤p.msg∧p.msg≤9223372036854775807
 id:0≤p.id∧p.id < 4294967296
 v:0≤p.v∧p.v < 4294967296
end
section
structure pV(p:Piece)(s:aD)(A1:Option Addr)(n1:Nat)(A2:Option Addr)(n2:Nat)(A3:Option Addr)(n3:Nat)(A4:Option Addr)(n4:Nat):Prop where
 jJ:jN (fF p) (tZ (fF p)) 86 6 A1 n1 s.aF
 dom:jN (fF p) vA 50 3 A2 n2 s.domains
 Cj:jN (fF p) yV 88 1 A3 n3 s.aT
 dev:jN (fF p) (sY (fF p)) 38 6 A4 n4 s.aC
section
variable{p q:Piece}{w:World}{s:aD}{A1 A2 A3 A4:Option Addr}{n1 n2 n3 n4:Nat}
theorem pV.le(h:pV p s A1 n1 A2 n2 A3 n3 A4 n4)(hl:p.Le q):pV q s A1 n1 A2 n2 A3 n3 A4 n4:=
 ⟨h.jJ.mono (nU hl) (fun _ _=>tZ.mono (nU hl)),h.dom.mono (nU hl) (fun _ _ h=>h),h.Cj.mono (nU hl) (fun _ _ h=>h),h.dev.mono (nU hl) (fun _ _=>sY.mono (nU hl))⟩
theorem pV.W(h:pV p s A1 n1 A2 n2 A3 n3 A4 n4)(hl:p.Le (all w))(hs:s.small):fE w s A1 n1 A2 n2 A3 n3 A4 n4:=⟨(h.le hl).jJ,(h.le hl).dom,(h.le hl).Cj,(h.le hl).dev,hs⟩
theorem pV.len(h:pV p s A1 n1 A2 n2 A3 n3 A4 n4):n1=s.aF.length∧n2=s.domains.length∧n3=s.aT.length∧n4=s.aC.length:=by
 obtain⟨⟨_,_,h1,_⟩,⟨_,_,h2,_⟩,⟨_,_,h3,_⟩,⟨_,_,h4,_⟩⟩:=h;exact⟨h1,h2,h3,h4⟩
theorem wB.P{cs:Array Value}(h:wB (fF p) s cs):∃A1 n1 k1 A2 n2 k2 A3 n3 k3 A4 n4 k4,cs=#[.slice A1 n1 k1,.slice A2 n2 k2,.slice A3 n3 k3,.slice A4 n4 k4]∧pV p s A1 n1 A2 n2 A3 n3 A4 n4:=by
 obtain⟨A1,n1,k1,A2,n2,k2,A3,n3,k3,A4,n4,k4,h0,h1,h2,h3,h4⟩:=h;exact⟨A1,n1,k1,A2,n2,k2,A3,n3,k3,A4,n4,k4,h0,h1,h2,h3,h4⟩
end
def allM(s:aD)(x y:bK):List cZ:=uU s (List.range s.domains.length) (List.range s.aF.length) (List.range s.aT.length) x.d x.c x.l y.d y.c y.l
def aKf(l:List cZ)(v:Value)(w w':World):Prop:=∃A c,v=.slice A l.length c∧aI (fresh w w') 4 A l.length (l.flatMap cZ.cells)∧l.length≤c
theorem aL8{q qx qy:Piece}{s:aD}{A1 A2 A3 A4:Option Addr}{n1 k1 n2 k2 n3 k3 n4 k4:Nat}{x y:bK}{v1 v2:Value}{w:World}(hS:pV q s A1 n1 A2 n2 A3 n3 A4 n4)(hm:s.made)(hq:q.Le (all w))(hx:Bp qx x v1)(Gy:qx.Le (all w))(hy:Bp qy y v2)(hqy:qy.Le (all w)):
  Cz 278 #[.agg #[.slice A1 n1 k1,.slice A2 n2 k2,.slice A3 n3 k3,.slice A4 n4 k4],v1,v2] w (Tk (aKf (allM s x y)) w):=by
 obtain⟨o1,o2,o3⟩:=aDu hm;obtain⟨rfl,rfl,rfl,rfl⟩:=hS.len;obtain⟨B1,b1,B2,b2,B3,b3,rfl,hx1,yB,hx3⟩:=hx;obtain⟨C1,c1,C2,c2,C3,c3,rfl,hy1,zZ,Mj⟩:=hy
 have h1:=hm.nc
 have h2:=hm.nd
 have h:=aL7 s A1 A2 A3 A4 B1 B2 B3 C1 C2 C3 _ k1 _ k2 _ k3 _ k4 _ b1 _ b2 _ b3 _ c1 _ c2 _ c3 x.d x.c x.l y.d y.c y.l w (hS.W hq (Qf hm)) (aAQ hm) (by rw[o2];simp;omega) (by rw[o1];simp;omega)
  (fun i hi=>by rw[o2] at hi;have:=List.mem_range.1 hi;omega) (fun i hi=>by rw[o1] at hi;have:=List.mem_range.1 hi;omega)
  (hx1.le Gy) rfl (hy1.le hqy) rfl (yB.le Gy) rfl (zZ.le hqy) rfl (hx3.le Gy) rfl (Mj.le hqy) rfl
 rw[o1,o2] at h
 have hL:uU s ((0:Int),List.range s.domains.length).2 ((0:Int),List.range s.aF.length).2 (List.range s.aT.length) x.d x.c x.l y.d y.c y.l=allM s x y:=rfl
 rw[hL] at h;clear hL;generalize allM s x y=L at h⊢;refine Calls.mono h ?_;rintro z w' ⟨⟨A,c,hz,hs,hc⟩,hb⟩;exact⟨⟨_,hz,⟨A,c,rfl,hs,hc⟩⟩,hb⟩
end
section
theorem jN.zN{α:Type}{p:Piece}{R:α→List Value→Prop}{t:TypeId}{sz n:Nat}{A:Option Addr}{es:List α}(h:jN (fF p) R t sz A n es){k:Nat}{e:α}(hk:es[k]? =some e):
  ∃b off r,A=some ⟨b,off,none⟩∧p.Z b∧r.length=sz∧R e r∧∀f u,r[f]? =some u→p.w.cell? ⟨b,off+k*sz+f,none⟩=some u:=by
 obtain⟨rows,h1,h2,h3⟩:=h
 have hlt:k < n:=by
  rw[h2];rcases Nat.lt_or_ge k es.length with h | h
  ·exact h
  ·rw[List.getElem?_eq_none h] at hk;cases hk
 obtain⟨b,off,hA,hb,hc⟩:=aI.at_ h3 hlt;obtain⟨r,h4,h5,h6⟩:=h1.get hk;refine⟨b,off,r,hA,hb,h4,h5,fun f u hu=>hc f u ?_⟩
 have hf:f < sz:=by
  rw[←h4];rcases Nat.lt_or_ge f r.length with h | h
  ·exact h
  ·rw[List.getElem?_eq_none h] at hu;cases hu
 rw[h6 f hf,hu]
theorem aO1{p:cZ}{pr msg:Int}{val:Nat→Int}{ids:List Nat}(h:p∈jT pr msg val ids):∃i∈ids,p=⟨pr,msg,i,val i⟩:=by
 simp only[jT,List.mem_map] at h;obtain⟨i,hi,rfl⟩:=h;exact⟨i,hi,rfl⟩
theorem aCU(s:aD)(k:Nat):mJ s k=0∨mJ s k=2:=by unfold mJ;split<;>simp
theorem Pm{pr msg:Int}{val:Nat→Int}{ids:List Nat}(h1:pr=17∨pr=20∨pr=22)(h2:msg=4∨msg=7)(hv:∀k,val k=0∨val k=1∨val k=2)(hi:∀i∈ids,i < 1000):∀p∈jT pr msg val ids,p.ok:=by
 intro p hp;obtain⟨i,hi',rfl⟩:=aO1 hp
 have h3:=hi i hi'
 have h4:=hv i
 exact⟨by dsimp only;omega,by dsimp only;omega,by dsimp only;omega,by dsimp only;omega⟩
theorem aSY{s:aD}(hm:s.made)(x y:bK):∀p∈allM s x y,p.ok:=by
 have h1:=hm.nc
 have h2:=hm.nd
 have h3:=hm.nr
 have mr:∀(n:Nat) (fr to:List Bool),n≤9→∀i∈eV (List.range n) fr to,i < 1000:=fun n fr to hn i hi=>by have:=List.mem_range.1 (List.mem_filter.1 hi).1;omega
 have mv:∀(n:Nat) (fr to:List Bool),n≤9→∀i∈eV (List.range n).reverse fr to,i < 1000:=fun n fr to hn i hi=>by have:=List.mem_range.1 (List.mem_reverse.1 (List.mem_filter.1 hi).1);omega
 intro p hp;simp only[allM,uU,List.mem_append] at hp;rcases hp with hp | hp | hp | hp | hp | hp
 ·exact Pm (by omega) (by omega) (fun _=>by omega) (mr _ _ _ (by omega)) p hp
 ·exact Pm (by omega) (by omega) (fun _=>by omega) (mr _ _ _ (by omega)) p hp
 ·exact Pm (by omega) (by omega) (fun _=>by omega) (mr _ _ _ (by omega)) p hp
 ·exact Pm (by omega) (by omega) (fun _=>by omega) (mr _ _ _ (by omega)) p hp
 ·exact Pm (by omega) (by omega) (fun _=>by omega) (mv _ _ _ (by omega)) p hp
 ·exact Pm (by omega) (by omega) (fun k=>by have:=aCU s k;omega) (mv _ _ _ (by omega)) p hp
theorem aSZ{s:aD}(hm:s.made)(x y:bK):(allM s x y).length≤32:=by
 have h1:=hm.nc
 have h2:=hm.nd
 have h3:=hm.nr
 refine Nat.le_trans (aJ9 _ _ _ _ _ _ _ _ _ _) ?_;simp only[List.length_range];omega
end
section
theorem aGU(l:List Bool)(i j:Nat)(b:Bool):(gY l (i:Int) b)[j]? =if i=j then(l[j]?).map (fun _=>b) else l[j]? :=by
 unfold gY;rw[Int.toNat_natCast,List.getElem?_set]
 by_cases h:i=j
 ·subst h;rw[if_pos rfl,if_pos rfl]
  by_cases hl:i < l.length
  ·rw[if_pos hl,List.getElem?_eq_getElem hl];rfl
  ·rw[if_neg hl,List.getElem?_eq_none (by omega)];rfl
 ·rw[if_neg h,if_neg h]
theorem Vf(b:Bool):∀(ids:List Nat) (l:List Bool) (j:Nat),(ids.foldl (fun d (i:Nat)=>gY d (i:Int) b) l)[j]? =if j∈ids then(l[j]?).map (fun _=>b) else l[j]?
 | [],l,j=>by simp
 | i :: ids, l, j => by
  rw[List.foldl_cons,Vf b ids,aGU]
  by_cases h2:i=j
  ·subst h2
   by_cases h1:i∈ids<;>simp[h1]<;>(cases l[i]? <;>rfl)
  ·have h3:¬j=i:=fun e=>h2 e.symm
   by_cases h1:j∈ids<;>simp[h1,h2,h3]
theorem Xr{val:Nat→Int}{b:Bool}(h:∀k,val k≤2∧decide (val k=1)=b):∀(ids:List Nat) (x:bK),(jT 17 4 val ids).foldl gP x=⟨ids.foldl (fun d (i:Nat)=>gY d (i:Int) b) x.d,x.c,x.l⟩
 | [],x=>rfl
 | i :: ids, x => by
  have h1:=h i
  have e:gP x ⟨17,4,(i:Int),val i⟩=⟨gY x.d (i:Int) b,x.c,x.l⟩:=by
   unfold gP;dsimp only;rw[if_pos ⟨rfl,rfl,h1.1⟩,h1.2]
  show(jT 17 4 val ids).foldl gP (gP x ⟨17,4,(i:Int),val i⟩)=_
  rw[e,Xr h ids];rfl
theorem Xs{val:Nat→Int}{b:Bool}(h:∀k,val k≤1∧decide (val k=1)=b):∀(ids:List Nat) (x:bK),(jT 20 7 val ids).foldl gP x=⟨x.d,ids.foldl (fun d (i:Nat)=>gY d (i:Int) b) x.c,x.l⟩
 | [],x=>rfl
 | i :: ids, x => by
  have h1:=h i
  have e:gP x ⟨20,7,(i:Int),val i⟩=⟨x.d,gY x.c (i:Int) b,x.l⟩:=by
   unfold gP;dsimp only;rw[if_neg (by omega),if_pos ⟨rfl,rfl,h1.1⟩,h1.2]
  show(jT 20 7 val ids).foldl gP (gP x ⟨20,7,(i:Int),val i⟩)=_
  rw[e,Xs h ids];rfl
theorem Xq{val:Nat→Int}{b:Bool}(h:∀k,val k≤1∧decide (val k=0)=b):∀(ids:List Nat) (x:bK),(jT 22 4 val ids).foldl gP x=⟨x.d,x.c,ids.foldl (fun d (i:Nat)=>gY d (i:Int) b) x.l⟩
 | [],x=>rfl
 | i :: ids, x => by
  have h1:=h i
  have e:gP x ⟨22,4,(i:Int),val i⟩=⟨x.d,x.c,gY x.l (i:Int) b⟩:=by
   unfold gP;dsimp only;rw[if_neg (by omega),if_neg (by omega),if_pos ⟨rfl,rfl,h1.1⟩,h1.2]
  show(jT 22 4 val ids).foldl gP (gP x ⟨22,4,(i:Int),val i⟩)=_
  rw[e,Xq h ids];rfl
theorem zU{n i:Nat}{a b:List Bool}:i∈eV (List.range n) a b↔i < n∧sG a b i=true:=by simp[eV]
theorem Qa{n i:Nat}{a b:List Bool}:i∈eV (List.range n).reverse a b↔i < n∧sG a b i=true:=by simp[eV]
theorem aCC{n:Nat}{a b:List Bool}{up dn:List Nat}(ha:a.length=n)(hb:b.length=n)(hu:∀i,i∈up↔i < n∧sG a b i=true)(hd:∀i,i∈dn↔i < n∧sG b a i=true):
  dn.foldl (fun d (i:Nat)=>gY d (i:Int) false) (up.foldl (fun d (i:Nat)=>gY d (i:Int) true) a)=b:=by
 apply List.ext_getElem?;intro j;rw[Vf,Vf];rcases Nat.lt_or_ge j n with h | h
 ·have h1:=hu j
  have h2:=hd j
  have e1:a[j]? =some (a[j]'(by omega)):=List.getElem?_eq_getElem _
  have e2:b[j]? =some (b[j]'(by omega)):=List.getElem?_eq_getElem _
  simp only[sG,hasB,e1,e2,Option.getD_some] at h1 h2⊢;cases yL:a[j]'(by omega)<;>cases hb':b[j]'(by omega)<;>simp[yL,hb',h,h1,h2] at h1 h2⊢ <;>simp[h1,h2]
 ·rw[List.getElem?_eq_none (by omega),List.getElem?_eq_none (by omega)];simp
structure bK.of(x:bK)(s:aD):Prop where
 d:x.d.length=s.domains.length
 c:x.c.length=s.aF.length
 l:x.l.length=s.aT.length
theorem aQx{s:aD}{x y:bK}(hx:x.of s)(hy:y.of s):(allM s x y).foldl gP x=y:=by
 unfold allM uU;simp only[List.foldl_append]
 rw[Xr (val:=fun _=>1) (b:=true) (fun _=>⟨by decide,rfl⟩),Xs (val:=fun _=>1) (b:=true) (fun _=>⟨by decide,rfl⟩),Xq (val:=fun _=>0) (b:=true) (fun _=>⟨by decide,rfl⟩),Xq (val:=fun _=>1) (b:=false) (fun _=>⟨by decide,rfl⟩),Xs (val:=fun _=>0) (b:=false) (fun _=>⟨by decide,rfl⟩),
  Xr (val:=mJ s) (b:=false) (fun k=>by have:=aCU s k;exact⟨by omega,decide_eq_false (by omega)⟩)]
 dsimp only;rw[aCC hx.d hy.d (fun i=>zU) (fun i=>Qa),aCC hx.c hy.c (fun i=>zU) (fun i=>Qa),aCC hx.l hy.l (fun i=>zU) (fun i=>zU)]
end
section
structure AL where
 d:Nat
 t:TypeId
 cs:List Value
 val:Nat→Value
def qZ(al:Nat→AL)(g:Nat→Nat)(ds:List Nat)(e:Env):Env:=ds.map (fun i=>((al i).d,(al i).val (g i)))++e
def tH(al:Nat→AL)(g:Nat→Nat)(ds:List Nat)(H:List HP):List HP:=ds.map (fun i=>HP.aE (g i) (al i).t (al i).cs)++H
def kS(ds:List Nat)(l:Array Bool):Array Bool:=ds.foldr (fun i a=>a.setIfInBounds i true) l
def Lt:List Nat→List (List Nat)
 | []=>[[]]
 | i::l=>(Lt l).map (i:: ·)++Lt l
theorem Pj(p:Nat→Bool):∀l:List Nat,l.filter p∈Lt l
 | []=>by simp[Lt]
 | i::l=>by
  unfold Lt;rw[List.filter_cons];split
  ·exact List.mem_append_left _ (List.mem_map_of_mem (Pj p l))
  ·exact List.mem_append_right _ (Pj p l)
def aNj(ops:Array Oper)(idx:List Nat)(ex:List (List Nat))(listed:Array Bool):Bool:=
 (Lt idx).all fun sub=>ex.contains sub||(!(Region.ready .any ops (kS sub listed)).isEmpty&&(Region.ready .any ops (kS sub listed)).all fun j=>idx.contains j&& !sub.contains j)
theorem aAP{l1 l2:List Nat}(h:l1.Perm l2)(l:Array Bool):kS l1 l=kS l2 l:=by
 induction h with
 | nil=>rfl
 | cons x _ ih=>show(kS _ l).setIfInBounds x true=_;rw[ih];rfl
 | swap x y s=>
  show((kS s l).setIfInBounds x true).setIfInBounds y true=((kS s l).setIfInBounds y true).setIfInBounds x true
  by_cases hxy:x=y
  ·rw[hxy]
  ·exact Array.setIfInBounds_comm _ _ hxy
 | trans _ _ h1 h2=>exact h1.trans h2
section
variable{P:Program}{N:bZ}{w0 w:World}{e:Env}{R R0:List Piece}{H H0:List HP}{Q:Exit→Act→World→Prop}{ops:Array Oper}{m fuel:Nat}{listed:Array Bool}{K:Act→World→Prop}
variable{al:Nat→AL}{g g':Nat→Nat}
theorem aBs(k:Nat)(v:Value)(e:Env)(t:Nat):Env.get ((k,v)::e) t=if k=t then some v else e.get t:=by
 show(match Nat.beq k t with | true=>some v | false=>Env.get e t)=_
 by_cases h:k=t
 ·subst h;rw[if_pos rfl,Nat.beq_refl]
 ·rw[if_neg h];cases hb:Nat.beq k t with
  | true=>exact absurd (Nat.eq_of_beq_eq_true hb) h
  | false=>rfl
theorem aIJ{l1 l2:List Nat}(h:l1.Perm l2)(hn:(l1.map fun i=>(al i).d).Nodup)(t:Nat):(qZ al g l1 e).get t=(qZ al g l2 e).get t:=by
 induction h with
 | nil=>rfl
 | cons x _ ih=>
  show Env.get ((_,_)::qZ al g _ e) t=Env.get ((_,_)::qZ al g _ e) t
  rw[aBs,aBs,ih (List.nodup_cons.1 (show((al x).d::List.map (fun i=>(al i).d) _).Nodup from hn)).2]
 | swap x y s=>
  show Env.get ((_,_)::(_,_)::qZ al g s e) t=Env.get ((_,_)::(_,_)::qZ al g s e) t
  have hne:(al y).d≠(al x).d:=fun he=>(List.nodup_cons.1 (show((al y).d::(al x).d::List.map (fun i=>(al i).d) s).Nodup from hn)).1 (by rw[he];exact List.mem_cons_self)
  simp only[aBs]
  by_cases h1:(al x).d=t
  ·rw[if_pos h1,if_neg (fun h2=>hne (h2.trans h1.symm)),if_pos h1]
  ·rw[if_neg h1,if_neg h1]
 | trans h1 h2 i1 i2=>exact(i1 hn).trans (i2 ((h1.map _).nodup_iff.1 hn))
theorem aHY{l1 l2:List Nat}(h:l1.Perm l2):∀pre:List HP,St w0 R (pre++tH al g l1 H) w→St w0 R (pre++tH al g l2 H) w:=by
 induction h with
 | nil=>exact fun _ h=>h
 | cons x _ ih=>
  intro pre st
  have:=ih (pre++[HP.aE (g x) (al x).t (al x).cs]) (by rw[List.append_assoc];exact st)
  rw[List.append_assoc] at this;exact this
 | swap x y s =>
  intro pre st;refine st.weak (fun _ hp=>hp) (fun i=>if i=pre.length then pre.length+1 else if i=pre.length+1 then pre.length else i) (fun i j _ _ he=>?_) (fun i p hi=>?_)
  ·split at he<;>split at he<;>(try split at he)<;>(try split at he)<;>omega
  ·change (pre++HP.aE (g x) (al x).t (al x).cs::HP.aE (g y) (al y).t (al y).cs::tH al g s H)[i]? =some p at hi
   show(pre++HP.aE (g y) (al y).t (al y).cs::HP.aE (g x) (al x).t (al x).cs::tH al g s H)[_]? =some p
   rcases Nat.lt_or_ge i pre.length with h | h
   ·rw[if_neg (by omega),if_neg (by omega),List.getElem?_append_left h]
    rwa [List.getElem?_append_left h] at hi
   ·obtain⟨k,rfl⟩:∃k,i=pre.length+k:=⟨i - pre.length,by omega⟩
    rw[List.getElem?_append_right (by omega),Nat.add_sub_cancel_left] at hi
    match k,hi with
    | 0,hi=>
     rw[if_pos (by omega),List.getElem?_append_right (by omega),Nat.add_sub_cancel_left];exact hi
    | 1,hi=>
     rw[if_neg (by omega),if_pos rfl,List.getElem?_append_right (by omega),Nat.sub_self];exact hi
    | k+2,hi=>
     rw[if_neg (by omega),if_neg (by omega),List.getElem?_append_right (by omega),Nat.add_sub_cancel_left];exact hi
 | trans _ _ i1 i2=>exact fun pre st=>i2 pre (i1 pre st)
def aCk(P:Program)(N:bZ)(e:Env)(o:Oper)(x:AL):Prop:=∀a w,eO N e a→(execOp a.eval o).run P w=.ok (.value (x.val w.heap.size)) (w.alloc (.cells x.cs.toArray x.t))
theorem aH5{t ty:TypeId}{d:Nat}{pos:String}{aH:Array Edge}{cs:List Value}(ht:Dv P t cs):aCk P N e ⟨some d,.alloc t,ty,pos,aH,none⟩ ⟨d,t,cs,fun g=>.pointer (some ⟨g,0,none⟩)⟩:=fun a w hr=>by
 obtain⟨i,z,hi,hz,rfl⟩:=ht;simp[execOp,Instr.alloc,zeroValue,typeInfo,hi,hz,newVar,newRow]
theorem zV(bytes:Nat){x y:Operand}{t el ty:TypeId}{d n:Nat}{z:Value}{pos:String}{aH:Array Edge}{kd uO:IntKind}(ht:P.underlying t=some (.slice el))(hT:(P.info? el).map (fun i=>(i.zero,i.size,i.bytes))=some (some z,1,bytes))(Vs:z.cells=#[z])(hx:e.ev x=some (.int kd (n:Int)))(hy:e.ev y=some (.int uO (n:Int)))
  (hb:bytes*n≤281474976710656) (hn:(n:Int)≤9223372036854775807):aCk P N e ⟨some d,.makeSlice t x y,ty,pos,aH,none⟩ ⟨d,el,List.replicate n z,fun g=>.slice (some ⟨g,0,none⟩) n n⟩:=fun a w hr=>by
 obtain⟨i,hi,he⟩:=Option.map_eq_some_iff.1 hT;simp only[Prod.mk.injEq] at he;obtain⟨h1,h2,rfl⟩:=he
 have:=run_make (P:=P) w t el i z ht hi h1 kd uO n n (by omega) (Int.le_refl _) (by rw[←Int.natCast_mul];omega) hn
 have hm:madeCells z.cells (n*i.size)=(List.replicate n z).toArray:=by
  rw[h2,Nat.mul_one,Vs];unfold madeCells;apply Array.ext
  ·simp
  ·intro j h1 h2;simp;rw[Nat.mod_one];rfl
 simp only[Int.toNat_natCast,hm] at this;simp only[execOp,hr.ev hx,hr.ev hy,Sem.run_bind,this,Result.andThen_ok,Sem.run_pure]
structure uA(P:Program)(N:bZ)(ops:Array Oper)(e:Env)(x:AL)(i:Nat):Prop where
 ok:∃o,ops[i]? =some o∧o.guard=none∧o.dst=some x.d∧aCk P N e o x
 lt:x.d < N.n
 new:e.get x.d=none
theorem uA.of{o:Oper}{x:AL}{i:Nat}(h1:ops[i]? =some o)(h2:o.guard=none)(h3:o.dst=some x.d)(h4:aCk P N e o x)(h5:x.d < N.n)(h6:e.get x.d=none):uA P N ops e x i:=⟨⟨o,h1,h2,h3,h4⟩,h5,h6⟩
theorem aQQ{ds:List Nat}(hn:∀i∈ds,e.get (al i).d=none){t:Nat}{v:Value}(h:e.get t=some v):(qZ al g ds e).get t=some v:=by
 induction ds with
 | nil=>exact h
 | cons i ds ih=>
  show Env.get ((_,_)::qZ al g ds e) t=some v
  rw[aBs,if_neg (fun he=>by have:=hn i (by simp);rw[he,h] at this;cases this)];exact ih fun j hj=>hn j (by simp[hj])
theorem eO.aQR{a:Act}{ds:List Nat}(hn:∀i∈ds,e.get (al i).d=none)(h:eO N (qZ al g ds e) a):eO N e a:=⟨h.size,h.defers,fun t v ht=>h.get t v (aQQ hn ht)⟩
theorem St.unA{ds:List Nat}(h:St w0 R (tH al g ds H) w):St w0 R H w:=h.weak (fun _ hp=>hp) (fun i=>i+ds.length) (fun i j _ _ he=>by omega) (fun i p hi=>by
 show(ds.map _++H)[i+ds.length]? =some p
 rw[List.getElem?_append_right (by simp)]
 simpa using hi)
theorem aCd(idx:List Nat)(ex:List (List Nat))(al:Nat→AL)(hok:∀i∈idx,uA P N ops e (al i) i)(hd:(idx.map fun i=>(al i).d).Nodup)(hr:aNj ops idx ex listed=true)(hS:∀w,St w0 R H w→St w0 R0 H0 w)
  (k:∀sub∈Lt idx,ex.contains sub=true→∀g:Nat→Nat,XA P N w0 ops Q R0 H0 m (fuel+(idx.length - sub.length)) (kS sub listed) (qZ al g sub e) R (tH al g sub H)):XA P N w0 ops Q R0 H0 m (fuel+idx.length) listed e R H:=by
 have hni:idx.Nodup:=(List.pairwise_map.1 hd).imp fun h e=>h (by rw[e])
 have key:∀(n:Nat) (ds:List Nat) (g:Nat→Nat),ds.Nodup→(∀i∈ds,i∈idx)→ds.length+n=idx.length→XA P N w0 ops Q R0 H0 m (fuel+n) (kS ds listed) (qZ al g ds e) R (tH al g ds H):=by
  intro n
  induction n with
  | zero =>
   intro ds g hn hin hl
   have Eu:(idx.filter fun i=>ds.contains i).Perm ds:=by
    rw[List.perm_iff_count];intro a;rw[(hni.sublist List.filter_sublist).count,hn.count]
    by_cases ha:a∈ds
    ·rw[if_pos ha,if_pos (by simp[ha,hin a ha])]
    ·rw[if_neg ha,if_neg (by simp[ha])]
   have hlen:=Eu.length_eq
   have heq:(idx.filter fun i=>ds.contains i)=idx:=List.filter_sublist.eq_of_length (by omega)
   have eH:=List.all_eq_true.1 hr _ (Pj (fun i=>ds.contains i) idx)
   rw[Bool.or_eq_true] at eH;rcases eH with hc | hc
   ·have h:=k _ (Pj _ idx) hc g
    rw[aAP Eu,show fuel+(idx.length - (idx.filter fun i=>ds.contains i).length)=fuel+0 by omega] at h;exact fun up a w cT st=>h up a w ⟨cT.size,cT.defers,fun t v ht=>cT.get t v (by rw[←aIJ Eu (by rw[heq];exact hd)];exact ht)⟩ (aHY Eu.symm [] st)
   ·exfalso;rw[Bool.and_eq_true,List.all_eq_true] at hc;obtain⟨h1,h2⟩:=hc;rw[heq] at h1 h2;cases hrd:Region.ready .any ops (kS idx listed) with
    | nil=>rw[hrd] at h1;cases h1
    | cons j js=>
     rw[hrd] at h2
     have:=h2 j (by simp)
     simp at this
  | succ n ih =>
   intro ds g hn hin hl
   have Eu:(idx.filter fun i=>ds.contains i).Perm ds:=by
    rw[List.perm_iff_count];intro a;rw[(hni.sublist List.filter_sublist).count,hn.count]
    by_cases ha:a∈ds
    ·rw[if_pos ha,if_pos (by simp[ha,hin a ha])]
    ·rw[if_neg ha,if_neg (by simp[ha])]
   have hlen:=Eu.length_eq
   have eH:=List.all_eq_true.1 hr _ (Pj (fun i=>ds.contains i) idx)
   rw[Bool.or_eq_true] at eH;rcases eH with hc | hc
   ·have h:=k _ (Pj _ idx) hc g
    rw[aAP Eu,show fuel+(idx.length - (idx.filter fun i=>ds.contains i).length)=fuel+(n+1) by omega] at h
    have hnd:((idx.filter fun i=>ds.contains i).map fun i=>(al i).d).Nodup:=hd.sublist (List.filter_sublist.map _)
    exact fun up a w cT st=>h up a w ⟨cT.size,cT.defers,fun t v ht=>cT.get t v (by rw[←aIJ Eu hnd];exact ht)⟩ (aHY Eu.symm [] st)
   ·rw[Bool.and_eq_true,List.all_eq_true,aAP Eu] at hc;obtain⟨h1,h2⟩:=hc;intro up a w cT st
    show Lo P ops Q (St w0 R0 H0) m ((fuel+n)+1) (kS ds listed) a w
    refine⟨(fun h=>by rw[h] at h1;exact absurd h1 (by decide)),fun j hj=>?_⟩
    have hj2:=h2 j hj
    simp only[Bool.and_eq_true,Bool.not_eq_true',List.contains_eq_mem,decide_eq_true_eq,decide_eq_false_iff_not,List.mem_filter,not_and] at hj2
    have hjd:j∉ds:=hj2.2 hj2.1
    obtain⟨⟨o,ho,hog,hod,hmk⟩,hlt,hnew⟩:=hok j hj2.1
    have hrun:=hmk a w (cT.aQR fun i hi=>(hok i (hin i hi)).new)
    let g':Nat→Nat:=fun i=>if i=j then w.heap.size else g i
    have Wp:qZ al g' (j::ds) e=((al j).d,(al j).val w.heap.size)::qZ al g ds e:=by
     show((al j).d,(al j).val (g' j))::(ds.map _++e)=_
     rw[show g' j=w.heap.size from if_pos rfl]
     congr 1
     unfold qZ
     congr 1
     refine List.map_congr_left fun i hi=>?_;rw[show g' i=g i from if_neg (fun he:i=j=>hjd (he▸hi))]
    have Ex:tH al g' (j::ds) H=HP.aE w.heap.size (al j).t (al j).cs::tH al g ds H:=by
     show HP.aE (g' j) _ _::(ds.map _++H)=_
     rw[show g' j=w.heap.size from if_pos rfl]
     congr 1
     unfold tH
     congr 1
     refine List.map_congr_left fun i hi=>?_;rw[show g' i=g i from if_neg (fun he:i=j=>hjd (he▸hi))]
    have st':St w0 R (tH al g' (j::ds) H) (w.alloc (.cells (al j).cs.toArray (al j).t)):=by
     rw[Ex];exact st.new (Sn w _) (aIy w _ _)
    have h:=ih (j::ds) g' (List.nodup_cons.2 ⟨hjd,hn⟩) (fun i hi=>by
     rcases List.mem_cons.1 hi with rfl | hi
     ·exact hj2.1
     ·exact hin i hi) (by simp only[List.length_cons];omega)
    rw[Wp] at h
    have wS:=h (up.mA hj) (a.put (some (al j).d) ((al j).val w.heap.size)) _ (cT.put hlt _) st'
    unfold wpOp;simp only[ho]
    have hw:Region.wanted o (yielded ops a.tmps)=true:=by simp[Region.wanted,hog]
    simp only[hw,if_true,Oper.wp,hrun,Oper.upon,hod];exact .inl ⟨fun _=>hS _ st'.unA,wS⟩
 have:=key idx.length [] (fun _=>0) List.nodup_nil (fun i hi=>by cases hi) (by simp)
 exact this
end
end
section
def lF(s:aD):Nat→Nat→List Nat
 | 0,_=>[]
 | k + 1, c => match s.aF[c]? with
  | some x=>c::(match x.src with
   | []=>[]
   | f::_=>lF s k f.toNat)
  | none=>[]
def fU(s:aD)(c:Nat):List Nat:=lF s s.aF.length c
theorem aE6(s:aD):∀(k c:Nat),∀i∈lF s k c,i < s.aF.length
 | 0,c,i,h=>by simp[lF] at h
 | k + 1, c, i, h => by
  unfold lF at h;cases hc:s.aF[c]? with
  | none=>rw[hc] at h;simp at h
  | some x =>
   rw[hc] at h;dsimp only at h
   have hlt:=(List.getElem?_eq_some_iff.1 hc).1
   cases hs:x.src with
   | nil=>rw[hs] at h;simp at h;omega
   | cons f fs=>
    rw[hs] at h;rcases List.mem_cons.1 h with rfl | h
    ·exact hlt
    ·exact aE6 s k _ i h
theorem aB8(s:aD):∀(k c:Nat),(lF s k c).length≤k
 | 0,c=>by simp[lF]
 | k + 1, c => by
  unfold lF;split
  ·rename_i x hx
   split
   ·simp
   ·rename_i f fs hs
    have:=aB8 s k f.toNat
    simp only[List.length_cons];omega
  ·simp
theorem aJr{s:aD}{k c:Nat}{x:eF}(h:s.aF[c]? =some x):lF s (k+1) c=c::(match x.src with
      | []=>[]
      | f::_=>lF s k f.toNat):=by
  show(match s.aF[c]? with | some x=>_ | none=>_)=_
  rw[h]
def aAr(s:aD):Nat→Nat→List Nat
 | 0,_=>[]
 | k+1,d=>match s.domains[d]? with
  | some x=>d::(if x.above= -1 then[] else aAr s k x.above.toNat)
  | none=>[]
def Ed(s:aD)(d:Nat):List Nat:=aAr s (d+1) d
def Bq(s:aD):Int→List Nat→Prop
 | d,[]=>d= -1
 | d,i::r=>d=(i:Int)∧∃x,s.domains[i]? =some x∧Bq s x.above r
theorem aFP{s:aD}(hm:s.made):∀(k d:Nat),d < k→d < s.domains.length→Bq s d (aAr s k d)
 | k + 1, d, hk, hd => by
  have hx:s.domains[d]? =some (s.domains[d]'hd):=List.getElem?_eq_getElem _
  have hf:=(hm.domains d _ hx).1
  show Bq s d (match s.domains[d]? with | some x=>d::(if x.above= -1 then[] else aAr s k x.above.toNat) | none=>[])
  rw[hx];refine⟨rfl,_,hx,?_⟩
  by_cases h1:(s.domains[d]'hd).above= -1
  ·rw[if_pos h1];exact h1
  ·rw[if_neg h1]
   have h2:((s.domains[d]'hd).above.toNat:Int)=(s.domains[d]'hd).above:=by omega
   have:=aFP hm k (s.domains[d]'hd).above.toNat (by omega) (by omega)
   rwa [h2] at this
theorem aAq{s:aD}(hm:s.made){d:Nat}(hd:d < s.domains.length):Bq s d (Ed s d):=aFP hm _ _ (by omega) hd
theorem Bq.in_{s:aD}:∀{l:List Nat} {d:Int},Bq s d l→∀i∈l,i < s.domains.length
 | [],_,_,i,h=>by cases h
 | j::l,_,⟨_,x,hx,hr⟩,i,h=>by
  rcases List.mem_cons.1 h with rfl | h
  ·exact(List.getElem?_eq_some_iff.1 hx).1
  ·exact hr.in_ i h
theorem Bq.up{s:aD}:∀{l:List Nat} {d:Int},Bq s d l→∀i∈l,∀x,s.domains[i]? =some x→0≤x.above→x.above.toNat∈l
 | [],_,_,i,h,_,_,_=>by cases h
 | j :: l, _, ⟨_, y, hy, hr⟩, i, h, x, hx, h0 => by
  rcases List.mem_cons.1 h with rfl | h
  ·rw[hy] at hx;cases hx;cases l with
   | nil=>have h2:y.above= -1:=hr;omega
   | cons k l=>
    have h2:y.above=(k:Int):=hr.1
    rw[h2];simp
  ·exact List.mem_cons_of_mem _ (hr.up i h x hx h0)
theorem Bq.head{s:aD}{d:Nat}{l:List Nat}(h:Bq s (d:Int) l):d∈l:=by
 cases l with
 | nil=>have h2:(d:Int)= -1:=h;omega
 | cons i r=>have h2:(d:Int)=(i:Int):=h.1;rw[show d=i by omega];simp
def sI(ids:List Nat)(l:List Bool):List Bool:=ids.foldl (fun d (i:Nat)=>gY d (i:Int) true) l
theorem aDa(ids:List Nat)(l:List Bool):(sI ids l).length=l.length:=by
 unfold sI
 induction ids generalizing l with
 | nil=>rfl
 | cons i ids ih=>rw[List.foldl_cons,ih,Ma]
theorem aGV(ids:List Nat)(l:List Bool)(j:Nat)(hj:j < l.length):(sI ids l)[j]?.getD false=(decide (j∈ids)||l[j]?.getD false):=by
 unfold sI;rw[Vf,List.getElem?_eq_getElem hj]
 by_cases h:j∈ids<;>simp[h]
def mH(s:aD)(i:Nat):Bool:=match s.aF[i]? with
 | some c=>decide (c.kind=112∨c.kind=103)
 | none=>false
def dQ(s:aD):bK:=⟨List.replicate s.domains.length false,List.replicate s.aF.length false,List.replicate s.aT.length false⟩
def Pb(s:aD)(w:bK)(x:bO):bK:=⟨sI (Ed s x.domain.toNat) w.d,sI ((fU s x.clock.toNat).filter (mH s)) w.c,gY w.l x.reset true⟩
def iM(s:aD)(act:List Bool):Nat→bK
 | 0=>dQ s
 | j+1=>if hasB act j then(match s.aC[j]? with
  | some x=>Pb s (iM s act j) x
  | none=>iM s act j) else iM s act j
def eT(s:aD)(act:List Bool):bK:=iM s act s.aC.length
theorem Ec(s:aD)(act:List Bool):∀j,(iM s act j).of s
 | 0=>⟨by simp[iM,dQ],by simp[iM,dQ],by simp[iM,dQ]⟩
 | j + 1 => by
  have ih:=Ec s act j
  unfold iM;split
  ·split
   ·exact⟨by rw[Pb,aDa];exact ih.d,by rw[Pb,aDa];exact ih.c,by rw[Pb,Ma];exact ih.l⟩
   ·exact ih
  ·exact ih
theorem Ua{s:aD}{act:List Bool}{j:Nat}{x:bO}(hx:s.aC[j]? =some x)(ha:hasB act j=true):iM s act (j+1)=Pb s (iM s act j) x:=by
 show(if hasB act j then _ else _)=_
 rw[if_pos ha,hx]
theorem Pc{s:aD}{act:List Bool}{j:Nat}(ha:hasB act j=false):iM s act (j+1)=iM s act j:=by
 show(if hasB act j then _ else _)=_
 rw[if_neg (by rw[ha];decide)]
end
section
def uX(p:Piece)(x y:bK)(v:Value):Prop:=∃A1 k1 A2 k2 A3 k3 B1 m1 B2 m2 B3 m3,v=.agg #[.slice A1 x.d.length k1,.slice A2 x.c.length k2,.slice A3 x.l.length k3,.slice B1 y.d.length m1,.slice B2 y.c.length m2,.slice B3 y.l.length m3]∧
 aI p 1 A1 x.d.length (bE x.d)∧aI p 1 A2 x.c.length (bE x.c)∧aI p 1 A3 x.l.length (bE x.l)∧aI p 1 B1 y.d.length (bE y.d)∧aI p 1 B2 y.c.length (bE y.c)∧aI p 1 B3 y.l.length (bE y.l)
def Oi(s:aD)(p:Piece):Nat→List Value→Prop
 | 0,cs=>cs=[.slice none 0 0,.slice none 0 0,.slice none 0 0,.slice none 0 0,.slice none 0 0,.slice none 0 0]
 | 1,cs=>∃a b c,cs=[a,b,c,.slice none 0 0,.slice none 0 0,.slice none 0 0]∧Bp p (dQ s) (.agg #[a,b,c])
 | _,cs=>∃a b c a' b' c',cs=[a,b,c,a',b',c']∧Bp p (dQ s) (.agg #[a,b,c])∧Bp p (dQ s) (.agg #[a',b',c'])
theorem Oi.len{s:aD}{p:Piece}:∀{i:Nat} {cs:List Value},Oi s p i cs→cs.length=6
 | 0,_,h=>by rw[show _=_ from h];rfl
 | 1,_,⟨_,_,_,h,_⟩=>by rw[h];rfl
 | _+2,_,⟨_,_,_,_,_,_,h,_⟩=>by rw[h];rfl
theorem Oi.next{s:aD}{p q:Piece}(hl:p.Le q){a b c:Value}(hw:Bp q (dQ s) (.agg #[a,b,c])){i:Nat}{cs:List Value}(hi:i < 2)(h:Oi s p i cs):Oi s q (i+1) (iH cs (i*3) [a,b,c]):=by
 obtain rfl | rfl:i=0∨i=1:=by omega
 ·have h0:cs=[sn,sn,sn,sn,sn,sn]:=h
  subst h0;exact⟨a,b,c,rfl,hw⟩
 ·obtain⟨a1,b1,c1,h0,h1⟩:=h;subst h0;exact⟨a1,b1,c1,a,b,c,rfl,Bp.le h1 hl,hw⟩
theorem aLC(s:aD)(A1 A2 A3 A4:Option Addr)(k1 k2 k3 k4:Nat)(w:World)(hm:s.wQ):
  Cz 76 #[.agg #[.slice A1 s.aF.length k1,.slice A2 s.domains.length k2,.slice A3 s.aT.length k3,.slice A4 s.aC.length k4]] w (Tk (fun v w w'=>uX (fresh w w') (dQ s) (dQ s) v) w):=by
 have hn9:=hm.nc
 have qX:=hm.nd
 have oQ:=hm.nr
 refine aL func76 ntmps76 ?_;refine aB ?_;refine bA fun g1=>?_;refine bR fun g2=>?_;refine aB ?_;refine bR fun g3=>?_;refine aB ?_;refine bJ [(5,iv 0),(3,pt g3),(2,pt g2),(1,pt g1)] ?_;refine Bi ⟨w,fun _=>False⟩ (by simp) (fun _ h=>h.elim) ?_;refine aB ?_;refine eI (fun m e R H=>∃(i:Nat) (cs:List Value) (qs:Piece),i≤2∧m=2 - i∧Oi s qs i cs∧qR w qs∧e=[(5,iv i),(3,pt g3),(2,pt g2),(1,pt g1)]∧R=[qs,all w]∧H=[HP.aE g3 130 cs,HP.aE g2 130 [sn,sn,sn,sn,sn,sn],HP.aE g1 30 [.slice A1 s.aF.length k1,.slice A2 s.domains.length k2,.slice A3 s.aT.length k3,.slice A4 s.aC.length k4]]) 2 ⟨0,_,⟨w,fun _=>False⟩,by omega,rfl,rfl,(fun _ h=>h.elim),rfl,rfl,rfl⟩ fun m e R H hI=>?_;obtain⟨i,cs,qs,hi2,rfl,hcs,aIi,rfl,rfl,rfl⟩:=hI;refine aB ?_;refine aG rfl (fun h=>?_) (fun h=>?_)
 ·
  refine lU ?_;refine dW ?_;refine cO ?_;refine sC ?_;refine cO ?_;refine eB ?_;refine cP rfl (by decide) ?_;refine fP rfl (by decide) ?_;refine dO ?_;refine rB 15 (by kernel_rfl) (by kernel_rfl) ?_;refine gD 0 rfl rfl rfl (mS rfl) ?_;refine gD 1 rfl rfl rfl (Fq (off:=1) (by kernel_rfl) rfl) ?_;refine gD 2 rfl rfl rfl (Kr rfl) ?_;refine gD 3 rfl rfl rfl (Nl (el:=50) (by kernel_rfl) rfl) ?_;refine gD 5 rfl rfl rfl (Fq (off:=0) (by kernel_rfl) rfl) ?_;refine gD 6 rfl rfl rfl (Kr rfl) ?_;refine gD 7 rfl rfl rfl (Nl (el:=86) (by kernel_rfl) rfl) ?_;refine gD 9 rfl rfl rfl (Fq (off:=2) (by kernel_rfl) rfl) ?_;refine gD 10 rfl rfl rfl (Kr rfl) ?_;refine gD 11 rfl rfl rfl (Nl (el:=88) (by kernel_rfl) rfl) ?_;refine gD 14 rfl rfl rfl (Fq (off:=0) (by kernel_rfl) rfl) ?_;refine aCd (fuel:=3) [4,8,12] [[4,8,12]] (fun i=>match i with | 4=>⟨12,4,List.replicate s.domains.length (.bool false),fun g=>.slice (some ⟨g,0,none⟩) s.domains.length s.domains.length⟩ | 8=>⟨16,4,List.replicate s.aF.length (.bool false),fun g=>.slice (some ⟨g,0,none⟩) s.aF.length s.aF.length⟩ | _=>⟨20,4,List.replicate s.aT.length (.bool false),fun g=>.slice (some ⟨g,0,none⟩) s.aT.length s.aT.length⟩) (fun i hi=>?_) (by show[12,16,20].Nodup;decide) (by kernel_rfl) (fun _ h=>h) (fun sub hsub hex g=>?_)
  ·simp only[List.mem_cons,List.not_mem_nil,or_false] at hi;rcases hi with rfl | rfl | rfl
   ·exact uA.of rfl rfl rfl (zV 1 (el:=4) (z:=.bool false) (by kernel_rfl) (by kernel_rfl) rfl rfl rfl (by omega) (by omega)) (Nat.le_of_ble_eq_true rfl) rfl
   ·exact uA.of rfl rfl rfl (zV 1 (el:=4) (z:=.bool false) (by kernel_rfl) (by kernel_rfl) rfl rfl rfl (by omega) (by omega)) (Nat.le_of_ble_eq_true rfl) rfl
   ·exact uA.of rfl rfl rfl (zV 1 (el:=4) (z:=.bool false) (by kernel_rfl) (by kernel_rfl) rfl rfl rfl (by omega) (by omega)) (Nat.le_of_ble_eq_true rfl) rfl
  have fX:sub=[4,8,12]:=by simpa using hex
  have er:∀n:Nat,List.replicate n (Value.bool false)=bE (List.replicate n false):=fun n=>by simp[bE]
  have hi:i < 2:=by have h':(i:Int) < 2:=h;omega
  have hlen:=hcs.len
  subst fX;dsimp only[qZ,tH,kS,List.map,List.foldr,List.cons_append,List.nil_append,List.length_cons,List.length_nil,Nat.reduceAdd,Nat.reduceSub];refine fL 13 rfl rfl rfl (by decide) (lT (zs:=[sn,sn,sn]) (L:=[(0,1),(1,1),(2,1)]) (iG (by kernel_rfl)) (by kernel_rfl) rfl (by simp[fI,gI,Value.cells];rfl)) (by kernel_rfl) (fun _ _ _ h=>h) (fun _ h=>h.tail.tail.tail) ?_;refine cE 15 ?_;refine aFF i (i*3) (el:=116) (sz:=3) (by kernel_rfl) (by kernel_rfl) rfl rfl rfl hi (by omega) (by decide) ?_;refine fA ?_;refine cE 16 ?_;refine rL 3 rfl rfl rfl (by kernel_rfl) (by simp[Value.cells,Value.oneCell']) (by simp[Value.cells];omega) ?_;dsimp only[List.set];rw[show(Value.agg [.slice (some ⟨g 4,0,none⟩) s.domains.length s.domains.length,.slice (some ⟨g 8,0,none⟩) s.aF.length s.aF.length,.slice (some ⟨g 12,0,none⟩) s.aT.length s.aT.length].toArray).cells.toList=[.slice (some ⟨g 4,0,none⟩) s.domains.length s.domains.length,.slice (some ⟨g 8,0,none⟩) s.aF.length s.aF.length,.slice (some ⟨g 12,0,none⟩) s.aT.length s.aT.length] from rfl];refine fA ?_;refine kG ?_;refine dW ?_;refine eB ?_;refine zJ rfl rfl (iR (by omega)) (by decide) ?_;refine cP rfl (by decide) ?_;refine dO ?_;refine dP [qs] [0,1,2] [3,4,5] (by simp) rfl (by decide) (by decide) fun qn Qw hle hfr=>?_
  have hfn:=hfr (by simp) (fun p hp=>by simp only[List.mem_cons,List.not_mem_nil,or_false] at hp;subst hp;exact aIi)
  have b1:aI qn 1 (some ⟨g 4,0,none⟩) (s.domains.length) (List.replicate (s.domains.length) (Value.bool false)):=sW (n:=s.domains.length) (sz:=1) (c:=0) (Qw 0 _ (by simp) rfl).choose_spec.1 (Qw 0 _ (by simp) rfl).choose_spec.2 (by simp)
  have b2:aI qn 1 (some ⟨g 8,0,none⟩) (s.aF.length) (List.replicate (s.aF.length) (Value.bool false)):=sW (n:=s.aF.length) (sz:=1) (c:=0) (Qw 1 _ (by simp) rfl).choose_spec.1 (Qw 1 _ (by simp) rfl).choose_spec.2 (by simp)
  have b3:aI qn 1 (some ⟨g 12,0,none⟩) (s.aT.length) (List.replicate (s.aT.length) (Value.bool false)):=sW (n:=s.aT.length) (sz:=1) (c:=0) (Qw 2 _ (by simp) rfl).choose_spec.1 (Qw 2 _ (by simp) rfl).choose_spec.2 (by simp)
  rw[er] at b1 b2 b3
  have hww:Bp qn (dQ s) (.agg #[.slice (some ⟨g 4,0,none⟩) s.domains.length s.domains.length,.slice (some ⟨g 8,0,none⟩) s.aF.length s.aF.length,.slice (some ⟨g 12,0,none⟩) s.aT.length s.aT.length]):=by
   unfold Bp dQ;simp only[List.length_replicate];exact⟨_,_,_,_,_,_,rfl,b1,b2,b3⟩
  refine aBQ (R':=[qn,all w]) (by simp) ?_;exact dY (2 - (i+1)) ⟨i+1,_,qn,by omega,rfl,Oi.next (hle qs (by simp)) hww hi hcs,hfn,rfl,rfl,rfl⟩
 ·
  refine Zk ?_;refine dW ?_;refine cO ?_
  have hie:i=2:=by have h':¬(i:Int) < 2:=h;omega
  subst hie;obtain⟨a,b,c,a',b',c',rfl,hw1,hw2⟩:=hcs;obtain⟨D1,d1,D2,d2,D3,d3,e1,x1,x2,x3⟩:=hw1;obtain⟨F1,f1,F2,f2,F3,f3,e2,y1,y2,y3⟩:=hw2;cases e1;cases e2;refine eB ?_;refine Tu 6 rfl ?_;refine uB rfl rfl ?_;simp only[iH,Value.cells,List.set,List.take,List.drop,List.nil_append,List.append_nil,List.length_cons,List.length_nil,List.cons_append,Nat.reduceAdd];refine aB ?_
  exact Nz rfl (by kernel_rfl) rfl rfl (aQ.whole 1 rfl) fun w1 st=>⟨⟨_,rfl,by
   have hl:=st.mF (by simp) aIi
   exact⟨_,_,_,_,_,_,_,_,_,_,_,_,rfl,x1.le hl,x2.le hl,x3.le hl,y1.le hl,y2.le hl,y3.le hl⟩⟩,st.below (by simp)⟩
end
section
open Go.RowKit Go.Shelf
attribute [local go_sem] Oper.semAt_some
def qT(zs:List Int):List Value:=zs.map (Value.int .u32)
end
section
section
variable{P:Program}{N:bZ}{w0:World}{e:Env}{R:List Piece}{H:List HP}{Q:Exit→Act→World→Prop}{ops:Array Oper}{rest:List Oper}
variable{d:Nat}{ty:TypeId}{pos:String}{aH:Array Edge}
end
def eJ(l:List (Int×Int))(k:Int):Int:=((l.find? fun p=>decide (p.1=k)).map (·.2)).getD 0
def xZ:List (Int×Int)→Int→Int→List (Int×Int)
 | [],k,v=>[(k,v)]
 | (a,b)::r,k,v=>if a=k then(k,v)::r else(a,b)::xZ r k v
def wX(l:List (Int×Int)):List (Int×Value):=l.map fun p=>(p.1,iv p.2)
theorem aH1:∀(l:List (Int×Int)) (k:Int),(mY (wX l) k).getD (iv 0)=iv (eJ l k)
 | [],k=>rfl
 | (a, b) :: l, k => by
  have ih:=aH1 l k
  show(mY ((a,iv b)::wX l) k).getD _=_
  rw[Pz];unfold eJ;rw[List.find?_cons]
  by_cases h:a=k
  ·simp[h]
  ·simp only[h,if_false,decide_false,Bool.false_eq_true];exact ih
theorem aHv:∀(l:List (Int×Int)) (k v:Int),oL (wX l) k (iv v)=wX (xZ l k v)
 | [],k,v=>rfl
 | (a,b)::l,k,v=>by
  show oL ((a,iv b)::wX l) k _=wX (if a=k then _ else _)
  unfold oL
  by_cases h:a=k
  ·rw[if_pos h,if_pos h];rfl
  ·rw[if_neg h,if_neg h,aHv l k v];rfl
end
section
def rP(k:Int):Prop:=k=117∨k=99∨k=114
instance(k:Int):Decidable (rP k):=by unfold rP;infer_instance
def tC(s:aD)(p:Int):Nat:=if p=17 then s.domains.length else if p=20 then s.aF.length else if p=22 then s.aT.length else 0
def gJ(k:Int)(v0 v1 v2:Value):Value:=if k=117∨k=100∨k=107 then v0 else if k=99∨k=111 then v1 else if k=114∨k=97 then v2 else sn
def zY(k:Int)(x:bK):List Bool:=if k=117∨k=100∨k=107 then x.d else if k=99∨k=111 then x.c else if k=114∨k=97 then x.l else[]
def pI(x:bK)(k id:Int):Bool:=decide (0≤id)&&hasB (zY k x) id.toNat
theorem fK.thn{w w':World}{g o:Nat}{v:Value}(h:fK w g o v)(hb:Below w.heap.size w w'):fK w' g o v:=⟨Nat.lt_of_lt_of_le h.1 hb.size,(hb.cell (p:=⟨g,o,none⟩) h.1).trans h.2⟩
def Zs(w:World)(g o:Nat)(x:bK):Prop:=∃A1 k1 A2 k2 A3 k3,fK w g o (.slice A1 x.d.length k1)∧fK w g (o+1) (.slice A2 x.c.length k2)∧fK w g (o+2) (.slice A3 x.l.length k3)∧
 aI (all w) 1 A1 x.d.length (bE x.d)∧aI (all w) 1 A2 x.c.length (bE x.c)∧aI (all w) 1 A3 x.l.length (bE x.l)
theorem aOH{w:World}{x:bK}{A1 A2 A3:Option Addr}{k1 k2 k3:Nat}(h1:aI (all w) 1 A1 x.d.length (bE x.d))(h2:aI (all w) 1 A2 x.c.length (bE x.c))(h3:aI (all w) 1 A3 x.l.length (bE x.l))(k:Int):
  ∃A c,gJ k (.slice A1 x.d.length k1) (.slice A2 x.c.length k2) (.slice A3 x.l.length k3)=.slice A (zY k x).length c∧aI (all w) 1 A (zY k x).length (bE (zY k x)):=by
 unfold gJ zY;split
 ·exact⟨_,_,rfl,h1⟩
 ·split
  ·exact⟨_,_,rfl,h2⟩
  ·split
   ·exact⟨_,_,rfl,h3⟩
   ·exact⟨_,_,rfl,aI.nil _ _⟩
theorem aDh(k:Int)(w:World):
  Cz 167 #[.int .u8 k] w (Rt (.bool (decide (rP k))) w):=by
 refine aL func167 ntmps167 ?_;refine aB ?_
 (first | refine bU (t:=5) rfl (fun hg=>?_) (fun hg=>?_) | refine sE (t:=5) rfl (fun hg=>?_) (fun hg=>?_))
 ·
  refine aB ?_;exact aS (h:=fun _ _=>by simp_all [rP])
 ·
  refine aB ?_
  (first | refine bU (t:=9) rfl (fun hg=>?_) (fun hg=>?_) | refine sE (t:=9) rfl (fun hg=>?_) (fun hg=>?_))
  ·
   refine aB ?_;exact aS (h:=fun _ _=>by simp_all [rP])
  ·
   refine aB ?_;exact aS (h:=fun _ _=>by simp_all [rP])
theorem aOd(s:aD)(A1 A2 A3 A4:Option Addr)(k1 k2 k3 k4:Nat)(p:Int)(w:World):
  Cz 220 #[.agg #[.slice A1 s.aF.length k1,.slice A2 s.domains.length k2,.slice A3 s.aT.length k3,.slice A4 s.aC.length k4],iv p] w (Rt (iv (tC s p)) w):=by
 refine aL func220 ntmps220 ?_;refine aB ?_;refine bA fun g1=>?_;refine aB ?_;refine aG rfl (fun h=>?_) (fun h=>?_)
 ·
  refine aB ?_;exact aS (h:=fun _ _=>by simp_all [tC])
 ·
  refine aB ?_;refine aG rfl (fun h=>?_) (fun h=>?_)
  ·
   refine aB ?_;exact aS (h:=fun _ _=>by simp_all [tC])
  ·
   refine aB ?_;refine aG rfl (fun h=>?_) (fun h=>?_)
   ·
    refine aB ?_;exact aS (h:=fun _ _=>by simp_all [tC])
   ·
    refine aB ?_;exact aS (h:=fun _ _=>by simp_all [tC])
theorem aDx(g o:Nat)(k:Int)(v0 v1 v2:Value)(w:World)(h0:fK w g o v0)(h1:fK w g (o+1) v1)(h2:fK w g (o+2) v2):
  Cz 172 #[.pointer (some ⟨g,o,none⟩),.int .u8 k] w (Rt (gJ k v0 v1 v2) w):=by
 refine aL func172 ntmps172 ?_;refine aB ?_;refine aG rfl (fun h=>?_) (fun h=>?_)
 ·
  refine aB ?_;refine aG rfl (fun h=>?_) (fun h=>?_)
  ·
   refine aB ?_;exact aS (h:=fun _ _=>by simp_all [gJ])
  ·
   refine aB ?_;refine aG rfl (fun h=>?_) (fun h=>?_)
   ·
    refine aB ?_;refine aG rfl (fun h=>?_) (fun h=>?_)
    ·
     refine aB ?_;exact aS (h:=fun _ _=>by simp_all [gJ])
    ·
     refine aB ?_;refine aG rfl (fun h=>?_) (fun h=>?_)
     ·
      refine aB ?_;refine aG rfl (fun h=>?_) (fun h=>?_)
      ·
       refine aB ?_;exact aS (h:=fun _ _=>by simp_all [gJ])
      ·
       refine aB ?_;exact aS (h:=fun _ _=>by simp_all [gJ])
     ·
      refine aB ?_;refine aG rfl (fun h=>?_) (fun h=>?_)
      ·
       refine aB ?_;exact aS (h:=fun _ _=>by simp_all [gJ])
      ·
       refine aB ?_;exact aS (h:=fun _ _=>by simp_all [gJ])
   ·
    refine aB ?_;refine aG rfl (fun h=>?_) (fun h=>?_)
    ·
     refine aB ?_;exact aS (h:=fun _ _=>by simp_all [gJ])
    ·
     refine aB ?_;refine aG rfl (fun h=>?_) (fun h=>?_)
     ·
      refine aB ?_;refine aG rfl (fun h=>?_) (fun h=>?_)
      ·
       refine aB ?_;exact aS (h:=fun _ _=>by simp_all [gJ])
      ·
       refine aB ?_;exact aS (h:=fun _ _=>by simp_all [gJ])
     ·
      refine aB ?_;refine aG rfl (fun h=>?_) (fun h=>?_)
      ·
       refine aB ?_;exact aS (h:=fun _ _=>by simp_all [gJ])
      ·
       refine aB ?_;exact aS (h:=fun _ _=>by simp_all [gJ])
 ·
  refine aB ?_;refine aG rfl (fun h=>?_) (fun h=>?_)
  ·
   refine aB ?_;refine aG rfl (fun h=>?_) (fun h=>?_)
   ·
    refine aB ?_;exact aS (h:=fun _ _=>by simp_all [gJ])
   ·
    refine aB ?_;refine aG rfl (fun h=>?_) (fun h=>?_)
    ·
     refine aB ?_;refine aG rfl (fun h=>?_) (fun h=>?_)
     ·
      refine aB ?_;exact aS (h:=fun _ _=>by simp_all [gJ])
     ·
      refine aB ?_;refine aG rfl (fun h=>?_) (fun h=>?_)
      ·
       refine aB ?_;refine aG rfl (fun h=>?_) (fun h=>?_)
       ·
        refine aB ?_;exact aS (h:=fun _ _=>by simp_all [gJ])
       ·
        refine aB ?_;exact aS (h:=fun _ _=>by simp_all [gJ])
      ·
       refine aB ?_;refine aG rfl (fun h=>?_) (fun h=>?_)
       ·
        refine aB ?_;exact aS (h:=fun _ _=>by simp_all [gJ])
       ·
        refine aB ?_;exact aS (h:=fun _ _=>by simp_all [gJ])
    ·
     refine aB ?_;refine aG rfl (fun h=>?_) (fun h=>?_)
     ·
      refine aB ?_;exact aS (h:=fun _ _=>by simp_all [gJ])
     ·
      refine aB ?_;refine aG rfl (fun h=>?_) (fun h=>?_)
      ·
       refine aB ?_;refine aG rfl (fun h=>?_) (fun h=>?_)
       ·
        refine aB ?_;exact aS (h:=fun _ _=>by simp_all [gJ])
       ·
        refine aB ?_;exact aS (h:=fun _ _=>by simp_all [gJ])
      ·
       refine aB ?_;refine aG rfl (fun h=>?_) (fun h=>?_)
       ·
        refine aB ?_;exact aS (h:=fun _ _=>by simp_all [gJ])
       ·
        refine aB ?_;exact aS (h:=fun _ _=>by simp_all [gJ])
  ·
   refine aB ?_;refine aG rfl (fun h=>?_) (fun h=>?_)
   ·
    refine aB ?_;exact aS (h:=fun _ _=>by simp_all [gJ])
   ·
    refine aB ?_;refine aG rfl (fun h=>?_) (fun h=>?_)
    ·
     refine aB ?_;refine aG rfl (fun h=>?_) (fun h=>?_)
     ·
      refine aB ?_;exact aS (h:=fun _ _=>by simp_all [gJ])
     ·
      refine aB ?_;refine aG rfl (fun h=>?_) (fun h=>?_)
      ·
       refine aB ?_;refine aG rfl (fun h=>?_) (fun h=>?_)
       ·
        refine aB ?_;exact aS (h:=fun _ _=>by simp_all [gJ])
       ·
        refine aB ?_;exact aS (h:=fun _ _=>by simp_all [gJ])
      ·
       refine aB ?_;refine aG rfl (fun h=>?_) (fun h=>?_)
       ·
        refine aB ?_;exact aS (h:=fun _ _=>by simp_all [gJ])
       ·
        refine aB ?_;exact aS (h:=fun _ _=>by simp_all [gJ])
    ·
     refine aB ?_;refine aG rfl (fun h=>?_) (fun h=>?_)
     ·
      refine aB ?_;exact aS (h:=fun _ _=>by simp_all [gJ])
     ·
      refine aB ?_;refine aG rfl (fun h=>?_) (fun h=>?_)
      ·
       refine aB ?_;refine aG rfl (fun h=>?_) (fun h=>?_)
       ·
        refine aB ?_;exact aS (h:=fun _ _=>by simp_all [gJ])
       ·
        refine aB ?_;exact aS (h:=fun _ _=>by simp_all [gJ])
      ·
       refine aB ?_;refine aG rfl (fun h=>?_) (fun h=>?_)
       ·
        refine aB ?_;exact aS (h:=fun _ _=>by simp_all [gJ])
       ·
        refine aB ?_;exact aS (h:=fun _ _=>by simp_all [gJ])
theorem aC3(g ag:Nat)(x:bK)(k id:Int)(w:World)(hag:ag < 2)(hM:Zs w g (ag*3) x):
  Cz 166 #[pt g,iv (ag:Int),.int .u8 k,iv id] w (Rt (.bool (pI x k id)) w):=by
 obtain⟨A1,k1,A2,k2,A3,k3,h1,h2,h3,s1,s2,s3⟩:=hM;obtain⟨A,c,hL,hS⟩:=aOH (k1:=k1) (k2:=k2) (k3:=k3) s1 s2 s3 k;refine aL func166 ntmps166 ?_;refine aA ?_;refine aFF (ag) (ag*3) (n:=2) (el:=116) (sz:=3) (by kernel_rfl) (by kernel_rfl) rfl rfl (by omega) (by omega) (by omega) (by decide) ?_;refine aB ?_;refine dH (fun w1 st=>aDx g (ag*3) k _ _ _ w1 (h1.thn (st.below (by simp))) (h2.thn (st.below (by simp))) (h3.thn (st.below (by simp)))) ?_;rw[hL];refine aB ?_
 (first | refine bU (t:=19) rfl (fun hg=>?_) (fun hg=>?_) | refine sE (t:=19) rfl (fun hg=>?_) (fun hg=>?_))
 ·
  refine aB ?_
  (first | refine bU (t:=25) rfl (fun hg=>?_) (fun hg=>?_) | refine sE (t:=25) rfl (fun hg=>?_) (fun hg=>?_))
  ·
   obtain⟨i,rfl⟩:∃i:Nat,id=(i:Int):=⟨id.toNat,by omega⟩
   have hil:i < (zY k x).length:=by omega
   obtain⟨b,off,rfl,hz,hc⟩:=hS.2 (by omega);obtain⟨v,hv⟩:∃v,(zY k x)[i]? =some v:=⟨_,List.getElem?_eq_getElem hil⟩
   refine fO rfl rfl ?_;refine cP rfl (by decide) ?_;refine fO rfl rfl ?_;refine cP rfl (by decide) ?_;refine fO rfl rfl ?_;refine kd (dat (i) (off+i)) ?_;refine fO rfl rfl ?_;refine jC (by kernel_rfl) rfl (Rd.ro (p:=all w) (by simp) hz (hc i _ (aJy hv))) (by decide) ?_
   (first | refine pW rfl rfl (by decide) ?_ | refine pY rfl rfl (by decide) ?_)
   refine fP rfl (by decide) ?_;refine dO ?_;refine Ky ?_;refine dW ?_;exact aS (h:=fun _ _=>by simp[pI,hasB,hv])
  ·
   refine aB ?_
   have hn:hasB (zY k x) id.toNat=false:=by rw[hasB,List.getElem?_eq_none (by omega)];rfl
   exact aS (h:=fun _ _=>by simp[pI,hn])
 ·
  refine aB ?_
  have hn:decide (0≤id)=false:=by simp;omega
  exact aS (h:=fun _ _=>by simp[pI,hn])
end
section
def StM(w:World)(g:Nat)(x y:bK):Prop:=∀i,i < 2→Zs w g (i*3) (if i=0 then x else y)
def sF(x y:bK)(k id:Int):Bool:=pI x k id||pI y k id
theorem Zs.thn{w w':World}{g o:Nat}{x:bK}(h:Zs w g o x)(hb:Below w.heap.size w w'):Zs w' g o x:=by
 obtain⟨A1,k1,A2,k2,A3,k3,h1,h2,h3,s1,s2,s3⟩:=h
 have hl:(all w).Le (all w'):=fun b hb'=>⟨Nat.lt_of_lt_of_le hb' hb.size,hb.block b hb'⟩
 exact⟨A1,k1,A2,k2,A3,k3,h1.thn hb,h2.thn hb,h3.thn hb,s1.le hl,s2.le hl,s3.le hl⟩
theorem aC5(g:Nat)(x y:bK)(k id:Int)(w:World)(hM:StM w g x y):
  Cz 168 #[pt g,.int .u8 k,iv id] w (Rt (.bool (sF x y k id)) w):=by
 refine aL func168 ntmps168 ?_;refine aB ?_;refine bJ [(8,iv 0),(2,iv id),(1,.int .u8 k),(0,pt g)] ?_;refine aB ?_;refine eI (fun m e R H=>∃(i:Nat),i≤2∧m=2 - i∧(∀j,j < i→pI (if j=0 then x else y) k id=false)∧e=[(8,iv i),(2,iv id),(1,.int .u8 k),(0,pt g)]∧R=[all w]∧H=[]) 2 ⟨0,by omega,rfl,(fun j hj=>absurd hj (Nat.not_lt_zero j)),rfl,rfl,rfl⟩ fun m e R H hI=>?_;obtain⟨i,hi,rfl,hno,rfl,rfl,rfl⟩:=hI;refine aB ?_;refine aG rfl (fun h=>?_) (fun h=>?_)
 ·
  refine aB ?_
  have hi2:i < 2:=by have h':(i:Int) < 2:=h;omega
  refine dH (fun w1 st=>aC3 g i (if i=0 then x else y) k id w1 hi2 ((hM i hi2).thn (st.below (by simp)))) ?_;refine aB ?_;refine pU rfl (fun hw=>?_) (fun hw=>?_)
  ·
   refine aB ?_
   have hr:sF x y k id=true:=by
    unfold sF;rcases(by omega:i=0∨i=1) with rfl | rfl
    ·simp at hw;simp[hw]
    ·simp at hw;simp[hw]
   exact aS (h:=fun _ _=>by rw[hr])
  ·
   refine aB ?_
   exact dY (2 - (i+1)) ⟨i+1,by omega,rfl,(fun j hj=>by
    rcases Nat.lt_or_ge j i with h1 | h1
    ·exact hno j h1
    ·obtain rfl:j=i:=by omega
     exact hw),rfl,rfl,rfl⟩
 ·
  refine aB ?_
  have hi2:i=2:=by have h':¬(i:Int) < 2:=h;omega
  subst hi2
  have e0:=hno 0 (by omega)
  have e1:=hno 1 (by omega)
  have hr:sF x y k id=false:=by
   unfold sF;simp at e0 e1;simp[e0,e1]
  exact aS (h:=fun _ _=>by rw[hr])
theorem aL4(k:Int)(A:Option Addr)(n c:Nat)(r m d l:Int)(w:World):
  Cz 221 #[.agg #[.int .u8 k,.slice A n c,.int .u64 r,iv m,iv d,iv l]] w (Rt (.bool (decide (k=112∨k=103))) w):=by
 refine aL func221 ntmps221 ?_;refine aB ?_;refine bA fun g1=>?_;refine aB ?_
 (first | refine bU (t:=6) rfl (fun hg=>?_) (fun hg=>?_) | refine sE (t:=6) rfl (fun hg=>?_) (fun hg=>?_))
 ·
  refine aB ?_;exact aS (h:=fun _ _=>by simp_all)
 ·
  refine aB ?_;exact aS (h:=fun _ _=>by simp_all)
end
section
def kP(p:Int×Int):Value:=.agg #[.int .i64 p.1,.int .i64 p.2]
def Lg(w:World)(r:Nat)(l:List ((Int×Int)×Value)):Prop:=∃es clock,w.heap[r]? =some (.map es clock)∧es.toList.map (fun x=>(x.key,x.val))=l.map fun p=>(kP p.1,p.2)
def lO(l:List ((Int×Int)×Value))(k:Int×Int):Option Value:=(l.find? fun p=>decide (p.1=k)).map (·.2)
theorem Mc(a:Int×Int)(b:Value)(l:List ((Int×Int)×Value))(k:Int×Int):lO ((a,b)::l) k=if a=k then some b else lO l k:=by
 unfold lO;rw[List.find?_cons]
 by_cases h:a=k<;>simp[h]
section
variable{P:Program}{w:World}{kt:TypeId}
theorem aQP(hfl:∀a b c d:Int,Rs P kt [.int .i64 a,.int .i64 b] [.int .i64 c,.int .i64 d]=true)(p q:Int×Int):(Op.equal kt (kP p) (kP q)).run P w=.ok (decide (q=p)) w:=by
 obtain⟨h,_⟩:=aMc (P:=P) (w:=w) (hfl p.1 p.2 q.1 q.2);rw[show kP p=.agg [Value.int .i64 p.1,.int .i64 p.2].toArray from rfl,show kP q=.agg [Value.int .i64 q.1,.int .i64 q.2].toArray from rfl,h]
 congr 1
 obtain⟨a,b⟩:=p;obtain⟨c,d⟩:=q;simp only[Rx,eqV,Prod.mk.injEq]
 by_cases h1:a=c
 ·subst h1
  by_cases h2:b=d
  ·subst h2;simp
  ·have h3:¬d=b:=fun e=>h2 e.symm
   simp[h2,h3]
 ·have h3:¬c=a:=fun e=>h1 e.symm
  simp[h1,h3]
theorem aJ2(hfl:∀a b c d:Int,Rs P kt [.int .i64 a,.int .i64 b] [.int .i64 c,.int .i64 d]=true)(k:Int×Int):∀(es:List MapEntry) (l:List ((Int×Int)×Value)) (i:Nat),es.map (fun x=>(x.key,x.val))=l.map (fun p=>(kP p.1,p.2))→
  ∃q,(Instr.findAsking kt (kP k) es i).run P w=.ok q w∧q.map (·.2)=lO l k
 | [],l,i,h=>by
  cases l with
  | nil=>exact⟨none,by simp[Instr.findAsking],rfl⟩
  | cons _ _=>cases h
 | e :: es, l, i, h => by
  cases l with
  | nil=>cases h
  | cons p l =>
   simp only[List.map_cons,List.cons.injEq,Prod.mk.injEq] at h;obtain⟨⟨h1,h2⟩,h3⟩:=h;obtain⟨q,Cq,uR⟩:=aJ2 hfl k es l (i+1) h3;obtain⟨a,b⟩:=p
   have he:=aQP (w:=w) hfl k a
   rw[←h1] at he
   by_cases hk:a=k
   ·refine⟨some (i,e.val),?_,?_⟩
    ·unfold Instr.findAsking;simp[Sem.run_bind,he,hk]
    ·rw[Mc,if_pos hk];simp[h2]
   ·refine⟨q,?_,?_⟩
    ·unfold Instr.findAsking;simp[Sem.run_bind,he,hk,Cq]
    ·rw[Mc,if_neg hk];exact uR
theorem aJn{f0 f1:Field}{k0 k1:IntKind}(hk:P.underlying kt=some (.struct #[f0,f1]))(h0:P.underlying f0.type=some (.int k0))(h1:P.underlying f1.type=some (.int k1))(o0:f0.offset=0)(o1:f1.offset=1)(p:Int×Int)(b:Bool):(Instr.checkKey b 10000 kt (kP p)).run P w=.ok () w:=by
 have e0:=aAz (P:=P) (w:=w) (cs:=#[.int .i64 p.1,.int .i64 p.2]) (i:=0) (v:=.int .i64 p.1) h0 (.inl ⟨_,rfl⟩) rfl
 have e1:=aAz (P:=P) (w:=w) (cs:=#[.int .i64 p.1,.int .i64 p.2]) (i:=1) (v:=.int .i64 p.2) h1 (.inl ⟨_,rfl⟩) rfl
 have c0:(Instr.checkKey b 9999 f0.type (.int .i64 p.1)).run P w=.ok () w:=by
  unfold Instr.checkKey;simp[Sem.run_bind,run_underlying h0]
 have c1:(Instr.checkKey b 9999 f1.type (.int .i64 p.2)).run P w=.ok () w:=by
  unfold Instr.checkKey;simp[Sem.run_bind,run_underlying h1]
 unfold Instr.checkKey kP
 by_cases n0:f0.name= "_" <;>by_cases n1:f1.name= "_" <;>simp[Sem.run_bind,run_underlying hk,n0,n1,o0,o1,e0,e1,c0,c1]
end
structure Dn(P:Program)(kt:TypeId):Prop where
 st:∃f0 f1 k0 k1,P.underlying kt=some (.struct #[f0,f1])∧P.underlying f0.type=some (.int k0)∧P.underlying f1.type=some (.int k1)∧f0.offset=0∧f1.offset=1
 fl:∀a b c d:Int,Rs P kt [.int .i64 a,.int .i64 b] [.int .i64 c,.int .i64 d]=true
theorem Dn.of{P:Program}{kt:TypeId}{f0 f1:Field}{k0 k1:IntKind}(h:P.underlying kt=some (.struct #[f0,f1]))(h0:P.underlying f0.type=some (.int k0))(h1:P.underlying f1.type=some (.int k1))(o0:f0.offset=0)(o1:f1.offset=1)(fl:∀a b c d:Int,Rs P kt [.int .i64 a,.int .i64 b] [.int .i64 c,.int .i64 d]=true):Dn P kt:=⟨⟨f0,f1,k0,k1,h,h0,h1,o0,o1⟩,fl⟩
section
variable{P:Program}{w:World}{t kt et:TypeId}{r:Nat}{l:List ((Int×Int)×Value)}
theorem aIB(hk:Dn P kt)(k:Int×Int)(es:List MapEntry)(h:es.map (fun x=>(x.key,x.val))=l.map (fun p=>(kP p.1,p.2))):∃q,(Instr.findKey kt (kP k) es).run P w=.ok q w∧q.map (·.2)=lO l k:=by
 obtain⟨f0,f1,k0,k1,hu,_⟩:=hk.st;obtain⟨q,h1,h2⟩:=aJ2 (w:=w) hk.fl k es l 0 h;cases es with
 | nil=>
  cases l with
  | cons _ _=>cases h
  | nil=>exact⟨none,by simp[Instr.findKey,Sem.run_bind,run_underlying hu,Instr.findNow],rfl⟩
 | cons e es =>
  refine⟨q,?_,h2⟩;unfold Instr.findKey
  have:Instr.findNow (.struct #[f0,f1]) (kP k) (e::es) 0=none:=by
   unfold Instr.findNow Instr.sameNow;rfl
  simp[Sem.run_bind,run_underlying hu,this,h1]
theorem aLV{z:Value}(ht:P.underlying t=some (.map kt et))(hk:Dn P kt)(hz:∀w,(zeroValue et).run P w=.ok z w)(h:Lg w r l)(k:Int×Int)(ok:Bool):
  (Instr.lookup t (.map (some r)) (kP k) ok).run P w=.ok (if ok then .tuple #[(lO l k).getD z,.bool (lO l k).isSome] else(lO l k).getD z) w:=by
 obtain⟨es,c,h1,h2⟩:=h;obtain⟨q,hf,uR⟩:=aIB (w:=w) hk k es.toList h2;obtain⟨f0,f1,k0,k1,hu,u0,u1,o0,o1⟩:=hk.st
 have hc:=fun b=>aJn (w:=w) hu u0 u1 o0 o1 k b
 unfold Instr.lookup;rw[←uR];cases q with
 | none=>cases ok<;>simp[Sem.run_bind,run_underlying ht,run_getObj_map h1,hc,hf,hz]
 | some x=>obtain⟨j,v⟩:=x;cases ok<;>simp[Sem.run_bind,run_underlying ht,run_getObj_map h1,hc,hf]
theorem aLX(ht:P.underlying t=some (.map kt et))(hk:Dn P kt)(h:Lg w r l)(k:Int×Int)(v:Value)(hno:lO l k=none):
  ∃es c,(Instr.mapUpdate t (.map (some r)) (kP k) v).run P w=.ok () {w with heap:=w.heap.setIfInBounds r (.map es c)}∧es.toList.map (fun x=>(x.key,x.val))=(l++[(k,v)]).map fun p=>(kP p.1,p.2):=by
 obtain⟨es,c,h1,h2⟩:=h;obtain⟨q,hf,uR⟩:=aIB (w:=w) hk k es.toList h2;obtain⟨f0,f1,k0,k1,hu,u0,u1,o0,o1⟩:=hk.st
 have hc:=fun b=>aJn (w:=w) hu u0 u1 o0 o1 k b
 have iX:∀o,(setObj r o).run P w=.ok () {w with heap:=w.heap.setIfInBounds r o}:=fun o=>by simp[setObj,Sem.run,h1]
 rw[hno] at uR;obtain rfl:q=none:=by cases q with | none=>rfl | some x=>cases uR
 refine⟨es.push {key:=kP k,val:=v,born:=c},c+1,?_,?_⟩
 ·unfold Instr.mapUpdate;simp[Sem.run_bind,run_underlying ht,run_getObj_map h1,hc,hf,iX]
 ·rw[Array.toList_push,List.map_append,h2];simp
end
def HP.vN(r:Nat)(l:List ((Int×Int)×Value)):HP:=⟨fun F w=>F r∧Lg w r l,fun F w w' h hk=>⟨h.1,by
 obtain⟨es,c,h1,h2⟩:=h.2
 exact⟨es,c,(hk r h.1).trans h1,h2⟩⟩⟩
theorem Lg.lt{w:World}{r:Nat}{l:List ((Int×Int)×Value)}(h:Lg w r l):r < w.heap.size:=by
 obtain⟨es,c,h1,_⟩:=h;rcases Nat.lt_or_ge r w.heap.size with h | h
 ·exact h
 ·rw[Array.getElem?_eq_none h] at h1;cases h1
section
variable{P:Program}{N:bZ}{w0 w:World}{e:Env}{R:List Piece}{H:List HP}{Q:Exit→Act→World→Prop}{ops:Array Oper}{rest:List Oper}
variable{d:Nat}{ty:TypeId}{pos:String}{aH:Array Edge}
theorem St.vN(st:St w0 R H w){i r:Nat}{l:List ((Int×Int)×Value)}(hi:H[i]? =some (HP.vN r l)):Lg w r l:=(st.sat hi).choose_spec.2
theorem aKG{t:TypeId}(hd:d < N.n)(k:∀g,XK N w0 (wpList P ops Q rest) ((d,.map (some g))::e) R (HP.vN g []::H)):XK N w0 (wpList P ops Q (⟨some d,.makeMap t none,ty,pos,aH,none⟩::rest)) e R H:=
 vE rfl fun a w hr st=>⟨.map (some w.heap.size),w.alloc (.map #[] 0),by simp[execOp,Instr.makeMap],k w.heap.size _ _ (hr.put hd _) (st.new (Sn w _) ⟨⟨Nat.le_refl _,by simp⟩,#[],0,heap_alloc_new w _,rfl⟩)⟩
theorem aKK{x y:Operand}{t kt et:TypeId}{z:Value}{r:Nat}{l:List ((Int×Int)×Value)}{k:Int×Int}(ok:Bool)(ht:P.underlying t=some (.map kt et))(hk:Dn P kt)(hz:(P.info? et).bind (·.zero)=some z)
  (hx:e.ev x=some (.map (some r))) (hy:e.ev y=some (kP k)) (hm:∀w,St w0 R H w→Lg w r l) (hd:d < N.n)
  (kk:XK N w0 (wpList P ops Q rest) ((d,if ok then .tuple #[(lO l k).getD z,.bool (lO l k).isSome] else(lO l k).getD z)::e) R H):XK N w0 (wpList P ops Q (⟨some d,.lookup t x y ok,ty,pos,aH,none⟩::rest)) e R H:=
 vE rfl fun a w hr st=>⟨_,w,by simp only[execOp,hr.ev hx,hr.ev hy,Sem.run_bind,aLV ht hk (zeroV hz) (hm w st),Result.andThen_ok,Sem.run_pure],kk _ _ (hr.put hd _) st⟩
theorem aCv{x y:Operand}{t kt et:TypeId}{z v:Value}{r:Nat}{l:List ((Int×Int)×Value)}{k:Int×Int}{b:Bool}(ht:P.underlying t=some (.map kt et))(hk:Dn P kt)(hz:(P.info? et).bind (·.zero)=some z)
  (hx:e.ev x=some (.map (some r))) (hy:e.ev y=some (kP k)) (hm:∀w,St w0 R H w→Lg w r l) (hv:(lO l k).getD z=v) (hb:(lO l k).isSome=b) (hd:d < N.n)
  (kk:XK N w0 (wpList P ops Q rest) ((d,.tuple #[v,.bool b])::e) R H):XK N w0 (wpList P ops Q (⟨some d,.lookup t x y true,ty,pos,aH,none⟩::rest)) e R H:=
 aKK true ht hk hz hx hy hm hd (by subst hv;subst hb;exact kk)
theorem aKL(i:Nat){x y u:Operand}{t kt et:TypeId}{r:Nat}{l:List ((Int×Int)×Value)}{k:Int×Int}{v:Value}(ht:P.underlying t=some (.map kt et))(hk:Dn P kt)(hi:H[i]? =some (HP.vN r l))(hno:lO l k=none)
  (hx:e.ev x=some (.map (some r))) (hy:e.ev y=some (kP k)) (hu:e.ev u=some v) (kk:XK N w0 (wpList P ops Q rest) e R (H.set i (HP.vN r (l++[(k,v)])))):XK N w0 (wpList P ops Q (⟨none,.insert t x y u,ty,pos,aH,none⟩::rest)) e R H:=
 aCu rfl rfl fun a w hr st=>by
  have hm:=st.vN hi
  have hlt:=hm.lt
  obtain⟨es,c,hrun,hl⟩:=aLX (P:=P) ht hk hm k v hno;refine⟨{w with heap:=w.heap.setIfInBounds r (.map es c)},by simp only[execOp,hr.ev hx,hr.ev hy,hr.ev hu,Sem.run_bind,hrun,Result.andThen_ok,Sem.run_pure],kk _ _ hr ?_⟩;refine st.xP hi (by simp) rfl rfl rfl fun F hF hb=>⟨F,⟨hF.1,es,c,by simp[Array.getElem?_setIfInBounds,hlt],hl⟩,fun b h=>⟨.inl h,by simpa using hb b h⟩,fun b hb hnb=>?_⟩
  rw[Array.getElem?_setIfInBounds];split
  ·rename_i he;exact absurd (he▸hF.1) hnb
  ·rfl
end
end
section
theorem aH4:∀(sub:List Nat) (l:Array Bool),(kS sub l).size=l.size
 | [],l=>rfl
 | i::sub,l=>by
  show((kS sub l).setIfInBounds i true).size=_
  rw[Array.size_setIfInBounds,aH4 sub l]
theorem aDt:∀(sub:List Nat) (l:Array Bool) (i:Nat) (b:Bool),i∈sub→i < l.size→(kS sub l).getD i b=true
 | j :: sub, l, i, b, h, hi => by
  show((kS sub l).setIfInBounds j true).getD i b=true
  by_cases e:j=i
  ·subst e
   have:j < (kS sub l).size:=by rw[aH4];exact hi
   simp[this]
  ·rw[getD_set_ne b e];rcases List.mem_cons.1 h with h | h
   ·exact absurd h.symm e
   ·exact aDt sub l i b h hi
theorem Vp:∀(sub:List Nat) (l:Array Bool) (i:Nat) (b:Bool),i∉sub→(kS sub l).getD i b=l.getD i b
 | [],l,i,b,_=>rfl
 | j::sub,l,i,b,h=>by
  show((kS sub l).setIfInBounds j true).getD i b=_
  have e:j≠i:=fun e=>h (by simp[e])
  rw[getD_set_ne b e];exact Vp sub l i b fun h2=>h (by simp[h2])
theorem aOA{sub:List Nat}{l:Array Bool}{i:Nat}(h:l.getD i false=true):(kS sub l).getD i false=true:=by
 by_cases hi:i∈sub
 ·refine aDt sub l i false hi ?_;rcases Nat.lt_or_ge i l.size with h1 | h1
  ·exact h1
  ·simp[Array.getElem?_eq_none h1] at h
 ·rw[Vp sub l i false hi];exact h
def aD5(ops:Array Oper)(I:List Nat)(listed:Array Bool):Bool:=
 I.all (fun i=>decide (i < listed.size)&& !(listed.getD i true)&&match ops[i]? with
  | some o=>o.after.toList.all fun x=> !(Region.binds .any x)||listed.getD x.on false
  | none=>false)&&
 (List.range ops.size).all fun j=>I.contains j||listed.getD j true||match ops[j]? with
  | some o=>I.all fun i=>o.after.toList.any fun x=>Region.binds .any x&&x.on==i
  | none=>true
theorem aNi{ops:Array Oper}{I sub:List Nat}{listed:Array Bool}(hB:aD5 ops I listed=true)(hsub:∀i∈sub,i∈I){i0:Nat}(oU:i0∈I)(hn0:i0∉sub):
  Region.ready .any ops (kS sub listed)≠[]∧∀j∈Region.ready .any ops (kS sub listed),j∈I∧j∉sub:=by
 unfold aD5 at hB;rw[Bool.and_eq_true,List.all_eq_true,List.all_eq_true] at hB;obtain⟨hA,hC⟩:=hB
 have h0:=hA i0 oU
 simp only[Bool.and_eq_true,decide_eq_true_eq,Bool.not_eq_true'] at h0;obtain⟨⟨h1,h2⟩,h3⟩:=h0;constructor
 ·cases ho:ops[i0]? with
  | none=>rw[ho] at h3;cases h3
  | some o =>
   rw[ho] at h3;simp only[List.all_eq_true] at h3
   have:i0∈Region.ready .any ops (kS sub listed):=mem_ready.2 ⟨by rw[Vp _ _ _ _ hn0];exact h2,o,ho,fun x hx hb=>by
    have:=h3 x (by simpa using hx)
    rw[hb] at this
    exact aOA (by simpa using this)⟩
   intro he;rw[he] at this;cases this
 ·intro j hj;obtain⟨g1,o,ho,g2⟩:=mem_ready.1 hj
  have hjn:j∉sub:=fun h=>by
   have rX:=hA j (hsub j h)
   simp only[Bool.and_eq_true,decide_eq_true_eq] at rX;rw[aDt sub listed j true h rX.1.1] at g1;cases g1
  refine⟨?_,hjn⟩;rw[Vp _ _ _ _ hjn] at g1
  have hlt:j < ops.size:=(Array.getElem?_eq_some_iff.1 ho).1
  have hc:=hC j (List.mem_range.2 hlt)
  rw[g1,ho] at hc;simp only[Bool.or_false,Bool.or_eq_true] at hc;rcases hc with hc | hc
  ·simpa using hc
  ·exfalso;rw[List.all_eq_true] at hc
   have:=hc i0 oU
   rw[List.any_eq_true] at this;obtain⟨x,hx,hb⟩:=this;simp only[Bool.and_eq_true,beq_iff_eq] at hb
   have:=g2 x (by simpa using hx) hb.1
   rw[hb.2,Vp _ _ _ _ hn0] at this
   have h4:listed.getD i0 true=listed.getD i0 false:=by simp[h1]
   rw[h4,this] at h2;cases h2
theorem aHb{I sub:List Nat}(hI:I.Nodup)(hn:sub.Nodup)(hin:∀i∈sub,i∈I):(I.filter fun i=>sub.contains i).Perm sub:=by
 rw[List.perm_iff_count];intro a;rw[(hI.sublist List.filter_sublist).count,hn.count]
 by_cases ha:a∈sub
 ·rw[if_pos ha,if_pos (by simp[ha,hin a ha])]
 ·rw[if_neg ha,if_neg (by simp[ha])]
theorem aOz{l1 l2:List ((Int×Int)×Value)}(h:l1.Perm l2)(hn:(l1.map (·.1)).Nodup)(k:Int×Int):lO l1 k=lO l2 k:=by
 induction h with
 | nil=>rfl
 | cons x _ ih=>
  obtain⟨a,b⟩:=x;rw[Mc,Mc,ih (List.nodup_cons.1 hn).2]
 | swap x y s =>
  obtain⟨a,b⟩:=x;obtain⟨c,d⟩:=y
  have hne:c≠a:=fun e=>(List.nodup_cons.1 hn).1 (by rw[e];simp)
  simp only[Mc]
  by_cases h1:a=k
  ·have:c≠k:=fun e=>hne (e.trans h1.symm)
   simp[h1,this]
  ·simp[h1]
 | trans h1 h2 i1 i2=>exact(i1 hn).trans (i2 ((h1.map _).nodup_iff.1 hn))
theorem aO0{l:List ((Int×Int)×Value)}{k:Int×Int}(h:k∉l.map (·.1)):lO l k=none:=by
 induction l with
 | nil=>rfl
 | cons x l ih=>
  obtain⟨a,b⟩:=x;rw[List.map_cons,List.mem_cons,not_or] at h;rw[Mc,if_neg (fun e=>h.1 e.symm)];exact ih h.2
section
variable{P:Program}{N:bZ}{w0 w:World}{e:Env}{R R0:List Piece}{H H0:List HP}{Q:Exit→Act→World→Prop}{ops:Array Oper}{m fuel:Nat}{listed:Array Bool}
def Lays(P:Program)(ops:Array Oper)(e:Env)(r:Nat)(i:Nat)(p:(Int×Int)×Value):Prop:=∃x y u ty pos aH t kt et,ops[i]? =some ⟨none,.insert t x y u,ty,pos,aH,none⟩∧P.underlying t=some (.map kt et)∧Dn P kt∧e.ev x=some (.map (some r))∧e.ev y=some (kP p.1)∧e.ev u=some p.2
theorem aTH(I:List Nat)(Ni:Nat→(Int×Int)×Value)(r:Nat)(hI:I.Nodup)(hop:∀i∈I,Lays P ops e r i (Ni i))(hkeys:(I.map fun i=>(Ni i).1).Nodup)(hB:aD5 ops I listed=true)
  (hS:∀l w,St w0 R (HP.vN r l::H) w→St w0 R0 H0 w)
  (k:∀sub:List Nat,sub.Perm I→XA P N w0 ops Q R0 H0 m fuel (kS sub listed) e R (HP.vN r (sub.reverse.map Ni)::H)):XA P N w0 ops Q R0 H0 m (fuel+I.length) listed e R (HP.vN r []::H):=by
 have key : ∀ (n : Nat) (sub : List Nat), sub.Nodup → (∀ i ∈ sub, i ∈ I) → sub.length + n = I.length → XA P N w0 ops Q R0 H0 m (fuel + n) (kS sub listed) e R (HP.vN r (sub.reverse.map Ni) :: H) := by
  intro n
  induction n with
  | zero=>
   intro sub hn hin hl
   have hp:=aHb hI hn hin
   have hf:(I.filter fun i=>sub.contains i)=I:=List.filter_sublist.eq_of_length (by have:=hp.length_eq;omega)
   rw[hf] at hp;exact k sub hp.symm
  | succ n ih =>
   intro sub hn hin hl
   obtain⟨i0,oU,hn0⟩:∃i,i∈I∧i∉sub:=Classical.byContradiction fun hno=>by
    have hp:=aHb hI hn hin
    have hf:(I.filter fun i=>sub.contains i)=I:=List.filter_eq_self.2 fun i hi=>by
     rcases Classical.em (i∈sub) with h | h
     ·simpa using h
     ·exact absurd ⟨i,hi,h⟩ hno
    rw[hf] at hp
    have:=hp.length_eq
    omega
   obtain⟨r1,r2⟩:=aNi hB hin oU hn0;intro up a w cT st;refine⟨fun h=>absurd h r1,fun i hi=>?_⟩;obtain⟨hiI,Wk⟩:=r2 i hi;obtain⟨x,y,u,ty,pos,aH,t,kt,et,ho,ht,hk,hx,hy,hu⟩:=hop i hiI
   have hno:lO (sub.reverse.map Ni) (Ni i).1=none:=aO0 fun hm=>by
    simp only[List.map_map,List.mem_map,List.mem_reverse,Function.comp] at hm;obtain⟨j,hj,he⟩:=hm
    have hji:j≠i:=fun e=>Wk (e▸hj)
    exact hji (Classical.byContradiction fun hne=>by
     have h1:=List.pairwise_map.1 hkeys
     exact absurd he (by
      obtain⟨a,ha⟩:=List.getElem?_of_mem (hin j hj);obtain⟨b,hb⟩:=List.getElem?_of_mem hiI
      have hal:=(List.getElem?_eq_some_iff.1 ha).1
      have hbl:=(List.getElem?_eq_some_iff.1 hb).1
      have hav:=(List.getElem?_eq_some_iff.1 ha).2
      have Xc:=(List.getElem?_eq_some_iff.1 hb).2
      have h2:=List.pairwise_iff_getElem.1 h1
      rcases Nat.lt_trichotomy a b with h | h | h
      ·have:=h2 a b hal hbl h;rw[hav,Xc] at this;exact this
      ·subst h;exact absurd (hav.symm.trans Xc) hji
      ·have:=h2 b a hbl hal h;rw[hav,Xc] at this;exact fun e=>this e.symm))
   refine Ea ho (fun a w h=>⟨h.1,h.2 (up.mA hi)⟩) (K:=tT P w0 ops Q R0 H0 m (fuel+n) (kS sub listed) i) ?_
   have:=aKL (P:=P) (N:=N) (w0:=w0) (R:=R) (H:=HP.vN r (sub.reverse.map Ni)::H) (Q:=Exit.then (tT P w0 ops Q R0 H0 m (fuel+n) (kS sub listed) i) Q) (ops:=ops) (rest:=[]) (ty:=ty) (pos:=pos) (aH:=aH) 0 ht hk rfl hno hx hy hu
    (iD (gQ (kW (hS _) (by
     have:=ih (i::sub) (List.nodup_cons.2 ⟨Wk,hn⟩) (fun j hj=>by
      rcases List.mem_cons.1 hj with rfl | hj
      ·exact hiI
      ·exact hin j hj) (by simp only[List.length_cons];omega)
     rw[List.reverse_cons,List.map_append] at this
     exact this))))
   exact this a w cT st
 exact key I.length [] List.nodup_nil (fun _ h=>by cases h) (by simp)
end
end
end Go.Proofs.YtdcdccmpcmjmhaaGreatDoor
