/- conf: what is right of a clock, a domain, a reset line, a device, and of how many there are. -/
import Derived.KernelRfl
import Derived.Laws.StructEq
import Derived.Test.YtdcdccmpcmjmhaaGreatDoorProg
import Derived.Test.YtdcdccmpcmjmhaaGreatDoorRpmUsesK2
namespace Go.Proofs.YtdcdccmpcmjmhaaGreatDoor
set_option linter.all false
set_option maxHeartbeats 4000000
set_option maxRecDepth 20000
open Go.RowKit Go.Proofs.Tryz
section
def mG(kind:Int)(n:Nat):Bool:=if kind=111 then decide (n=0) else if kind=112∨kind=100∨kind=103 then decide (n=1) else if kind=109 then iV n 1 4 else false
def uN(kind rate mul div lock:Int):Bool:=
 if kind=111 then decide (1≤rate)&&decide (rate≤1099511627776) else if kind=112 then iV mul 1 1000&&iV div 1 1000&&iV lock 0 20 else if kind=100 then iV div 1 1000 else true
def Of(n1:Nat)(c:eF):Int:=lJ [jF (!mG c.kind c.src.length) 1,lJ (c.src.map fun f=>jF (!iV f 0 ((n1:Int) - 1)) 4),jF (!uN c.kind c.rate c.mul c.div c.lock) 3]
def Sq(n2:Nat)(d:Dom):Int:=lJ [jF (decide (¬d.above= -1)&& !iV d.above 0 ((n2:Int) - 1)) 4,jF (!iV d.delay 0 20) 3]
def aAL(r:Int):Int:=jF (!iV r 0 20) 3
def Sv(n1 n2 n3 n4:Nat)(d:bO):Int:=
 lJ [jF (!iV d.clock 0 ((n1:Int) - 1)) 4,jF (!iV d.domain 0 ((n2:Int) - 1)) 4,jF (!iV d.reset 0 ((n3:Int) - 1)) 4,lJ (d.iS.map fun f=>jF (!iV f 0 ((n4:Int) - 1)) 4)]
def Qu(d:bO):Int:=jF (decide ((8:Int) < d.aO.length)||decide ((6:Int) < d.iS.length)) 8
theorem aIR(l:List Value):(l.map fun v=>[v]).flatten=l:=by induction l<;>simp_all
theorem aMq(kind rate mul div lock:Int)(A:Option Addr)(n k:Nat)(w:World):
  Cz 196 #[.agg #[.int .u8 kind,.slice A n k,.int .u64 rate,iv mul,iv div,iv lock]] w (Rt (.bool (mG kind n)) w):=by
 refine aM func196 ntmps196 ?_;refine aB ?_;refine bA fun g1=>?_;refine aB ?_;refine aG rfl (fun h=>?_) (fun h=>?_)
 ·
  refine aB ?_;exact aT (h:=fun _ _=>by first | (exfalso;omega) | (simp[mG, *];done) | (simp[mG, *];omega))
 ·
  refine aB ?_;refine aG rfl (fun h=>?_) (fun h=>?_)
  ·
   refine aB ?_;refine aG rfl (fun h=>?_) (fun h=>?_)
   ·
    refine aB ?_;exact aT (h:=fun _ _=>by first | (exfalso;omega) | (simp[mG, *];done) | (simp[mG, *];omega))
   ·
    refine aB ?_;refine aG rfl (fun h=>?_) (fun h=>?_)
    ·
     refine aB ?_;refine dG (fun w1 st=>vI _ _ _ w1) ?_;refine aB ?_;exact aT (h:=fun _ _=>by first | (exfalso;omega) | (simp[mG, *];done) | (simp[mG, *];omega))
    ·
     refine aB ?_;exact aT (h:=fun _ _=>by first | (exfalso;omega) | (simp[mG, *];done) | (simp[mG, *];omega))
  ·
   refine aB ?_;refine aG rfl (fun h=>?_) (fun h=>?_)
   ·
    refine aB ?_;refine aG rfl (fun h=>?_) (fun h=>?_)
    ·
     refine aB ?_;exact aT (h:=fun _ _=>by first | (exfalso;omega) | (simp[mG, *];done) | (simp[mG, *];omega))
    ·
     refine aB ?_;refine aG rfl (fun h=>?_) (fun h=>?_)
     ·
      refine aB ?_;refine dG (fun w1 st=>vI _ _ _ w1) ?_;refine aB ?_;exact aT (h:=fun _ _=>by first | (exfalso;omega) | (simp[mG, *];done) | (simp[mG, *];omega))
     ·
      refine aB ?_;exact aT (h:=fun _ _=>by first | (exfalso;omega) | (simp[mG, *];done) | (simp[mG, *];omega))
   ·
    refine aB ?_;refine aG rfl (fun h=>?_) (fun h=>?_)
    ·
     refine aB ?_;exact aT (h:=fun _ _=>by first | (exfalso;omega) | (simp[mG, *];done) | (simp[mG, *];omega))
    ·
     refine aB ?_;refine aG rfl (fun h=>?_) (fun h=>?_)
     ·
      refine aB ?_;refine dG (fun w1 st=>vI _ _ _ w1) ?_;refine aB ?_;exact aT (h:=fun _ _=>by first | (exfalso;omega) | (simp[mG, *];done) | (simp[mG, *];omega))
     ·
      refine aB ?_;exact aT (h:=fun _ _=>by first | (exfalso;omega) | (simp[mG, *];done) | (simp[mG, *];omega))
theorem aOE(kind rate mul div lock:Int)(A:Option Addr)(n k:Nat)(w:World):
  Cz 202 #[.agg #[.int .u8 kind,.slice A n k,.int .u64 rate,iv mul,iv div,iv lock]] w (Rt (.bool (uN kind rate mul div lock)) w):=by
 refine aM func202 ntmps202 ?_;refine aB ?_;refine bA fun g1=>?_;refine aB ?_;refine aG rfl (fun h=>?_) (fun h=>?_)
 ·
  refine aB ?_;refine sM (t:=10) rfl (fun hg=>?_) (fun hg=>?_)
  ·
   refine aB ?_;exact aT (h:=fun _ _=>by simp[uN, *])
  ·
   refine aB ?_;exact aT (h:=fun _ _=>by simp[uN, *])
 ·
  refine aB ?_;refine aG rfl (fun h=>?_) (fun h=>?_)
  ·
   refine aB ?_;refine dG (fun w1 st=>vI _ _ _ w1) ?_;refine aB ?_;refine sM (t:=20) rfl (fun hg=>?_) (fun hg=>?_)
   ·
    refine aB ?_;refine dG (fun w1 st=>vI _ _ _ w1) ?_;refine aB ?_;refine sM (t:=25) rfl (fun hg=>?_) (fun hg=>?_)
    ·
     refine aB ?_;refine dG (fun w1 st=>vI _ _ _ w1) ?_;refine aB ?_;exact aT (h:=fun _ _=>by simp[uN, *])
    ·
     refine aB ?_;exact aT (h:=fun _ _=>by simp[uN, *])
   ·
    refine aB ?_;exact aT (h:=fun _ _=>by simp[uN, *])
  ·
   refine aB ?_;refine aG rfl (fun h=>?_) (fun h=>?_)
   ·
    refine aB ?_;refine dG (fun w1 st=>vI _ _ _ w1) ?_;refine aB ?_;exact aT (h:=fun _ _=>by simp[uN, *])
   ·
    refine aB ?_;exact aT (h:=fun _ _=>by simp[uN, *])
theorem aSN(kind rate mul div lock:Int)(A:Option Addr)(n k:Nat)(gc:Nat)(w:World)(hb:eD w gc 0 [.int .u8 kind,.slice A n k,.int .u64 rate,iv mul,iv div,iv lock]):
  Cz 195 #[pt gc] w (Rt (iv (jF (!mG kind n) 1)) w):=by
 refine aM func195 ntmps195 ?_;refine aB ?_;refine dG (fun w1 st=>aMq _ _ _ _ _ _ _ _ w1) ?_;refine aB ?_;refine dG (fun w1 st=>wP _ _ w1) ?_;refine aB ?_;exact aT (h:=fun _ _=>rfl)
theorem aSK(kind rate mul div lock:Int)(A:Option Addr)(n k:Nat)(gc:Nat)(w:World)(hb:eD w gc 0 [.int .u8 kind,.slice A n k,.int .u64 rate,iv mul,iv div,iv lock]):
  Cz 201 #[pt gc] w (Rt (iv (jF (!uN kind rate mul div lock) 3)) w):=by
 refine aM func201 ntmps201 ?_;refine aB ?_;refine dG (fun w1 st=>aOE _ _ _ _ _ _ _ _ w1) ?_;refine aB ?_;refine dG (fun w1 st=>wP _ _ w1) ?_;refine aB ?_;exact aT (h:=fun _ _=>rfl)
theorem aSL(f:Int)(A1 A2 A3 A4:Option Addr)(n1 k1 n2 k2 n3 k3 n4 k4:Nat)(gs:Nat)(w:World)(hs:eD w gs 0 [.slice A1 n1 k1,.slice A2 n2 k2,.slice A3 n3 k3,.slice A4 n4 k4])(mP:(n1:Int)≤9223372036854775806):
  Cz 199 #[iv f,pt gs] w (Rt (iv (jF (!iV f 0 ((n1:Int) - 1)) 4)) w):=by
 refine aM func199 ntmps199 ?_;refine aB ?_;refine dG (fun w1 st=>vI _ _ _ w1) ?_;refine aB ?_;refine dG (fun w1 st=>wP _ _ w1) ?_;refine aB ?_;exact aT (h:=fun _ _=>rfl)
theorem aSM(kind rate mul div lock:Int)(A:Option Addr)(n k:Nat)(A1 A2 A3 A4:Option Addr)(n1 k1 n2 k2 n3 k3 n4 k4:Nat)(gc gs:Nat)(w:World)(hb:eD w gc 0 [.int .u8 kind,.slice A n k,.int .u64 rate,iv mul,iv div,iv lock])(hs:eD w gs 0 [.slice A1 n1 k1,.slice A2 n2 k2,.slice A3 n3 k3,.slice A4 n4 k4])(mP:(n1:Int)≤9223372036854775806)(zs:List Int)(hA:aI (all w) 1 A n (aK zs))(hn:n=zs.length)(hz:(n:Int)≤9223372036854775806):
  Cz 197 #[pt gc,pt gs] w (Rt (iv (lJ (zs.map fun f=>jF (!iV f 0 ((n1:Int) - 1)) 4))) w):=by
 refine aM func197 ntmps197 ?_;refine aA ?_;refine kS (vf:=[]) (vc:=[pt gs]) rfl rfl (by decide) ?_
 refine dG (fun w1 st=>aJd _ _ _ 199 [pt gs] ((aK zs).map fun v=>[v]) (zs.map fun f=>jF (!iV f 0 ((n1:Int) - 1)) 4) w1 (by rw[aIR];exact hA.le (jU (st.started (by simp)))) (by simp) (by simp[aK];omega) (by simp;omega) (by omega) (by kernel_rfl) (fun i r x hr hx w2 eX=>by
  obtain⟨f,hf,rfl⟩:∃f,zs[i]? =some f∧r=[iv f]:=by
   rw[List.getElem?_map,aK,List.getElem?_map] at hr;cases hq:zs[i]? with
   | none=>simp[hq] at hr
   | some f=>simp[hq] at hr;exact⟨f,rfl,hr.symm⟩
  rw[List.getElem?_map,hf] at hx;cases hx
  exact aSL f A1 A2 A3 A4 n1 k1 n2 k2 n3 k3 n4 k4 gs w2 ((hs.below (st.started (by simp))).below eX) mP)) ?_
 refine aA ?_;exact aT (h:=fun _ _=>rfl)
theorem aSJ(kind rate mul div lock:Int)(A:Option Addr)(n k:Nat)(A1 A2 A3 A4:Option Addr)(n1 k1 n2 k2 n3 k3 n4 k4:Nat)(w:World)(mP:(n1:Int)≤9223372036854775806)(zs:List Int)(hA:aI (all w) 1 A n (aK zs))(hn:n=zs.length)(hz:(n:Int)≤9223372036854775806):
  Cz 122 #[.agg #[.slice A1 n1 k1,.slice A2 n2 k2,.slice A3 n3 k3,.slice A4 n4 k4],.agg #[.int .u8 kind,.slice A n k,.int .u64 rate,iv mul,iv div,iv lock]] w (Rt (iv (Of n1 ⟨kind,zs,rate,mul,div,lock⟩)) w):=by
 refine aM func122 ntmps122 ?_;refine aA ?_;refine bA fun g1=>?_;refine bA fun g2=>?_;refine aA ?_;refine kS (vf:=[]) (vc:=[pt g2]) rfl rfl (by decide) ?_;refine kS (vf:=[]) (vc:=[pt g2,pt g1]) rfl rfl (by decide) ?_;refine kS (vf:=[]) (vc:=[pt g2]) rfl rfl (by decide) ?_;refine eK fun g3=>?_
 refine dG (fun w1 st=>aB6 _ _ _ [(195,[pt g2]),(197,[pt g2,pt g1]),(201,[pt g2])] [jF (!mG kind n) 1,lJ (zs.map fun f=>jF (!iV f 0 ((n1:Int) - 1)) 4),jF (!uN kind rate mul div lock) 3] w1 (st.rU (i:=0) (n:=3) (sz:=1) (cs:=[.func (.func 195) #[] #[pt g2],.func (.func 197) #[] #[pt g2,pt g1],.func (.func 201) #[] #[pt g2]]) rfl rfl) rfl rfl (by decide) (by simp only[List.mem_cons,List.not_mem_nil,or_false];rintro f (rfl | rfl | rfl)<;>kernel_rfl) (fun i f x hf hx w2 eX=>by
  have jX:=(st.started (by simp)).trans (eX.mono st.size)
  match i,hf,hx with
  | 0,hf,hx=>cases hf;cases hx;exact aSN kind rate mul div lock A n k g2 w2 (st.box (cs:=[.int .u8 kind,.slice A n k,.int .u64 rate,.int .i64 mul,.int .i64 div,.int .i64 lock]) (i:=1) rfl|>.below eX)
  | 1,hf,hx=>cases hf;cases hx;exact aSM kind rate mul div lock A n k A1 A2 A3 A4 n1 k1 n2 k2 n3 k3 n4 k4 g2 g1 w2 (st.box (cs:=[.int .u8 kind,.slice A n k,.int .u64 rate,.int .i64 mul,.int .i64 div,.int .i64 lock]) (i:=1) rfl|>.below eX) (st.box (cs:=[.slice A1 n1 k1,.slice A2 n2 k2,.slice A3 n3 k3,.slice A4 n4 k4]) (i:=2) rfl|>.below eX) mP zs (hA.le (jU jX)) hn hz
  | 2,hf,hx=>cases hf;cases hx;exact aSK kind rate mul div lock A n k g2 w2 (st.box (cs:=[.int .u8 kind,.slice A n k,.int .u64 rate,.int .i64 mul,.int .i64 div,.int .i64 lock]) (i:=1) rfl|>.below eX)
  | i+3,hf,_=>simp at hf)) ?_
 refine aA ?_;exact aT (h:=fun _ _=>by simp[Of,hn])
theorem aSf(above delay:Int)(ret:Bool)(A1 A2 A3 A4:Option Addr)(n1 k1 n2 k2 n3 k3 n4 k4:Nat)(gd gs:Nat)(w:World)(hd:eD w gd 0 [iv above,iv delay,.bool ret])(hs:eD w gs 0 [.slice A1 n1 k1,.slice A2 n2 k2,.slice A3 n3 k3,.slice A4 n4 k4])(qM:(n2:Int)≤9223372036854775806):
  Cz 204 #[pt gd,pt gs] w (Rt (iv (jF (decide (¬above= -1)&& !iV above 0 ((n2:Int) - 1)) 4)) w):=by
 refine aM func204 ntmps204 ?_;refine aB ?_;refine bQ (t:=6) rfl (fun hg=>?_) (fun hg=>?_)
 ·
  refine aB ?_;refine dG (fun w1 st=>vI _ _ _ w1) ?_;refine aB ?_;refine dG (fun w1 st=>wP _ _ w1) ?_;refine aB ?_;exact aT (h:=fun _ _=>by simp[hg])
 ·
  refine aB ?_;refine dG (fun w1 st=>wP _ _ w1) ?_;refine aB ?_;exact aT (h:=fun _ _=>by simp[hg])
theorem aSe(above delay:Int)(ret:Bool)(gd:Nat)(w:World)(hd:eD w gd 0 [iv above,iv delay,.bool ret]):
  Cz 205 #[pt gd] w (Rt (iv (jF (!iV delay 0 20) 3)) w):=by
 refine aM func205 ntmps205 ?_;refine aB ?_;refine dG (fun w1 st=>vI _ _ _ w1) ?_;refine aB ?_;refine dG (fun w1 st=>wP _ _ w1) ?_;refine aB ?_;exact aT (h:=fun _ _=>rfl)
theorem aSd(above delay:Int)(ret:Bool)(A1 A2 A3 A4:Option Addr)(n1 k1 n2 k2 n3 k3 n4 k4:Nat)(w:World)(qM:(n2:Int)≤9223372036854775806):
  Cz 129 #[.agg #[.slice A1 n1 k1,.slice A2 n2 k2,.slice A3 n3 k3,.slice A4 n4 k4],.agg #[iv above,iv delay,.bool ret]] w (Rt (iv (Sq n2 ⟨above,delay,ret⟩)) w):=by
 refine aM func129 ntmps129 ?_;refine aA ?_;refine bA fun g1=>?_;refine bA fun g2=>?_;refine aA ?_;refine kS (vf:=[]) (vc:=[pt g2,pt g1]) rfl rfl (by decide) ?_;refine kS (vf:=[]) (vc:=[pt g2]) rfl rfl (by decide) ?_;refine eK fun g3=>?_
 refine dG (fun w1 st=>aB6 _ _ _ [(204,[pt g2,pt g1]),(205,[pt g2])] [jF (decide (¬above= -1)&& !iV above 0 ((n2:Int) - 1)) 4,jF (!iV delay 0 20) 3] w1 (st.rU (i:=0) (n:=2) (sz:=1) (cs:=[.func (.func 204) #[] #[pt g2,pt g1],.func (.func 205) #[] #[pt g2]]) rfl rfl) rfl rfl (by decide) (by simp only[List.mem_cons,List.not_mem_nil,or_false];rintro f (rfl | rfl)<;>kernel_rfl) (fun i f x hf hx w2 eX=>by
  have jX:=(st.started (by simp)).trans (eX.mono st.size)
  match i,hf,hx with
  | 0,hf,hx=>cases hf;cases hx;exact aSf above delay ret A1 A2 A3 A4 n1 k1 n2 k2 n3 k3 n4 k4 g2 g1 w2 (st.box (cs:=[.int .i64 above,.int .i64 delay,.bool ret]) (i:=1) rfl|>.below eX) (st.box (cs:=[.slice A1 n1 k1,.slice A2 n2 k2,.slice A3 n3 k3,.slice A4 n4 k4]) (i:=2) rfl|>.below eX) qM
  | 1,hf,hx=>cases hf;cases hx;exact aSe above delay ret g2 w2 (st.box (cs:=[.int .i64 above,.int .i64 delay,.bool ret]) (i:=1) rfl|>.below eX)
  | i+2,hf,_=>simp at hf)) ?_
 refine aA ?_;exact aT (h:=fun _ _=>rfl)
theorem aNq(r:Int)(w:World):
  Cz 134 #[.agg #[iv r]] w (Rt (iv (aAL r)) w):=by
 refine aM func134 ntmps134 ?_;refine aB ?_;refine bA fun g1=>?_;refine aB ?_;refine dG (fun w1 st=>vI _ _ _ w1) ?_;refine aB ?_;refine dG (fun w1 st=>wP _ _ w1) ?_;refine aB ?_;exact aT (h:=fun _ _=>rfl)
theorem aSz(clock domain reset iU:Int)(A B:Option Addr)(n k nb kb:Nat)(A1 A2 A3 A4:Option Addr)(n1 k1 n2 k2 n3 k3 n4 k4:Nat)(gd gs:Nat)(w:World)(hd:eD w gd 0 [iv clock,iv domain,iv reset,.int .u32 iU,.slice B nb kb,.slice A n k])(hs:eD w gs 0 [.slice A1 n1 k1,.slice A2 n2 k2,.slice A3 n3 k3,.slice A4 n4 k4])(mP:(n1:Int)≤9223372036854775806):
  Cz 206 #[pt gd,pt gs] w (Rt (iv (jF (!iV clock 0 ((n1:Int) - 1)) 4)) w):=by
 refine aM func206 ntmps206 ?_;refine aB ?_;refine dG (fun w1 st=>vI _ _ _ w1) ?_;refine aB ?_;refine dG (fun w1 st=>wP _ _ w1) ?_;refine aB ?_;exact aT (h:=fun _ _=>rfl)
theorem aSy(clock domain reset iU:Int)(A B:Option Addr)(n k nb kb:Nat)(A1 A2 A3 A4:Option Addr)(n1 k1 n2 k2 n3 k3 n4 k4:Nat)(gd gs:Nat)(w:World)(hd:eD w gd 0 [iv clock,iv domain,iv reset,.int .u32 iU,.slice B nb kb,.slice A n k])(hs:eD w gs 0 [.slice A1 n1 k1,.slice A2 n2 k2,.slice A3 n3 k3,.slice A4 n4 k4])(qM:(n2:Int)≤9223372036854775806):
  Cz 207 #[pt gd,pt gs] w (Rt (iv (jF (!iV domain 0 ((n2:Int) - 1)) 4)) w):=by
 refine aM func207 ntmps207 ?_;refine aB ?_;refine dG (fun w1 st=>vI _ _ _ w1) ?_;refine aB ?_;refine dG (fun w1 st=>wP _ _ w1) ?_;refine aB ?_;exact aT (h:=fun _ _=>rfl)
theorem aSx(clock domain reset iU:Int)(A B:Option Addr)(n k nb kb:Nat)(A1 A2 A3 A4:Option Addr)(n1 k1 n2 k2 n3 k3 n4 k4:Nat)(gd gs:Nat)(w:World)(hd:eD w gd 0 [iv clock,iv domain,iv reset,.int .u32 iU,.slice B nb kb,.slice A n k])(hs:eD w gs 0 [.slice A1 n1 k1,.slice A2 n2 k2,.slice A3 n3 k3,.slice A4 n4 k4])(hz3:(n3:Int)≤9223372036854775806):
  Cz 208 #[pt gd,pt gs] w (Rt (iv (jF (!iV reset 0 ((n3:Int) - 1)) 4)) w):=by
 refine aM func208 ntmps208 ?_;refine aB ?_;refine dG (fun w1 st=>vI _ _ _ w1) ?_;refine aB ?_;refine dG (fun w1 st=>wP _ _ w1) ?_;refine aB ?_;exact aT (h:=fun _ _=>rfl)
theorem aSv(f:Int)(A1 A2 A3 A4:Option Addr)(n1 k1 n2 k2 n3 k3 n4 k4:Nat)(gs:Nat)(w:World)(hs:eD w gs 0 [.slice A1 n1 k1,.slice A2 n2 k2,.slice A3 n3 k3,.slice A4 n4 k4])(Rf:(n4:Int)≤9223372036854775806):
  Cz 210 #[iv f,pt gs] w (Rt (iv (jF (!iV f 0 ((n4:Int) - 1)) 4)) w):=by
 refine aM func210 ntmps210 ?_;refine aB ?_;refine dG (fun w1 st=>vI _ _ _ w1) ?_;refine aB ?_;refine dG (fun w1 st=>wP _ _ w1) ?_;refine aB ?_;exact aT (h:=fun _ _=>rfl)
theorem aSw(clock domain reset iU:Int)(A B:Option Addr)(n k nb kb:Nat)(A1 A2 A3 A4:Option Addr)(n1 k1 n2 k2 n3 k3 n4 k4:Nat)(gd gs:Nat)(w:World)(hd:eD w gd 0 [iv clock,iv domain,iv reset,.int .u32 iU,.slice B nb kb,.slice A n k])(hs:eD w gs 0 [.slice A1 n1 k1,.slice A2 n2 k2,.slice A3 n3 k3,.slice A4 n4 k4])(Rf:(n4:Int)≤9223372036854775806)(zs:List Int)(hA:aI (all w) 1 A n (aK zs))(hn:n=zs.length)(hz:(n:Int)≤9223372036854775806):
  Cz 209 #[pt gd,pt gs] w (Rt (iv (lJ (zs.map fun f=>jF (!iV f 0 ((n4:Int) - 1)) 4))) w):=by
 refine aM func209 ntmps209 ?_;refine aA ?_;refine kS (vf:=[]) (vc:=[pt gs]) rfl rfl (by decide) ?_
 refine dG (fun w1 st=>aJd _ _ _ 210 [pt gs] ((aK zs).map fun v=>[v]) (zs.map fun f=>jF (!iV f 0 ((n4:Int) - 1)) 4) w1 (by rw[aIR];exact hA.le (jU (st.started (by simp)))) (by simp) (by simp[aK];omega) (by simp;omega) (by omega) (by kernel_rfl) (fun i r x hr hx w2 eX=>by
  obtain⟨f,hf,rfl⟩:∃f,zs[i]? =some f∧r=[iv f]:=by
   rw[List.getElem?_map,aK,List.getElem?_map] at hr;cases hq:zs[i]? with
   | none=>simp[hq] at hr
   | some f=>simp[hq] at hr;exact⟨f,rfl,hr.symm⟩
  rw[List.getElem?_map,hf] at hx;cases hx
  exact aSv f A1 A2 A3 A4 n1 k1 n2 k2 n3 k3 n4 k4 gs w2 ((hs.below (st.started (by simp))).below eX) Rf)) ?_
 refine aA ?_;exact aT (h:=fun _ _=>rfl)
theorem aSu(rg:List Rg)(clock domain reset iU:Int)(A B:Option Addr)(n k nb kb:Nat)(A1 A2 A3 A4:Option Addr)(n1 k1 n2 k2 n3 k3 n4 k4:Nat)(w:World)(mP:(n1:Int)≤9223372036854775806)(qM:(n2:Int)≤9223372036854775806)(hz3:(n3:Int)≤9223372036854775806)(Rf:(n4:Int)≤9223372036854775806)(zs:List Int)(hA:aI (all w) 1 A n (aK zs))(hn:n=zs.length)(hz:(n:Int)≤9223372036854775806):
  Cz 138 #[.agg #[.slice A1 n1 k1,.slice A2 n2 k2,.slice A3 n3 k3,.slice A4 n4 k4],.agg #[iv clock,iv domain,iv reset,.int .u32 iU,.slice B nb kb,.slice A n k]] w (Rt (iv (Sv n1 n2 n3 n4 ⟨clock,domain,reset,iU,rg,zs⟩)) w):=by
 refine aM func138 ntmps138 ?_;refine aA ?_;refine bA fun g1=>?_;refine bA fun g2=>?_;refine aA ?_;refine kS (vf:=[]) (vc:=[pt g2,pt g1]) rfl rfl (by decide) ?_;refine kS (vf:=[]) (vc:=[pt g2,pt g1]) rfl rfl (by decide) ?_;refine kS (vf:=[]) (vc:=[pt g2,pt g1]) rfl rfl (by decide) ?_;refine kS (vf:=[]) (vc:=[pt g2,pt g1]) rfl rfl (by decide) ?_;refine eK fun g3=>?_
 refine dG (fun w1 st=>aB6 _ _ _ [(206,[pt g2,pt g1]),(207,[pt g2,pt g1]),(208,[pt g2,pt g1]),(209,[pt g2,pt g1])] [jF (!iV clock 0 ((n1:Int) - 1)) 4,jF (!iV domain 0 ((n2:Int) - 1)) 4,jF (!iV reset 0 ((n3:Int) - 1)) 4,lJ (zs.map fun f=>jF (!iV f 0 ((n4:Int) - 1)) 4)] w1 (st.rU (i:=0) (n:=4) (sz:=1) (cs:=[.func (.func 206) #[] #[pt g2,pt g1],.func (.func 207) #[] #[pt g2,pt g1],.func (.func 208) #[] #[pt g2,pt g1],.func (.func 209) #[] #[pt g2,pt g1]]) rfl rfl) rfl rfl (by decide) (by simp only[List.mem_cons,List.not_mem_nil,or_false];rintro f (rfl | rfl | rfl | rfl)<;>kernel_rfl) (fun i f x hf hx w2 eX=>by
  have jX:=(st.started (by simp)).trans (eX.mono st.size)
  match i,hf,hx with
  | 0,hf,hx=>cases hf;cases hx;exact aSz clock domain reset iU A B n k nb kb A1 A2 A3 A4 n1 k1 n2 k2 n3 k3 n4 k4 g2 g1 w2 (st.box (cs:=[.int .i64 clock,.int .i64 domain,.int .i64 reset,.int .u32 iU,.slice B nb kb,.slice A n k]) (i:=1) rfl|>.below eX) (st.box (cs:=[.slice A1 n1 k1,.slice A2 n2 k2,.slice A3 n3 k3,.slice A4 n4 k4]) (i:=2) rfl|>.below eX) mP
  | 1,hf,hx=>cases hf;cases hx;exact aSy clock domain reset iU A B n k nb kb A1 A2 A3 A4 n1 k1 n2 k2 n3 k3 n4 k4 g2 g1 w2 (st.box (cs:=[.int .i64 clock,.int .i64 domain,.int .i64 reset,.int .u32 iU,.slice B nb kb,.slice A n k]) (i:=1) rfl|>.below eX) (st.box (cs:=[.slice A1 n1 k1,.slice A2 n2 k2,.slice A3 n3 k3,.slice A4 n4 k4]) (i:=2) rfl|>.below eX) qM
  | 2,hf,hx=>cases hf;cases hx;exact aSx clock domain reset iU A B n k nb kb A1 A2 A3 A4 n1 k1 n2 k2 n3 k3 n4 k4 g2 g1 w2 (st.box (cs:=[.int .i64 clock,.int .i64 domain,.int .i64 reset,.int .u32 iU,.slice B nb kb,.slice A n k]) (i:=1) rfl|>.below eX) (st.box (cs:=[.slice A1 n1 k1,.slice A2 n2 k2,.slice A3 n3 k3,.slice A4 n4 k4]) (i:=2) rfl|>.below eX) hz3
  | 3,hf,hx=>cases hf;cases hx;exact aSw clock domain reset iU A B n k nb kb A1 A2 A3 A4 n1 k1 n2 k2 n3 k3 n4 k4 g2 g1 w2 (st.box (cs:=[.int .i64 clock,.int .i64 domain,.int .i64 reset,.int .u32 iU,.slice B nb kb,.slice A n k]) (i:=1) rfl|>.below eX) (st.box (cs:=[.slice A1 n1 k1,.slice A2 n2 k2,.slice A3 n3 k3,.slice A4 n4 k4]) (i:=2) rfl|>.below eX) Rf zs (hA.le (jU jX)) hn hz
  | i+4,hf,_=>simp at hf)) ?_
 refine aA ?_;exact aT (h:=fun _ _=>rfl)
theorem aRe(rg:List Rg)(zs:List Int)(clock domain reset iU:Int)(A B:Option Addr)(n k nb kb:Nat)(w:World)(Aq:nb=rg.length)(hn:n=zs.length):
  Cz 193 #[.agg #[iv clock,iv domain,iv reset,.int .u32 iU,.slice B nb kb,.slice A n k]] w (Rt (iv (Qu ⟨clock,domain,reset,iU,rg,zs⟩)) w):=by
 refine aM func193 ntmps193 ?_;refine aB ?_;refine bA fun g1=>?_;refine aB ?_;refine bQ (t:=7) rfl (fun hg=>?_) (fun hg=>?_)
 ·
  refine aB ?_;refine dG (fun w1 st=>wP _ _ w1) ?_;refine aB ?_;exact aT (h:=fun _ _=>by subst Aq hn;simp[Qu,hg])
 ·
  refine aB ?_;refine dG (fun w1 st=>wP _ _ w1) ?_;refine aB ?_;exact aT (h:=fun _ _=>by subst Aq hn;simp[Qu,hg])
end
section
def aD.small(s:aD):Prop:=s.aF.length≤1000000∧s.domains.length≤1000000∧s.aR.length≤1000000∧s.aC.length≤1000000∧(∀c∈s.aF,c.src.length≤1000000)∧∀d∈s.aC,d.iS.length≤1000000
structure fL(w:World)(s:aD)(A1:Option Addr)(n1:Nat)(A2:Option Addr)(n2:Nat)(A3:Option Addr)(n3:Nat)(A4:Option Addr)(n4:Nat):Prop where
 jM:jP (fH (all w)) (uB (fH (all w))) 86 6 A1 n1 s.aF
 dom:jP (fH (all w)) vD 50 3 A2 n2 s.domains
 Cu:jP (fH (all w)) zC 88 1 A3 n3 s.aR
 dev:jP (fH (all w)) (tG (fH (all w))) 38 6 A4 n4 s.aC
 small:s.small
section
variable{w w':World}{s:aD}{A1 A2 A3 A4:Option Addr}{n1 n2 n3 n4:Nat}
theorem fL.le(h:fL w s A1 n1 A2 n2 A3 n3 A4 n4)(hb:Below w.heap.size w w'):fL w' s A1 n1 A2 n2 A3 n3 A4 n4:=
 ⟨h.jM.mono (oB (jU hb)) (fun _ _=>uB.mono (oB (jU hb))),h.dom.mono (oB (jU hb)) (fun _ _ h=>h),h.Cu.mono (oB (jU hb)) (fun _ _ h=>h),h.dev.mono (oB (jU hb)) (fun _ _=>tG.mono (oB (jU hb))),h.small⟩
theorem fL.nH(h:fL w s A1 n1 A2 n2 A3 n3 A4 n4):n1=s.aF.length:=by obtain⟨_,_,h,_⟩:=h.jM;exact h
theorem fL.nT(h:fL w s A1 n1 A2 n2 A3 n3 A4 n4):n2=s.domains.length:=by obtain⟨_,_,h,_⟩:=h.dom;exact h
theorem fL.pU(h:fL w s A1 n1 A2 n2 A3 n3 A4 n4):n3=s.aR.length:=by obtain⟨_,_,h,_⟩:=h.Cu;exact h
theorem fL.oK(h:fL w s A1 n1 A2 n2 A3 n3 A4 n4):n4=s.aC.length:=by obtain⟨_,_,h,_⟩:=h.dev;exact h
end
theorem jP.row{α:Type}{w:World}{R:α→List Value→Prop}{t:TypeId}{sz n:Nat}{A:Option Addr}{es:List α}(h:jP (fH (all w)) R t sz A n es){k:Nat}{e:α}(hk:es[k]? =some e):
  ∃b off r,A=some ⟨b,off,none⟩∧r.length=sz∧R e r∧eD w b (off+k*sz) r:=by
 obtain⟨rows,h1,h2,h3⟩:=h
 have hke:=(List.getElem?_eq_some_iff.1 hk).1
 have hl:=h1.len.1
 obtain⟨r,hr⟩:∃r,rows[k]? =some r:=⟨_,List.getElem?_eq_getElem (by omega)⟩
 obtain⟨e',he,hrl,hR⟩:=h1.at_ hr;rw[hk] at he;cases he;obtain⟨b,off,hA,hro⟩:=aI.row h3 h1.aEV hr (by omega);exact⟨b,off,r,hA,hrl,hR,hro⟩
def gP(s:aD):List (List Int):=s.aF.map (·.src)
def gO(s:aD):List (List Int):=s.domains.map fun d=>if d.above= -1 then[] else[d.above]
def bP(s:aD):List (List Int):=s.aC.map (·.iS)
def Gj(g:List (List Int)):Int:=jF (decide ((fS g).1=5)) 5
theorem aEy{vs:List Value}{v z:Value}{k n:Nat}(h:vs.length=k)(hk:k < n):(vs++List.replicate (n - k) z).set k v=(vs++[v])++List.replicate (n - (k+1)) z:=by
 rw[List.set_append_right _ _ (by omega),h,Nat.sub_self,show n - k=(n - (k+1))+1 by omega,List.replicate_succ,List.set_cons_zero,List.append_assoc];rfl
theorem aR2{vs:List Value}{z:Value}{k n:Nat}(hk:k < n):vs++List.replicate (n - k) z=(vs++[z])++List.replicate (n - (k+1)) z:=by
 rw[show n - k=(n - (k+1))+1 by omega,List.replicate_succ,List.append_assoc];rfl
theorem Js{g:List (List Int)}{k:Nat}{vs:List Value}{q q':Piece}{l:List Int}{v:Value}(h:Rows (qW (fH q)) 1 (g.take k) (vs.map fun v=>[v]))(hl:q.Le q')(hg:g[k]? =some l)(hv:qW (fH q') l [v]):Rows (qW (fH q')) 1 (g.take (k+1)) ((vs++[v]).map fun v=>[v]):=by
 rw[List.take_add_one,hg,Option.toList_some,List.map_append];exact(h.mono (fun _ _=>qW.mono (oB hl))).snoc rfl hv
theorem aF2{q q2:Piece}{g:List (List Int)}{vs:List Value}{gG n:Nat}{t:TypeId}(h:Rows (qW (fH q)) 1 g (vs.map fun v=>[v]))(hl:q.Le q2)(h1:∃F,(HP.aE gG t vs).sat F q2.w∧∀b,F b→q2.Z b)(hn:n=g.length):nD q2 (some ⟨gG,0,none⟩) n g:=by
 obtain⟨F,hs,hz⟩:=h1;refine⟨_,h.mono (fun _ _=>qW.mono (oB hl)),hn,?_⟩;rw[show(vs.map fun v=>[v]).flatten=vs by clear h hs;induction vs<;>simp_all];refine tE (c:=0) hs hz ?_
 have:=h.len.1
 simp at this;omega
def aFx(zs:List Int)(v:Value)(w w':World):Prop:=∃A c,v=.slice A zs.length c∧aI (fresh w w') 1 A zs.length (aK zs)
def wN(g:List (List Int))(v:Value)(w w':World):Prop:=∃A c,v=.slice A g.length c∧nD (fresh w w') A g.length g
theorem aTa(A:Option Addr)(n c:Nat)(g:List (List Int))(w:World)(hg:nD (all w) A n g)(hn:n=g.length)(hn2:(n:Int)≤9223372036854775806)(hlen:∀l∈g,(l.length:Int)≤9223372036854775806):
  Cz 203 #[.slice A n c] w (Rt (iv (fS g).1) w):=by
 refine aM func203 ntmps203 ?_;refine aB ?_;refine uR (fun v=>∃A m c,v=.tuple #[.slice A m c,iv (fS g).1]) (fun w1 st=>(aAR A n c g w1 (hg.le (jU (st.started (by simp)))) hn hn2 hlen).mono fun y w2 h=>?_) ?_
 ·obtain⟨⟨A',m,c',hy,_,_⟩,hb⟩:=h;exact⟨⟨_,hy,A',m,c',rfl⟩,hb⟩
 rintro _ ⟨A',m,c',rfl⟩;refine aB ?_;exact aT (h:=fun _ _=>rfl)
theorem aEE(A:Option Addr)(n c:Nat)(g:List (List Int))(w:World)(hg:nD (all w) A n g)(hn:n=g.length)(hn2:(n:Int)≤9223372036854775806)(hlen:∀l∈g,(l.length:Int)≤9223372036854775806):
  Cz 124 #[.slice A n c] w (Rt (iv (Gj g)) w):=by
 refine aM func124 ntmps124 ?_;refine aB ?_;refine dG (fun w1 st=>aTa A n c g w1 (hg.le (jU (st.started (by simp)))) hn hn2 hlen) ?_;refine aB ?_;refine dG (fun w1 st=>wP _ _ w1) ?_;refine aB ?_;exact aT (h:=fun _ _=>rfl)
theorem aHt(A:Option Addr)(n c:Nat)(zs:List Int)(w:World)(hs:aI (all w) 1 A n (aK zs))(hn:n=zs.length)(hn2:n≤1000000):
  Cz 140 #[.slice A n c] w (fun y w'=>(∃v,y=.returned v∧aFx zs v w w')∧Below w.heap.size w w'):=by
 refine aM func140 ntmps140 ?_;refine aB ?_;refine iN 3 1 ?_;refine gJ 0 1 8 n (n':=n) (v:=sn) (el:=3) (by kernel_rfl) (by kernel_rfl) (by decide) rfl rfl rfl (rE (by simp) hs) (by simp[aK,Value.oneCell']) (by omega) (by omega) (by omega) (by decide) fun A' k'=>?_;refine aB ?_;refine dP [] [0] [] (by simp) rfl (by decide) (by decide) fun q hq _ hfr=>?_;subst hn;exact aT (h:=fun w1 st=>⟨_,rfl,A',k',rfl,(aI.own (hq 0 _ (by simp) rfl)).le (st.mK (by simp) (hfr (by simp) (by simp)))⟩)
theorem aJ8(s:aD)(A1 A2 A3 A4:Option Addr)(n1 k1 n2 k2 n3 k3 n4 k4:Nat)(w:World)(hW:fL w s A1 n1 A2 n2 A3 n3 A4 n4):
  Cz 125 #[.agg #[.slice A1 n1 k1,.slice A2 n2 k2,.slice A3 n3 k3,.slice A4 n4 k4]] w (fun y w'=>(∃v,y=.returned v∧wN (gP s) v w w')∧Below w.heap.size w w'):=by
 have hn:=hW.nH
 have cR:=hW.small
 unfold aD.small at cR;obtain⟨hs1,fW,sA,tM,oM,pG⟩:=cR;refine aM func125 ntmps125 ?_;refine aB ?_;refine bA fun g1=>?_;refine aB ?_;refine lO 24 (el:=22) (z:=sn) (by kernel_rfl) (by kernel_rfl) rfl rfl rfl (by omega) (by omega) (by decide) fun g2=>?_;refine aB ?_;refine bL [(13,iv 0),(12,iv n1),(11,.slice A1 n1 k1),(3,.slice (some ⟨g2,0,none⟩) n1 n1),(1,pt g1)] ?_;refine dP [] [] [0,1] (by simp) rfl (by decide) (by decide) fun q0 _ _ Dg=>?_;refine aB ?_;refine eJ (fun m e R H=>∃(k:Nat) (vs:List Value) (q:Piece),k≤n1∧m=n1 - k∧qY w q∧Rows (qW (fH q)) 1 ((gP s).take k) (vs.map fun v=>[v])∧vs.length=k∧e=[(13,iv k),(12,iv n1),(11,.slice A1 n1 k1),(3,.slice (some ⟨g2,0,none⟩) n1 n1),(1,pt g1)]∧R=[q,all w]∧H=[HP.aE g2 22 (vs++List.replicate (n1 - k) (sn)),HP.aE g1 30 [.slice A1 n1 k1,.slice A2 n2 k2,.slice A3 n3 k3,.slice A4 n4 k4]]) n1 ⟨0,[],_,by omega,rfl,Dg (by simp) (by simp),trivial,rfl,rfl,rfl,rfl⟩ fun m e R H hI=>?_;obtain⟨k,vs,q,hk,rfl,rH,hrows,hvl,rfl,rfl,rfl⟩:=hI;refine aB ?_;refine aG rfl (fun h=>?_) (fun h=>?_)
 ·
  refine aB ?_
  have hkn:k < s.aF.length:=by omega
  obtain⟨e,he⟩:∃e,s.aF[k]? =some e:=⟨_,List.getElem?_eq_getElem hkn⟩
  obtain⟨b,off,r,rfl,hrl,hR,hro⟩:=hW.jM.row he;obtain⟨Af,nf,kf,rfl,hnf,pV⟩:=hR
  have yO:(gP s)[k]? =some (e.src):=by simp[gP,he]
  refine aB ?_;refine bX fun g3=>?_;refine fP rfl (by decide) ?_;refine uD rfl rfl ?_;simp only[iH,Value.cells,List.set,List.take,List.drop,List.nil_append,List.append_nil,List.length_cons,List.length_nil,List.cons_append,Nat.reduceAdd];refine aB ?_;refine jR [q] (aFx e.src) (fun w1 st=>aHt Af nf kf e.src w1 (aI.le pV (jU (st.started (by simp)))) hnf (by have:=oM e (List.mem_of_getElem? he);omega)) ?_;rintro _ w1 q' ⟨Ao,co,rfl,wZ⟩ hf' hle aDX;refine kd (dat (k) (k)) ?_;refine tH 1 rfl (by kernel_rfl) rfl rfl rfl (by simp;omega) ?_;dsimp only[List.set];rw[aEy hvl (by omega)];refine aB ?_;exact dZ (n1 - (k+1)) ⟨k+1,vs++[_],q',by omega,rfl,aDX (by simpa using rH),Js hrows (hle q (by simp)) yO ⟨Ao,_,co,rfl,rfl,aI.le wZ hf'⟩,by simp[hvl],rfl,rfl,rfl⟩
 ·
  refine aB ?_;obtain rfl:k=n1:=by omega
  rw[Nat.sub_self,List.replicate_zero,List.append_nil];rw[List.take_of_length_le (by simp[gP];omega)] at hrows;refine aB ?_;refine dP [q] [0] [] (by simp) rfl (by decide) (by decide) fun q2 hq hle hfr=>?_
  have kL:k=(gP s).length:=by simp[gP];omega
  exact aT (h:=fun w1 st=>⟨_,rfl,some ⟨g2,0,none⟩,k,by rw[←kL],by rw[←kL];exact(aF2 hrows (hle q (by simp)) (hq 0 _ (by simp) rfl) kL).le (st.mK (by simp) (hfr (by simp) (by simpa using rH)))⟩)
theorem aH4(s:aD)(A1 A2 A3 A4:Option Addr)(n1 k1 n2 k2 n3 k3 n4 k4:Nat)(w:World)(hW:fL w s A1 n1 A2 n2 A3 n3 A4 n4):
  Cz 63 #[.agg #[.slice A1 n1 k1,.slice A2 n2 k2,.slice A3 n3 k3,.slice A4 n4 k4]] w (fun y w'=>(∃v,y=.returned v∧wN (bP s) v w w')∧Below w.heap.size w w'):=by
 have hn:=hW.oK
 have cR:=hW.small
 unfold aD.small at cR;obtain⟨hs1,fW,sA,tM,oM,pG⟩:=cR;refine aM func63 ntmps63 ?_;refine aB ?_;refine bA fun g1=>?_;refine aB ?_;refine lO 24 (el:=22) (z:=sn) (by kernel_rfl) (by kernel_rfl) rfl rfl rfl (by omega) (by omega) (by decide) fun g2=>?_;refine aB ?_;refine bL [(13,iv 0),(12,iv n4),(11,.slice A4 n4 k4),(3,.slice (some ⟨g2,0,none⟩) n4 n4),(1,pt g1)] ?_;refine dP [] [] [0,1] (by simp) rfl (by decide) (by decide) fun q0 _ _ Dg=>?_;refine aB ?_;refine eJ (fun m e R H=>∃(k:Nat) (vs:List Value) (q:Piece),k≤n4∧m=n4 - k∧qY w q∧Rows (qW (fH q)) 1 ((bP s).take k) (vs.map fun v=>[v])∧vs.length=k∧e=[(13,iv k),(12,iv n4),(11,.slice A4 n4 k4),(3,.slice (some ⟨g2,0,none⟩) n4 n4),(1,pt g1)]∧R=[q,all w]∧H=[HP.aE g2 22 (vs++List.replicate (n4 - k) (sn)),HP.aE g1 30 [.slice A1 n1 k1,.slice A2 n2 k2,.slice A3 n3 k3,.slice A4 n4 k4]]) n4 ⟨0,[],_,by omega,rfl,Dg (by simp) (by simp),trivial,rfl,rfl,rfl,rfl⟩ fun m e R H hI=>?_;obtain⟨k,vs,q,hk,rfl,rH,hrows,hvl,rfl,rfl,rfl⟩:=hI;refine aB ?_;refine aG rfl (fun h=>?_) (fun h=>?_)
 ·
  refine aB ?_
  have hkn:k < s.aC.length:=by omega
  obtain⟨e,he⟩:∃e,s.aC[k]? =some e:=⟨_,List.getElem?_eq_getElem hkn⟩
  obtain⟨b,off,r,rfl,hrl,hR,hro⟩:=hW.dev.row he;obtain⟨Ar,nr,kr,Af,nf,kf,rfl,_,hnf,_,pV⟩:=hR
  have yO:(bP s)[k]? =some (e.iS):=by simp[bP,he]
  refine aB ?_;refine bX fun g3=>?_;refine fP rfl (by decide) ?_;refine uD rfl rfl ?_;simp only[iH,Value.cells,List.set,List.take,List.drop,List.nil_append,List.append_nil,List.length_cons,List.length_nil,List.cons_append,Nat.reduceAdd];refine aB ?_;refine jR [q] (aFx e.iS) (fun w1 st=>aHt Af nf kf e.iS w1 (aI.le pV (jU (st.started (by simp)))) hnf (by have:=pG e (List.mem_of_getElem? he);omega)) ?_;rintro _ w1 q' ⟨Ao,co,rfl,wZ⟩ hf' hle aDX;refine kd (dat (k) (k)) ?_;refine tH 1 rfl (by kernel_rfl) rfl rfl rfl (by simp;omega) ?_;dsimp only[List.set];rw[aEy hvl (by omega)];refine aB ?_;exact dZ (n4 - (k+1)) ⟨k+1,vs++[_],q',by omega,rfl,aDX (by simpa using rH),Js hrows (hle q (by simp)) yO ⟨Ao,_,co,rfl,rfl,aI.le wZ hf'⟩,by simp[hvl],rfl,rfl,rfl⟩
 ·
  refine aB ?_;obtain rfl:k=n4:=by omega
  rw[Nat.sub_self,List.replicate_zero,List.append_nil];rw[List.take_of_length_le (by simp[bP];omega)] at hrows;refine aB ?_;refine dP [q] [0] [] (by simp) rfl (by decide) (by decide) fun q2 hq hle hfr=>?_
  have kL:k=(bP s).length:=by simp[bP];omega
  exact aT (h:=fun w1 st=>⟨_,rfl,some ⟨g2,0,none⟩,k,by rw[←kL],by rw[←kL];exact(aF2 hrows (hle q (by simp)) (hq 0 _ (by simp) rfl) kL).le (st.mK (by simp) (hfr (by simp) (by simpa using rH)))⟩)
theorem aJi(s:aD)(A1 A2 A3 A4:Option Addr)(n1 k1 n2 k2 n3 k3 n4 k4:Nat)(w:World)(hW:fL w s A1 n1 A2 n2 A3 n3 A4 n4):
  Cz 131 #[.agg #[.slice A1 n1 k1,.slice A2 n2 k2,.slice A3 n3 k3,.slice A4 n4 k4]] w (fun y w'=>(∃v,y=.returned v∧wN (gO s) v w w')∧Below w.heap.size w w'):=by
 have hn:=hW.nT
 have cR:=hW.small
 unfold aD.small at cR;obtain⟨hs1,fW,sA,tM,oM,pG⟩:=cR;refine aM func131 ntmps131 ?_;refine aB ?_;refine bA fun g1=>?_;refine aB ?_;refine lO 24 (el:=22) (z:=sn) (by kernel_rfl) (by kernel_rfl) rfl rfl rfl (by omega) (by omega) (by decide) fun g2=>?_;refine aB ?_;refine bL [(13,iv 0),(12,iv n2),(11,.slice A2 n2 k2),(3,.slice (some ⟨g2,0,none⟩) n2 n2),(1,pt g1)] ?_;refine dP [] [] [0,1] (by simp) rfl (by decide) (by decide) fun q0 _ _ Dg=>?_;refine aB ?_;refine eJ (fun m e R H=>∃(k:Nat) (vs:List Value) (q:Piece),k≤n2∧m=n2 - k∧qY w q∧Rows (qW (fH q)) 1 ((gO s).take k) (vs.map fun v=>[v])∧vs.length=k∧e=[(13,iv k),(12,iv n2),(11,.slice A2 n2 k2),(3,.slice (some ⟨g2,0,none⟩) n2 n2),(1,pt g1)]∧R=[q,all w]∧H=[HP.aE g2 22 (vs++List.replicate (n2 - k) (sn)),HP.aE g1 30 [.slice A1 n1 k1,.slice A2 n2 k2,.slice A3 n3 k3,.slice A4 n4 k4]]) n2 ⟨0,[],_,by omega,rfl,Dg (by simp) (by simp),trivial,rfl,rfl,rfl,rfl⟩ fun m e R H hI=>?_;obtain⟨k,vs,q,hk,rfl,rH,hrows,hvl,rfl,rfl,rfl⟩:=hI;refine aB ?_;refine aG rfl (fun h=>?_) (fun h=>?_)
 ·
  refine aB ?_
  have hkn:k < s.domains.length:=by omega
  obtain⟨e,he⟩:∃e,s.domains[k]? =some e:=⟨_,List.getElem?_eq_getElem hkn⟩
  obtain⟨b,off,r,rfl,hrl,hR,hro⟩:=hW.dom.row he;obtain rfl:=hR
  have yO:(gO s)[k]? =some (if e.above= -1 then[] else[e.above]):=by simp[gO,he]
  refine aB ?_;refine bX fun g3=>?_;refine fP rfl (by decide) ?_;refine uD rfl rfl ?_;simp only[iH,Value.cells,List.set,List.take,List.drop,List.nil_append,List.append_nil,List.length_cons,List.length_nil,List.cons_append,Nat.reduceAdd];refine aB ?_;refine aG rfl (fun h=>?_) (fun h=>?_)
  ·
   refine aB ?_;refine eK fun g4=>?_;refine kd (dat (k) (k)) ?_;refine tH 2 rfl (by kernel_rfl) rfl rfl rfl (by simp;omega) ?_;dsimp only[List.set];rw[aEy hvl (by omega)];refine aB ?_;refine dP [q] [0] [2,3] (by simp) rfl (by decide) (by decide) fun q' mJ hle Fv=>?_;obtain⟨Fg,Nc,Mw⟩:=mJ 0 _ (by simp) rfl
   have wZ:=tE (n:=1) (sz:=1) (c:=0) Nc Mw rfl
   exact dZ (n2 - (k+1)) ⟨k+1,vs++[_],q',by omega,rfl,Fv (by simp) (by simpa using rH),Js hrows (hle q (by simp)) yO (by rw[if_neg h];exact⟨_,1,1,rfl,rfl,wZ⟩),by simp[hvl],rfl,rfl,rfl⟩
  ·
   refine aB ?_;rw[aR2 (k:=k) (by omega)];exact dZ (n2 - (k+1)) ⟨k+1,vs++[_],q,by omega,rfl,rH,Js hrows (fun b hb=>⟨hb,rfl⟩) yO (by rw[if_pos (Classical.not_not.1 h)];exact⟨_,0,0,rfl,rfl,aI.nil _ 1⟩),by simp[hvl],rfl,rfl,rfl⟩
 ·
  refine aB ?_;obtain rfl:k=n2:=by omega
  rw[Nat.sub_self,List.replicate_zero,List.append_nil];rw[List.take_of_length_le (by simp[gO];omega)] at hrows;refine aB ?_;refine dP [q] [0] [] (by simp) rfl (by decide) (by decide) fun q2 hq hle hfr=>?_
  have kL:k=(gO s).length:=by simp[gO];omega
  exact aT (h:=fun w1 st=>⟨_,rfl,some ⟨g2,0,none⟩,k,by rw[←kL],by rw[←kL];exact(aF2 hrows (hle q (by simp)) (hq 0 _ (by simp) rfl) kL).le (st.mK (by simp) (hfr (by simp) (by simpa using rH)))⟩)
end
section
def Ih(s:aD):Int:=if(12:Int) < s.aF.length∨(6:Int) < s.domains.length∨(6:Int) < s.aR.length∨(6:Int) < s.aC.length then 8 else lJ (s.aC.map Qu)
def aBE(s:aD):List Int:=[Ih s,lJ (s.aF.map (Of s.aF.length)),Gj (gP s),lJ (s.domains.map (Sq s.domains.length)),Gj (gO s),lJ (s.aR.map aAL),
 lJ (s.aC.map (Sv s.aF.length s.domains.length s.aR.length s.aC.length)),Gj (bP s)]
def Zg(s:aD):Int:=lJ (aBE s)
theorem jP.rows{α:Type}{w:World}{R:α→List Value→Prop}{t:TypeId}{sz n:Nat}{A:Option Addr}{es:List α}(h:jP (fH (all w)) R t sz A n es)(h1:∀e r,R e r→∀u∈r,u.oneCell'=true):
  ∃rows:List (List Value),aI (all w) sz A n rows.flatten∧(∀r∈rows,r.length=sz)∧(∀r∈rows,∀u∈r,u.oneCell'=true)∧rows.length=n∧n=es.length∧∀(i:Nat) (r:List Value),rows[i]? =some r→∃e,es[i]? =some e∧R e r:=by
 obtain⟨rows,h2,h3,h4⟩:=h;refine⟨rows,h4,h2.aEV,fun r hr=>?_,by rw[h2.len.1,h3],h3,fun i r hr=>?_⟩
 ·obtain⟨i,hi⟩:=List.getElem?_of_mem hr;obtain⟨e,_,_,hR⟩:=h2.at_ hi;exact h1 e r hR
 ·obtain⟨e,he,_,hR⟩:=h2.at_ hr;exact⟨e,he,hR⟩
theorem uB.one{S:xL}(e:eF)(r:List Value)(h:uB S e r):∀u∈r,u.oneCell'=true:=by obtain⟨A,n,k,rfl,_⟩:=h;simp[Value.oneCell']
theorem vD.one(e:Dom)(r:List Value)(h:vD e r):∀u∈r,u.oneCell'=true:=by cases h;simp[Value.oneCell']
theorem zC.one(e:Int)(r:List Value)(h:zC e r):∀u∈r,u.oneCell'=true:=by cases h;simp[Value.oneCell']
theorem tG.one{S:xL}(e:bO)(r:List Value)(h:tG S e r):∀u∈r,u.oneCell'=true:=by obtain⟨A,n,k,A',n',k',rfl,_⟩:=h;simp[Value.oneCell']
theorem aRd(s : aD)(A1 A2 A3 A4 : Option Addr)(n1 k1 n2 k2 n3 k3 n4 k4 : Nat)(w : World)(hW : fL w s A1 n1 A2 n2 A3 n3 A4 n4) :
    Cz 118 #[.agg #[.slice A1 n1 k1,.slice A2 n2 k2,.slice A3 n3 k3,.slice A4 n4 k4]] w (Rt (iv (Ih s)) w):=by
  have pJ:=hW.nH
  have hn2:=hW.nT
  have pI:=hW.pU
  have rG:=hW.oK
  have cR:=hW.small
  unfold aD.small at cR;obtain⟨hs1,fW,sA,tM,oM,pG⟩:=cR;obtain⟨rows,eH,iI,yK,Hr,hr5,Hq⟩:=hW.dev.rows tG.one;refine aM func118 ntmps118 ?_;refine aB ?_;refine bA fun g1=>?_;refine aB ?_;refine bQ (t:=7) rfl (fun hg=>?_) (fun hg=>?_)
  ·
    refine aB ?_;exact aT (h:=fun _ _=>by rw[Ih,if_pos (by omega)])
  ·
    refine aB ?_;refine bQ (t:=13) rfl (fun hg=>?_) (fun hg=>?_)
    ·
      refine aB ?_;exact aT (h:=fun _ _=>by rw[Ih,if_pos (by omega)])
    ·
      refine aB ?_;refine bQ (t:=19) rfl (fun hg=>?_) (fun hg=>?_)
      ·
        refine aB ?_;exact aT (h:=fun _ _=>by rw[Ih,if_pos (by omega)])
      ·
        refine aB ?_;refine aG rfl (fun h=>?_) (fun h=>?_)
        ·
          refine aB ?_;exact aT (h:=fun _ _=>by rw[Ih,if_pos (by omega)])
        ·
          refine aB ?_
          refine dG (fun w1 st=>aJe A4 n4 k4 193 [] rows (s.aC.map Qu) w1 (eH.le (jU (st.started (by simp)))) iI yK Hr (by simp;omega) (by omega) (by kernel_rfl) (fun i r x hr hx w2 eX=>by
    have jX:=(st.started (by simp)).trans (eX.mono st.size)
    obtain⟨e,he,hR⟩:=Hq i r hr;rw[List.getElem?_map,he] at hx;cases hx;obtain⟨Ar,nr,kr,Af,nf,kf,rfl,iJ,hnf,_,pV⟩:=hR
    exact aRe e.aO e.iS _ _ _ _ _ _ _ _ _ _ w2 iJ hnf)) ?_
          refine aB ?_;exact aT (h:=fun _ _=>by rw[Ih,if_neg (by omega)])
theorem check_1(s:aD)(A1 A2 A3 A4:Option Addr)(n1 k1 n2 k2 n3 k3 n4 k4:Nat)(w:World)(hW:fL w s A1 n1 A2 n2 A3 n3 A4 n4)(gs:Nat)(hs:eD w gs 0 [.slice A1 n1 k1,.slice A2 n2 k2,.slice A3 n3 k3,.slice A4 n4 k4]):
  Cz 117 #[pt gs] w (Rt (iv (Ih s)) w):=by
 have pJ:=hW.nH
 have hn2:=hW.nT
 have pI:=hW.pU
 have rG:=hW.oK
 have cR:=hW.small
 unfold aD.small at cR;obtain⟨hs1,fW,sA,tM,oM,pG⟩:=cR;refine aM func117 ntmps117 ?_;refine aB ?_;refine dG (fun w1 st=>aRd s A1 A2 A3 A4 n1 k1 n2 k2 n3 k3 n4 k4 w1 (hW.le (st.started (by simp)))) ?_;refine aB ?_;exact aT (h:=fun _ _=>rfl)
theorem aTj(kind rate mul div lock:Int)(A:Option Addr)(n k:Nat)(A1 A2 A3 A4:Option Addr)(n1 k1 n2 k2 n3 k3 n4 k4:Nat)(gs:Nat)(w:World)(hs:eD w gs 0 [.slice A1 n1 k1,.slice A2 n2 k2,.slice A3 n3 k3,.slice A4 n4 k4])(mP:(n1:Int)≤9223372036854775806)(zs:List Int)(hA:aI (all w) 1 A n (aK zs))(hn:n=zs.length)(hz:(n:Int)≤9223372036854775806):
  Cz 121 #[.agg #[.int .u8 kind,.slice A n k,.int .u64 rate,iv mul,iv div,iv lock],pt gs] w (Rt (iv (Of n1 ⟨kind,zs,rate,mul,div,lock⟩)) w):=by
 refine aM func121 ntmps121 ?_;refine aB ?_;refine bA fun g1=>?_;refine aB ?_;refine dG (fun w1 st=>aSJ kind rate mul div lock A n k A1 A2 A3 A4 n1 k1 n2 k2 n3 k3 n4 k4 w1 mP zs (hA.le (jU (st.started (by simp)))) hn hz) ?_;refine aB ?_;exact aT (h:=fun _ _=>rfl)
theorem aTg(above delay:Int)(ret:Bool)(A1 A2 A3 A4:Option Addr)(n1 k1 n2 k2 n3 k3 n4 k4:Nat)(gs:Nat)(w:World)(hs:eD w gs 0 [.slice A1 n1 k1,.slice A2 n2 k2,.slice A3 n3 k3,.slice A4 n4 k4])(qM:(n2:Int)≤9223372036854775806):
  Cz 128 #[.agg #[iv above,iv delay,.bool ret],pt gs] w (Rt (iv (Sq n2 ⟨above,delay,ret⟩)) w):=by
 refine aM func128 ntmps128 ?_;refine aB ?_;refine bA fun g1=>?_;refine aB ?_;refine dG (fun w1 st=>aSd above delay ret A1 A2 A3 A4 n1 k1 n2 k2 n3 k3 n4 k4 w1 qM) ?_;refine aB ?_;exact aT (h:=fun _ _=>rfl)
theorem aTc(rg:List Rg)(clock domain reset iU:Int)(A B:Option Addr)(n k nb kb:Nat)(A1 A2 A3 A4:Option Addr)(n1 k1 n2 k2 n3 k3 n4 k4:Nat)(gs:Nat)(w:World)(hs:eD w gs 0 [.slice A1 n1 k1,.slice A2 n2 k2,.slice A3 n3 k3,.slice A4 n4 k4])(mP:(n1:Int)≤9223372036854775806)(qM:(n2:Int)≤9223372036854775806)(hz3:(n3:Int)≤9223372036854775806)(Rf:(n4:Int)≤9223372036854775806)(zs:List Int)(hA:aI (all w) 1 A n (aK zs))(hn:n=zs.length)(hz:(n:Int)≤9223372036854775806):
  Cz 137 #[.agg #[iv clock,iv domain,iv reset,.int .u32 iU,.slice B nb kb,.slice A n k],pt gs] w (Rt (iv (Sv n1 n2 n3 n4 ⟨clock,domain,reset,iU,rg,zs⟩)) w):=by
 refine aM func137 ntmps137 ?_;refine aB ?_;refine bA fun g1=>?_;refine aB ?_;refine dG (fun w1 st=>aSu rg clock domain reset iU A B n k nb kb A1 A2 A3 A4 n1 k1 n2 k2 n3 k3 n4 k4 w1 mP qM hz3 Rf zs (hA.le (jU (st.started (by simp)))) hn hz) ?_;refine aB ?_;exact aT (h:=fun _ _=>rfl)
theorem aTk(s:aD)(A1 A2 A3 A4:Option Addr)(n1 k1 n2 k2 n3 k3 n4 k4:Nat)(w:World)(hW:fL w s A1 n1 A2 n2 A3 n3 A4 n4)(gs:Nat)(hs:eD w gs 0 [.slice A1 n1 k1,.slice A2 n2 k2,.slice A3 n3 k3,.slice A4 n4 k4]):
  Cz 119 #[pt gs] w (Rt (iv (lJ (s.aF.map (Of s.aF.length)))) w):=by
 have pJ:=hW.nH
 have hn2:=hW.nT
 have pI:=hW.pU
 have rG:=hW.oK
 have cR:=hW.small
 unfold aD.small at cR;obtain⟨hs1,fW,sA,tM,oM,pG⟩:=cR;obtain⟨rows,eH,iI,yK,Hr,hr5,Hq⟩:=hW.jM.rows uB.one;rw[←pJ];refine aM func119 ntmps119 ?_;refine aA ?_;refine kS (vf:=[]) (vc:=[pt gs]) rfl rfl (by decide) ?_
 refine dG (fun w1 st=>aRL A1 n1 k1 121 [pt gs] rows (s.aF.map (Of n1)) w1 (eH.le (jU (st.started (by simp)))) iI yK Hr (by simp;omega) (by omega) (by kernel_rfl) (fun i r x hr hx w2 eX=>by
  have jX:=(st.started (by simp)).trans (eX.mono st.size)
  obtain⟨e,he,hR⟩:=Hq i r hr;rw[List.getElem?_map,he] at hx;cases hx;obtain⟨Af,nf,kf,rfl,hnf,pV⟩:=hR
  exact aTj _ _ _ _ _ _ _ _ A1 A2 A3 A4 n1 k1 n2 k2 n3 k3 n4 k4 gs w2 (hs.below jX) (by omega) e.src (aI.le pV (jU jX)) hnf (by have:=oM e (List.mem_of_getElem? he);omega))) ?_
 refine aA ?_;exact aT (h:=fun _ _=>rfl)
theorem aTh(s:aD)(A1 A2 A3 A4:Option Addr)(n1 k1 n2 k2 n3 k3 n4 k4:Nat)(w:World)(hW:fL w s A1 n1 A2 n2 A3 n3 A4 n4)(gs:Nat)(hs:eD w gs 0 [.slice A1 n1 k1,.slice A2 n2 k2,.slice A3 n3 k3,.slice A4 n4 k4]):
  Cz 126 #[pt gs] w (Rt (iv (lJ (s.domains.map (Sq s.domains.length)))) w):=by
 have pJ:=hW.nH
 have hn2:=hW.nT
 have pI:=hW.pU
 have rG:=hW.oK
 have cR:=hW.small
 unfold aD.small at cR;obtain⟨hs1,fW,sA,tM,oM,pG⟩:=cR;obtain⟨rows,eH,iI,yK,Hr,hr5,Hq⟩:=hW.dom.rows vD.one;rw[←hn2];refine aM func126 ntmps126 ?_;refine aA ?_;refine kS (vf:=[]) (vc:=[pt gs]) rfl rfl (by decide) ?_
 refine dG (fun w1 st=>aRK A2 n2 k2 128 [pt gs] rows (s.domains.map (Sq n2)) w1 (eH.le (jU (st.started (by simp)))) iI yK Hr (by simp;omega) (by omega) (by kernel_rfl) (fun i r x hr hx w2 eX=>by
  have jX:=(st.started (by simp)).trans (eX.mono st.size)
  obtain⟨e,he,hR⟩:=Hq i r hr;rw[List.getElem?_map,he] at hx;cases hx;obtain rfl:=hR
  exact aTg _ _ _ A1 A2 A3 A4 n1 k1 n2 k2 n3 k3 n4 k4 gs w2 (hs.below jX) (by omega))) ?_
 refine aA ?_;exact aT (h:=fun _ _=>rfl)
theorem aTe(s:aD)(A1 A2 A3 A4:Option Addr)(n1 k1 n2 k2 n3 k3 n4 k4:Nat)(w:World)(hW:fL w s A1 n1 A2 n2 A3 n3 A4 n4)(gs:Nat)(hs:eD w gs 0 [.slice A1 n1 k1,.slice A2 n2 k2,.slice A3 n3 k3,.slice A4 n4 k4]):
  Cz 132 #[pt gs] w (Rt (iv (lJ (s.aR.map aAL))) w):=by
 have pJ:=hW.nH
 have hn2:=hW.nT
 have pI:=hW.pU
 have rG:=hW.oK
 have cR:=hW.small
 unfold aD.small at cR;obtain⟨hs1,fW,sA,tM,oM,pG⟩:=cR;obtain⟨rows,eH,iI,yK,Hr,hr5,Hq⟩:=hW.Cu.rows zC.one;refine aM func132 ntmps132 ?_;refine aB ?_
 refine dG (fun w1 st=>aRJ A3 n3 k3 134 [] rows (s.aR.map aAL) w1 (eH.le (jU (st.started (by simp)))) iI yK Hr (by simp;omega) (by omega) (by kernel_rfl) (fun i r x hr hx w2 eX=>by
  have jX:=(st.started (by simp)).trans (eX.mono st.size)
  obtain⟨e,he,hR⟩:=Hq i r hr;rw[List.getElem?_map,he] at hx;cases hx;obtain rfl:=hR
  exact aNq _ w2)) ?_
 refine aB ?_;exact aT (h:=fun _ _=>rfl)
theorem aTd(s:aD)(A1 A2 A3 A4:Option Addr)(n1 k1 n2 k2 n3 k3 n4 k4:Nat)(w:World)(hW:fL w s A1 n1 A2 n2 A3 n3 A4 n4)(gs:Nat)(hs:eD w gs 0 [.slice A1 n1 k1,.slice A2 n2 k2,.slice A3 n3 k3,.slice A4 n4 k4]):
  Cz 135 #[pt gs] w (Rt (iv (lJ (s.aC.map (Sv s.aF.length s.domains.length s.aR.length s.aC.length)))) w):=by
 have pJ:=hW.nH
 have hn2:=hW.nT
 have pI:=hW.pU
 have rG:=hW.oK
 have cR:=hW.small
 unfold aD.small at cR;obtain⟨hs1,fW,sA,tM,oM,pG⟩:=cR;obtain⟨rows,eH,iI,yK,Hr,hr5,Hq⟩:=hW.dev.rows tG.one;rw[←pJ,←hn2,←pI,←rG];refine aM func135 ntmps135 ?_;refine aA ?_;refine kS (vf:=[]) (vc:=[pt gs]) rfl rfl (by decide) ?_
 refine dG (fun w1 st=>aJe A4 n4 k4 137 [pt gs] rows (s.aC.map (Sv n1 n2 n3 n4)) w1 (eH.le (jU (st.started (by simp)))) iI yK Hr (by simp;omega) (by omega) (by kernel_rfl) (fun i r x hr hx w2 eX=>by
  have jX:=(st.started (by simp)).trans (eX.mono st.size)
  obtain⟨e,he,hR⟩:=Hq i r hr;rw[List.getElem?_map,he] at hx;cases hx;obtain⟨Ar,nr,kr,Af,nf,kf,rfl,iJ,hnf,_,pV⟩:=hR
  exact aTc e.aO _ _ _ _ _ _ _ _ _ _ A1 A2 A3 A4 n1 k1 n2 k2 n3 k3 n4 k4 gs w2 (hs.below jX) (by omega) (by omega) (by omega) (by omega) e.iS (aI.le pV (jU jX)) hnf (by have:=pG e (List.mem_of_getElem? he);omega))) ?_
 refine aA ?_;exact aT (h:=fun _ _=>rfl)
theorem aTi(s:aD)(A1 A2 A3 A4:Option Addr)(n1 k1 n2 k2 n3 k3 n4 k4:Nat)(w:World)(hW:fL w s A1 n1 A2 n2 A3 n3 A4 n4)(gs:Nat)(hs:eD w gs 0 [.slice A1 n1 k1,.slice A2 n2 k2,.slice A3 n3 k3,.slice A4 n4 k4]):
  Cz 123 #[pt gs] w (Rt (iv (Gj (gP s))) w):=by
 have pJ:=hW.nH
 have hn2:=hW.nT
 have pI:=hW.pU
 have rG:=hW.oK
 have cR:=hW.small
 unfold aD.small at cR;obtain⟨hs1,fW,sA,tM,oM,pG⟩:=cR;refine aM func123 ntmps123 ?_;refine aB ?_;refine jR [] (wN (gP s)) (fun w1 st=>aJ8 s A1 A2 A3 A4 n1 k1 n2 k2 n3 k3 n4 k4 w1 (hW.le (st.started (by simp)))) ?_;rintro _ w1 q ⟨Ag,cg,rfl,lI⟩ hf' _ Fv
 have Xf:=lI.le hf'
 have kL:(gP s).length=n1:=by simp[gP];omega
 refine dG (fun w1 st=>aEE Ag _ cg (gP s) w1 (Xf.le (st.le (by simp))) rfl (by omega) (fun l hl=>by
  simp only[gP,List.mem_map] at hl;obtain⟨x,hx,rfl⟩:=hl
  have:=oM x hx;omega)) ?_
 refine aB ?_;exact aT (h:=fun _ _=>rfl)
theorem aTf(s:aD)(A1 A2 A3 A4:Option Addr)(n1 k1 n2 k2 n3 k3 n4 k4:Nat)(w:World)(hW:fL w s A1 n1 A2 n2 A3 n3 A4 n4)(gs:Nat)(hs:eD w gs 0 [.slice A1 n1 k1,.slice A2 n2 k2,.slice A3 n3 k3,.slice A4 n4 k4]):
  Cz 130 #[pt gs] w (Rt (iv (Gj (gO s))) w):=by
 have pJ:=hW.nH
 have hn2:=hW.nT
 have pI:=hW.pU
 have rG:=hW.oK
 have cR:=hW.small
 unfold aD.small at cR;obtain⟨hs1,fW,sA,tM,oM,pG⟩:=cR;refine aM func130 ntmps130 ?_;refine aB ?_;refine jR [] (wN (gO s)) (fun w1 st=>aJi s A1 A2 A3 A4 n1 k1 n2 k2 n3 k3 n4 k4 w1 (hW.le (st.started (by simp)))) ?_;rintro _ w1 q ⟨Ag,cg,rfl,lI⟩ hf' _ Fv
 have Xf:=lI.le hf'
 have kL:(gO s).length=n2:=by simp[gO];omega
 refine dG (fun w1 st=>aEE Ag _ cg (gO s) w1 (Xf.le (st.le (by simp))) rfl (by omega) (fun l hl=>by
  simp only[gO,List.mem_map] at hl;obtain⟨x,hx,rfl⟩:=hl
  split<;>simp)) ?_
 refine aB ?_;exact aT (h:=fun _ _=>rfl)
theorem aTb(s:aD)(A1 A2 A3 A4:Option Addr)(n1 k1 n2 k2 n3 k3 n4 k4:Nat)(w:World)(hW:fL w s A1 n1 A2 n2 A3 n3 A4 n4)(gs:Nat)(hs:eD w gs 0 [.slice A1 n1 k1,.slice A2 n2 k2,.slice A3 n3 k3,.slice A4 n4 k4]):
  Cz 139 #[pt gs] w (Rt (iv (Gj (bP s))) w):=by
 have pJ:=hW.nH
 have hn2:=hW.nT
 have pI:=hW.pU
 have rG:=hW.oK
 have cR:=hW.small
 unfold aD.small at cR;obtain⟨hs1,fW,sA,tM,oM,pG⟩:=cR;refine aM func139 ntmps139 ?_;refine aB ?_;refine jR [] (wN (bP s)) (fun w1 st=>aH4 s A1 A2 A3 A4 n1 k1 n2 k2 n3 k3 n4 k4 w1 (hW.le (st.started (by simp)))) ?_;rintro _ w1 q ⟨Ag,cg,rfl,lI⟩ hf' _ Fv
 have Xf:=lI.le hf'
 have kL:(bP s).length=n4:=by simp[bP];omega
 refine dG (fun w1 st=>aEE Ag _ cg (bP s) w1 (Xf.le (st.le (by simp))) rfl (by omega) (fun l hl=>by
  simp only[bP,List.mem_map] at hl;obtain⟨x,hx,rfl⟩:=hl
  have:=pG x hx;omega)) ?_
 refine aB ?_;exact aT (h:=fun _ _=>rfl)
theorem aBD(s:aD)(A1 A2 A3 A4:Option Addr)(n1 k1 n2 k2 n3 k3 n4 k4:Nat)(w:World)(hW:fL w s A1 n1 A2 n2 A3 n3 A4 n4):
  Cz 62 #[.agg #[.slice A1 n1 k1,.slice A2 n2 k2,.slice A3 n3 k3,.slice A4 n4 k4]] w (Rt (iv (Zg s)) w):=by
 refine aM func62 ntmps62 ?_;refine aA ?_;refine bA fun g1=>?_;refine aA ?_;refine kS (vf:=[]) (vc:=[pt g1]) rfl rfl (by decide) ?_;refine kS (vf:=[]) (vc:=[pt g1]) rfl rfl (by decide) ?_;refine kS (vf:=[]) (vc:=[pt g1]) rfl rfl (by decide) ?_;refine kS (vf:=[]) (vc:=[pt g1]) rfl rfl (by decide) ?_;refine kS (vf:=[]) (vc:=[pt g1]) rfl rfl (by decide) ?_;refine kS (vf:=[]) (vc:=[pt g1]) rfl rfl (by decide) ?_;refine kS (vf:=[]) (vc:=[pt g1]) rfl rfl (by decide) ?_;refine kS (vf:=[]) (vc:=[pt g1]) rfl rfl (by decide) ?_;refine eK fun g2=>?_
 refine dG (fun w1 st=>aB6 _ _ _ [(117,[pt g1]),(119,[pt g1]),(123,[pt g1]),(126,[pt g1]),(130,[pt g1]),(132,[pt g1]),(135,[pt g1]),(139,[pt g1])] (aBE s) w1 (st.rU (i:=0) (n:=8) (sz:=1) (cs:=[.func (.func 117) #[] #[pt g1],.func (.func 119) #[] #[pt g1],.func (.func 123) #[] #[pt g1],.func (.func 126) #[] #[pt g1],.func (.func 130) #[] #[pt g1],.func (.func 132) #[] #[pt g1],.func (.func 135) #[] #[pt g1],.func (.func 139) #[] #[pt g1]]) rfl rfl) rfl rfl (by decide) (by simp only[List.mem_cons,List.not_mem_nil,or_false];rintro f (rfl | rfl | rfl | rfl | rfl | rfl | rfl | rfl)<;>kernel_rfl) (fun i f x hf hx w2 eX=>by
  have jX:=(st.started (by simp)).trans (eX.mono st.size)
  unfold aBE at hx
  match i,hf,hx with
  | 0,hf,hx=>cases hf;cases hx;exact check_1 s A1 A2 A3 A4 n1 k1 n2 k2 n3 k3 n4 k4 w2 (hW.le jX) g1 (st.box (cs:=[.slice A1 n1 k1,.slice A2 n2 k2,.slice A3 n3 k3,.slice A4 n4 k4]) (i:=1) rfl|>.below eX)
  | 1,hf,hx=>cases hf;cases hx;exact aTk s A1 A2 A3 A4 n1 k1 n2 k2 n3 k3 n4 k4 w2 (hW.le jX) g1 (st.box (cs:=[.slice A1 n1 k1,.slice A2 n2 k2,.slice A3 n3 k3,.slice A4 n4 k4]) (i:=1) rfl|>.below eX)
  | 2,hf,hx=>cases hf;cases hx;exact aTi s A1 A2 A3 A4 n1 k1 n2 k2 n3 k3 n4 k4 w2 (hW.le jX) g1 (st.box (cs:=[.slice A1 n1 k1,.slice A2 n2 k2,.slice A3 n3 k3,.slice A4 n4 k4]) (i:=1) rfl|>.below eX)
  | 3,hf,hx=>cases hf;cases hx;exact aTh s A1 A2 A3 A4 n1 k1 n2 k2 n3 k3 n4 k4 w2 (hW.le jX) g1 (st.box (cs:=[.slice A1 n1 k1,.slice A2 n2 k2,.slice A3 n3 k3,.slice A4 n4 k4]) (i:=1) rfl|>.below eX)
  | 4,hf,hx=>cases hf;cases hx;exact aTf s A1 A2 A3 A4 n1 k1 n2 k2 n3 k3 n4 k4 w2 (hW.le jX) g1 (st.box (cs:=[.slice A1 n1 k1,.slice A2 n2 k2,.slice A3 n3 k3,.slice A4 n4 k4]) (i:=1) rfl|>.below eX)
  | 5,hf,hx=>cases hf;cases hx;exact aTe s A1 A2 A3 A4 n1 k1 n2 k2 n3 k3 n4 k4 w2 (hW.le jX) g1 (st.box (cs:=[.slice A1 n1 k1,.slice A2 n2 k2,.slice A3 n3 k3,.slice A4 n4 k4]) (i:=1) rfl|>.below eX)
  | 6,hf,hx=>cases hf;cases hx;exact aTd s A1 A2 A3 A4 n1 k1 n2 k2 n3 k3 n4 k4 w2 (hW.le jX) g1 (st.box (cs:=[.slice A1 n1 k1,.slice A2 n2 k2,.slice A3 n3 k3,.slice A4 n4 k4]) (i:=1) rfl|>.below eX)
  | 7,hf,hx=>cases hf;cases hx;exact aTb s A1 A2 A3 A4 n1 k1 n2 k2 n3 k3 n4 k4 w2 (hW.le jX) g1 (st.box (cs:=[.slice A1 n1 k1,.slice A2 n2 k2,.slice A3 n3 k3,.slice A4 n4 k4]) (i:=1) rfl|>.below eX)
  | i+8,hf,_=>simp at hf)) ?_
 refine aA ?_;exact aT (h:=fun _ _=>rfl)
end
section
attribute [local irreducible] KC KI KQ
def bE(l:List Bool):List Value:=l.map .bool
theorem aJN{l:List Bool}{i:Nat}{b:Bool}(h:l[i]? =some b):(bE l)[i]? =some (.bool b):=by simp[bE,h]
def hasB(l:List Bool)(i:Nat):Bool:=l[i]?.getD false
def RP(p:Piece)(g o:Nat)(v:Value):Prop:=p.Z g∧p.w.cell? ⟨g,o,none⟩=some v
theorem RP.le{p q:Piece}{g o:Nat}{v:Value}(h:RP p g o v)(hl:p.Le q):RP q g o v:=⟨(hl g h.1).1,(World.cell?_of_block (w:=p.w) (a:=⟨g,o,none⟩) (hl g h.1).2).trans h.2⟩
theorem RP.rd{w0:World}{R:List Piece}{H:List HP}{p:Piece}{g o:Nat}{v:Value}(h:RP p g o v)(hp:p∈R):Rd w0 R H g o v:=Rd.ro hp h.1 h.2
theorem Iter.le{P:Program}{g:FuncId}{lb:List Value}{encs:List (List Value)}{p q:Piece}(h:Iter P g lb encs p)(hl:p.Le q):Iter P g lb encs q:=fun l J Jx W F hq hd=>h l J Jx W F (fun b hb=>⟨(hq b (hl b hb).1).1,((hq b (hl b hb).1).2).trans (hl b hb).2⟩) (fun b hb=>hd b (hl b hb).1)
theorem aR1{α:Type}{l:List α}{s:α→Bool}{k:Nat}{x:α}(hx:l[k]? =some x)(hs:s x=true):(l.filter s)[((l.take k).filter s).length]? =some x∧((l.take (k+1)).filter s).length=((l.take k).filter s).length+1:=by
 have h1:l.take (k+1)=l.take k++[x]:=by rw[List.take_add_one,hx];rfl
 have h2:l=l.take k++x::l.drop (k+1):=by
  have hlt:=(List.getElem?_eq_some_iff.1 hx).1
  have hv:=(List.getElem?_eq_some_iff.1 hx).2
  rw[←hv,List.getElem_cons_drop hlt,List.take_append_drop]
 refine⟨?_,by rw[h1,List.filter_append];simp[hs]⟩
 have h3:l.filter s=(l.take k).filter s++(x::l.drop (k+1)).filter s:=by rw[←List.filter_append,←h2]
 rw[h3,List.getElem?_append_right (Nat.le_refl _),Nat.sub_self,List.filter_cons_of_pos hs];rfl
theorem aIU{α:Type}{l:List α}{s:α→Bool}{k:Nat}{x:α}(hx:l[k]? =some x)(hs:s x=false):((l.take (k+1)).filter s).length=((l.take k).filter s).length:=by
 rw[List.take_add_one,hx,Option.toList_some,List.filter_append];simp[hs]
def sO(fr to:List Bool)(i:Nat):Bool:=hasB to i&& !hasB fr i
def eV(order:List Nat)(fr to:List Bool):List Nat:=order.filter (sO fr to)
def wY(ids:List Nat):List (List Value):=ids.map fun(i:Nat)=>[iv (i:Int)]
theorem aEg(A:Option Addr)(n c i:Nat)(bs:List Bool)(w:World)(hs:aI (all w) 1 A n (bE bs))(hn:n=bs.length)(hi:(i:Int)≤9223372036854775807):
  Cz 152 #[.slice A n c,iv i] w (Rt (.bool (hasB bs i)) w):=by
 refine aM func152 ntmps152 ?_;refine aB ?_;refine bQ (t:=9) rfl (fun hg=>?_) (fun hg=>?_)
 ·
  refine aB ?_
  have hin:i < bs.length:=by omega
  obtain⟨b,off,rfl,hz,hc⟩:=hs.2 (by omega);obtain⟨v,hv⟩:∃v,bs[i]? =some v:=⟨_,List.getElem?_eq_getElem hin⟩
  have c1:fQ w b (off+i) (.bool v):=⟨hz,hc i _ (aJN hv)⟩
  refine aB ?_;exact aT (h:=fun _ _=>by rw[hasB,hv];rfl)
 ·
  refine aB ?_;exact aT (h:=fun _ _=>by rw[hasB,List.getElem?_eq_none (by omega)];rfl)
theorem aOR(p:Piece)(g1 g2 g3 n Jz nf c ct cf:Nat)(A At Af:Option Addr)(order:List Nat)(fr to:List Bool)(h1:RP p g1 0 (.slice A n c))(h2:RP p g2 0 (.slice At Jz ct))(h3:RP p g3 0 (.slice Af nf cf))
  (hs:aI p 1 A n (aK (dM order))) (hn:n=order.length) (hn2:(n:Int)≤9223372036854775806) (hst:aI p 1 At Jz (bE to)) (hnt:Jz=to.length) (pV:aI p 1 Af nf (bE fr)) (hnf:nf=fr.length) (Nh:∀i∈order,(i:Int)≤9223372036854775807):
  Iter Tryz.prog 288 [pt g1,pt g2,pt g3] (wY (eV order fr to)) p:=by
 unfold Iter;intro l J Jx W F hp hd hJ hF hY;refine aCl (vs:=[.func (.yield l) #[] #[],pt g1,pt g2,pt g3]) func288 rfl ntmps288 (by simp) (aFr hp hd hJ hF) ?_;dsimp only[List.cons_append,List.nil_append];refine kG ?_;refine kZ (by kernel_rfl) ?_;refine jE (by kernel_rfl) rfl (h1.rd (by simp)) (by decide) ?_;refine El (el:=3) (by kernel_rfl) rfl (by decide) ?_;refine cQ rfl (by decide) ?_;refine lA ?_;refine eU ?_;refine bL [(9,iv 0),(8,iv n),(7,.slice A n c),(3,pt g3),(2,pt g2),(0,.func (.yield l) #[] #[])] ?_;refine Bw ?_;refine aFh (fun m L e R H=>∃k:Nat,k≤n∧m=n - k∧L=[]∧e=[(9,iv k),(8,iv n),(7,.slice A n c),(3,pt g3),(2,pt g2),(0,.func (.yield l) #[] #[])]∧R=[p,nt W F]∧H=[J (((order.take k).filter (sO fr to)).length),tZ []]) n ⟨0,by omega,rfl,rfl,rfl,rfl,rfl⟩ fun m L e R H hI=>?_;obtain⟨k,hk,rfl,rfl,rfl,rfl,rfl⟩:=hI;refine kG ?_;refine kZ (by kernel_rfl) ?_;refine Pt rfl rfl (by decide) ?_;refine lA ?_;refine eU ?_;refine kG ?_;refine aCk rfl (fun h=>?_) (fun h=>?_)
 ·
  refine Jf ?_;refine eU ?_;refine kG ?_;refine Bw ?_;refine kG ?_
  have hkn:k < order.length:=by omega
  obtain⟨b,off,rfl,hz,hc⟩:=hs.2 (by omega);obtain⟨i,hi⟩:∃i,order[k]? =some i:=⟨_,List.getElem?_eq_getElem hkn⟩
  have hib:=Nh i (List.mem_of_getElem? hi)
  refine kZ (by kernel_rfl) ?_;refine kd (dat (k) (off+k)) ?_;refine jE (by kernel_rfl) rfl (Rd.ro (p:=p) (by simp) hz (hc k (iv (i:Int)) (by simp[aK,dM,hi]))) (by decide) ?_;refine fP rfl (by decide) ?_;refine lA ?_;refine eU ?_;refine kG ?_;refine aKy ?_;refine jK (by kernel_rfl) ?_;refine jE (by kernel_rfl) rfl (h2.rd (by simp)) (by decide) ?_;refine jL ?_;refine jK (by kernel_rfl) ?_;refine cQ rfl (by decide) ?_;refine jL ?_;refine jK (by kernel_rfl) ?_;refine dG (fun w1 st=>aEg _ _ _ i to w1 (hst.le (st.le (by simp))) hnt (by omega)) ?_;refine jL ?_;refine jK (by kernel_rfl) ?_;refine cQ rfl (by decide) ?_;refine jL ?_;refine sM (t:=16) rfl (fun hg=>?_) (fun hg=>?_)
  ·
   refine jK (by kernel_rfl) ?_;refine fG rfl rfl ?_;refine jE (by kernel_rfl) rfl (h3.rd (by simp)) (by decide) ?_;refine jL ?_;refine jK (by kernel_rfl) ?_;refine fG rfl rfl ?_;refine cQ rfl (by decide) ?_;refine jL ?_;refine jK (by kernel_rfl) ?_;refine fG rfl rfl ?_;refine dG (fun w1 st=>aEg _ _ _ i fr w1 (pV.le (st.le (by simp))) hnf (by omega)) ?_;refine jL ?_;refine jK (by kernel_rfl) ?_;refine fG rfl rfl ?_;(first | refine Md rfl (by decide) ?_ | refine zL rfl (by decide) ?_);refine jL ?_;refine jK (by kernel_rfl) ?_;(first | refine qE rfl rfl (by decide) ?_ | refine qF rfl rfl (by decide) ?_);refine jL ?_;refine jK (by kernel_rfl) ?_;refine cQ rfl (by decide) ?_;refine jL ?_;refine sM (t:=22) rfl (fun Fu=>?_) (fun Fu=>?_)
   ·
    refine jK (by kernel_rfl) ?_;refine fG rfl rfl ?_;refine cQ rfl (by decide) ?_;refine jL ?_;refine jK (by kernel_rfl) ?_;refine fG rfl rfl ?_;refine cQ rfl (by decide) ?_;refine jL ?_
    have hsel:sO fr to i=true:=by rw[sO,hg,Fu];rfl
    obtain⟨gN,nX⟩:=aR1 hi hsel;refine aUt rfl rfl ?_;refine aFf 0 rfl rfl (by decide) (by simp:nt W F∈[p,nt W F]) (xM.refl W) rfl (fun W1 F1 h1 h2 h3=>hY _ [iv i] W1 F1 (by simp[wY,eV,gN]) h1 h2 h3) ?_ ?_
    rotate_left
    ·
     refine jK (by kernel_rfl) ?_;refine fG rfl rfl ?_;refine zL rfl (by decide) ?_;refine jL ?_;refine jK (by kernel_rfl) ?_;(first | refine qE rfl rfl (by decide) ?_ | refine qF rfl rfl (by decide) ?_);refine jL ?_;refine Lt ?_;refine eU ?_;refine Jg rfl (fun _=>?_) (fun h=>by cases h);refine Ow ?_;refine eU ?_;refine Tu (Hs:=[Jx (((order.take k).filter (sO fr to)).length+1)]) (.inl rfl) rfl fun w1 st=>?_;obtain⟨F',h1,h2⟩:=st.turns hF (by simp[nt]) (i:=0) rfl;exact⟨⟨_,rfl⟩,F',h2,.inr ⟨_,by simp[wY,eV];exact(List.getElem?_eq_some_iff.1 gN).1,h1⟩⟩
    dsimp only[List.set];refine jK (by kernel_rfl) ?_;refine fG rfl rfl ?_;refine zL rfl (by decide) ?_;refine jL ?_;refine jK (by kernel_rfl) ?_;(first | refine qE rfl rfl (by decide) ?_ | refine qF rfl rfl (by decide) ?_);refine jL ?_;refine Lt ?_;refine eU ?_;refine Jg rfl (fun h=>by cases h) (fun _=>?_)
    ·skip
     refine Jf ?_;refine eU ?_;refine kZ (by kernel_rfl) ?_;refine zO rfl rfl (iR (by omega)) (by decide) ?_;refine cQ rfl (by decide) ?_;refine lA ?_;refine eU ?_;exact bL [(9,iv (k+1)),(8,iv n),(7,.slice (some ⟨b,off,none⟩) n c),(3,pt g3),(2,pt g2),(0,.func (.yield l) #[] #[])] (aAh (n - (k+1)) (by omega) ⟨k+1,by omega,rfl,rfl,rfl,rfl,by rw[nX]⟩)
   ·
    refine jK (by kernel_rfl) ?_;refine fR rfl rfl rfl (by decide) ?_;refine jL ?_;refine jK (by kernel_rfl) ?_;refine fR rfl rfl rfl (by decide) ?_;refine jL ?_;refine jK (by kernel_rfl) ?_;refine fR rfl rfl rfl (by decide) ?_;refine jL ?_;refine jK (by kernel_rfl) ?_;refine fR rfl rfl rfl (by decide) ?_;refine jL ?_;refine jK (by kernel_rfl) ?_;(first | refine qE rfl rfl (by decide) ?_ | refine qF rfl rfl (by decide) ?_);refine jL ?_;refine Lt ?_;refine eU ?_;refine Jg rfl (fun h=>by cases h) (fun _=>?_);refine Jf ?_;refine eU ?_;refine kZ (by kernel_rfl) ?_;refine zO rfl rfl (iR (by omega)) (by decide) ?_;refine cQ rfl (by decide) ?_;refine lA ?_;refine eU ?_
    have hsel:sO fr to i=false:=by rw[sO,hg];simpa using Fu
    exact bL [(9,iv (k+1)),(8,iv n),(7,.slice (some ⟨b,off,none⟩) n c),(3,pt g3),(2,pt g2),(0,.func (.yield l) #[] #[])] (aAh (n - (k+1)) (by omega) ⟨k+1,by omega,rfl,rfl,rfl,rfl,by rw[aIU hi hsel]⟩)
  ·
   refine jK (by kernel_rfl) ?_;refine fR rfl rfl rfl (by decide) ?_;refine jL ?_;refine jK (by kernel_rfl) ?_;refine fR rfl rfl rfl (by decide) ?_;refine jL ?_;refine jK (by kernel_rfl) ?_;refine fR rfl rfl rfl (by decide) ?_;refine jL ?_;refine jK (by kernel_rfl) ?_;refine fR rfl rfl rfl (by decide) ?_;refine jL ?_;refine jK (by kernel_rfl) ?_;(first | refine qE rfl rfl (by decide) ?_ | refine qF rfl rfl (by decide) ?_);refine jL ?_;refine jK (by kernel_rfl) ?_;refine cQ rfl (by decide) ?_;refine jL ?_;refine jK (by kernel_rfl) ?_;refine fR rfl rfl rfl (by decide) ?_;refine jL ?_;refine jK (by kernel_rfl) ?_;refine fR rfl rfl rfl (by decide) ?_;refine jL ?_;refine jK (by kernel_rfl) ?_;refine fR rfl rfl rfl (by decide) ?_;refine jL ?_;refine jK (by kernel_rfl) ?_;refine fR rfl rfl rfl (by decide) ?_;refine jL ?_;refine jK (by kernel_rfl) ?_;(first | refine qE rfl rfl (by decide) ?_ | refine qF rfl rfl (by decide) ?_);refine jL ?_;refine Lt ?_;refine eU ?_;refine Jg rfl (fun h=>by cases h) (fun _=>?_);refine Jf ?_;refine eU ?_;refine kZ (by kernel_rfl) ?_;refine zO rfl rfl (iR (by omega)) (by decide) ?_;refine cQ rfl (by decide) ?_;refine lA ?_;refine eU ?_
   have hsel:sO fr to i=false:=by rw[sO,hg];rfl
   exact bL [(9,iv (k+1)),(8,iv n),(7,.slice (some ⟨b,off,none⟩) n c),(3,pt g3),(2,pt g2),(0,.func (.yield l) #[] #[])] (aAh (n - (k+1)) (by omega) ⟨k+1,by omega,rfl,rfl,rfl,rfl,by rw[aIU hi hsel]⟩)
 ·
  refine aFi ?_;refine eU ?_;refine Tu (Hs:=[J (((order.take k).filter (sO fr to)).length)]) (.inr rfl) rfl fun w1 st=>?_;obtain⟨F',h1,h2⟩:=st.turns hF (by simp[nt]) (i:=0) rfl;rw[List.take_of_length_le (by omega)] at h1;exact⟨⟨_,rfl⟩,F',h2,.inl (by simpa[wY,eV] using h1)⟩
end
section
attribute [local irreducible] KC KI KQ
def aK6(pr msg i v:Int):Value:=.agg #[iv pr,iv msg,.int .u32 i,.int .u32 v]
def yB(pr msg:Int)(val:Nat→Int)(ids:List Nat):List (List Value):=ids.map fun(i:Nat)=>[aK6 pr msg i (val i)]
def Oy(p:Piece)(wR:FuncId)(zP:List Value)(ids:List Nat)(val:Nat→Int):Prop:=∀i∈ids,∀w',p.Le (all w')→Cz wR (Value.int .i64 (i:Int)::zP).toArray w' (Rt (.int .u32 (val i)) w')
theorem Piece.Le.trans'{p q r:Piece}(h:p.Le q)(k:q.Le r):p.Le r:=fun b hb=>⟨(k b (h b hb).1).1,(k b (h b hb).1).2.trans (h b hb).2⟩
theorem Oy.le{p q:Piece}{wR:FuncId}{zP:List Value}{ids:List Nat}{val:Nat→Int}(h:Oy p wR zP ids val)(hl:p.Le q):Oy q wR zP ids val:=fun i hi w' hq=>h i hi w' (hl.trans' hq)
theorem tY{q:Piece}{g o:Nat}{t:TypeId}{cs:List Value}{v:Value}(h:∃F,(HP.aE g t cs).sat F q.w∧∀b,F b→q.Z b)(hv:cs[o]? =some v):RP q g o v:=by
 obtain⟨F,hs,hz⟩:=h;refine⟨hz g hs.1,?_⟩
 have:vF q.w g t cs.toArray:=hs.2
 rw[this.cell]
 simpa using hv
theorem aTL(i v:Int)(g:Nat)(w:World)(h:fQ w g 0 (.int .u32 v)):Cz 289 #[iv i,pt g] w (Rt (.int .u32 v) w):=by
 refine aM func289 ntmps289 ?_;refine aB ?_;exact aT (h:=fun _ _=>rfl)
def Ug(v:Int)(y:Value)(w w':World):Prop:=∃g,y=.func (.func 289) #[] #[pt g]∧∀q,(fresh w w').Le q→∀ids,Oy q 289 [pt g] ids fun _=>v
theorem Zm(v:Int)(w:World):Cz 284 #[.int .u32 v] w (fun y w'=>(∃x,y=.returned x∧Ug v x w w')∧Below w.heap.size w w'):=by
 refine aM func284 ntmps284 ?_;refine aA ?_;refine bA fun g1=>?_;refine aA ?_;refine kS (vf:=[]) (vc:=[pt g1]) rfl rfl (by decide) ?_;refine aA ?_;refine dP [] [0] [] (by simp) rfl (by decide) (by decide) fun q hq _ hfr=>?_;refine mZ rfl rfl fun w1 st=>⟨⟨_,rfl,g1,rfl,fun q2 hf ids i hi=>?_⟩,st.below (by simp)⟩
 have cX:=(tY (o:=0) (v:=.int .u32 v) (hq 0 _ (by simp) rfl) rfl).le ((st.mK (by simp) (hfr (by simp) (by simp))).trans' hf)
 intro w' hw'
 have:=cX.le hw'
 exact aTL _ v g1 w' this
def Pk(p0:Piece)(ids:List Nat)(y:Value)(w w':World):Prop:=∃g1 g2 g3,y=.func (.func 288) #[] #[pt g1,pt g2,pt g3]∧∀q,p0.Le q→(fresh w w').Le q→Iter Tryz.prog 288 [pt g1,pt g2,pt g3] (wY ids) q
theorem Qo(p0:Piece)(n Jz nf c ct cf:Nat)(A At Af:Option Addr)(order:List Nat)(fr to:List Bool)(w:World)
  (hs:aI p0 1 A n (aK (dM order))) (hn:n=order.length) (hn2:(n:Int)≤9223372036854775806) (hst:aI p0 1 At Jz (bE to)) (hnt:Jz=to.length) (pV:aI p0 1 Af nf (bE fr)) (hnf:nf=fr.length) (Nh:∀i∈order,(i:Int)≤9223372036854775807):
  Cz 283 #[.slice A n c,.slice Af nf cf,.slice At Jz ct] w (fun y w'=>(∃x,y=.returned x∧Pk p0 (eV order fr to) x w w')∧Below w.heap.size w w'):=by
 refine aM func283 ntmps283 ?_;refine aA ?_;refine bA fun g1=>?_;refine bA fun g2=>?_;refine bA fun g3=>?_;refine aA ?_;refine kS (vf:=[]) (vc:=[pt g1,pt g3,pt g2]) rfl rfl (by decide) ?_;refine aA ?_;refine dP [] [0,1,2] [] (by simp) rfl (by decide) (by decide) fun q hq _ hfr=>?_;refine mZ rfl rfl fun w1 st=>⟨⟨_,rfl,g1,g3,g2,rfl,fun q2 Fs hf=>?_⟩,st.below (by simp)⟩
 have hle:=(st.mK (by simp) (hfr (by simp) (by simp))).trans' hf
 exact aOR q2 g1 g3 g2 n Jz nf c ct cf A At Af order fr to ((tY (hq 2 _ (by simp) rfl) rfl).le hle) ((tY (hq 0 _ (by simp) rfl) rfl).le hle) ((tY (hq 1 _ (by simp) rfl) rfl).le hle) (hs.le Fs) hn hn2 (hst.le Fs) hnt (pV.le Fs) hnf Nh
theorem aMh(p:Piece)(g1 g2 g3 g4:Nat)(gf wR:FuncId)(lb zP:List Value)(pr msg:Int)(val:Nat→Int)(ids:List Nat)(h1:RP p g1 0 (.func (.func gf) #[] lb.toArray))(h2:RP p g2 0 (iv pr))(h3:RP p g3 0 (iv msg))(h4:RP p g4 0 (.func (.func wR) #[] zP.toArray))
  (hit:Iter Tryz.prog gf lb (wY ids) p) (Xg:fI Tryz.prog gf=true) (hvc:fI Tryz.prog wR=true) (hval:Oy p wR zP ids val) (Xd:∀i∈ids,i < 4294967296):
  Iter Tryz.prog 287 [pt g1,pt g2,pt g3,pt g4] (yB pr msg val ids) p:=by
 unfold Iter;intro l J Jx W F hp hd hJ hF hY;refine aCl (vs:=[.func (.yield l) #[] #[],pt g1,pt g2,pt g3,pt g4]) func287 rfl ntmps287 (by simp) (aFr hp hd hJ hF) ?_;dsimp only[List.cons_append,List.nil_append];refine kG ?_;refine kZ (by kernel_rfl) ?_;refine bA fun g5=>?_;refine lA ?_;refine eU ?_;refine kG ?_;refine kZ (by kernel_rfl) ?_;refine jE (by kernel_rfl) rfl (h1.rd (by simp)) (by decide) ?_;refine lA ?_;refine eU ?_;refine bL [(7,.func (.func gf) #[] lb.toArray),(5,pt g5),(4,pt g4),(3,pt g3),(2,pt g2)] ?_;refine Bw ?_
 refine aFg (gf:=gf) (lb:=lb) (encs:=wY ids) (p:=p) rfl Xg hit (by simp) (fun vs hvs=>?_) (by decide) (fun k=>[HP.aE g5 416 [.func (.yield l) #[] #[]],J k]) (fun k=>[HP.aE g5 416 [.func (.yield l) #[] #[]],Jx k])
  (fun k vs e1 H1=>e1=[(6,vs.headD (.tuple #[])),(5,pt g5),(4,pt g4),(3,pt g3),(2,pt g2)]∧H1=[HP.aE g5 416 [.func (.yield l) #[] #[]],J k]) rfl ?_ ?_ ?_ ?_
 ·simp only[wY,List.mem_map] at hvs;obtain⟨i,_,rfl⟩:=hvs;rfl
 ·
  intro l2 k vs W1 q X hvs cR
  obtain⟨i,hi,rfl⟩:∃i,ids[k]? =some i∧vs=[iv (i:Int)]:=by
   simp only[wY,List.getElem?_map,Option.map_eq_some_iff] at hvs;obtain⟨i,h,e⟩:=hvs;exact⟨i,h,e.symm⟩
  refine kZ (by kernel_rfl) ?_;refine fP rfl (by decide) ?_;refine lA ?_;refine bL [(6,iv (i:Int)),(5,pt g5),(4,pt g4),(3,pt g3),(2,pt g2)] ?_;exact aFk ⟨rfl,rfl⟩
 ·
  rintro l2 k vs W1 q X _ _ hvs cR ⟨rfl,rfl⟩
  obtain⟨i,hik,rfl⟩:∃i,ids[k]? =some i∧vs=[iv (i:Int)]:=by
   simp only[wY,List.getElem?_map,Option.map_eq_some_iff] at hvs;obtain⟨i,h,e⟩:=hvs;exact⟨i,h,e.symm⟩
  have hi:=List.mem_of_getElem? hik
  have hib:=Xd i hi
  dsimp only[List.cons_append,List.nil_append,List.headD_cons];refine Bw ?_;refine kG ?_;refine aU1 9 (by kernel_rfl) (by kernel_rfl) ?_;simp only[List.take_succ_cons,List.take_zero,List.drop_succ_cons,List.drop_zero];refine gF 0 rfl rfl rfl (Ld (by kernel_rfl) rfl (Rd.aE 0 rfl rfl)) ?_;refine gF 1 rfl rfl rfl (Ld (by kernel_rfl) rfl (h2.rd (by simp))) ?_;refine gF 2 rfl rfl rfl (Ld (by kernel_rfl) rfl (h3.rd (by simp))) ?_;refine gF 3 rfl rfl rfl (mY rfl) ?_;refine gF 4 rfl rfl rfl (Lg (ds:=.int .i64) (by kernel_rfl) (by kernel_rfl) rfl (wrap_u32 (by omega))) ?_;refine gF 5 rfl rfl rfl (Ld (by kernel_rfl) rfl (h4.rd (by simp))) ?_;refine gF 6 rfl rfl rfl (mY rfl) ?_;refine cH 7 ?_;refine zN (f:=wR) (fi:=[]) (ca:=zP) hvc rfl rfl (by decide) (fun w1 st=>hval i hi w1 (st.le (by simp))) ?_;refine nY ?_;refine gF 8 rfl rfl rfl (lZ (zs:=[iv 0,iv 0,.int .u32 0,.int .u32 0]) (L:=[(0,1),(1,1),(2,1),(3,1)]) (iG (by kernel_rfl)) (by kernel_rfl) rfl (by simp[fJ,gK,Value.cells];rfl)) ?_;refine kH ?_;refine aUs ?_;refine aFf 1 rfl rfl (by decide) (by simp:nt W F∈[p,nt W F,q]) cR rfl (fun W2 F2 h1 h2 h3=>hY k _ W2 F2 (by simp[yB,hik];rfl) h1 h2 h3) ?_ ?_
  ·dsimp only[List.set];refine jK (by kernel_rfl) ?_;refine zL rfl (by decide) ?_;refine jL ?_;refine Lt ?_;refine eU ?_;refine Jg rfl (fun h=>by cases h) (fun _=>?_);refine Jf ?_;refine eU ?_;exact aFj
  ·dsimp only[List.set];refine jK (by kernel_rfl) ?_;refine zL rfl (by decide) ?_;refine jL ?_;refine Lt ?_;refine eU ?_;refine Jg rfl (fun _=>?_) (fun h=>by cases h);refine Ow ?_;refine eU ?_;exact aKz
 ·
  intro D;dsimp only[List.cons_append,List.nil_append];refine eU ?_;refine Tu (Hs:=[HP.aE g5 416 [.func (.yield l) #[] #[]],J (wY ids).length]) (.inr rfl) rfl fun w1 st=>?_;obtain⟨F',h1,h2⟩:=st.turns hF (by simp[nt]) (i:=1) rfl;exact⟨⟨_,rfl⟩,F',h2,.inl (by simpa[wY,yB] using h1)⟩
 ·intro D k hk;dsimp only[List.cons_append,List.nil_append];refine Ow ?_;refine eU ?_;refine Tu (Hs:=[HP.aE g5 416 [.func (.yield l) #[] #[]],Jx (k+1)]) (.inl rfl) rfl fun w1 st=>?_;obtain⟨F',h1,h2⟩:=st.turns hF (by simp[nt]) (i:=1) rfl;exact⟨⟨_,rfl⟩,F',h2,.inr ⟨k,by simpa[wY,yB] using hk,h1⟩⟩
def Pb(p0:Piece)(encs:List (List Value))(y:Value)(w w':World):Prop:=∃g1 g2 g3 g4,y=.func (.func 287) #[] #[pt g1,pt g2,pt g3,pt g4]∧∀q,p0.Le q→(fresh w w').Le q→Iter Tryz.prog 287 [pt g1,pt g2,pt g3,pt g4] encs q
theorem Qb(p0:Piece)(gf wR:FuncId)(lb zP:List Value)(pr msg:Int)(val:Nat→Int)(ids:List Nat)(w:World)(hit:Iter Tryz.prog gf lb (wY ids) p0)(Xg:fI Tryz.prog gf=true)(hvc:fI Tryz.prog wR=true)(hval:Oy p0 wR zP ids val)(Xd:∀i∈ids,i < 4294967296):
  Cz 282 #[.func (.func gf) #[] lb.toArray,iv pr,iv msg,.func (.func wR) #[] zP.toArray] w (fun y w'=>(∃x,y=.returned x∧Pb p0 (yB pr msg val ids) x w w')∧Below w.heap.size w w'):=by
 refine aM func282 ntmps282 ?_;refine aA ?_;refine bA fun g1=>?_;refine bA fun g2=>?_;refine bA fun g3=>?_;refine bA fun g4=>?_;refine aA ?_;refine kS (vf:=[]) (vc:=[pt g1,pt g2,pt g3,pt g4]) rfl rfl (by decide) ?_;refine aA ?_;refine dP [] [0,1,2,3] [] (by simp) rfl (by decide) (by decide) fun q hq _ hfr=>?_;refine mZ rfl rfl fun w1 st=>⟨⟨_,rfl,g1,g2,g3,g4,rfl,fun q2 Fs hf=>?_⟩,st.below (by simp)⟩
 have hle:=(st.mK (by simp) (hfr (by simp) (by simp))).trans' hf
 exact aMh q2 g1 g2 g3 g4 gf wR lb zP pr msg val ids ((tY (hq 3 _ (by simp) rfl) rfl).le hle) ((tY (hq 2 _ (by simp) rfl) rfl).le hle) ((tY (hq 1 _ (by simp) rfl) rfl).le hle) ((tY (hq 0 _ (by simp) rfl) rfl).le hle) (hit.le Fs) Xg hvc (hval.le Fs) Xd
end
section
attribute [local irreducible] KC KI KQ
structure dB where
 pr:Int
 msg:Int
 id:Int
 v:Int
def dB.cells(s:dB):List Value:=[iv s.pr,iv s.msg,.int .u32 s.id,.int .u32 s.v]
def tI(s:dB):Value:=.agg s.cells.toArray
def pS(l:List dB):List (List Value):=l.map fun s=>[tI s]
def jW(pr msg:Int)(val:Nat→Int)(ids:List Nat):List dB:=ids.map fun(i:Nat)=>⟨pr,msg,i,val i⟩
theorem Qe(pr msg:Int)(val:Nat→Int)(ids:List Nat):yB pr msg val ids=pS (jW pr msg val ids):=by
 simp[yB,pS,jW,tI,aK6,dB.cells]
structure zD where
 gf:FuncId
 lb:List Value
 Ev:List dB
def zD.fn(r:zD):Value:=.func (.func r.gf) #[] r.lb.toArray
def Ey(rows:List zD):List dB:=rows.flatMap (·.Ev)
def uM(rows:List zD)(i:Nat):Nat:=(Ey (rows.take i)).length
theorem aOC{rows:List zD}{i:Nat}{r:zD}(h:rows[i]? =some r):uM rows (i+1)=uM rows i+r.Ev.length:=by
 simp[uM,Ey,List.take_add_one,h]
theorem aHy{rows:List zD}{i k:Nat}{r:zD}{s:dB}(h:rows[i]? =some r)(hs:r.Ev[k]? =some s):(Ey rows)[uM rows i+k]? =some s:=by
 have hlt:=(List.getElem?_eq_some_iff.1 h).1
 have hv:=(List.getElem?_eq_some_iff.1 h).2
 have h2:rows=rows.take i++r::rows.drop (i+1):=by
  rw[←hv,List.getElem_cons_drop hlt,List.take_append_drop]
 have h3:Ey rows=Ey (rows.take i)++(r.Ev++Ey (rows.drop (i+1))):=by
  conv=>lhs;rw[h2]
  simp[Ey]
 have hk:=(List.getElem?_eq_some_iff.1 hs).1
 rw[h3,uM,List.getElem?_append_right (by omega),Nat.add_sub_cancel_left,List.getElem?_append_left hk];exact hs
theorem aOD{rows:List zD}{i:Nat}(h:rows.length≤i):uM rows i=(Ey rows).length:=by rw[uM,List.take_of_length_le h]
theorem aTS(p:Piece)(g1 n c:Nat)(A:Option Addr)(rows:List zD)(h1:RP p g1 0 (.slice A n c))(hs:aI p 1 A n (rows.map zD.fn))(hn:n=rows.length)(hn2:(n:Int)≤1000000)
  (hrows:∀r∈rows,fI Tryz.prog r.gf=true∧Iter Tryz.prog r.gf r.lb (pS r.Ev) p):
  Iter Tryz.prog 286 [pt g1] (pS (Ey rows)) p:=by
 unfold Iter;intro l J Jx W F hp hd hJ hF hY;refine aCl (vs:=[.func (.yield l) #[] #[],pt g1]) func286 rfl ntmps286 (by simp) (aFr hp hd hJ hF) ?_;dsimp only[List.cons_append,List.nil_append];refine kG ?_;refine kZ (by kernel_rfl) ?_;refine bA fun g2=>?_;refine lA ?_;refine eU ?_;refine kG ?_;refine kZ (by kernel_rfl) ?_;refine jE (by kernel_rfl) rfl (h1.rd (by simp)) (by decide) ?_;refine El (el:=407) (by kernel_rfl) rfl (by decide) ?_;refine cQ rfl (by decide) ?_;refine lA ?_;refine eU ?_;refine bL [(8,iv 0),(7,iv n),(6,.slice A n c),(2,pt g2)] ?_;refine Bw ?_;refine aFh (fun m L e R H=>∃i:Nat,i≤n∧m=n - i∧e=[(8,iv i),(7,iv n),(6,.slice A n c),(2,pt g2)]∧R=[p,nt W F]∧H=[HP.aE g2 416 [.func (.yield l) #[] #[]],J (uM rows i),tZ L]) n ⟨0,by omega,rfl,rfl,rfl,rfl⟩ fun m L e R H hI=>?_;obtain⟨i,hi,rfl,rfl,rfl,rfl⟩:=hI;refine kG ?_;refine kZ (by kernel_rfl) ?_;refine Pt rfl rfl (by decide) ?_;refine lA ?_;refine eU ?_;refine kG ?_;refine aCk rfl (fun h=>?_) (fun h=>?_)
 ·
  refine Jf ?_;refine eU ?_;refine kG ?_;refine Bw ?_;refine kG ?_
  have hin:i < rows.length:=by omega
  obtain⟨b,off,rfl,hz,hc⟩:=hs.2 (by omega);obtain⟨r,hr⟩:∃r,rows[i]? =some r:=⟨_,List.getElem?_eq_getElem hin⟩
  obtain⟨hcb,hit⟩:=hrows r (List.mem_of_getElem? hr)
  have hoff:=aOC hr
  refine kZ (by kernel_rfl) ?_;refine kd (dat (i) (off+i)) ?_;refine jE (by kernel_rfl) rfl (Rd.ro (p:=p) (by simp) hz (hc i (zD.fn r) (by simp[hr]))) (by decide) ?_;refine fP rfl (by decide) ?_;refine lA ?_;refine eU ?_;refine kG ?_;refine kZ (by kernel_rfl) ?_;refine cQ rfl (by decide) ?_;refine lA ?_;refine eU ?_;refine Bw ?_;refine bL [(12,zD.fn r),(8,iv i),(7,iv n),(6,.slice (some ⟨b,off,none⟩) n c),(2,pt g2)] ?_
  refine aFg (gf:=r.gf) (lb:=r.lb) (encs:=pS r.Ev) (p:=p) rfl hcb hit (by simp) (fun vs hvs=>?_) (by decide) (fun k=>[HP.aE g2 416 [.func (.yield l) #[] #[]],J (uM rows i+k)]) (fun k=>[HP.aE g2 416 [.func (.yield l) #[] #[]],Jx (uM rows i+k)])
   (fun k vs e1 H1=>∃(g3:Nat) (s:dB),vs=[tI s]∧e1=[(5,pt g3),(2,pt g2)]∧H1=[HP.aE g3 247 s.cells,HP.aE g2 416 [.func (.yield l) #[] #[]],J (uM rows i+k)]) rfl ?_ ?_ ?_ ?_
  ·simp only[pS,List.mem_map] at hvs;obtain⟨s,_,rfl⟩:=hvs;rfl
  ·
   intro l2 k vs W1 q X hvs cR
   obtain⟨s,rfl⟩:∃s,vs=[tI s]:=by
    simp only[pS,List.getElem?_map,Option.map_eq_some_iff] at hvs;obtain⟨s,_,e⟩:=hvs;exact⟨s,e.symm⟩
   dsimp only[List.cons_append,List.nil_append];refine kZ (by kernel_rfl) ?_;refine bX fun g3=>?_;refine rR 0 rfl rfl rfl (by kernel_rfl) (by simp[tI,dB.cells,Value.cells,Value.oneCell']) (by simp[tI,dB.cells,Value.cells]) ?_;rw[show iH [Value.int .i64 0,iv 0,.int .u32 0,.int .u32 0] 0 (tI s).cells.toList=s.cells by simp[iH,tI,dB.cells,Value.cells]];dsimp only[List.set];refine lA ?_;refine bL [(5,pt g3),(2,pt g2)] ?_;exact aFk (H1:=[HP.aE g3 247 s.cells,HP.aE g2 416 [.func (.yield l) #[] #[]],J (uM rows i+k)]) ⟨g3,s,rfl,rfl,rfl⟩
  ·
   rintro l2 k vs W1 q X _ _ hvs cR ⟨g3,s,rfl,rfl,rfl⟩
   have hsk:r.Ev[k]? =some s:=by
    simp only[pS,List.getElem?_map,Option.map_eq_some_iff] at hvs;obtain⟨s',h,e⟩:=hvs
    have:s'=s:=by
     cases s;cases s';simp[tI,dB.cells] at e;simp[e]
    exact this▸h
   have Df:=aHy hr hsk
   dsimp only[List.cons_append,List.nil_append];refine Bw ?_;refine kG ?_;refine aKy ?_;refine jK (by kernel_rfl) ?_;refine jE (by kernel_rfl) rfl (Rd.aE 1 rfl rfl) (by decide) ?_;refine jL ?_;refine jK (by kernel_rfl) ?_;refine zM 4 (by kernel_rfl) rfl (aQ.whole 0 rfl) rfl (by decide) ?_;refine jL ?_;refine aFf 2 rfl rfl (by decide) (by simp:nt W F∈[p,nt W F,q]) cR rfl (fun W2 F2 h1 h2 h3=>hY (uM rows i+k) [tI s] W2 F2 (by simp[pS,Df]) h1 h2 h3) ?_ ?_
   ·dsimp only[List.set];refine jK (by kernel_rfl) ?_;refine zL rfl (by decide) ?_;refine jL ?_;refine Lt ?_;refine eU ?_;refine Jg rfl (fun h=>by cases h) (fun _=>?_);refine Jf ?_;refine eU ?_;refine aY [1,2,3] rfl (by decide) (fun _ hp=>hp) ?_;exact aFj
   ·dsimp only[List.set];refine jK (by kernel_rfl) ?_;refine zL rfl (by decide) ?_;refine jL ?_;refine Lt ?_;refine eU ?_;refine Jg rfl (fun _=>?_) (fun h=>by cases h);refine Ow ?_;refine eU ?_;refine aY [1,2,3] rfl (by decide) (fun _ hp=>hp) ?_;exact aKz
  rotate_left
  ·
   intro D k hk;dsimp only[List.cons_append,List.nil_append];refine Ow ?_;refine eU ?_;refine Tu (Hs:=[HP.aE g2 416 [.func (.yield l) #[] #[]],Jx (uM rows i+(k+1))]) (.inl rfl) rfl fun w1 st=>?_;obtain⟨F',h1,h2⟩:=st.turns hF (by simp[nt]) (i:=1) rfl;obtain⟨s,fW⟩:∃s,r.Ev[k]? =some s:=⟨_,List.getElem?_eq_getElem (by simpa[pS] using hk)⟩
   have:=(List.getElem?_eq_some_iff.1 (aHy hr fW)).1
   exact⟨⟨_,rfl⟩,F',h2,.inr ⟨uM rows i+k,by simpa[pS] using this,h1⟩⟩
  intro D;dsimp only[List.cons_append,List.nil_append];refine eU ?_;refine kZ (by kernel_rfl) ?_;refine zO rfl rfl (iR (by omega)) (by decide) ?_;refine cQ rfl (by decide) ?_;refine lA ?_;refine eU ?_;exact bL [(8,iv (i+1)),(7,iv n),(6,.slice (some ⟨b,off,none⟩) n c),(2,pt g2)] (aAh (n - (i+1)) (by omega) ⟨i+1,by omega,rfl,rfl,rfl,by rw[hoff];simp[pS]⟩)
 ·
  refine aFi ?_;refine eU ?_;refine Tu (Hs:=[HP.aE g2 416 [.func (.yield l) #[] #[]],J (uM rows i)]) (.inr rfl) rfl fun w1 st=>?_;obtain⟨F',h1,h2⟩:=st.turns hF (by simp[nt]) (i:=1) rfl;rw[aOD (by omega)] at h1;exact⟨⟨_,rfl⟩,F',h2,.inl (by simpa[pS] using h1)⟩
def mO(s:aD)(d:Nat):Int:=if(s.domains[d]?.map (·.ret)).getD false then 2 else 0
theorem aTU(d gs n2 k2:Nat)(s:aD)(A2:Option Addr)(w:World)(h2:fQ w gs 1 (.slice A2 n2 k2))(Rx:jP (fH (all w)) vD 50 3 A2 n2 s.domains)(hn2:(n2:Int)≤1000000)(hd:d < n2):
  Cz 285 #[iv d,pt gs] w (Rt (.int .u32 (mO s d)) w):=by
 have hl:n2=s.domains.length:=by obtain⟨_,_,h,_⟩:=Rx;exact h
 obtain⟨x,hx⟩:∃x,s.domains[d]? =some x:=⟨_,List.getElem?_eq_getElem (by omega)⟩
 obtain⟨b,off,r,rfl,hrl,rfl,hro⟩:=Rx.row hx;refine aM func285 ntmps285 ?_;refine cP ?_;refine eC ?_;refine fP rfl (by decide) ?_;refine dO ?_;refine cP ?_;refine cP ?_;refine eC ?_;refine qG (off:=1) (by kernel_rfl) rfl (by decide) ?_;refine jE (by kernel_rfl) rfl (Ca (by simp) h2) (by decide) ?_;refine cQ rfl (by decide) ?_;refine kd (dat (d) (off+d*3)) ?_;refine qG (off:=2) (by kernel_rfl) rfl (by decide) ?_;refine jE (by kernel_rfl) rfl (Ca (by simp) (hro.at_ (j:=2) (v:=.bool x.ret) rfl)) (by decide) ?_;refine dO ?_;refine qD rfl (fun h=>?_) (fun h=>?_)
 ·
  refine aB ?_;exact aT (h:=fun _ _=>by rw[mO,hx];simp[h])
 ·
  refine aB ?_;exact aT (h:=fun _ _=>by rw[mO,hx];simp[h])
theorem aTT(p:Piece)(gs n2 k2:Nat)(s:aD)(A2:Option Addr)(h2:RP p gs 1 (.slice A2 n2 k2))(Rx:jP (fH p) vD 50 3 A2 n2 s.domains)(hn2:(n2:Int)≤1000000)(ids:List Nat)(Xd:∀i∈ids,i < n2):Oy p 285 [pt gs] ids (mO s):=fun i hi w' hw'=>
 aTU i gs n2 k2 s A2 w' (h2.le hw') (Rx.mono (oB hw') (fun _ _ h=>h)) hn2 (Xd i hi)
end
section
def aF9(n:Nat)(xs:List Value)(v:Value)(hs:List HP)(_:Piece):Prop:=∃A c,v=.slice A n c∧hs=[HP.own 3 1 (.slice A n c) n xs]
theorem aJ7(A:Option Addr)(n c:Nat)(xs:List Value)(w:World)(hs:aI (all w) 1 A n xs)(h1:∀u∈xs,u.oneCell'=true)(hn:n≤1000000):
  Cz 280 #[.slice A n c] w (fun y w'=>(∃v hs q,y=.returned v∧q.w=w'∧aF9 n xs v hs q∧jD w hs q)∧Below w.heap.size w w'):=by
 refine aM func280 ntmps280 ?_;refine aB ?_;refine aAy (el:=3) (by kernel_rfl) rfl (by decide) ?_;refine aB ?_;refine qD rfl (fun hA=>?_) (fun hA=>?_)
 ·
  refine aB ?_
  have hn0:n=0:=by
   rcases Nat.eq_zero_or_pos n with h | h
   ·exact h
   ·obtain⟨b,off,rfl,_⟩:=hs.2 h;cases hA
  subst hn0
  have hx:xs=[]:=List.eq_nil_of_length_eq_zero (by simpa using hs.1)
  subst hx;refine iN 3 1 ?_;refine dP [] [] [0] (by simp) rfl (by decide) (by decide) fun q _ _ hfr=>?_;exact aT (h:=fun w1 st=>⟨_,_,⟨w1,q.Z⟩,rfl,rfl,⟨_,_,rfl,rfl⟩,st.newR (by simp) (by simp) (hfr (by simp) (by simp))⟩)
 ·
  refine aB ?_;refine Ek (el:=3) (sz:=1) (by kernel_rfl) (by kernel_rfl) (by decide) fun g=>?_;refine Bv 0 1 0 rfl rfl (by omega) ?_;dsimp only[List.set];refine aB ?_;refine gJ 0 1 8 n (n':=n) (el:=3) (by kernel_rfl) (by kernel_rfl) (by decide) rfl rfl rfl (rE (by simp) hs) h1 (by omega) (by omega) (by omega) (by decide) fun A' k'=>?_;dsimp only[List.set,List.nil_append];refine aB ?_;refine dP [] [] [0] (by simp) rfl (by decide) (by decide) fun q _ _ hfr=>?_;exact aT (h:=fun w1 st=>⟨_,_,⟨w1,q.Z⟩,rfl,rfl,⟨_,_,rfl,rfl⟩,st.newR (by simp) (by simp) (hfr (by simp) (by simp))⟩)
def Pn(n:Nat)(xs:List Value)(v:Value)(hs:List HP)(_:Piece):Prop:=∃A c,v=.slice A n c∧hs=[HP.own 4 1 (.slice A n c) n xs]
theorem Sx(A:Option Addr)(n c:Nat)(xs:List Value)(w:World)(hs:aI (all w) 1 A n xs)(h1:∀u∈xs,u.oneCell'=true)(hn:n≤1000000):
  Cz 171 #[.slice A n c] w (fun y w'=>(∃v hs q,y=.returned v∧q.w=w'∧Pn n xs v hs q∧jD w hs q)∧Below w.heap.size w w'):=by
 refine aM func171 ntmps171 ?_;refine aB ?_;refine aAy (el:=4) (by kernel_rfl) rfl (by decide) ?_;refine aB ?_;refine qD rfl (fun hA=>?_) (fun hA=>?_)
 ·
  refine aB ?_
  have hn0:n=0:=by
   rcases Nat.eq_zero_or_pos n with h | h
   ·exact h
   ·obtain⟨b,off,rfl,_⟩:=hs.2 h;cases hA
  subst hn0
  have hx:xs=[]:=List.eq_nil_of_length_eq_zero (by simpa using hs.1)
  subst hx;refine iN 4 1 ?_;refine dP [] [] [0] (by simp) rfl (by decide) (by decide) fun q _ _ hfr=>?_;exact aT (h:=fun w1 st=>⟨_,_,⟨w1,q.Z⟩,rfl,rfl,⟨_,_,rfl,rfl⟩,st.newR (by simp) (by simp) (hfr (by simp) (by simp))⟩)
 ·
  refine aB ?_;refine Ek (el:=4) (sz:=1) (by kernel_rfl) (by kernel_rfl) (by decide) fun g=>?_;refine Bv 0 1 0 rfl rfl (by omega) ?_;dsimp only[List.set];refine aB ?_;refine gJ 0 1 1 n (n':=n) (el:=4) (by kernel_rfl) (by kernel_rfl) (by decide) rfl rfl rfl (rE (by simp) hs) h1 (by omega) (by omega) (by omega) (by decide) fun A' k'=>?_;dsimp only[List.set,List.nil_append];refine aB ?_;refine dP [] [] [0] (by simp) rfl (by decide) (by decide) fun q _ _ hfr=>?_;exact aT (h:=fun w1 st=>⟨_,_,⟨w1,q.Z⟩,rfl,rfl,⟨_,_,rfl,rfl⟩,st.newR (by simp) (by simp) (hfr (by simp) (by simp))⟩)
theorem aGT(A:Option Addr)(n c:Nat)(xs:List Value)(w:World)(F:Nat→Prop)(hp:(HP.own 3 1 (.slice A n c) n xs).sat F w)(hF:∀b,F b→b < w.heap.size)(h1:∀u∈xs,u.oneCell'=true)(hn:xs.length=n)(hn2:n≤1000000)(hA:0 < n→∃g,A=some ⟨g,0,none⟩):
  Cz 281 #[.slice A n c] w (Wr (.tuple #[]) (HP.own 3 1 (.slice A n c) n xs.reverse) w F):=by
 refine dJ func281 ntmps281 hp hF ?_;refine aB ?_;refine bL [(3,iv ((n:Int) - 1)),(2,iv 0),(0,.slice A n c)] ?_;refine aB ?_;refine eJ (fun m e R H=>∃(k:Nat) (l:List Value),m=n - k∧2*k≤n∧Lx xs k l∧e=[(3,iv ((n:Int) - 1 - k)),(2,iv k),(0,.slice A n c)]∧R=[⟨w,fun b=>b < w.heap.size∧¬F b⟩]∧H=[HP.own 3 1 (.slice A n c) n l]) n ⟨0,xs,by omega,by omega,.zero xs,by simp,rfl,rfl⟩ fun m e R H hI=>?_;obtain⟨k,l,rfl,hk,hl,rfl,rfl,rfl⟩:=hI;refine aB ?_;refine aG rfl (fun h=>?_) (fun h=>?_)
 ·
  refine mA ?_;refine dS ?_;refine cP ?_
  have h':(k:Int) < (n:Int) - 1 - k:=h
  have Ft:=hl.1
  obtain⟨g,rfl⟩:∃g,A=some ⟨g,0,none⟩:=hA (by omega);obtain⟨u,hu⟩:∃u,l[xs.length - 1 - k]? =some u:=⟨_,List.getElem?_eq_getElem (by omega)⟩
  obtain⟨v,hv⟩:∃u,l[k]? =some u:=⟨_,List.getElem?_eq_getElem (by omega)⟩
  have hou:u.oneCell'=true:=by
   have:=hl.2 _ (by omega:xs.length - 1 - k < xs.length);rw[hu] at this
   split at this<;>exact h1 _ (List.mem_of_getElem? this.symm)
  have hov:v.oneCell'=true:=by
   have:=hl.2 _ (by omega:k < xs.length);rw[hv] at this
   split at this<;>exact h1 _ (List.mem_of_getElem? this.symm)
  refine Ti 0 rfl fun cs Xs qO hc3 hc4=>?_;dsimp only[List.set];rw[Nat.mul_one] at Xs qO
  have hcu:=aGr qO hu
  have Xq:=aGr qO hv
  refine sJ ?_;refine aUo 16 (by kernel_rfl) (by kernel_rfl) ?_;refine fM 0 rfl rfl rfl (by decide) (mY rfl) (by kernel_rfl) (fun _ _ _ h=>h) (fun _ h=>h.bare) ?_;refine fM 1 rfl rfl rfl (by decide) (mY rfl) (by kernel_rfl) (fun _ _ _ h=>h) (fun _ h=>h.bare) ?_;refine fM 2 rfl rfl rfl (by decide) (mY rfl) (by kernel_rfl) (fun _ _ _ h=>h) (fun _ h=>h.bare) ?_;refine fM 3 rfl rfl rfl (by decide) (mY rfl) (by kernel_rfl) (fun _ _ _ h=>h) (fun _ h=>h.bare) ?_;refine fM 4 rfl rfl rfl (by decide) (mY rfl) (by kernel_rfl) (fun _ _ _ h=>h) (fun _ h=>h.bare) ?_;refine fM 5 rfl rfl rfl (by decide) (mY rfl) (by kernel_rfl) (fun _ _ _ h=>h) (fun _ h=>h.bare) ?_;refine fM 8 rfl rfl rfl (by decide) (mY rfl) (by kernel_rfl) (fun _ _ _ h=>h) (fun _ h=>h.bare) ?_;refine fM 9 rfl rfl rfl (by decide) (mY rfl) (by kernel_rfl) (fun _ _ _ h=>h) (fun _ h=>h.bare) ?_;refine fM 6 rfl rfl rfl (by decide) (aE7 (n - 1 - k) (n - 1 - k) (el:=3) (sz:=1) (by kernel_rfl) (by kernel_rfl) rfl rfl (by omega) (by omega) (by omega)) (by kernel_rfl) (fun _ _ _ h=>h) (fun _ h=>h.bare) ?_;refine fM 10 rfl rfl rfl (by decide) (aE7 (k) (k) (el:=3) (sz:=1) (by kernel_rfl) (by kernel_rfl) rfl rfl (by omega) (by omega) (by omega)) (by kernel_rfl) (fun _ _ _ h=>h) (fun _ h=>h.bare) ?_;refine Lv 7 11 rfl rfl (by kernel_rfl) ?_ ?_
  ·refine jE (by kernel_rfl) rfl (Rd.aE 0 rfl (by rw[←hn];exact hcu)) (by decide) ?_;refine iE ?_;refine gT ?_;refine lB (fun _ h=>h.bare) ?_;refine cH 11 ?_;refine jE (by kernel_rfl) rfl (Rd.aE 0 rfl Xq) (by decide) ?_;refine iE ?_;refine gT ?_;refine lB (fun _ h=>h.bare) ?_;refine cH 12 ?_;refine kd (dat (k) (k)) ?_;refine iE ?_;refine gT ?_;refine lB (fun _ h=>h.bare) ?_;refine cH 13 ?_;refine tH 0 rfl (by kernel_rfl) rfl rfl hou (by omega) ?_;dsimp only[List.set];refine iE ?_;refine gT ?_;refine lB (fun _ h=>h.bare) ?_;refine cH 14 ?_;refine kd (dat (n - 1 - k) (n - 1 - k)) ?_;refine iE ?_;refine gT ?_;refine lB (fun _ h=>h.bare) ?_;refine cH 15 ?_;refine tH 0 rfl (by kernel_rfl) rfl rfl hov (by simp;omega) ?_;dsimp only[List.set];refine iE ?_;refine gT ?_;refine lB (fun _ h=>h.bare) ?_;refine kH ?_;refine dS ?_;refine eC ?_;refine cQ rfl (by decide) ?_;refine zO rfl rfl (iR (by omega)) (by decide) ?_;refine cQ rfl (by decide) ?_;refine aAs rfl rfl (iR (by omega)) (by decide) ?_;refine fP rfl (by decide) ?_;refine fP rfl (by decide) ?_;refine dO ?_;refine Ov 0 (n:=n) (c:=c) (sz:=1) (xs:=(l.set k u).set (xs.length - 1 - k) v) rfl (by simp;omega) (by rw[Nat.mul_one,hn];exact take_set (take_set qO)) hc3 hc4 ?_;dsimp only[List.set];exact bL [(3,iv ((n:Int) - 1 - k - 1)),(2,iv ((k:Int)+1)),(0,.slice (some ⟨g,0,none⟩) n c)] (iD (n - (k+1)) (by omega) ⟨k+1,_,rfl,by omega,hl.next (by omega) hu hv,(by rw[show(n:Int) - 1 - k - 1=(n:Int) - 1 - ((k+1:Nat):Int) by omega];rfl),rfl,rfl⟩)
  ·refine jE (by kernel_rfl) rfl (Rd.aE 0 rfl Xq) (by decide) ?_;refine iE ?_;refine gT ?_;refine lB (fun _ h=>h.bare) ?_;refine cH 7 ?_;refine jE (by kernel_rfl) rfl (Rd.aE 0 rfl (by rw[←hn];exact hcu)) (by decide) ?_;refine iE ?_;refine gT ?_;refine lB (fun _ h=>h.bare) ?_;refine cH 12 ?_;refine kd (dat (k) (k)) ?_;refine iE ?_;refine gT ?_;refine lB (fun _ h=>h.bare) ?_;refine cH 13 ?_;refine tH 0 rfl (by kernel_rfl) rfl rfl hou (by omega) ?_;dsimp only[List.set];refine iE ?_;refine gT ?_;refine lB (fun _ h=>h.bare) ?_;refine cH 14 ?_;refine kd (dat (n - 1 - k) (n - 1 - k)) ?_;refine iE ?_;refine gT ?_;refine lB (fun _ h=>h.bare) ?_;refine cH 15 ?_;refine tH 0 rfl (by kernel_rfl) rfl rfl hov (by simp;omega) ?_;dsimp only[List.set];refine iE ?_;refine gT ?_;refine lB (fun _ h=>h.bare) ?_;refine kH ?_;refine dS ?_;refine eC ?_;refine cQ rfl (by decide) ?_;refine zO rfl rfl (iR (by omega)) (by decide) ?_;refine cQ rfl (by decide) ?_;refine aAs rfl rfl (iR (by omega)) (by decide) ?_;refine fP rfl (by decide) ?_;refine fP rfl (by decide) ?_;refine dO ?_;refine Ov 0 (n:=n) (c:=c) (sz:=1) (xs:=(l.set k u).set (xs.length - 1 - k) v) rfl (by simp;omega) (by rw[Nat.mul_one,hn];exact take_set (take_set qO)) hc3 hc4 ?_;dsimp only[List.set];exact bL [(3,iv ((n:Int) - 1 - k - 1)),(2,iv ((k:Int)+1)),(0,.slice (some ⟨g,0,none⟩) n c)] (iD (n - (k+1)) (by omega) ⟨k+1,_,rfl,by omega,hl.next (by omega) hu hv,(by rw[show(n:Int) - 1 - k - 1=(n:Int) - 1 - ((k+1:Nat):Int) by omega];rfl),rfl,rfl⟩)
 ·
  refine aB ?_
  have h':¬(k:Int) < (n:Int) - 1 - k:=h
  have:=hl.all (by omega)
  subst this;exact kC 0 hF
end
section
theorem Re(l:List Int):∀u∈aK l,u.oneCell'=true:=by
 intro u hu;simp only[aK,List.mem_map] at hu;obtain⟨x,_,rfl⟩:=hu;rfl
theorem aHs{F:Nat→Prop}{w:World}{el:TypeId}{sz n c:Nat}{A:Option Addr}{xs:List Value}(h:(HP.own el sz (.slice A n c) n xs).sat F w)(hn:0 < n):∃g,A=some ⟨g,0,none⟩:=by
 rcases h.2.2 with⟨_,h0⟩ | ⟨g,cap,cur,hv,_⟩
 ·omega
 ·injection hv with hA
  exact⟨g,hA⟩
theorem aGU(l:List Nat):(aK (dM l)).reverse=aK (dM l.reverse):=by simp[aK,dM]
section
variable{P:Program}{N:cE}{w0:World}{e:Env}{R R' R0:List Piece}{H H0:List HP}{Q:Exit→Act→World→Prop}{ops:Array Oper}{m fuel dA d:Nat}{listed:Array Bool}{t ty:TypeId}{pos:String}{aH:Array Edge}{cs:List Value}{v:Value}
theorem Bj{x:Operand}{g o:Nat}{p:Piece}(h:RP p g o v)(hp:p∈R:=by simp)(ht:vO P t=true:=by kernel_rfl)(hx:e.ev x=some (.pointer (some ⟨g,o,none⟩)):=by rfl):bU P N w0 e R H ⟨some d,.load t x,ty,pos,aH,none⟩ v:=Ld ht hx (h.rd hp)
theorem tU{i j:Nat}{M:Option Nat}(i':Nat)(R':List Piece){oi:Oper}(step:∀M,XK N w0 (wpList P ops (Exit.then (tV P w0 ops Q R0 H0 m (Gb M fuel) (Ai M j (listed.setIfInBounds i true)) i') Q) [oi]) (vZ M dA ((d,v)::e)) R' (yL M t cs H))(hi:ops[i']? =some oi:=by rfl)(hj:ops[j]? =some ⟨some dA,.alloc t,ty,pos,aH,none⟩:=by rfl)(ht:Ej P t cs:=by exact iG (by kernel_rfl))(hd:dA < N.n:=by decide)
  (Au:Region.ready .any ops (listed.setIfInBounds i true)=[i',j]:=by kernel_rfl) (eH:Region.ready .any ops ((listed.setIfInBounds i true).setIfInBounds j true)=[i']:=by kernel_rfl) (hS:∀w,St w0 R' H w→St w0 R0 H0 w:=by exact fun _ h=>h.aZ) (hR:∀p∈R',p∈R:=by simp) (hij:i≠j:=by decide) (hb:Nat.beq d dA=false:=by rfl):
  XK N w0 (wpList P ops (Exit.then (tV P w0 ops Q R0 H0 m (Gb M (fuel+1)) (Ai M j listed) i) Q) []) ((d,v)::vZ M dA e) R (yL M t cs H):=aBY hR (iE (gT (aAi hij hb hS (Tv i' j hi hj ht hd Au eH hS step))))
end
def uW(s:aD)(dl cl ll:List Nat)(fd fc fl td tc tl:List Bool):List dB:=
 jW 17 4 (fun _=>1) (eV (dl) fd td)++(jW 20 7 (fun _=>1) (eV (cl) fc tc)++(jW 22 4 (fun _=>0) (eV (ll) fl tl)++(jW 22 4 (fun _=>1) (eV (ll) tl fl)++(jW 20 7 (fun _=>0) (eV (cl.reverse) tc fc)++(jW 17 4 (mO s) (eV (dl.reverse) td fd))))))
def aLd(p0:Piece)(Ev:List dB)(y:Value)(w w':World):Prop:=∃g,y=.func (.func 286) #[] #[pt g]∧∀q,p0.Le q→(fresh w w').Le q→Iter Tryz.prog 286 [pt g] (pS Ev) q in
theorem aTN(p0:Piece)(s:aD)(A1 A2 A3 A4 Ad Ac Al Fd Fc Fl Td Tc Tl:Option Addr)(n1 k1 n2 k2 n3 k3 n4 k4 nd cd nc cc nl kl yV Il yW Im yU Ij xZ Gy yA Gz xY Gv:Nat)(dl cl ll:List Nat)(fd fc fl td tc tl:List Bool)(w:World)
  (Fs:p0.Le (all w)) (Rx:jP (fH p0) vD 50 3 A2 n2 s.domains) (hn2:(n2:Int)≤1000000)
  (iY:aI p0 1 Ad nd (aK (dM dl))) (hnd:nd=dl.length) (aIs:nd≤1000000) (Xn:∀i∈dl,i < n2)
  (iB:aI p0 1 Ac nc (aK (dM cl))) (hnc:nc=cl.length) (aIt:nc≤1000000) (aBy:∀i∈cl,i < 1000000)
  (pW:aI p0 1 Al nl (aK (dM ll))) (gB:nl=ll.length) (aIq:nl≤1000000) (aBq:∀i∈ll,i < 1000000)
  (Rv:aI p0 1 Fd yV (bE fd)) (aBv:yV=fd.length) (Rk:aI p0 1 Td xZ (bE td)) (aBn:xZ=td.length) (Rw:aI p0 1 Fc yW (bE fc)) (aBw:yW=fc.length) (Rm:aI p0 1 Tc yA (bE tc)) (aBo:yA=tc.length) (hfl:aI p0 1 Fl yU (bE fl)) (aBu:yU=fl.length) (nV:aI p0 1 Tl xY (bE tl)) (aBl:xY=tl.length):
  Cz 279 #[.agg #[.slice A1 n1 k1,.slice A2 n2 k2,.slice A3 n3 k3,.slice A4 n4 k4],.slice Ad nd cd,.slice Ac nc cc,.slice Al nl kl,.agg #[.slice Fd yV Il,.slice Fc yW Im,.slice Fl yU Ij],.agg #[.slice Td xZ Gy,.slice Tc yA Gz,.slice Tl xY Gv]] w (fun y w'=>(∃x,y=.returned x∧aLd p0 (uW s dl cl ll fd fc fl td tc tl) x w w')∧Below w.heap.size w w'):=by
 have aUW:=hnd
 refine aM func279 ntmps279 ?_;refine Bq p0 (by simp) Fs ?_;refine aB ?_;refine bA fun g1=>?_;refine bA fun g2=>?_;refine bA fun g3=>?_;refine aB ?_;refine iA (aF9 nc (aK (dM cl))) (fun w1 st=>aJ7 Ac nc cc _ w1 (iB.le (st.le (by simp))) (Re _) aIt) ?_;rintro _ _ q13 ⟨A13,c13,rfl,rfl⟩ _;refine aB ?_;refine Ul (f:=281) (fi:=[]) (ca:=[]) 0 (HP.own 3 1 (.slice A13 nc c13) nc (aK (dM cl)).reverse) (by kernel_rfl) rfl rfl rfl ⟨by decide,rfl⟩ (fun w1 F st hp hF=>aGT A13 nc c13 _ w1 F hp hF (Re _) (by simp[aK,dM,hnc]) aIt (aHs hp)) ?_;dsimp only[List.set,List.cons_append,List.nil_append];rw[aGU];refine aB ?_;refine iA (aF9 nd (aK (dM dl))) (fun w1 st=>aJ7 Ad nd cd _ w1 (iY.le (st.le (by simp))) (Re _) aIs) ?_;rintro _ _ Qk ⟨A14,c14,rfl,rfl⟩ _;refine aB ?_;refine Ul (f:=281) (fi:=[]) (ca:=[]) 0 (HP.own 3 1 (.slice A14 nd c14) nd (aK (dM dl)).reverse) (by kernel_rfl) rfl rfl rfl ⟨by decide,rfl⟩ (fun w1 F st hp hF=>aGT A14 nd c14 _ w1 F hp hF (Re _) (by simp[aK,dM,hnd]) aIs (aHs hp)) ?_;dsimp only[List.set,List.cons_append,List.nil_append];rw[aGU];refine dO ?_;refine aY [0,1,2,3,4] rfl (by decide) (R':=[p0,all w]) (by simp) ?_;refine aKp p0 p0 [0,1,2,3,4] [] (by simp) (by simp) (fun b h=>.inl h) rfl (by decide) (by decide) fun q0 hq Cx N0=>?_
 have f14:=aI.own (hq 0 _ (by simp) rfl)
 have f13:=aI.own (hq 1 _ (by simp) rfl)
 have t_d:RP q0 g3 0 (.slice Td xZ Gy):=tY (hq 2 _ (by simp) rfl) rfl
 have f_d:RP q0 g2 0 (.slice Fd yV Il):=tY (hq 3 _ (by simp) rfl) rfl
 have t_c:RP q0 g3 1 (.slice Tc yA Gz):=tY (hq 2 _ (by simp) rfl) rfl
 have f_c:RP q0 g2 1 (.slice Fc yW Im):=tY (hq 3 _ (by simp) rfl) rfl
 have t_l:RP q0 g3 2 (.slice Tl xY Gv):=tY (hq 2 _ (by simp) rfl) rfl
 have f_l:RP q0 g2 2 (.slice Fl yU Ij):=tY (hq 3 _ (by simp) rfl) rfl
 have b1:RP q0 g1 1 (.slice A2 n2 k2):=tY (hq 4 _ (by simp) rfl) rfl
 have E0:q0.Le q0:=fun b hb=>⟨hb,rfl⟩
 have aLG:=aTT q0 g1 n2 k2 s A2 b1 (Rx.mono (oB Cx) (fun _ _ h=>h)) hn2
 have iY:=iY.le Cx
 have iB:=iB.le Cx
 have pW:=pW.le Cx
 have Rv:=Rv.le Cx
 have Rw:=Rw.le Cx
 have hfl:=hfl.le Cx
 have Rk:=Rk.le Cx
 have Rm:=Rm.le Cx
 have nV:=nV.le Cx
 refine cP ?_;refine rL 50 (by kernel_rfl) (by kernel_rfl) ?_;refine bJ 0 ?_;refine bJ 1 ?_;refine bJ 2 ?_ (dH:=Bj f_d);refine bJ 3 ?_;refine bJ 4 ?_ (dH:=Bj t_d);refine bJ 8 ?_;refine bJ 9 ?_;refine bJ 10 ?_ (dH:=Bj f_c);refine bJ 11 ?_;refine bJ 12 ?_ (dH:=Bj t_c);refine bJ 16 ?_;refine bJ 17 ?_;refine bJ 18 ?_ (dH:=Bj f_l);refine bJ 19 ?_;refine bJ 20 ?_ (dH:=Bj t_l);refine bJ 24 ?_;refine bJ 25 ?_;refine bJ 26 ?_ (dH:=Bj t_l);refine bJ 27 ?_;refine bJ 28 ?_ (dH:=Bj f_l);refine bJ 32 ?_;refine bJ 33 ?_;refine bJ 34 ?_ (dH:=Bj t_c);refine bJ 35 ?_;refine bJ 36 ?_ (dH:=Bj f_c);refine bJ 40 ?_;refine bJ 41 ?_;refine bJ 42 ?_ (dH:=Bj t_d);refine bJ 43 ?_;refine bJ 44 ?_ (dH:=Bj f_d);refine gF 46 rfl rfl rfl (aJq (vf:=[]) (vc:=[pt g1]) rfl rfl) ?_;refine aK1 (j:=49) 15 415 [sn] fun M=>?_;refine Tv 5 49 rfl rfl (iG (by kernel_rfl)) (by decide) (by kernel_rfl) (by kernel_rfl) (fun _ h=>h) (fun M=>?_);refine tL p0 q0 (Pk q0 (eV (dl) fd td)) (fun w1 st=>Qo q0 nd xZ yV cd Gy Il Ad Td Fd (dl) fd td w1 (iY.le E0) hnd (by omega) (Rk.le E0) aBn (Rv.le E0) aBv (fun i hi=>by have:=Xn i hi;omega)) ?_;rintro _ w1 q1 ⟨x0,y0,z0,rfl,hit⟩ hf L1 N1
 have it0:=hit q1 L1 hf
 have E1:=E0.trans' L1
 refine tU 6 [q1,q0,p0,all w] fun M=>?_;refine tL p0 q1 (Ug 1) (fun w1 st=>Zm 1 w1) ?_;rintro _ w1 q2 ⟨u0,rfl,Hl⟩ hf L2 N2
 have va0:=Hl q2 hf
 have E2:=E1.trans' L2
 refine tU 7 [q2,q0,p0,all w] fun M=>?_;refine tL p0 q2 (Pb q2 (yB 17 4 (fun _=>1) (eV (dl) fd td))) (fun w1 st=>Qb q2 288 289 [pt x0,pt y0,pt z0] [pt u0] 17 4 (fun _=>1) (eV (dl) fd td) w1 (it0.le L2) (by kernel_rfl) (by kernel_rfl) (va0 _) (fun i hi=>by have:=Xn i (List.mem_filter.1 hi).1;omega)) ?_;rintro _ w1 q3 ⟨c0,d0,e0,f0,rfl,hst⟩ hf L3 N3
 have st0:=hst q3 L3 hf
 have E3:=E2.trans' L3
 refine tU 13 [q3,q0,p0,all w] fun M=>?_;refine tL p0 q3 (Pk q3 (eV (cl) fc tc)) (fun w1 st=>Qo q3 nc yA yW cc Gz Im Ac Tc Fc (cl) fc tc w1 (iB.le E3) hnc (by omega) (Rm.le E3) aBo (Rw.le E3) aBw (fun i hi=>by have:=aBy i hi;omega)) ?_;rintro _ w1 q4 ⟨x1,y1,z1,rfl,hit⟩ hf L4 N4
 have it1:=hit q4 L4 hf
 have E4:=E3.trans' L4
 refine tU 14 [q4,q0,p0,all w] fun M=>?_;refine tL p0 q4 (Ug 1) (fun w1 st=>Zm 1 w1) ?_;rintro _ w1 q5 ⟨u1,rfl,Hl⟩ hf L5 N5
 have va1:=Hl q5 hf
 have E5:=E4.trans' L5
 refine tU 15 [q5,q0,p0,all w] fun M=>?_;refine tL p0 q5 (Pb q5 (yB 20 7 (fun _=>1) (eV (cl) fc tc))) (fun w1 st=>Qb q5 288 289 [pt x1,pt y1,pt z1] [pt u1] 20 7 (fun _=>1) (eV (cl) fc tc) w1 (it1.le L5) (by kernel_rfl) (by kernel_rfl) (va1 _) (fun i hi=>by have:=aBy i (List.mem_filter.1 hi).1;omega)) ?_;rintro _ w1 q6 ⟨c1,d1,e1,f1,rfl,hst⟩ hf L6 N6
 have mN:=hst q6 L6 hf
 have E6:=E5.trans' L6
 refine tU 21 [q6,q0,p0,all w] fun M=>?_;refine tL p0 q6 (Pk q6 (eV (ll) fl tl)) (fun w1 st=>Qo q6 nl xY yU kl Gv Ij Al Tl Fl (ll) fl tl w1 (pW.le E6) gB (by omega) (nV.le E6) aBl (hfl.le E6) aBu (fun i hi=>by have:=aBq i hi;omega)) ?_;rintro _ w1 q7 ⟨x2,y2,z2,rfl,hit⟩ hf L7 N7
 have it2:=hit q7 L7 hf
 have E7:=E6.trans' L7
 refine tU 22 [q7,q0,p0,all w] fun M=>?_;refine tL p0 q7 (Ug 0) (fun w1 st=>Zm 0 w1) ?_;rintro _ w1 q8 ⟨u2,rfl,Hl⟩ hf L8 N8
 have va2:=Hl q8 hf
 have E8:=E7.trans' L8
 refine tU 23 [q8,q0,p0,all w] fun M=>?_;refine tL p0 q8 (Pb q8 (yB 22 4 (fun _=>0) (eV (ll) fl tl))) (fun w1 st=>Qb q8 288 289 [pt x2,pt y2,pt z2] [pt u2] 22 4 (fun _=>0) (eV (ll) fl tl) w1 (it2.le L8) (by kernel_rfl) (by kernel_rfl) (va2 _) (fun i hi=>by have:=aBq i (List.mem_filter.1 hi).1;omega)) ?_;rintro _ w1 q9 ⟨c2,d2,e2,f2,rfl,hst⟩ hf L9 N9
 have yC:=hst q9 L9 hf
 have E9:=E8.trans' L9
 refine tU 29 [q9,q0,p0,all w] fun M=>?_;refine tL p0 q9 (Pk q9 (eV (ll) tl fl)) (fun w1 st=>Qo q9 nl yU xY kl Ij Gv Al Fl Tl (ll) tl fl w1 (pW.le E9) gB (by omega) (hfl.le E9) aBu (nV.le E9) aBl (fun i hi=>by have:=aBq i hi;omega)) ?_;rintro _ w1 q10 ⟨x3,y3,z3,rfl,hit⟩ hf L10 N10
 have it3:=hit q10 L10 hf
 have E10:=E9.trans' L10
 refine tU 30 [q10,q0,p0,all w] fun M=>?_;refine tL p0 q10 (Ug 1) (fun w1 st=>Zm 1 w1) ?_;rintro _ w1 Vr ⟨u3,rfl,Hl⟩ hf L11 N11
 have va3:=Hl Vr hf
 have E11:=E10.trans' L11
 refine tU 31 [Vr,q0,p0,all w] fun M=>?_;refine tL p0 Vr (Pb Vr (yB 22 4 (fun _=>1) (eV (ll) tl fl))) (fun w1 st=>Qb Vr 288 289 [pt x3,pt y3,pt z3] [pt u3] 22 4 (fun _=>1) (eV (ll) tl fl) w1 (it3.le L11) (by kernel_rfl) (by kernel_rfl) (va3 _) (fun i hi=>by have:=aBq i (List.mem_filter.1 hi).1;omega)) ?_;rintro _ w1 Vq ⟨c3,d3,e3,f3,rfl,hst⟩ hf L12 N12
 have Mk:=hst Vq L12 hf
 have E12:=E11.trans' L12
 refine tU 37 [Vq,q0,p0,all w] fun M=>?_;refine tL p0 Vq (Pk Vq (eV (cl.reverse) tc fc)) (fun w1 st=>Qo Vq nc yW yA c13 Im Gz A13 Fc Tc (cl.reverse) tc fc w1 (f13.le E12) (by simpa using hnc) (by omega) (Rw.le E12) aBw (Rm.le E12) aBo (fun i hi=>by have:=(fun i hi=>aBy i (by simpa using hi)) i hi;omega)) ?_;rintro _ w1 q13 ⟨x4,y4,z4,rfl,hit⟩ hf L13 N13
 have it4:=hit q13 L13 hf
 have E13:=E12.trans' L13
 refine tU 38 [q13,q0,p0,all w] fun M=>?_;refine tL p0 q13 (Ug 0) (fun w1 st=>Zm 0 w1) ?_;rintro _ w1 Qk ⟨u4,rfl,Hl⟩ hf L14 N14
 have va4:=Hl Qk hf
 have E14:=E13.trans' L14
 refine tU 39 [Qk,q0,p0,all w] fun M=>?_;refine tL p0 Qk (Pb Qk (yB 20 7 (fun _=>0) (eV (cl.reverse) tc fc))) (fun w1 st=>Qb Qk 288 289 [pt x4,pt y4,pt z4] [pt u4] 20 7 (fun _=>0) (eV (cl.reverse) tc fc) w1 (it4.le L14) (by kernel_rfl) (by kernel_rfl) (va4 _) (fun i hi=>by have:=(fun i hi=>aBy i (by simpa using hi)) i (List.mem_filter.1 hi).1;omega)) ?_;rintro _ w1 Vp ⟨c4,d4,e4,f4,rfl,hst⟩ hf L15 N15
 have st4:=hst Vp L15 hf
 have E15:=E14.trans' L15
 refine tU 45 [Vp,q0,p0,all w] fun M=>?_;refine tL p0 Vp (Pk Vp (eV (dl.reverse) td fd)) (fun w1 st=>Qo Vp nd yV xZ c14 Il Gy A14 Fd Td (dl.reverse) td fd w1 (f14.le E15) (by simpa using hnd) (by omega) (Rv.le E15) aBv (Rk.le E15) aBn (fun i hi=>by have:=(fun i hi=>Xn i (by simpa using hi)) i hi;omega)) ?_;rintro _ w1 Vo ⟨x5,y5,z5,rfl,hit⟩ hf L16 N16
 have it5:=hit Vo L16 hf
 have E16:=E15.trans' L16
 refine tU 47 [Vo,q0,p0,all w] fun M=>?_;refine tL p0 Vo (Pb Vo (yB 17 4 (mO s) (eV (dl.reverse) td fd))) (fun w1 st=>Qb Vo 288 285 [pt x5,pt y5,pt z5] [pt g1] 17 4 (mO s) (eV (dl.reverse) td fd) w1 (it5.le (Piece.Le.refl _)) (by kernel_rfl) (by kernel_rfl) ((aLG (eV (dl.reverse) td fd) (fun i hi=>by have:=(fun i hi=>Xn i (by simpa using hi)) i (List.mem_filter.1 hi).1;omega)).le E16) (fun i hi=>by have:=(fun i hi=>Xn i (by simpa using hi)) i (List.mem_filter.1 hi).1;omega)) ?_;rintro _ w1 q17 ⟨c5,d5,e5,f5,rfl,hst⟩ hf L17 N17
 have Mj:=hst q17 L17 hf
 have E17:=E16.trans' L17
 refine tU 48 [q17,q0,p0,all w] fun M=>?_;rcases M with _ | g15
 all_goals
  dsimp only[vZ,yL,Ai,Gb];refine eK fun gS=>?_;refine iE ?_;refine gT ?_
 refine lB (fun _ h=>h.tail.aZ) ?_;refine cH 49 ?_;refine bX fun g15=>?_;refine iE ?_;refine gT ?_
 rotate_left
 refine aY [1,0] rfl (by decide) (fun _ h=>h) ?_
 all_goals
  refine lB (fun _ h=>h.tail.tail.aZ) ?_;refine cH 50 ?_;refine aFH rfl rfl ?_;dsimp only[List.set];refine eZ ?_;refine kH ?_;refine dS ?_;refine cP ?_;refine eC ?_;refine kS (vf:=[]) (vc:=[pt g15]) rfl rfl (by decide) ?_;refine aB ?_;refine aKp p0 q17 [0,1] [] (by simp) (by simp) N17 rfl (by decide) (by decide) fun qs hqs Ls Ns=>?_
  have r15:=tY (o:=0) (hqs 0 _ (by simp) rfl) rfl
  obtain⟨FS,sS,zS⟩:=hqs 1 _ (by simp) rfl
  have rS:=tE (n:=6) (sz:=1) (c:=6) sS zS rfl
  refine mZ rfl rfl fun w1 st=>⟨⟨_,rfl,g15,rfl,fun q2 Ng nX=>?_⟩,st.below (by simp)⟩
  have Lq:=aOM (p0:=p0) st (by simp:qs∈_) Ns (((Cx.trans' E17).trans' Ls)) Ng nX
  have T17:=Ls.trans' Lq
  have T16:=L17.trans' T17
  have T15:=L16.trans' T16
  have T14:=L15.trans' T15
  have T13:=L14.trans' T14
  have T12:=L13.trans' T13
  have T11:=L12.trans' T12
  have T10:=L11.trans' T11
  have T9:=L10.trans' T10
  have T8:=L9.trans' T9
  have T7:=L8.trans' T8
  have T6:=L7.trans' T7
  have T5:=L6.trans' T6
  have T4:=L5.trans' T5
  have T3:=L4.trans' T4
  have hall:=aTS q2 g15 6 6 _ [⟨287,[pt c0,pt d0,pt e0,pt f0],jW 17 4 (fun _=>1) (eV (dl) fd td)⟩,⟨287,[pt c1,pt d1,pt e1,pt f1],jW 20 7 (fun _=>1) (eV (cl) fc tc)⟩,⟨287,[pt c2,pt d2,pt e2,pt f2],jW 22 4 (fun _=>0) (eV (ll) fl tl)⟩,⟨287,[pt c3,pt d3,pt e3,pt f3],jW 22 4 (fun _=>1) (eV (ll) tl fl)⟩,⟨287,[pt c4,pt d4,pt e4,pt f4],jW 20 7 (fun _=>0) (eV (cl.reverse) tc fc)⟩,⟨287,[pt c5,pt d5,pt e5,pt f5],jW 17 4 (mO s) (eV (dl.reverse) td fd)⟩] (r15.le Lq) (rS.le Lq) rfl (by omega) (fun r hr=>by
   simp only[List.mem_cons,List.not_mem_nil,or_false] at hr;rcases hr with rfl | rfl | rfl | rfl | rfl | rfl
   ·exact⟨by kernel_rfl,by have h:=st0.le T3;rw[Qe] at h;exact h⟩
   ·exact⟨by kernel_rfl,by have h:=mN.le T6;rw[Qe] at h;exact h⟩
   ·exact⟨by kernel_rfl,by have h:=yC.le T9;rw[Qe] at h;exact h⟩
   ·exact⟨by kernel_rfl,by have h:=Mk.le T12;rw[Qe] at h;exact h⟩
   ·exact⟨by kernel_rfl,by have h:=st4.le T15;rw[Qe] at h;exact h⟩
   ·exact⟨by kernel_rfl,by have h:=Mj.le T17;rw[Qe] at h;exact h⟩)
  simpa[Ey,uW] using hall
end
section
def Cd(g:List (List Int)):Prop:=∀(k:Nat) (l:List Int),g[k]? =some l→∀u∈l,0≤u∧u < (k:Int)
theorem Cd.in{g:List (List Int)}(h:Cd g):zF g:=by
 intro l hl u hu;obtain⟨k,hk⟩:=List.getElem?_of_mem hl
 have:=h k l hk u hu
 have:=(List.getElem?_eq_some_iff.1 hk).1
 omega
theorem Cd.next{g:List (List Int)}(h:Cd g){k:Nat}(hk:k < g.length):Ka g (List.range k)=some k:=by
 refine aH2 hk (fun j hj=>aDr (by simpa using hj)) ?_;unfold vP;obtain⟨l,hl⟩:∃l,g[k]? =some l:=⟨_,List.getElem?_eq_getElem hk⟩
 rw[hl];simp only[Option.getD_some,Bool.and_eq_true,Bool.not_eq_true',List.all_eq_true];refine⟨by simp,fun u hu=>?_⟩
 have:=h k l hl u hu
 simp;omega
theorem Cd.order{g:List (List Int)}(h:Cd g):∀(m k:Nat),k+m=g.length→uL g m (List.range k)=some (List.range g.length)
 | 0,k,hk=>by rw[uL];simp at hk;rw[hk]
 | m+1,k,hk=>by
  rw[uL,h.next (by omega)]
  have:=Cd.order h m (k+1) (by omega)
  rw[List.range_succ] at this;exact this
theorem Cd.fS{g:List (List Int)}(h:Cd g)(hl:g.length≤100):fS g=(0,List.range g.length):=by
 have h1:Gl g=false:=aJP fun k l hk j u hj=>by
  have:=h.in l (List.mem_of_getElem? hk) u (List.mem_of_getElem? hj)
  exact this
 have h2:rZ g=0:=by unfold rZ;rw[if_neg (by omega),h1];rfl
 have h3:=h.order g.length 0 (by omega)
 unfold Go.Proofs.YtdcdccmpcmjmhaaGreatDoor.fS;rw[if_neg (by simp[h2])];simp only[List.range_zero] at h3;rw[h3]
end
section
theorem Dq{es:List Int}(h:∀e∈es,e=0):lJ es=0:=Kx fun j hj=>by rw[List.getElem?_eq_getElem hj,h _ (List.getElem_mem hj)]
theorem Jn{n lo hi:Int}(h1:lo≤n)(h2:n≤hi):iV n lo hi=true:=by simp[iV,h1,h2]
theorem Cp{b:Bool}{e:Int}(h:b=false):jF b e=0:=by rw[h];rfl
section
variable{s:aD}(h:s.made)
include h
theorem aHM:Cd (gP s):=by
 intro k l hl u hu;simp only[gP,List.getElem?_map,Option.map_eq_some_iff] at hl;obtain⟨c,hc,rfl⟩:=hl;exact(h.aF k c hc).1 u hu
theorem aHK:Cd (gO s):=by
 intro k l hl u hu;simp only[gO,List.getElem?_map,Option.map_eq_some_iff] at hl;obtain⟨d,hd,rfl⟩:=hl
 have:=(h.domains k d hd).1
 split at hu
 ·cases hu
 ·rename_i hne
  simp at hu;subst hu;exact this.resolve_left hne
theorem aHJ:Cd (bP s):=by
 intro k l hl u hu;simp only[bP,List.getElem?_map,Option.map_eq_some_iff] at hl;obtain⟨d,hd,rfl⟩:=hl;obtain⟨_,_,_,_,_,_,_,_,_,_,_,h1⟩:=h.aC k d hd;exact h1 u hu
theorem We:s.small:=by
 refine⟨by have:=h.nc;omega,by have:=h.nd;omega,by have:=h.nr;omega,by have:=h.nv;omega,fun c hc=>?_,fun d hd=>?_⟩
 ·obtain⟨k,hk⟩:=List.getElem?_of_mem hc;rcases(h.aF k c hk).2 with h1 | h1 | h1 | h1 | h1
  ·rw[h1.2.1];simp
  all_goals(have:=h1.2.1;omega)
 ·obtain⟨k,hk⟩:=List.getElem?_of_mem hd;obtain⟨_,_,_,_,_,_,_,_,_,_,h1,_⟩:=h.aC k d hk;omega
theorem aBb:fS (gP s)=(0,List.range s.aF.length)∧fS (gO s)=(0,List.range s.domains.length)∧fS (bP s)=(0,List.range s.aC.length):=by
 refine⟨?_,?_,?_⟩
 ·have:=(aHM h).fS (by simp[gP];have:=h.nc;omega)
  simpa[gP] using this
 ·have:=(aHK h).fS (by simp[gO];have:=h.nd;omega)
  simpa[gO] using this
 ·have:=(aHJ h).fS (by simp[bP];have:=h.nv;omega)
  simpa[bP] using this
theorem aPv{k:Nat}{c:eF}(hc:s.aF[k]? =some c):Of s.aF.length c=0:=by
 have hk:=(List.getElem?_eq_some_iff.1 hc).1
 obtain⟨h1,h2⟩:=h.aF k c hc;refine Dq fun e he=>?_;simp only[List.mem_cons,List.not_mem_nil,or_false] at he;rcases he with rfl | rfl | rfl
 ·refine Cp ?_;rcases h2 with h2 | h2 | h2 | h2 | h2
  ·simp[mG,h2.1,h2.2.1]
  ·simp[mG,h2.1,h2.2.1]
  ·simp[mG,h2.1,h2.2.1]
  ·simp[mG,h2.1,h2.2.1]
  ·simp[mG,h2.1,h2.2.1,iV]
 ·refine Dq fun e he=>?_;simp only[List.mem_map] at he;obtain⟨f,hf,rfl⟩:=he
  have:=h1 f hf
  exact Cp (by rw[Jn (by omega) (by omega)];rfl)
 ·refine Cp ?_;rcases h2 with h2 | h2 | h2 | h2 | h2
  ·obtain⟨h3,_,h4,h5,_⟩:=h2;simp[uN,h3];omega
  ·obtain⟨h3,_,_,h4,h5,h6,h7,h8,h9⟩:=h2;simp[uN,h3,iV];omega
  ·obtain⟨h3,_,_,_,h4,h5,_⟩:=h2;simp[uN,h3,iV];omega
  ·simp[uN,h2.1]
  ·simp[uN,h2.1]
theorem aPu{k:Nat}{d:Dom}(hd:s.domains[k]? =some d):Sq s.domains.length d=0:=by
 have hk:=(List.getElem?_eq_some_iff.1 hd).1
 obtain⟨h1,h2,h3⟩:=h.domains k d hd;refine Dq fun e he=>?_;simp only[List.mem_cons,List.not_mem_nil,or_false] at he;rcases he with rfl | rfl
 ·refine Cp ?_;rcases h1 with h1 | h1
  ·simp[h1]
  ·rw[Jn (by omega) (by omega)];simp
 ·exact Cp (by rw[Jn (by omega) (by omega)];rfl)
theorem aHL{k:Nat}{d:bO}(hd:s.aC[k]? =some d):Sv s.aF.length s.domains.length s.aR.length s.aC.length d=0∧Qu d=0:=by
 have hk:=(List.getElem?_eq_some_iff.1 hd).1
 obtain⟨a1,a2,a3,a4,a5,a6,_,_,a7,_,a8,a9⟩:=h.aC k d hd;refine⟨Dq fun e he=>?_,?_⟩
 ·simp only[List.mem_cons,List.not_mem_nil,or_false] at he;rcases he with rfl | rfl | rfl | rfl
  ·exact Cp (by rw[Jn (by omega) (by omega)];rfl)
  ·exact Cp (by rw[Jn (by omega) (by omega)];rfl)
  ·exact Cp (by rw[Jn (by omega) (by omega)];rfl)
  ·refine Dq fun e he=>?_;simp only[List.mem_map] at he;obtain⟨f,hf,rfl⟩:=he
   have:=a9 f hf
   exact Cp (by rw[Jn (by omega) (by omega)];rfl)
 ·refine Cp ?_;simp;omega
theorem aBc:Zg s=0:=by
 obtain⟨o1,o2,o3⟩:=aBb h;refine Dq fun e he=>?_;simp only[aBE,List.mem_cons,List.not_mem_nil,or_false] at he
 have h1:=h.nc
 have h2:=h.nd
 have h3:=h.nr
 have h4:=h.nv
 rcases he with rfl | rfl | rfl | rfl | rfl | rfl | rfl | rfl
 ·rw[Ih,if_neg (by omega)];refine Dq fun e he=>?_;obtain⟨d,hd,rfl⟩:=List.mem_map.1 he;obtain⟨k,hk⟩:=List.getElem?_of_mem hd;exact(aHL h hk).2
 ·refine Dq fun e he=>?_;obtain⟨d,hd,rfl⟩:=List.mem_map.1 he;obtain⟨k,hk⟩:=List.getElem?_of_mem hd;exact aPv h hk
 ·rw[Gj,o1];rfl
 ·refine Dq fun e he=>?_;obtain⟨d,hd,rfl⟩:=List.mem_map.1 he;obtain⟨k,hk⟩:=List.getElem?_of_mem hd;exact aPu h hk
 ·rw[Gj,o2];rfl
 ·refine Dq fun e he=>?_;obtain⟨d,hd,rfl⟩:=List.mem_map.1 he
  have:=h.aR d hd
  exact Cp (by rw[Jn (by omega) (by omega)];rfl)
 ·refine Dq fun e he=>?_;obtain⟨d,hd,rfl⟩:=List.mem_map.1 he;obtain⟨k,hk⟩:=List.getElem?_of_mem hd;exact(aHL h hk).1
 ·rw[Gj,o3];rfl
end
structure aD.wX(s:aD):Prop where
 aF:Fits eF.fit s.aF
 aC:Fits (bO.fit s.aF.length s.domains.length s.aR.length) s.aC
 nc:s.aF.length≤9
 nd:s.domains.length≤4
 nr:s.aR.length≤3
 nv:s.aC.length≤4
 Ta:Zg s=0
 small:s.small
theorem aD.made.wX{s:aD}(h:s.made):s.wX:=⟨h.aF,h.aC,h.nc.2,h.nd.2,h.nr.2,h.nv.2,aBc h,We h⟩
end
section
attribute [local irreducible] KC KI KQ
def Ub(g:List (List Int))(v:Value)(w w':World):Prop:=∃A m c,v=.tuple #[.slice A m c,iv (fS g).1]∧m=(fS g).2.length∧aI (fresh w w') 1 A m (aK (dM (fS g).2))
theorem Pg.aDn{w w':World}{g:List (List Int)}{y:Ending}(h:Pg w (fS g).2 (fS g).1 y w'):(∃v,y=.returned v∧Ub g v w w')∧Below w.heap.size w w':=by
 obtain⟨⟨A,m,c,hy,hm,hs⟩,hb⟩:=h;exact⟨⟨_,hy,A,m,c,rfl,hm,hs⟩,hb⟩
theorem aP0{k n:Nat}(h:k < n):(aK ((dM (List.range k))++List.replicate (n - k) 0)).set k (iv (k:Int))=aK ((dM (List.range (k+1)))++List.replicate (n - (k+1)) 0):=by
 rw[Wg,List.set_append_right _ _ (by simp[dM])];rw[show k - (dM (List.range k)).length=0 by simp[dM],show n - k=(n - (k+1))+1 by omega,List.replicate_succ,List.set_cons_zero,List.range_succ,aDu,List.append_assoc];rfl
theorem aJY(s:aD)(dl cl ll:List Nat)(fd fc fl td tc tl:List Bool):(uW s dl cl ll fd fc fl td tc tl).length≤2*(dl.length+cl.length+ll.length):=by
 have h:=fun(a:List Nat) (x y:List Bool)=>List.length_filter_le (sO x y) a
 have h1:=h dl fd td;have h2:=h cl fc tc;have h3:=h ll fl tl;have h4:=h ll tl fl;have h5:=h cl.reverse tc fc;have h6:=h dl.reverse td fd
 rw[List.length_reverse] at h5 h6;simp only[uW,jW,eV,List.length_append,List.length_map];omega
theorem aUF{Y:Nat→Prop}{w:World}{F:Nat→Prop}{e:TypeId}{sz n:Nat}{v:Value}{xs:List Value}(h:(HP.own e sz v n xs).sat F w)(hF:∀b,F b→Y b):∃A c,v=.slice A n c∧aI ⟨w,Y⟩ sz A n xs∧n≤c:=by
 obtain⟨A,c,hv,hs⟩:=vA (Y:=Y) h hF;refine⟨A,c,hv,hs,?_⟩;obtain⟨_,ho⟩:=h;rcases ho.2 with⟨rfl,hn⟩ | ⟨g,cap,cur,rfl,_,_,h3,_⟩
 ·omega
 ·cases hv;exact h3
set_option maxHeartbeats 1000000 in
theorem aMf(s:aD)(A1 A2 A3 A4 Fd Fc Fl Td Tc Tl:Option Addr)(n1 k1 n2 k2 n3 k3 n4 k4 yV Il yW Im yU Ij xZ Gy yA Gz xY Gv:Nat)(fd fc fl td tc tl:List Bool)(w:World)(hW:fL w s A1 n1 A2 n2 A3 n3 A4 n4)(aEf:Zg s=0)(hD3:(fS (gO s)).2.length≤1000000)(hC3:(fS (gP s)).2.length≤1000000)(hDb:∀i∈(fS (gO s)).2,i < n2)(hCb:∀i∈(fS (gP s)).2,i < 1000000)
    (Rv:aI (all w) 1 Fd yV (bE fd)) (aBv:yV=fd.length) (Rk:aI (all w) 1 Td xZ (bE td)) (aBn:xZ=td.length) (Rw:aI (all w) 1 Fc yW (bE fc)) (aBw:yW=fc.length) (Rm:aI (all w) 1 Tc yA (bE tc)) (aBo:yA=tc.length) (hfl:aI (all w) 1 Fl yU (bE fl)) (aBu:yU=fl.length) (nV:aI (all w) 1 Tl xY (bE tl)) (aBl:xY=tl.length):
    Cz 278 #[.agg #[.slice A1 n1 k1,.slice A2 n2 k2,.slice A3 n3 k3,.slice A4 n4 k4],.agg #[.slice Fd yV Il,.slice Fc yW Im,.slice Fl yU Ij],.agg #[.slice Td xZ Gy,.slice Tc yA Gz,.slice Tl xY Gv]] w (fun y w'=>(∃A c,y=.returned (.slice A (uW s (fS (gO s)).2 (fS (gP s)).2 (List.range n3) fd fc fl td tc tl).length c)∧aI (fresh w w') 4 A (uW s (fS (gO s)).2 (fS (gP s)).2 (List.range n3) fd fc fl td tc tl).length ((uW s (fS (gO s)).2 (fS (gP s)).2 (List.range n3) fd fc fl td tc tl).flatMap dB.cells)∧(uW s (fS (gO s)).2 (fS (gP s)).2 (List.range n3) fd fc fl td tc tl).length≤c)∧Below w.heap.size w w'):=by
  have pJ:=hW.nH
  have hn2:=hW.nT
  have pI:=hW.pU
  have cR:=hW.small
  unfold aD.small at cR;obtain⟨hs1,fW,sA,tM,oM,pG⟩:=cR;refine aCl (vs:=[.agg #[.slice A1 n1 k1,.slice A2 n2 k2,.slice A3 n3 k3,.slice A4 n4 k4],.agg #[.slice Fd yV Il,.slice Fc yW Im,.slice Fl yU Ij],.agg #[.slice Td xZ Gy,.slice Tc yA Gz,.slice Tl xY Gv]]) func278 rfl ntmps278 (by simp) (St.start w) ?_;dsimp only[List.cons_append,List.nil_append];refine kG ?_;refine kZ (by kernel_rfl) ?_;refine bA fun g1=>?_;refine bA fun g2=>?_;refine bA fun g3=>?_;refine bK ?_;refine lA ?_;refine eU ?_;refine kG ?_;refine kG ?_;refine kZ (by kernel_rfl) ?_;refine bK ?_;refine dG (fun w1 st=>aBD s A1 A2 A3 A4 n1 k1 n2 k2 n3 k3 n4 k4 w1 (hW.le (st.started (by simp)))) ?_;refine bK ?_;refine lA ?_;refine eU ?_;refine aCk rfl (fun h=>?_) (fun h=>?_)
  ·
    refine kG ?_;refine kZ (by kernel_rfl) ?_;refine bK ?_;refine lA ?_;refine eU ?_;refine Ow ?_;refine eU ?_;exact absurd aEf h
  ·
    refine Jf ?_;refine eU ?_;refine kG ?_;refine kZ (by kernel_rfl) ?_;refine bK ?_;refine jR [(all w)] (wN (gO s)) (fun w1 st=>aJi s A1 A2 A3 A4 n1 k1 n2 k2 n3 k3 n4 k4 w1 (hW.le (st.started (by simp)))) ?_;rintro _ w1 qda ⟨Ag,cg,rfl,lI⟩ hf Lq _
    have lI:=lI.le hf
    have aUN:=Lq (all w) (by simp)
    clear hf Lq
    refine jR [qda] (Ub (gO s)) (fun w1 st=>(aAR Ag _ cg (gO s) w1 (lI.le (st.le (by simp))) rfl (by simp[gO];omega) (fun l hl=>by
        simp only[gO,List.mem_map] at hl;obtain⟨x,_,rfl⟩:=hl
        split<;>simp)).mono fun y w2 h=>h.aDn) ?_
    rintro _ w1 qd ⟨AD,mD,cD,rfl,hmD,hsD⟩ hf Lq _
    have hsD:=hsD.le hf
    have Lqd:=Lq qda (by simp)
    clear hf Lq lI;refine bK ?_;refine bK ?_;refine bK ?_;refine bK ?_;refine bK ?_;refine lA ?_;refine eU ?_;refine kG ?_;refine kZ (by kernel_rfl) ?_;refine bK ?_;refine jR [qd] (wN (gP s)) (fun w1 st=>aJ8 s A1 A2 A3 A4 n1 k1 n2 k2 n3 k3 n4 k4 w1 (hW.le (st.started (by simp)))) ?_;rintro _ w1 qca ⟨Ag,cg,rfl,lI⟩ hf Lq _
    have lI:=lI.le hf
    have aKJ:=Lq qd (by simp)
    clear hf Lq
    refine jR [qca] (Ub (gP s)) (fun w1 st=>(aAR Ag _ cg (gP s) w1 (lI.le (st.le (by simp))) rfl (by simp[gP];omega) (fun l hl=>by
        simp only[gP,List.mem_map] at hl;obtain⟨x,hx,rfl⟩:=hl
        have:=oM x hx;omega)).mono fun y w2 h=>h.aDn) ?_
    rintro _ w1 qc ⟨AC,mC,cC,rfl,hmC,hsC⟩ hf Lq _
    have hsC:=hsC.le hf
    have Lqc:=Lq qca (by simp)
    clear hf Lq lI;refine bK ?_;refine bK ?_;refine bK ?_;refine bK ?_;refine bK ?_;refine lA ?_;refine eU ?_;refine kG ?_;refine kZ (by kernel_rfl) ?_;refine bK ?_;refine bK ?_;refine bK ?_;refine lO 8 (el:=3) (z:=iv 0) (by kernel_rfl) (by kernel_rfl) rfl rfl rfl (by omega) (by omega) (by decide) fun g4=>?_;refine bK ?_;refine lA ?_;refine eU ?_;refine kG ?_;refine kG ?_;refine kZ (by kernel_rfl) ?_;refine bK ?_;refine bK ?_;refine bK ?_;refine lA ?_;refine eU ?_;refine bL [(36,iv 0),(35,iv n3),(11,.slice (some ⟨g4,0,none⟩) n3 n3),(9,.slice AC mC cC),(7,.slice AD mD cD),(5,pt g3),(4,pt g2),(3,pt g1)] ?_;refine aY (R':=[qc,all w]) [0,1,2,3,4] rfl (by decide) (by simp) ?_;refine Bw ?_;refine aFh (fun m L e R H=>∃k:Nat,k≤n3∧m=n3 - k∧L=[]∧e=[(36,iv k),(35,iv n3),(11,.slice (some ⟨g4,0,none⟩) n3 n3),(9,.slice AC mC cC),(7,.slice AD mD cD),(5,pt g3),(4,pt g2),(3,pt g1)]∧R=[qc,all w]∧H=[HP.aE g4 3 (aK ((dM (List.range k))++List.replicate (n3 - k) 0)),HP.aE g3 116 [.slice Td xZ Gy,.slice Tc yA Gz,.slice Tl xY Gv],HP.aE g2 116 [.slice Fd yV Il,.slice Fc yW Im,.slice Fl yU Ij],HP.aE g1 30 [.slice A1 n1 k1,.slice A2 n2 k2,.slice A3 n3 k3,.slice A4 n4 k4],tZ []]) n3 ⟨0,by omega,rfl,rfl,rfl,rfl,by simp[aK,dM,Value.cells]⟩ fun m L e R H hI=>?_;obtain⟨k,hk,rfl,rfl,rfl,rfl,rfl⟩:=hI;refine kG ?_;refine kZ (by kernel_rfl) ?_;refine bK ?_;refine lA ?_;refine eU ?_;refine kG ?_;refine aCk rfl (fun h=>?_) (fun h=>?_)
    ·
      refine Jf ?_;refine eU ?_;refine kG ?_;refine Bw ?_;refine kG ?_;refine kZ (by kernel_rfl) ?_;refine bK ?_;refine bK ?_;refine lA ?_;refine eU ?_;refine kZ (by kernel_rfl) ?_;refine bK ?_;refine bK ?_;refine bK ?_;refine kd (dat (k) (k)) ?_;refine tH 0 rfl (by kernel_rfl) rfl rfl rfl (by simp[aK,dM];omega) ?_;dsimp only[List.set];rw[aP0 (by omega)];refine lA ?_;refine eU ?_;refine kZ (by kernel_rfl) ?_;refine bK ?_;refine bK ?_;refine lA ?_;refine eU ?_;exact bL [(36,iv (k+1)),(35,iv n3),(11,.slice (some ⟨g4,0,none⟩) n3 n3),(9,.slice AC mC cC),(7,.slice AD mD cD),(5,pt g3),(4,pt g2),(3,pt g1)] (aAh (n3 - (k+1)) (by omega) ⟨k+1,by omega,rfl,rfl,rfl,rfl,rfl⟩)
    ·
      refine aFi ?_;refine eU ?_;refine kG ?_;refine kZ (by kernel_rfl) ?_;refine bX fun g5=>?_;refine lA ?_;refine eU ?_;refine kG ?_;refine kG ?_;refine dP [qc] [1] [0,2,3,4,5] (by simp) rfl (by decide) (by decide) fun q5 hq5 L5 _=>?_
      have L5:=L5 qc (by simp)
      have hk3:k=n3:=by omega
      have aIu:=tE (n:=n3) (sz:=1) (c:=n3) (hq5 1 _ (by simp) rfl).choose_spec.1 (hq5 1 _ (by simp) rfl).choose_spec.2 (by simp[aK,dM];omega)
      rw[hk3,Nat.sub_self,List.replicate_zero,List.append_nil] at aIu
      have L0:(all w).Le q5:=(((aUN.trans' Lqd).trans' aKJ).trans' Lqc).trans' L5
      refine aY (R':=[q5,all w]) [0,1,2,3,4] rfl (by decide) (by simp) ?_;refine kZ (by kernel_rfl) ?_;refine bK ?_;refine bK ?_;refine bK ?_;refine bK ?_;refine bK ?_;refine bK ?_;refine jR [q5] (aLd q5 (uW s (fS (gO s)).2 (fS (gP s)).2 (List.range n3) fd fc fl td tc tl)) (fun w1 st=>aTN q5 s A1 A2 A3 A4 AD AC (some ⟨g4,0,none⟩) Fd Fc Fl Td Tc Tl n1 k1 n2 k2 n3 k3 n4 k4 mD cD mC cC n3 n3 yV Il yW Im yU Ij xZ Gy yA Gz xY Gv (fS (gO s)).2 (fS (gP s)).2 (List.range n3) fd fc fl td tc tl w1 (st.le (by simp)) (hW.dom.mono (oB L0) (fun _ _ h=>h)) (by omega) (hsD.le ((aKJ.trans' Lqc).trans' L5)) hmD (by omega) hDb (hsC.le L5) hmC (by omega) hCb aIu (by simp) (by omega) (fun i hi=>by have:=List.mem_range.1 hi;omega) (Rv.le L0) aBv (Rk.le L0) aBn (Rw.le L0) aBw (Rm.le L0) aBo (hfl.le L0) aBu (nV.le L0) aBl) ?_;rintro _ w1 q6 ⟨g6,rfl,hall⟩ hf L6 _
      have hit:=hall q6 (L6 q5 (by simp)) hf
      refine lA ?_;refine eU ?_;refine Bw ?_;refine iN 247 4 ?_;refine nA ?_;generalize hSL:uW s (fS (gO s)).2 (fS (gP s)).2 (List.range n3) fd fc fl td tc tl=SL at hit;refine xI 0 (f:=fun v=>HP.many [HP.own 247 4 v 0 ((SL.take 0).flatMap dB.cells),HP.aE g5 121 [v]]) (sn) rfl ?_;dsimp only[List.set];refine aY (R':=[q6,all w]) [0,4] rfl (by decide) (by simp) ?_;refine bL [(50,.func (.func 286) #[] #[pt g6]),(13,pt g5)] ?_
      refine aFg (gf:=286) (lb:=[pt g6]) (encs:=pS SL) (p:=q6) rfl (by kernel_rfl) hit (by simp) (fun vs hvs=>?_) (by decide) (fun k=>[(HP.ex fun v=>HP.many [HP.own 247 4 v k ((SL.take k).flatMap dB.cells),HP.aE g5 121 [v]])]) (fun _=>[HP.ex fun(_:Empty)=>cJ])
        (fun k vs e1 H1=>∃(g7:Nat) (s:dB),vs=[tI s]∧e1=[(14,pt g7),(13,pt g5)]∧H1=[HP.aE g7 247 s.cells,(HP.ex fun v=>HP.many [HP.own 247 4 v k ((SL.take k).flatMap dB.cells),HP.aE g5 121 [v]])]) rfl ?_ ?_ ?_ ?_
      · simp only[pS,List.mem_map] at hvs
        obtain⟨s,_,rfl⟩:=hvs;rfl
      · intro l2 k vs W1 q X hvs cR
        obtain⟨s,rfl⟩:∃s,vs=[tI s]:=by
          simp only[pS,List.getElem?_map,Option.map_eq_some_iff] at hvs;obtain⟨s,_,e⟩:=hvs;exact⟨s,e.symm⟩
        dsimp only[List.cons_append,List.nil_append];refine kZ (by kernel_rfl) ?_;refine bX fun g7=>?_;refine rR 0 rfl rfl rfl (by kernel_rfl) (by simp[tI,dB.cells,Value.cells,Value.oneCell']) (by simp[tI,dB.cells,Value.cells]) ?_;rw[show iH [Value.int .i64 0,iv 0,.int .u32 0,.int .u32 0] 0 (tI s).cells.toList=s.cells by simp[iH,tI,dB.cells,Value.cells]];dsimp only[List.set];refine lA ?_;refine bL [(14,pt g7),(13,pt g5)] ?_;exact aFk (H1:=[HP.aE g7 247 s.cells,(HP.ex fun v=>HP.many [HP.own 247 4 v k ((SL.take k).flatMap dB.cells),HP.aE g5 121 [v]])]) ⟨g7,s,rfl,rfl,rfl⟩
      · rintro l2 k vs W1 q X _ _ hvs cR ⟨g7,s,rfl,rfl,rfl⟩
        have hsk:SL[k]? =some s:=by
          simp only[pS,List.getElem?_map,Option.map_eq_some_iff] at hvs;obtain⟨s',h,e⟩:=hvs
          have:s'=s:=by
            cases s;cases s';simp[tI,dB.cells] at e;simp[e]
          exact this▸h
        have Xb:=(List.getElem?_eq_some_iff.1 hsk).1
        have aVo:SL.length≤6000000:=by rw[←hSL];refine Nat.le_trans (aJY _ _ _ _ _ _ _ _ _ _) ?_;simp only[List.length_range];omega
        have mQ:((SL.take (k+1)).flatMap dB.cells)=((SL.take k).flatMap dB.cells)++s.cells:=by
          rw[List.take_add_one,hsk];simp
        dsimp only[List.cons_append,List.nil_append];refine Bw ?_;refine mB 1 fun v=>?_;refine bF 1 0 ?_;refine bF 2 1 ?_;refine kZ (by kernel_rfl) ?_;refine jE (by kernel_rfl) rfl (Rd.aE 0 rfl rfl) (by decide) ?_;refine zM 4 (by kernel_rfl) rfl (aQ.whole 2 rfl) rfl (by decide) ?_;refine aFI (cs:=s.cells) (el:=247) (sz:=4) (zs:=[iv 0,iv 0,.int .u32 0,.int .u32 0]) (by kernel_rfl) (iG (by kernel_rfl)) (by kernel_rfl) rfl (by decide) (by decide) rfl (by simp[fJ,gK,Value.cells,List.range_succ,List.set,dB.cells]) (by decide) fun g8=>?_;refine gJ 2 4 24 1 (n':=k+1) (el:=247) (by kernel_rfl) (by kernel_rfl) (by decide) rfl rfl rfl (nS 0 rfl rfl) (by simp[dB.cells,Value.oneCell']) rfl (by omega) (by omega) (by decide) fun A' k'=>?_;dsimp only[List.set];refine tH 1 rfl (by kernel_rfl) rfl rfl rfl (by simp) ?_;dsimp only[List.set];refine lA ?_;refine aY [2,1,4,5] rfl (by decide) (fun _ hp=>hp) ?_;refine aN 1 0 ?_;refine aN 0 1 ?_;refine xI 0 (f:=fun v=>HP.many [HP.own 247 4 v (k+1) ((SL.take (k+1)).flatMap dB.cells),HP.aE g5 121 [v]]) (.slice A' (k+1) k') (by rw[mQ];rfl) ?_;dsimp only[List.set];refine eU ?_;exact aFj
      rotate_left
      · intro D k hk
        exact aCe 0 rfl fun a=>a.elim
      intro D;dsimp only[List.cons_append,List.nil_append];refine mB 0 fun v=>?_;refine bF 0 0 ?_;refine bF 1 1 ?_;refine eU ?_;refine kG ?_;refine kZ (by kernel_rfl) ?_;refine bK ?_;refine bK ?_;refine lA ?_;refine eU ?_;refine Ow ?_;refine eU ?_;refine dP [] [1] [3] (by simp) rfl (by decide) (by decide) fun qf Wt _ hfr=>?_;obtain⟨Ff,sf,zf⟩:=Wt 1 _ (by simp) rfl;obtain⟨Av,cv,rfl,vT,Xq⟩:=aUF (Y:=qf.Z) sf zf;refine aUx (Hs:=[]) rfl rfl fun w1 st=>⟨⟨Av,cv,by simp[pS],?_,by simpa[pS] using Xq⟩,st.below (by simp)⟩
      have hlen:(pS SL).length=SL.length:=by simp[pS]
      rw[hlen,List.take_length] at vT;exact aI.le vT (st.mK (by simp) (hfr (by simp) (by simp)))
end
section
def eqV:Value→Value→Bool
 | .int _ a,.int _ b=>a==b
 | .bool a,.bool b=>a==b
 | _,_=>false
def Sm:List Value→List Value→Bool
 | [],[]=>true
 | x::xs,y::ys=>eqV x y&&Sm xs ys
 | _,_=>false
def Kw(P:Program):List Field→Nat→List Value→List Value→Bool
 | [],_,[],[]=>true
 | f :: fs, i, x :: xs, y :: ys => f.name != "_" && f.offset == i && (match P.underlying f.type, x, y with
   | some (.int _),.int kx _,.int ky _=>decide (kx=ky)
   | some .bool,.bool _,.bool _=>true
   | _,_,_=>false)&&Kw P fs (i+1) xs ys
 | _,_,_,_=>false
section
variable{P:Program}{w:World}
theorem aAC{t:TypeId}{cs:Array Value}{i:Nat}{v:Value}{d:TypeDesc}(hu:P.underlying t=some d)(hd:(∃k,d=.int k)∨d=.bool)(hx:cs[i]? =some v):(part t cs i).run P w=.ok v w:=by
 rcases hd with⟨k,rfl⟩ | rfl<;>simp[part,isAgg,run_underlying hu,hx]
theorem aGE(d:Nat)(xs ys:Array Value):∀(fs:List Field) (i:Nat),Kw P fs i (xs.toList.drop i) (ys.toList.drop i)=true→(Op.eqFields (d+1) xs ys fs).run P w=.ok (Sm (xs.toList.drop i) (ys.toList.drop i)) w
 | [], i, h => by
  cases hx:xs.toList.drop i with
  | nil=>cases hy:ys.toList.drop i with
   | nil=>simp[Op.eqFields,Sm]
   | cons y yr=>rw[hx,hy] at h;simp[Kw] at h
  | cons x xr=>rw[hx] at h;simp[Kw] at h
 | f :: fs, i, h => by
  cases hx:xs.toList.drop i with
  | nil=>rw[hx] at h;simp[Kw] at h
  | cons x xr =>
   cases hy:ys.toList.drop i with
   | nil=>rw[hx,hy] at h;simp[Kw] at h
   | cons y yr =>
    rw[hx,hy] at h;simp only[Kw,Bool.and_eq_true,bne_iff_ne,beq_iff_eq] at h;obtain⟨⟨⟨h1,h2⟩,h3⟩,h4⟩:=h
    have ex:xs[i]? =some x:=by
     have:(xs.toList.drop i)[0]? =some x:=by rw[hx];rfl
     simpa using this
    have ey:ys[i]? =some y:=by
     have:(ys.toList.drop i)[0]? =some y:=by rw[hy];rfl
     simpa using this
    have dx:xr=xs.toList.drop (i+1):=by rw[←List.tail_drop,hx];rfl
    have dy:yr=ys.toList.drop (i+1):=by rw[←List.tail_drop,hy];rfl
    subst dx;subst dy
    have ih:=aGE d xs ys fs (i+1) h4
    have key:∃u,P.underlying f.type=some u∧((∃k,u=.int k)∨u=.bool)∧(Op.equalIn (d+1) f.type x y).run P w=.ok (eqV x y) w:=by
     split at h3
     ·rename_i k kx a ky b hu
      have:=of_decide_eq_true h3
      subst this;exact⟨_,hu,.inl ⟨_,rfl⟩,run_equalIn_int w d f.type kx _ a b hu⟩
     ·rename_i a b hu
      exact⟨_,hu,.inr rfl,run_equalIn_bool' w d f.type a b hu⟩
     ·cases h3
    obtain⟨u,hu,hk,he⟩:=key;simp only[Op.eqFields,if_pos h1,Sem.run_bind,h2,aAC hu hk ex,aAC hu hk ey,Result.andThen_ok,he,Sem.run_ite,Sem.run_pure,ih,Sm];cases eqV x y<;>simp
variable{N:cE}{w0:World}{e:Env}{R:List Piece}{H:List HP}{Q:Exit→Act→World→Prop}{ops:Array Oper}{rest:List Oper}
variable{d:Nat}{ty:TypeId}{pos:String}{aH:Array Edge}
def Sh(P:Program)(t:TypeId)(xs ys:List Value):Bool:=(match P.underlying t with
 | some (.struct fs)=>Kw P fs.toList 0 xs ys
 | _=>false)&& !P.stoodInHeld t&& !P.eqGuardType P.depth t
theorem aME{t:TypeId}{xs ys:List Value}(h:Sh P t xs ys=true):(Op.equal t (.agg xs.toArray) (.agg ys.toArray)).run P w=.ok (Sm xs ys) w∧∀op x y,(eqGuard op t x y (.agg xs.toArray) (.agg ys.toArray)).run P w=.ok () w:=by
 unfold Sh at h;simp only[Bool.and_eq_true,Bool.not_eq_true'] at h;obtain⟨⟨h1,h2⟩,h3⟩:=h;refine⟨?_,fun op x y=>run_eqGuard_agg w op t x y _ _ h3⟩;split at h1
 ·rename_i fs hu
  have hf:P.fieldsOf t=fs:=by unfold Program.fieldsOf;rw[hu]
  have:=run_equalIn_struct (P:=P) w 9999 t xs.toArray ys.toArray (by rw[hf];exact hu) h2
  unfold Op.equal Op.maxDepth;rw[this,hf]
  have:=aGE (P:=P) (w:=w) 9998 xs.toArray ys.toArray fs.toList 0 (by simpa using h1)
  simpa using this
 ·cases h1
end
end
section
structure bM where
 d:List Bool
 c:List Bool
 l:List Bool
def Bx(p:Piece)(x:bM)(v:Value):Prop:=∃A1 k1 A2 k2 A3 k3,v=.agg #[.slice A1 x.d.length k1,.slice A2 x.c.length k2,.slice A3 x.l.length k3]∧
 aI p 1 A1 x.d.length (bE x.d)∧aI p 1 A2 x.c.length (bE x.c)∧aI p 1 A3 x.l.length (bE x.l)
theorem Bx.le{p q:Piece}{x:bM}{v:Value}(h:Bx p x v)(hl:p.Le q):Bx q x v:=by
 obtain⟨A1,k1,A2,k2,A3,k3,h0,h1,h2,h3⟩:=h;exact⟨A1,k1,A2,k2,A3,k3,h0,h1.le hl,h2.le hl,h3.le hl⟩
def Ty(Rl:Value→World→World→Prop)(w:World):Ending→World→Prop:=fun y w'=>(∃v,y=.returned v∧Rl v w w')∧Below w.heap.size w w'
end
section
def gZ(l:List Bool)(id:Int)(b:Bool):List Bool:=l.set id.toNat b
theorem Mp(l:List Bool)(id:Int)(b:Bool):(gZ l id b).length=l.length:=by simp[gZ]
def gQ(x:bM)(p:dB):bM:=
 if p.pr=17∧p.msg=4∧p.v≤2 then⟨gZ x.d p.id (decide (p.v=1)),x.c,x.l⟩
 else if p.pr=20∧p.msg=7∧p.v≤1 then⟨x.d,gZ x.c p.id (decide (p.v=1)),x.l⟩
 else if p.pr=22∧p.msg=4∧p.v≤1 then⟨x.d,x.c,gZ x.l p.id (decide (p.v=0))⟩ else x
structure bM.sm(x:bM):Prop where
 d:x.d.length≤1000000
 c:x.c.length≤1000000
 l:x.l.length≤1000000
theorem aT6(x:bM)(p:dB):(gQ x p).d.length=x.d.length∧(gQ x p).c.length=x.c.length∧(gQ x p).l.length=x.l.length:=by
 unfold gQ;split
 ·simp[Mp]
 ·split
  ·simp[Mp]
  ·split<;>simp[Mp]
theorem aEQ(l:List Bool)(k:Nat)(b:Bool):(bE l).set k (.bool b)=bE (l.set k b):=by simp[bE,List.map_set]
theorem aER(l:List Bool):(bE l).length=l.length:=by simp[bE]
theorem Te(l:List Bool):∀u∈bE l,u.oneCell'=true:=by
 intro u hu;simp only[bE,List.mem_map] at hu;obtain⟨x,_,rfl⟩:=hu;rfl
structure dB.ok(p:dB):Prop where
 pr: -9223372036854775808≤p.pr∧p.pr≤9223372036854775807
 msg: -9223372036854775808≤p.msg∧p.msg≤9223372036854775807
 id:0≤p.id∧p.id < 4294967296
 v:0≤p.v∧p.v < 4294967296
end
section
structure sL(p:Piece)(s:aD)(A1:Option Addr)(n1:Nat)(A2:Option Addr)(n2:Nat)(A3:Option Addr)(n3:Nat)(A4:Option Addr)(n4:Nat):Prop where
 jM:jP (fH p) (uB (fH p)) 86 6 A1 n1 s.aF
 dom:jP (fH p) vD 50 3 A2 n2 s.domains
 Cu:jP (fH p) zC 88 1 A3 n3 s.aR
 dev:jP (fH p) (tG (fH p)) 38 6 A4 n4 s.aC
section
variable{p q:Piece}{w:World}{s:aD}{A1 A2 A3 A4:Option Addr}{n1 n2 n3 n4:Nat}
theorem sL.le(h:sL p s A1 n1 A2 n2 A3 n3 A4 n4)(hl:p.Le q):sL q s A1 n1 A2 n2 A3 n3 A4 n4:=
 ⟨h.jM.mono (oB hl) (fun _ _=>uB.mono (oB hl)),h.dom.mono (oB hl) (fun _ _ h=>h),h.Cu.mono (oB hl) (fun _ _ h=>h),h.dev.mono (oB hl) (fun _ _=>tG.mono (oB hl))⟩
theorem sL.W(h:sL p s A1 n1 A2 n2 A3 n3 A4 n4)(hl:p.Le (all w))(hs:s.small):fL w s A1 n1 A2 n2 A3 n3 A4 n4:=⟨(h.le hl).jM,(h.le hl).dom,(h.le hl).Cu,(h.le hl).dev,hs⟩
theorem sL.len(h:sL p s A1 n1 A2 n2 A3 n3 A4 n4):n1=s.aF.length∧n2=s.domains.length∧n3=s.aR.length∧n4=s.aC.length:=by
 obtain⟨⟨_,_,h1,_⟩,⟨_,_,h2,_⟩,⟨_,_,h3,_⟩,⟨_,_,h4,_⟩⟩:=h;exact⟨h1,h2,h3,h4⟩
theorem wH.P{cs:Array Value}(h:wH (fH p) s cs):∃A1 n1 k1 A2 n2 k2 A3 n3 k3 A4 n4 k4,cs=#[.slice A1 n1 k1,.slice A2 n2 k2,.slice A3 n3 k3,.slice A4 n4 k4]∧sL p s A1 n1 A2 n2 A3 n3 A4 n4:=by
 obtain⟨A1,n1,k1,A2,n2,k2,A3,n3,k3,A4,n4,k4,h0,h1,h2,h3,h4⟩:=h;exact⟨A1,n1,k1,A2,n2,k2,A3,n3,k3,A4,n4,k4,h0,h1,h2,h3,h4⟩
end
def allM(s:aD)(x y:bM):List dB:=uW s (List.range s.domains.length) (List.range s.aF.length) (List.range s.aR.length) x.d x.c x.l y.d y.c y.l
def aK5(l:List dB)(v:Value)(w w':World):Prop:=∃A c,v=.slice A l.length c∧aI (fresh w w') 4 A l.length (l.flatMap dB.cells)∧l.length≤c
theorem aMg{q qx qy:Piece}{s:aD}{A1 A2 A3 A4:Option Addr}{n1 k1 n2 k2 n3 k3 n4 k4:Nat}{x y:bM}{v1 v2:Value}{w:World}(hS:sL q s A1 n1 A2 n2 A3 n3 A4 n4)(hm:s.made)(hq:q.Le (all w))(hx:Bx qx x v1)(Ht:qx.Le (all w))(hy:Bx qy y v2)(hqy:qy.Le (all w)):
  Cz 278 #[.agg #[.slice A1 n1 k1,.slice A2 n2 k2,.slice A3 n3 k3,.slice A4 n4 k4],v1,v2] w (Ty (aK5 (allM s x y)) w):=by
 obtain⟨o1,o2,o3⟩:=aBb hm;obtain⟨rfl,rfl,rfl,rfl⟩:=hS.len;obtain⟨B1,b1,B2,b2,B3,b3,rfl,hx1,yI,hx3⟩:=hx;obtain⟨C1,c1,C2,c2,C3,c3,rfl,hy1,Ap,Rh⟩:=hy
 have h1:=hm.nc
 have h2:=hm.nd
 have h:=aMf s A1 A2 A3 A4 B1 B2 B3 C1 C2 C3 _ k1 _ k2 _ k3 _ k4 _ b1 _ b2 _ b3 _ c1 _ c2 _ c3 x.d x.c x.l y.d y.c y.l w (hS.W hq (We hm)) (aBc hm) (by rw[o2];simp;omega) (by rw[o1];simp;omega)
  (fun i hi=>by rw[o2] at hi;have:=List.mem_range.1 hi;omega) (fun i hi=>by rw[o1] at hi;have:=List.mem_range.1 hi;omega)
  (hx1.le Ht) rfl (hy1.le hqy) rfl (yI.le Ht) rfl (Ap.le hqy) rfl (hx3.le Ht) rfl (Rh.le hqy) rfl
 rw[o1,o2] at h
 have hL:uW s ((0:Int),List.range s.domains.length).2 ((0:Int),List.range s.aF.length).2 (List.range s.aR.length) x.d x.c x.l y.d y.c y.l=allM s x y:=rfl
 rw[hL] at h;clear hL;generalize allM s x y=L at h⊢;refine Calls.mono h ?_;rintro z w' ⟨⟨A,c,hz,hs,hc⟩,hb⟩;exact⟨⟨_,hz,⟨A,c,rfl,hs,hc⟩⟩,hb⟩
end
section
theorem jP.zT{α:Type}{p:Piece}{R:α→List Value→Prop}{t:TypeId}{sz n:Nat}{A:Option Addr}{es:List α}(h:jP (fH p) R t sz A n es){k:Nat}{e:α}(hk:es[k]? =some e):
  ∃b off r,A=some ⟨b,off,none⟩∧p.Z b∧r.length=sz∧R e r∧∀f u,r[f]? =some u→p.w.cell? ⟨b,off+k*sz+f,none⟩=some u:=by
 obtain⟨rows,h1,h2,h3⟩:=h
 have hlt:k < n:=by
  rw[h2];rcases Nat.lt_or_ge k es.length with h | h
  ·exact h
  ·rw[List.getElem?_eq_none h] at hk;cases hk
 obtain⟨b,off,hA,hb,hc⟩:=aI.at_ h3 hlt;obtain⟨r,h4,h5,h6⟩:=h1.get hk;refine⟨b,off,r,hA,hb,h4,h5,fun f u hu=>hc f u ?_⟩
 have hf:f < sz:=by
  rw[←h4];rcases Nat.lt_or_ge f r.length with h | h
  ·exact h
  ·rw[List.getElem?_eq_none h] at hu;cases hu
 rw[h6 f hf,hu]
theorem aPd{p:dB}{pr msg:Int}{val:Nat→Int}{ids:List Nat}(h:p∈jW pr msg val ids):∃i∈ids,p=⟨pr,msg,i,val i⟩:=by
 simp only[jW,List.mem_map] at h;obtain⟨i,hi,rfl⟩:=h;exact⟨i,hi,rfl⟩
theorem aDc(s:aD)(k:Nat):mO s k=0∨mO s k=2:=by unfold mO;split<;>simp
theorem Qc{pr msg:Int}{val:Nat→Int}{ids:List Nat}(h1:pr=17∨pr=20∨pr=22)(h2:msg=4∨msg=7)(hv:∀k,val k=0∨val k=1∨val k=2)(hi:∀i∈ids,i < 1000):∀p∈jW pr msg val ids,p.ok:=by
 intro p hp;obtain⟨i,hi',rfl⟩:=aPd hp
 have h3:=hi i hi'
 have h4:=hv i
 exact⟨by dsimp only;omega,by dsimp only;omega,by dsimp only;omega,by dsimp only;omega⟩
theorem aTP{s:aD}(hm:s.made)(x y:bM):∀p∈allM s x y,p.ok:=by
 have h1:=hm.nc
 have h2:=hm.nd
 have h3:=hm.nr
 have mr:∀(n:Nat) (fr to:List Bool),n≤9→∀i∈eV (List.range n) fr to,i < 1000:=fun n fr to hn i hi=>by have:=List.mem_range.1 (List.mem_filter.1 hi).1;omega
 have mv:∀(n:Nat) (fr to:List Bool),n≤9→∀i∈eV (List.range n).reverse fr to,i < 1000:=fun n fr to hn i hi=>by have:=List.mem_range.1 (List.mem_reverse.1 (List.mem_filter.1 hi).1);omega
 intro p hp;simp only[allM,uW,List.mem_append] at hp;rcases hp with hp | hp | hp | hp | hp | hp
 ·exact Qc (by omega) (by omega) (fun _=>by omega) (mr _ _ _ (by omega)) p hp
 ·exact Qc (by omega) (by omega) (fun _=>by omega) (mr _ _ _ (by omega)) p hp
 ·exact Qc (by omega) (by omega) (fun _=>by omega) (mr _ _ _ (by omega)) p hp
 ·exact Qc (by omega) (by omega) (fun _=>by omega) (mr _ _ _ (by omega)) p hp
 ·exact Qc (by omega) (by omega) (fun _=>by omega) (mv _ _ _ (by omega)) p hp
 ·exact Qc (by omega) (by omega) (fun k=>by have:=aDc s k;omega) (mv _ _ _ (by omega)) p hp
theorem aTQ{s:aD}(hm:s.made)(x y:bM):(allM s x y).length≤32:=by
 have h1:=hm.nc
 have h2:=hm.nd
 have h3:=hm.nr
 refine Nat.le_trans (aJY _ _ _ _ _ _ _ _ _ _) ?_;simp only[List.length_range];omega
end
section
theorem aHl(l:List Bool)(i j:Nat)(b:Bool):(gZ l (i:Int) b)[j]? =if i=j then(l[j]?).map (fun _=>b) else l[j]? :=by
 unfold gZ;rw[Int.toNat_natCast,List.getElem?_set]
 by_cases h:i=j
 ·subst h;rw[if_pos rfl,if_pos rfl]
  by_cases hl:i < l.length
  ·rw[if_pos hl,List.getElem?_eq_getElem hl];rfl
  ·rw[if_neg hl,List.getElem?_eq_none (by omega)];rfl
 ·rw[if_neg h,if_neg h]
theorem Vt(b:Bool):∀(ids:List Nat) (l:List Bool) (j:Nat),(ids.foldl (fun d (i:Nat)=>gZ d (i:Int) b) l)[j]? =if j∈ids then(l[j]?).map (fun _=>b) else l[j]?
 | [],l,j=>by simp
 | i :: ids, l, j => by
  rw[List.foldl_cons,Vt b ids,aHl]
  by_cases h2:i=j
  ·subst h2
   by_cases h1:i∈ids<;>simp[h1]<;>(cases l[i]? <;>rfl)
  ·have h3:¬j=i:=fun e=>h2 e.symm
   by_cases h1:j∈ids<;>simp[h1,h2,h3]
theorem Yh{val:Nat→Int}{b:Bool}(h:∀k,val k≤2∧decide (val k=1)=b):∀(ids:List Nat) (x:bM),(jW 17 4 val ids).foldl gQ x=⟨ids.foldl (fun d (i:Nat)=>gZ d (i:Int) b) x.d,x.c,x.l⟩
 | [],x=>rfl
 | i :: ids, x => by
  have h1:=h i
  have e:gQ x ⟨17,4,(i:Int),val i⟩=⟨gZ x.d (i:Int) b,x.c,x.l⟩:=by
   unfold gQ;dsimp only;rw[if_pos ⟨rfl,rfl,h1.1⟩,h1.2]
  show(jW 17 4 val ids).foldl gQ (gQ x ⟨17,4,(i:Int),val i⟩)=_
  rw[e,Yh h ids];rfl
theorem Yi{val:Nat→Int}{b:Bool}(h:∀k,val k≤1∧decide (val k=1)=b):∀(ids:List Nat) (x:bM),(jW 20 7 val ids).foldl gQ x=⟨x.d,ids.foldl (fun d (i:Nat)=>gZ d (i:Int) b) x.c,x.l⟩
 | [],x=>rfl
 | i :: ids, x => by
  have h1:=h i
  have e:gQ x ⟨20,7,(i:Int),val i⟩=⟨x.d,gZ x.c (i:Int) b,x.l⟩:=by
   unfold gQ;dsimp only;rw[if_neg (by omega),if_pos ⟨rfl,rfl,h1.1⟩,h1.2]
  show(jW 20 7 val ids).foldl gQ (gQ x ⟨20,7,(i:Int),val i⟩)=_
  rw[e,Yi h ids];rfl
theorem Yg{val:Nat→Int}{b:Bool}(h:∀k,val k≤1∧decide (val k=0)=b):∀(ids:List Nat) (x:bM),(jW 22 4 val ids).foldl gQ x=⟨x.d,x.c,ids.foldl (fun d (i:Nat)=>gZ d (i:Int) b) x.l⟩
 | [],x=>rfl
 | i :: ids, x => by
  have h1:=h i
  have e:gQ x ⟨22,4,(i:Int),val i⟩=⟨x.d,x.c,gZ x.l (i:Int) b⟩:=by
   unfold gQ;dsimp only;rw[if_neg (by omega),if_neg (by omega),if_pos ⟨rfl,rfl,h1.1⟩,h1.2]
  show(jW 22 4 val ids).foldl gQ (gQ x ⟨22,4,(i:Int),val i⟩)=_
  rw[e,Yg h ids];rfl
theorem Ab{n i:Nat}{a b:List Bool}:i∈eV (List.range n) a b↔i < n∧sO a b i=true:=by simp[eV]
theorem Qq{n i:Nat}{a b:List Bool}:i∈eV (List.range n).reverse a b↔i < n∧sO a b i=true:=by simp[eV]
theorem aCL{n:Nat}{a b:List Bool}{up dn:List Nat}(ha:a.length=n)(hb:b.length=n)(hu:∀i,i∈up↔i < n∧sO a b i=true)(hd:∀i,i∈dn↔i < n∧sO b a i=true):
  dn.foldl (fun d (i:Nat)=>gZ d (i:Int) false) (up.foldl (fun d (i:Nat)=>gZ d (i:Int) true) a)=b:=by
 apply List.ext_getElem?;intro j;rw[Vt,Vt];rcases Nat.lt_or_ge j n with h | h
 ·have h1:=hu j
  have h2:=hd j
  have e1:a[j]? =some (a[j]'(by omega)):=List.getElem?_eq_getElem _
  have e2:b[j]? =some (b[j]'(by omega)):=List.getElem?_eq_getElem _
  simp only[sO,hasB,e1,e2,Option.getD_some] at h1 h2⊢;cases yS:a[j]'(by omega)<;>cases hb':b[j]'(by omega)<;>simp[yS,hb',h,h1,h2] at h1 h2⊢ <;>simp[h1,h2]
 ·rw[List.getElem?_eq_none (by omega),List.getElem?_eq_none (by omega)];simp
structure bM.of(x:bM)(s:aD):Prop where
 d:x.d.length=s.domains.length
 c:x.c.length=s.aF.length
 l:x.l.length=s.aR.length
theorem aRj{s:aD}{x y:bM}(hx:x.of s)(hy:y.of s):(allM s x y).foldl gQ x=y:=by
 unfold allM uW;simp only[List.foldl_append]
 rw[Yh (val:=fun _=>1) (b:=true) (fun _=>⟨by decide,rfl⟩),Yi (val:=fun _=>1) (b:=true) (fun _=>⟨by decide,rfl⟩),Yg (val:=fun _=>0) (b:=true) (fun _=>⟨by decide,rfl⟩),Yg (val:=fun _=>1) (b:=false) (fun _=>⟨by decide,rfl⟩),Yi (val:=fun _=>0) (b:=false) (fun _=>⟨by decide,rfl⟩),
  Yh (val:=mO s) (b:=false) (fun k=>by have:=aDc s k;exact⟨by omega,decide_eq_false (by omega)⟩)]
 dsimp only;rw[aCL hx.d hy.d (fun i=>Ab) (fun i=>Qq),aCL hx.c hy.c (fun i=>Ab) (fun i=>Qq),aCL hx.l hy.l (fun i=>Ab) (fun i=>Ab)]
end
section
structure AL where
 d:Nat
 t:TypeId
 cs:List Value
 val:Nat→Value
def rJ(al:Nat→AL)(g:Nat→Nat)(ds:List Nat)(e:Env):Env:=ds.map (fun i=>((al i).d,(al i).val (g i)))++e
def tN(al:Nat→AL)(g:Nat→Nat)(ds:List Nat)(H:List HP):List HP:=ds.map (fun i=>HP.aE (g i) (al i).t (al i).cs)++H
def kX(ds:List Nat)(l:Array Bool):Array Bool:=ds.foldr (fun i a=>a.setIfInBounds i true) l
def Mi:List Nat→List (List Nat)
 | []=>[[]]
 | i::l=>(Mi l).map (i:: ·)++Mi l
theorem Qa(p:Nat→Bool):∀l:List Nat,l.filter p∈Mi l
 | []=>by simp[Mi]
 | i::l=>by
  unfold Mi;rw[List.filter_cons];split
  ·exact List.mem_append_left _ (List.mem_map_of_mem (Qa p l))
  ·exact List.mem_append_right _ (Qa p l)
def aNK(ops:Array Oper)(idx:List Nat)(ex:List (List Nat))(listed:Array Bool):Bool:=
 (Mi idx).all fun sub=>ex.contains sub||(!(Region.ready .any ops (kX sub listed)).isEmpty&&(Region.ready .any ops (kX sub listed)).all fun j=>idx.contains j&& !sub.contains j)
theorem aBa{l1 l2:List Nat}(h:l1.Perm l2)(l:Array Bool):kX l1 l=kX l2 l:=by
 induction h with
 | nil=>rfl
 | cons x _ ih=>show(kX _ l).setIfInBounds x true=_;rw[ih];rfl
 | swap x y s=>
  show((kX s l).setIfInBounds x true).setIfInBounds y true=((kX s l).setIfInBounds y true).setIfInBounds x true
  by_cases hxy:x=y
  ·rw[hxy]
  ·exact Array.setIfInBounds_comm _ _ hxy
 | trans _ _ h1 h2=>exact h1.trans h2
section
variable{P:Program}{N:cE}{w0 w:World}{e:Env}{R R0:List Piece}{H H0:List HP}{Q:Exit→Act→World→Prop}{ops:Array Oper}{m fuel:Nat}{listed:Array Bool}{K:Act→World→Prop}
variable{al:Nat→AL}{g g':Nat→Nat}
theorem aB2(k:Nat)(v:Value)(e:Env)(t:Nat):Env.get ((k,v)::e) t=if k=t then some v else e.get t:=by
 show(match Nat.beq k t with | true=>some v | false=>Env.get e t)=_
 by_cases h:k=t
 ·subst h;rw[if_pos rfl,Nat.beq_refl]
 ·rw[if_neg h];cases hb:Nat.beq k t with
  | true=>exact absurd (Nat.eq_of_beq_eq_true hb) h
  | false=>rfl
theorem aJb{l1 l2:List Nat}(h:l1.Perm l2)(hn:(l1.map fun i=>(al i).d).Nodup)(t:Nat):(rJ al g l1 e).get t=(rJ al g l2 e).get t:=by
 induction h with
 | nil=>rfl
 | cons x _ ih=>
  show Env.get ((_,_)::rJ al g _ e) t=Env.get ((_,_)::rJ al g _ e) t
  rw[aB2,aB2,ih (List.nodup_cons.1 (show((al x).d::List.map (fun i=>(al i).d) _).Nodup from hn)).2]
 | swap x y s=>
  show Env.get ((_,_)::(_,_)::rJ al g s e) t=Env.get ((_,_)::(_,_)::rJ al g s e) t
  have hne:(al y).d≠(al x).d:=fun he=>(List.nodup_cons.1 (show((al y).d::(al x).d::List.map (fun i=>(al i).d) s).Nodup from hn)).1 (by rw[he];exact List.mem_cons_self)
  simp only[aB2]
  by_cases h1:(al x).d=t
  ·rw[if_pos h1,if_neg (fun h2=>hne (h2.trans h1.symm)),if_pos h1]
  ·rw[if_neg h1,if_neg h1]
 | trans h1 h2 i1 i2=>exact(i1 hn).trans (i2 ((h1.map _).nodup_iff.1 hn))
theorem aIn{l1 l2:List Nat}(h:l1.Perm l2):∀pre:List HP,St w0 R (pre++tN al g l1 H) w→St w0 R (pre++tN al g l2 H) w:=by
 induction h with
 | nil=>exact fun _ h=>h
 | cons x _ ih=>
  intro pre st
  have:=ih (pre++[HP.aE (g x) (al x).t (al x).cs]) (by rw[List.append_assoc];exact st)
  rw[List.append_assoc] at this;exact this
 | swap x y s =>
  intro pre st;refine st.weak (fun _ hp=>hp) (fun i=>if i=pre.length then pre.length+1 else if i=pre.length+1 then pre.length else i) (fun i j _ _ he=>?_) (fun i p hi=>?_)
  ·split at he<;>split at he<;>(try split at he)<;>(try split at he)<;>omega
  ·change (pre++HP.aE (g x) (al x).t (al x).cs::HP.aE (g y) (al y).t (al y).cs::tN al g s H)[i]? =some p at hi
   show(pre++HP.aE (g y) (al y).t (al y).cs::HP.aE (g x) (al x).t (al x).cs::tN al g s H)[_]? =some p
   rcases Nat.lt_or_ge i pre.length with h | h
   ·rw[if_neg (by omega),if_neg (by omega),List.getElem?_append_left h]
    rwa [List.getElem?_append_left h] at hi
   ·obtain⟨k,rfl⟩:∃k,i=pre.length+k:=⟨i - pre.length,by omega⟩
    rw[List.getElem?_append_right (by omega),Nat.add_sub_cancel_left] at hi
    match k,hi with
    | 0,hi=>
     rw[if_pos (by omega),List.getElem?_append_right (by omega),Nat.add_sub_cancel_left];exact hi
    | 1,hi=>
     rw[if_neg (by omega),if_pos rfl,List.getElem?_append_right (by omega),Nat.sub_self];exact hi
    | k+2,hi=>
     rw[if_neg (by omega),if_neg (by omega),List.getElem?_append_right (by omega),Nat.add_sub_cancel_left];exact hi
 | trans _ _ i1 i2=>exact fun pre st=>i2 pre (i1 pre st)
def aCv(P:Program)(N:cE)(e:Env)(o:Oper)(x:AL):Prop:=∀a w,eO N e a→(execOp a.eval o).run P w=.ok (.value (x.val w.heap.size)) (w.alloc (.cells x.cs.toArray x.t))
theorem aHI{t ty:TypeId}{d:Nat}{pos:String}{aH:Array Edge}{cs:List Value}(ht:Ej P t cs):aCv P N e ⟨some d,.alloc t,ty,pos,aH,none⟩ ⟨d,t,cs,fun g=>.pointer (some ⟨g,0,none⟩)⟩:=fun a w hr=>by
 obtain⟨i,z,hi,hz,rfl⟩:=ht;simp[execOp,Instr.alloc,zeroValue,typeInfo,hi,hz,newVar,newRow]
theorem Ah(bytes:Nat){x y:Operand}{t el ty:TypeId}{d n:Nat}{z:Value}{pos:String}{aH:Array Edge}{kd uQ:IntKind}(ht:P.underlying t=some (.slice el))(hT:(P.info? el).map (fun i=>(i.zero,i.size,i.bytes))=some (some z,1,bytes))(Wi:z.cells=#[z])(hx:e.ev x=some (.int kd (n:Int)))(hy:e.ev y=some (.int uQ (n:Int)))
  (hb:bytes*n≤281474976710656) (hn:(n:Int)≤9223372036854775807):aCv P N e ⟨some d,.makeSlice t x y,ty,pos,aH,none⟩ ⟨d,el,List.replicate n z,fun g=>.slice (some ⟨g,0,none⟩) n n⟩:=fun a w hr=>by
 obtain⟨i,hi,he⟩:=Option.map_eq_some_iff.1 hT;simp only[Prod.mk.injEq] at he;obtain⟨h1,h2,rfl⟩:=he
 have:=run_make (P:=P) w t el i z ht hi h1 kd uQ n n (by omega) (Int.le_refl _) (by rw[←Int.natCast_mul];omega) hn
 have hm:madeCells z.cells (n*i.size)=(List.replicate n z).toArray:=by
  rw[h2,Nat.mul_one,Wi];unfold madeCells;apply Array.ext
  ·simp
  ·intro j h1 h2;simp;rw[Nat.mod_one];rfl
 simp only[Int.toNat_natCast,hm] at this;simp only[execOp,hr.ev hx,hr.ev hy,Sem.run_bind,this,Result.andThen_ok,Sem.run_pure]
structure uC(P:Program)(N:cE)(ops:Array Oper)(e:Env)(x:AL)(i:Nat):Prop where
 ok:∃o,ops[i]? =some o∧o.guard=none∧o.dst=some x.d∧aCv P N e o x
 lt:x.d < N.n
 new:e.get x.d=none
theorem uC.of{o:Oper}{x:AL}{i:Nat}(h1:ops[i]? =some o)(h2:o.guard=none)(h3:o.dst=some x.d)(h4:aCv P N e o x)(h5:x.d < N.n)(h6:e.get x.d=none):uC P N ops e x i:=⟨⟨o,h1,h2,h3,h4⟩,h5,h6⟩
theorem aRC{ds:List Nat}(hn:∀i∈ds,e.get (al i).d=none){t:Nat}{v:Value}(h:e.get t=some v):(rJ al g ds e).get t=some v:=by
 induction ds with
 | nil=>exact h
 | cons i ds ih=>
  show Env.get ((_,_)::rJ al g ds e) t=some v
  rw[aB2,if_neg (fun he=>by have:=hn i (by simp);rw[he,h] at this;cases this)];exact ih fun j hj=>hn j (by simp[hj])
theorem eO.aRD{a:Act}{ds:List Nat}(hn:∀i∈ds,e.get (al i).d=none)(h:eO N (rJ al g ds e) a):eO N e a:=⟨h.size,h.defers,fun t v ht=>h.get t v (aRC hn ht)⟩
theorem St.unA{ds:List Nat}(h:St w0 R (tN al g ds H) w):St w0 R H w:=h.weak (fun _ hp=>hp) (fun i=>i+ds.length) (fun i j _ _ he=>by omega) (fun i p hi=>by
 show(ds.map _++H)[i+ds.length]? =some p
 rw[List.getElem?_append_right (by simp)]
 simpa using hi)
theorem aCn(idx:List Nat)(ex:List (List Nat))(al:Nat→AL)(hok:∀i∈idx,uC P N ops e (al i) i)(hd:(idx.map fun i=>(al i).d).Nodup)(hr:aNK ops idx ex listed=true)(hS:∀w,St w0 R H w→St w0 R0 H0 w)
  (k:∀sub∈Mi idx,ex.contains sub=true→∀g:Nat→Nat,XA P N w0 ops Q R0 H0 m (fuel+(idx.length - sub.length)) (kX sub listed) (rJ al g sub e) R (tN al g sub H)):XA P N w0 ops Q R0 H0 m (fuel+idx.length) listed e R H:=by
 have hni:idx.Nodup:=(List.pairwise_map.1 hd).imp fun h e=>h (by rw[e])
 have key:∀(n:Nat) (ds:List Nat) (g:Nat→Nat),ds.Nodup→(∀i∈ds,i∈idx)→ds.length+n=idx.length→XA P N w0 ops Q R0 H0 m (fuel+n) (kX ds listed) (rJ al g ds e) R (tN al g ds H):=by
  intro n
  induction n with
  | zero =>
   intro ds g hn hin hl
   have Fq:(idx.filter fun i=>ds.contains i).Perm ds:=by
    rw[List.perm_iff_count];intro a;rw[(hni.sublist List.filter_sublist).count,hn.count]
    by_cases ha:a∈ds
    ·rw[if_pos ha,if_pos (by simp[ha,hin a ha])]
    ·rw[if_neg ha,if_neg (by simp[ha])]
   have hlen:=Fq.length_eq
   have heq:(idx.filter fun i=>ds.contains i)=idx:=List.filter_sublist.eq_of_length (by omega)
   have eH:=List.all_eq_true.1 hr _ (Qa (fun i=>ds.contains i) idx)
   rw[Bool.or_eq_true] at eH;rcases eH with hc | hc
   ·have h:=k _ (Qa _ idx) hc g
    rw[aBa Fq,show fuel+(idx.length - (idx.filter fun i=>ds.contains i).length)=fuel+0 by omega] at h;exact fun up a w cX st=>h up a w ⟨cX.size,cX.defers,fun t v ht=>cX.get t v (by rw[←aJb Fq (by rw[heq];exact hd)];exact ht)⟩ (aIn Fq.symm [] st)
   ·exfalso;rw[Bool.and_eq_true,List.all_eq_true] at hc;obtain⟨h1,h2⟩:=hc;rw[heq] at h1 h2;cases hrd:Region.ready .any ops (kX idx listed) with
    | nil=>rw[hrd] at h1;cases h1
    | cons j js=>
     rw[hrd] at h2
     have:=h2 j (by simp)
     simp at this
  | succ n ih =>
   intro ds g hn hin hl
   have Fq:(idx.filter fun i=>ds.contains i).Perm ds:=by
    rw[List.perm_iff_count];intro a;rw[(hni.sublist List.filter_sublist).count,hn.count]
    by_cases ha:a∈ds
    ·rw[if_pos ha,if_pos (by simp[ha,hin a ha])]
    ·rw[if_neg ha,if_neg (by simp[ha])]
   have hlen:=Fq.length_eq
   have eH:=List.all_eq_true.1 hr _ (Qa (fun i=>ds.contains i) idx)
   rw[Bool.or_eq_true] at eH;rcases eH with hc | hc
   ·have h:=k _ (Qa _ idx) hc g
    rw[aBa Fq,show fuel+(idx.length - (idx.filter fun i=>ds.contains i).length)=fuel+(n+1) by omega] at h
    have hnd:((idx.filter fun i=>ds.contains i).map fun i=>(al i).d).Nodup:=hd.sublist (List.filter_sublist.map _)
    exact fun up a w cX st=>h up a w ⟨cX.size,cX.defers,fun t v ht=>cX.get t v (by rw[←aJb Fq hnd];exact ht)⟩ (aIn Fq.symm [] st)
   ·rw[Bool.and_eq_true,List.all_eq_true,aBa Fq] at hc;obtain⟨h1,h2⟩:=hc;intro up a w cX st
    show Me P ops Q (St w0 R0 H0) m ((fuel+n)+1) (kX ds listed) a w
    refine⟨(fun h=>by rw[h] at h1;exact absurd h1 (by decide)),fun j hj=>?_⟩
    have hj2:=h2 j hj
    simp only[Bool.and_eq_true,Bool.not_eq_true',List.contains_eq_mem,decide_eq_true_eq,decide_eq_false_iff_not,List.mem_filter,not_and] at hj2
    have hjd:j∉ds:=hj2.2 hj2.1
    obtain⟨⟨o,ho,hog,hod,hmk⟩,hlt,hnew⟩:=hok j hj2.1
    have hrun:=hmk a w (cX.aRD fun i hi=>(hok i (hin i hi)).new)
    let g':Nat→Nat:=fun i=>if i=j then w.heap.size else g i
    have Xh:rJ al g' (j::ds) e=((al j).d,(al j).val w.heap.size)::rJ al g ds e:=by
     show((al j).d,(al j).val (g' j))::(ds.map _++e)=_
     rw[show g' j=w.heap.size from if_pos rfl]
     congr 1
     unfold rJ
     congr 1
     refine List.map_congr_left fun i hi=>?_;rw[show g' i=g i from if_neg (fun he:i=j=>hjd (he▸hi))]
    have Fu:tN al g' (j::ds) H=HP.aE w.heap.size (al j).t (al j).cs::tN al g ds H:=by
     show HP.aE (g' j) _ _::(ds.map _++H)=_
     rw[show g' j=w.heap.size from if_pos rfl]
     congr 1
     unfold tN
     congr 1
     refine List.map_congr_left fun i hi=>?_;rw[show g' i=g i from if_neg (fun he:i=j=>hjd (he▸hi))]
    have st':St w0 R (tN al g' (j::ds) H) (w.alloc (.cells (al j).cs.toArray (al j).t)):=by
     rw[Fu];exact st.new (Oi w _) (aII w _ _)
    have h:=ih (j::ds) g' (List.nodup_cons.2 ⟨hjd,hn⟩) (fun i hi=>by
     rcases List.mem_cons.1 hi with rfl | hi
     ·exact hj2.1
     ·exact hin i hi) (by simp only[List.length_cons];omega)
    rw[Xh] at h
    have xA:=h (up.mH hj) (a.put (some (al j).d) ((al j).val w.heap.size)) _ (cX.put hlt _) st'
    unfold wpOp;simp only[ho]
    have hw:Region.wanted o (yielded ops a.tmps)=true:=by simp[Region.wanted,hog]
    simp only[hw,if_true,Oper.wp,hrun,Oper.upon,hod];exact .inl ⟨fun _=>hS _ st'.unA,xA⟩
 have:=key idx.length [] (fun _=>0) List.nodup_nil (fun i hi=>by cases hi) (by simp)
 exact this
end
end
section
def lK(s:aD):Nat→Nat→List Nat
 | 0,_=>[]
 | k + 1, c => match s.aF[c]? with
  | some x=>c::(match x.src with
   | []=>[]
   | f::_=>lK s k f.toNat)
  | none=>[]
def fU(s:aD)(c:Nat):List Nat:=lK s s.aF.length c
theorem aEL(s:aD):∀(k c:Nat),∀i∈lK s k c,i < s.aF.length
 | 0,c,i,h=>by simp[lK] at h
 | k + 1, c, i, h => by
  unfold lK at h;cases hc:s.aF[c]? with
  | none=>rw[hc] at h;simp at h
  | some x =>
   rw[hc] at h;dsimp only at h
   have hlt:=(List.getElem?_eq_some_iff.1 hc).1
   cases hs:x.src with
   | nil=>rw[hs] at h;simp at h;omega
   | cons f fs=>
    rw[hs] at h;rcases List.mem_cons.1 h with rfl | h
    ·exact hlt
    ·exact aEL s k _ i h
theorem aBG(s:aD):∀(k c:Nat),(lK s k c).length≤k
 | 0,c=>by simp[lK]
 | k + 1, c => by
  unfold lK;split
  ·rename_i x hx
   split
   ·simp
   ·rename_i f fs hs
    have:=aBG s k f.toNat
    simp only[List.length_cons];omega
  ·simp
theorem aJF{s:aD}{k c:Nat}{x:eF}(h:s.aF[c]? =some x):lK s (k+1) c=c::(match x.src with
      | []=>[]
      | f::_=>lK s k f.toNat):=by
  show(match s.aF[c]? with | some x=>_ | none=>_)=_
  rw[h]
def aA6(s:aD):Nat→Nat→List Nat
 | 0,_=>[]
 | k+1,d=>match s.domains[d]? with
  | some x=>d::(if x.above= -1 then[] else aA6 s k x.above.toNat)
  | none=>[]
def Es(s:aD)(d:Nat):List Nat:=aA6 s (d+1) d
def By(s:aD):Int→List Nat→Prop
 | d,[]=>d= -1
 | d,i::r=>d=(i:Int)∧∃x,s.domains[i]? =some x∧By s x.above r
theorem aGg{s:aD}(hm:s.made):∀(k d:Nat),d < k→d < s.domains.length→By s d (aA6 s k d)
 | k + 1, d, hk, hd => by
  have hx:s.domains[d]? =some (s.domains[d]'hd):=List.getElem?_eq_getElem _
  have hf:=(hm.domains d _ hx).1
  show By s d (match s.domains[d]? with | some x=>d::(if x.above= -1 then[] else aA6 s k x.above.toNat) | none=>[])
  rw[hx];refine⟨rfl,_,hx,?_⟩
  by_cases h1:(s.domains[d]'hd).above= -1
  ·rw[if_pos h1];exact h1
  ·rw[if_neg h1]
   have h2:((s.domains[d]'hd).above.toNat:Int)=(s.domains[d]'hd).above:=by omega
   have:=aGg hm k (s.domains[d]'hd).above.toNat (by omega) (by omega)
   rwa [h2] at this
theorem aA5{s:aD}(hm:s.made){d:Nat}(hd:d < s.domains.length):By s d (Es s d):=aGg hm _ _ (by omega) hd
theorem By.in_{s:aD}:∀{l:List Nat} {d:Int},By s d l→∀i∈l,i < s.domains.length
 | [],_,_,i,h=>by cases h
 | j::l,_,⟨_,x,hx,hr⟩,i,h=>by
  rcases List.mem_cons.1 h with rfl | h
  ·exact(List.getElem?_eq_some_iff.1 hx).1
  ·exact hr.in_ i h
theorem By.up{s:aD}:∀{l:List Nat} {d:Int},By s d l→∀i∈l,∀x,s.domains[i]? =some x→0≤x.above→x.above.toNat∈l
 | [],_,_,i,h,_,_,_=>by cases h
 | j :: l, _, ⟨_, y, hy, hr⟩, i, h, x, hx, h0 => by
  rcases List.mem_cons.1 h with rfl | h
  ·rw[hy] at hx;cases hx;cases l with
   | nil=>have h2:y.above= -1:=hr;omega
   | cons k l=>
    have h2:y.above=(k:Int):=hr.1
    rw[h2];simp
  ·exact List.mem_cons_of_mem _ (hr.up i h x hx h0)
theorem By.head{s:aD}{d:Nat}{l:List Nat}(h:By s (d:Int) l):d∈l:=by
 cases l with
 | nil=>have h2:(d:Int)= -1:=h;omega
 | cons i r=>have h2:(d:Int)=(i:Int):=h.1;rw[show d=i by omega];simp
def sU(ids:List Nat)(l:List Bool):List Bool:=ids.foldl (fun d (i:Nat)=>gZ d (i:Int) true) l
theorem aDi(ids:List Nat)(l:List Bool):(sU ids l).length=l.length:=by
 unfold sU
 induction ids generalizing l with
 | nil=>rfl
 | cons i ids ih=>rw[List.foldl_cons,ih,Mp]
theorem aHm(ids:List Nat)(l:List Bool)(j:Nat)(hj:j < l.length):(sU ids l)[j]?.getD false=(decide (j∈ids)||l[j]?.getD false):=by
 unfold sU;rw[Vt,List.getElem?_eq_getElem hj]
 by_cases h:j∈ids<;>simp[h]
def mM(s:aD)(i:Nat):Bool:=match s.aF[i]? with
 | some c=>decide (c.kind=112∨c.kind=103)
 | none=>false
def dQ(s:aD):bM:=⟨List.replicate s.domains.length false,List.replicate s.aF.length false,List.replicate s.aR.length false⟩
def Pu(s:aD)(w:bM)(x:bO):bM:=⟨sU (Es s x.domain.toNat) w.d,sU ((fU s x.clock.toNat).filter (mM s)) w.c,gZ w.l x.reset true⟩
def iK(s:aD)(act:List Bool):Nat→bM
 | 0=>dQ s
 | j+1=>if hasB act j then(match s.aC[j]? with
  | some x=>Pu s (iK s act j) x
  | none=>iK s act j) else iK s act j
def eT(s:aD)(act:List Bool):bM:=iK s act s.aC.length
theorem Er(s:aD)(act:List Bool):∀j,(iK s act j).of s
 | 0=>⟨by simp[iK,dQ],by simp[iK,dQ],by simp[iK,dQ]⟩
 | j + 1 => by
  have ih:=Er s act j
  unfold iK;split
  ·split
   ·exact⟨by rw[Pu,aDi];exact ih.d,by rw[Pu,aDi];exact ih.c,by rw[Pu,Mp];exact ih.l⟩
   ·exact ih
  ·exact ih
theorem Uo{s:aD}{act:List Bool}{j:Nat}{x:bO}(hx:s.aC[j]? =some x)(ha:hasB act j=true):iK s act (j+1)=Pu s (iK s act j) x:=by
 show(if hasB act j then _ else _)=_
 rw[if_pos ha,hx]
theorem Pv{s:aD}{act:List Bool}{j:Nat}(ha:hasB act j=false):iK s act (j+1)=iK s act j:=by
 show(if hasB act j then _ else _)=_
 rw[if_neg (by rw[ha];decide)]
end
section
def uZ(p:Piece)(x y:bM)(v:Value):Prop:=∃A1 k1 A2 k2 A3 k3 B1 m1 B2 m2 B3 m3,v=.agg #[.slice A1 x.d.length k1,.slice A2 x.c.length k2,.slice A3 x.l.length k3,.slice B1 y.d.length m1,.slice B2 y.c.length m2,.slice B3 y.l.length m3]∧
 aI p 1 A1 x.d.length (bE x.d)∧aI p 1 A2 x.c.length (bE x.c)∧aI p 1 A3 x.l.length (bE x.l)∧aI p 1 B1 y.d.length (bE y.d)∧aI p 1 B2 y.c.length (bE y.c)∧aI p 1 B3 y.l.length (bE y.l)
def Pc(s:aD)(p:Piece):Nat→List Value→Prop
 | 0,cs=>cs=[.slice none 0 0,.slice none 0 0,.slice none 0 0,.slice none 0 0,.slice none 0 0,.slice none 0 0]
 | 1,cs=>∃a b c,cs=[a,b,c,.slice none 0 0,.slice none 0 0,.slice none 0 0]∧Bx p (dQ s) (.agg #[a,b,c])
 | _,cs=>∃a b c a' b' c',cs=[a,b,c,a',b',c']∧Bx p (dQ s) (.agg #[a,b,c])∧Bx p (dQ s) (.agg #[a',b',c'])
theorem Pc.len{s:aD}{p:Piece}:∀{i:Nat} {cs:List Value},Pc s p i cs→cs.length=6
 | 0,_,h=>by rw[show _=_ from h];rfl
 | 1,_,⟨_,_,_,h,_⟩=>by rw[h];rfl
 | _+2,_,⟨_,_,_,_,_,_,h,_⟩=>by rw[h];rfl
theorem Pc.next{s:aD}{p q:Piece}(hl:p.Le q){a b c:Value}(hw:Bx q (dQ s) (.agg #[a,b,c])){i:Nat}{cs:List Value}(hi:i < 2)(h:Pc s p i cs):Pc s q (i+1) (iH cs (i*3) [a,b,c]):=by
 obtain rfl | rfl:i=0∨i=1:=by omega
 ·have h0:cs=[sn,sn,sn,sn,sn,sn]:=h
  subst h0;exact⟨a,b,c,rfl,hw⟩
 ·obtain⟨a1,b1,c1,h0,h1⟩:=h;subst h0;exact⟨a1,b1,c1,a,b,c,rfl,Bx.le h1 hl,hw⟩
theorem aMk(s:aD)(A1 A2 A3 A4:Option Addr)(k1 k2 k3 k4:Nat)(w:World)(hm:s.wX):
  Cz 76 #[.agg #[.slice A1 s.aF.length k1,.slice A2 s.domains.length k2,.slice A3 s.aR.length k3,.slice A4 s.aC.length k4]] w (Ty (fun v w w'=>uZ (fresh w w') (dQ s) (dQ s) v) w):=by
 have hn9:=hm.nc
 have rG:=hm.nd
 have pI:=hm.nr
 refine aM func76 ntmps76 ?_;refine aB ?_;refine bA fun g1=>?_;refine bX fun g2=>?_;refine aB ?_;refine bX fun g3=>?_;refine aB ?_;refine bL [(5,iv 0),(3,pt g3),(2,pt g2),(1,pt g1)] ?_;refine Bq ⟨w,fun _=>False⟩ (by simp) (fun _ h=>h.elim) ?_;refine aB ?_;refine eJ (fun m e R H=>∃(i:Nat) (cs:List Value) (qs:Piece),i≤2∧m=2 - i∧Pc s qs i cs∧qY w qs∧e=[(5,iv i),(3,pt g3),(2,pt g2),(1,pt g1)]∧R=[qs,all w]∧H=[HP.aE g3 130 cs,HP.aE g2 130 [sn,sn,sn,sn,sn,sn],HP.aE g1 30 [.slice A1 s.aF.length k1,.slice A2 s.domains.length k2,.slice A3 s.aR.length k3,.slice A4 s.aC.length k4]]) 2 ⟨0,_,⟨w,fun _=>False⟩,by omega,rfl,rfl,(fun _ h=>h.elim),rfl,rfl,rfl⟩ fun m e R H hI=>?_;obtain⟨i,cs,qs,hi2,rfl,hcs,aIy,rfl,rfl,rfl⟩:=hI;refine aB ?_;refine aG rfl (fun h=>?_) (fun h=>?_)
 ·
  refine mA ?_;refine dS ?_;refine cP ?_;refine sJ ?_;refine cP ?_;refine eC ?_;refine cQ rfl (by decide) ?_;refine fP rfl (by decide) ?_;refine dO ?_;refine rL 15 (by kernel_rfl) (by kernel_rfl) ?_;refine gF 0 rfl rfl rfl (mY rfl) ?_;refine gF 1 rfl rfl rfl (Gh (off:=1) (by kernel_rfl) rfl) ?_;refine gF 2 rfl rfl rfl (Lf rfl) ?_;refine gF 3 rfl rfl rfl (Od (el:=50) (by kernel_rfl) rfl) ?_;refine gF 5 rfl rfl rfl (Gh (off:=0) (by kernel_rfl) rfl) ?_;refine gF 6 rfl rfl rfl (Lf rfl) ?_;refine gF 7 rfl rfl rfl (Od (el:=86) (by kernel_rfl) rfl) ?_;refine gF 9 rfl rfl rfl (Gh (off:=2) (by kernel_rfl) rfl) ?_;refine gF 10 rfl rfl rfl (Lf rfl) ?_;refine gF 11 rfl rfl rfl (Od (el:=88) (by kernel_rfl) rfl) ?_;refine gF 14 rfl rfl rfl (Gh (off:=0) (by kernel_rfl) rfl) ?_;refine aCn (fuel:=3) [4,8,12] [[4,8,12]] (fun i=>match i with | 4=>⟨12,4,List.replicate s.domains.length (.bool false),fun g=>.slice (some ⟨g,0,none⟩) s.domains.length s.domains.length⟩ | 8=>⟨16,4,List.replicate s.aF.length (.bool false),fun g=>.slice (some ⟨g,0,none⟩) s.aF.length s.aF.length⟩ | _=>⟨20,4,List.replicate s.aR.length (.bool false),fun g=>.slice (some ⟨g,0,none⟩) s.aR.length s.aR.length⟩) (fun i hi=>?_) (by show[12,16,20].Nodup;decide) (by kernel_rfl) (fun _ h=>h) (fun sub hsub hex g=>?_)
  ·simp only[List.mem_cons,List.not_mem_nil,or_false] at hi;rcases hi with rfl | rfl | rfl
   ·exact uC.of rfl rfl rfl (Ah 1 (el:=4) (z:=.bool false) (by kernel_rfl) (by kernel_rfl) rfl rfl rfl (by omega) (by omega)) (Nat.le_of_ble_eq_true rfl) rfl
   ·exact uC.of rfl rfl rfl (Ah 1 (el:=4) (z:=.bool false) (by kernel_rfl) (by kernel_rfl) rfl rfl rfl (by omega) (by omega)) (Nat.le_of_ble_eq_true rfl) rfl
   ·exact uC.of rfl rfl rfl (Ah 1 (el:=4) (z:=.bool false) (by kernel_rfl) (by kernel_rfl) rfl rfl rfl (by omega) (by omega)) (Nat.le_of_ble_eq_true rfl) rfl
  have fW:sub=[4,8,12]:=by simpa using hex
  have er:∀n:Nat,List.replicate n (Value.bool false)=bE (List.replicate n false):=fun n=>by simp[bE]
  have hi:i < 2:=by have h':(i:Int) < 2:=h;omega
  have hlen:=hcs.len
  subst fW;dsimp only[rJ,tN,kX,List.map,List.foldr,List.cons_append,List.nil_append,List.length_cons,List.length_nil,Nat.reduceAdd,Nat.reduceSub];refine fM 13 rfl rfl rfl (by decide) (lZ (zs:=[sn,sn,sn]) (L:=[(0,1),(1,1),(2,1)]) (iG (by kernel_rfl)) (by kernel_rfl) rfl (by simp[fJ,gK,Value.cells];rfl)) (by kernel_rfl) (fun _ _ _ h=>h) (fun _ h=>h.tail.tail.tail) ?_;refine cH 15 ?_;refine aFV i (i*3) (el:=116) (sz:=3) (by kernel_rfl) (by kernel_rfl) rfl rfl rfl hi (by omega) (by decide) ?_;refine eZ ?_;refine cH 16 ?_;refine rR 3 rfl rfl rfl (by kernel_rfl) (by simp[Value.cells,Value.oneCell']) (by simp[Value.cells];omega) ?_;dsimp only[List.set];rw[show(Value.agg [.slice (some ⟨g 4,0,none⟩) s.domains.length s.domains.length,.slice (some ⟨g 8,0,none⟩) s.aF.length s.aF.length,.slice (some ⟨g 12,0,none⟩) s.aR.length s.aR.length].toArray).cells.toList=[.slice (some ⟨g 4,0,none⟩) s.domains.length s.domains.length,.slice (some ⟨g 8,0,none⟩) s.aF.length s.aF.length,.slice (some ⟨g 12,0,none⟩) s.aR.length s.aR.length] from rfl];refine eZ ?_;refine kH ?_;refine dS ?_;refine eC ?_;refine zO rfl rfl (iR (by omega)) (by decide) ?_;refine cQ rfl (by decide) ?_;refine dO ?_;refine dP [qs] [0,1,2] [3,4,5] (by simp) rfl (by decide) (by decide) fun qn Ro hle hfr=>?_
  have hfn:=hfr (by simp) (fun p hp=>by simp only[List.mem_cons,List.not_mem_nil,or_false] at hp;subst hp;exact aIy)
  have b1:aI qn 1 (some ⟨g 4,0,none⟩) (s.domains.length) (List.replicate (s.domains.length) (Value.bool false)):=tE (n:=s.domains.length) (sz:=1) (c:=0) (Ro 0 _ (by simp) rfl).choose_spec.1 (Ro 0 _ (by simp) rfl).choose_spec.2 (by simp)
  have b2:aI qn 1 (some ⟨g 8,0,none⟩) (s.aF.length) (List.replicate (s.aF.length) (Value.bool false)):=tE (n:=s.aF.length) (sz:=1) (c:=0) (Ro 1 _ (by simp) rfl).choose_spec.1 (Ro 1 _ (by simp) rfl).choose_spec.2 (by simp)
  have b3:aI qn 1 (some ⟨g 12,0,none⟩) (s.aR.length) (List.replicate (s.aR.length) (Value.bool false)):=tE (n:=s.aR.length) (sz:=1) (c:=0) (Ro 2 _ (by simp) rfl).choose_spec.1 (Ro 2 _ (by simp) rfl).choose_spec.2 (by simp)
  rw[er] at b1 b2 b3
  have hww:Bx qn (dQ s) (.agg #[.slice (some ⟨g 4,0,none⟩) s.domains.length s.domains.length,.slice (some ⟨g 8,0,none⟩) s.aF.length s.aF.length,.slice (some ⟨g 12,0,none⟩) s.aR.length s.aR.length]):=by
   unfold Bx dQ;simp only[List.length_replicate];exact⟨_,_,_,_,_,_,rfl,b1,b2,b3⟩
  refine aBY (R':=[qn,all w]) (by simp) ?_;exact dZ (2 - (i+1)) ⟨i+1,_,qn,by omega,rfl,Pc.next (hle qs (by simp)) hww hi hcs,hfn,rfl,rfl,rfl⟩
 ·
  refine aAb ?_;refine dS ?_;refine cP ?_
  have hie:i=2:=by have h':¬(i:Int) < 2:=h;omega
  subst hie;obtain⟨a,b,c,a',b',c',rfl,hw1,hw2⟩:=hcs;obtain⟨D1,d1,D2,d2,D3,d3,e1,x1,x2,x3⟩:=hw1;obtain⟨F1,f1,F2,f2,F3,f3,e2,y1,y2,y3⟩:=hw2;cases e1;cases e2;refine eC ?_;refine Ui 6 rfl ?_;refine uD rfl rfl ?_;simp only[iH,Value.cells,List.set,List.take,List.drop,List.nil_append,List.append_nil,List.length_cons,List.length_nil,List.cons_append,Nat.reduceAdd];refine aB ?_
  exact Lo rfl (by kernel_rfl) rfl rfl (aQ.whole 1 rfl) fun w1 st=>⟨⟨_,rfl,by
   have hl:=st.mK (by simp) aIy
   exact⟨_,_,_,_,_,_,_,_,_,_,_,_,rfl,x1.le hl,x2.le hl,x3.le hl,y1.le hl,y2.le hl,y3.le hl⟩⟩,st.below (by simp)⟩
end
section
open Go.RowKit Go.Shelf
attribute [local go_sem] Oper.semAt_some
def rA(zs:List Int):List Value:=zs.map (Value.int .u32)
end
section
section
variable{P:Program}{N:cE}{w0:World}{e:Env}{R:List Piece}{H:List HP}{Q:Exit→Act→World→Prop}{ops:Array Oper}{rest:List Oper}
variable{d:Nat}{ty:TypeId}{pos:String}{aH:Array Edge}
end
def fX(l:List (Int×Int))(k:Int):Int:=((l.find? fun p=>decide (p.1=k)).map (·.2)).getD 0
def Cr:List (Int×Int)→Int→Int→List (Int×Int)
 | [],k,v=>[(k,v)]
 | (a,b)::r,k,v=>if a=k then(k,v)::r else(a,b)::Cr r k v
def tB(l:List (Int×Int)):List (Int×Value):=l.map fun p=>(p.1,iv p.2)
theorem aHF:∀(l:List (Int×Int)) (k:Int),(nG (tB l) k).getD (iv 0)=iv (fX l k)
 | [],k=>rfl
 | (a, b) :: l, k => by
  have ih:=aHF l k
  show(nG ((a,iv b)::tB l) k).getD _=_
  rw[Qp];unfold fX;rw[List.find?_cons]
  by_cases h:a=k
  ·simp[h]
  ·simp only[h,if_false,decide_false,Bool.false_eq_true];exact ih
theorem aH9:∀(l:List (Int×Int)) (k v:Int),pE (tB l) k (iv v)=tB (Cr l k v)
 | [],k,v=>rfl
 | (a,b)::l,k,v=>by
  show pE ((a,iv b)::tB l) k _=tB (if a=k then _ else _)
  unfold pE
  by_cases h:a=k
  ·rw[if_pos h,if_pos h];rfl
  ·rw[if_neg h,if_neg h,aH9 l k v];rfl
end
section
def rY(k:Int):Prop:=k=117∨k=99∨k=114
instance(k:Int):Decidable (rY k):=by unfold rY;infer_instance
def tJ(s:aD)(p:Int):Nat:=if p=17 then s.domains.length else if p=20 then s.aF.length else if p=22 then s.aR.length else 0
def gL(k:Int)(v0 v1 v2:Value):Value:=if k=117∨k=100∨k=107 then v0 else if k=99∨k=111 then v1 else if k=114∨k=97 then v2 else sn
def Ak(k:Int)(x:bM):List Bool:=if k=117∨k=100∨k=107 then x.d else if k=99∨k=111 then x.c else if k=114∨k=97 then x.l else[]
def pR(x:bM)(k id:Int):Bool:=decide (0≤id)&&hasB (Ak k x) id.toNat
theorem fQ.thn{w w':World}{g o:Nat}{v:Value}(h:fQ w g o v)(hb:Below w.heap.size w w'):fQ w' g o v:=⟨Nat.lt_of_lt_of_le h.1 hb.size,(hb.cell (p:=⟨g,o,none⟩) h.1).trans h.2⟩
def aAj(w:World)(g o:Nat)(x:bM):Prop:=∃A1 k1 A2 k2 A3 k3,fQ w g o (.slice A1 x.d.length k1)∧fQ w g (o+1) (.slice A2 x.c.length k2)∧fQ w g (o+2) (.slice A3 x.l.length k3)∧
 aI (all w) 1 A1 x.d.length (bE x.d)∧aI (all w) 1 A2 x.c.length (bE x.c)∧aI (all w) 1 A3 x.l.length (bE x.l)
theorem aPz{w:World}{x:bM}{A1 A2 A3:Option Addr}{k1 k2 k3:Nat}(h1:aI (all w) 1 A1 x.d.length (bE x.d))(h2:aI (all w) 1 A2 x.c.length (bE x.c))(h3:aI (all w) 1 A3 x.l.length (bE x.l))(k:Int):
  ∃A c,gL k (.slice A1 x.d.length k1) (.slice A2 x.c.length k2) (.slice A3 x.l.length k3)=.slice A (Ak k x).length c∧aI (all w) 1 A (Ak k x).length (bE (Ak k x)):=by
 unfold gL Ak;split
 ·exact⟨_,_,rfl,h1⟩
 ·split
  ·exact⟨_,_,rfl,h2⟩
  ·split
   ·exact⟨_,_,rfl,h3⟩
   ·exact⟨_,_,rfl,aI.nil _ _⟩
theorem aDq(k:Int)(w:World):
  Cz 167 #[.int .u8 k] w (Rt (.bool (decide (rY k))) w):=by
 refine aM func167 ntmps167 ?_;refine aB ?_
 (first | refine bQ (t:=5) rfl (fun hg=>?_) (fun hg=>?_) | refine sM (t:=5) rfl (fun hg=>?_) (fun hg=>?_))
 ·
  refine aB ?_;exact aT (h:=fun _ _=>by simp_all [rY])
 ·
  refine aB ?_
  (first | refine bQ (t:=9) rfl (fun hg=>?_) (fun hg=>?_) | refine sM (t:=9) rfl (fun hg=>?_) (fun hg=>?_))
  ·
   refine aB ?_;exact aT (h:=fun _ _=>by simp_all [rY])
  ·
   refine aB ?_;exact aT (h:=fun _ _=>by simp_all [rY])
theorem aOH(s:aD)(A1 A2 A3 A4:Option Addr)(k1 k2 k3 k4:Nat)(p:Int)(w:World):
  Cz 220 #[.agg #[.slice A1 s.aF.length k1,.slice A2 s.domains.length k2,.slice A3 s.aR.length k3,.slice A4 s.aC.length k4],iv p] w (Rt (iv (tJ s p)) w):=by
 refine aM func220 ntmps220 ?_;refine aB ?_;refine bA fun g1=>?_;refine aB ?_;refine aG rfl (fun h=>?_) (fun h=>?_)
 ·
  refine aB ?_;exact aT (h:=fun _ _=>by simp_all [tJ])
 ·
  refine aB ?_;refine aG rfl (fun h=>?_) (fun h=>?_)
  ·
   refine aB ?_;exact aT (h:=fun _ _=>by simp_all [tJ])
  ·
   refine aB ?_;refine aG rfl (fun h=>?_) (fun h=>?_)
   ·
    refine aB ?_;exact aT (h:=fun _ _=>by simp_all [tJ])
   ·
    refine aB ?_;exact aT (h:=fun _ _=>by simp_all [tJ])
theorem aD5(g o:Nat)(k:Int)(v0 v1 v2:Value)(w:World)(h0:fQ w g o v0)(h1:fQ w g (o+1) v1)(h2:fQ w g (o+2) v2):
  Cz 172 #[.pointer (some ⟨g,o,none⟩),.int .u8 k] w (Rt (gL k v0 v1 v2) w):=by
 refine aM func172 ntmps172 ?_;refine aB ?_;refine aG rfl (fun h=>?_) (fun h=>?_)
 ·
  refine aB ?_;refine aG rfl (fun h=>?_) (fun h=>?_)
  ·
   refine aB ?_;exact aT (h:=fun _ _=>by simp_all [gL])
  ·
   refine aB ?_;refine aG rfl (fun h=>?_) (fun h=>?_)
   ·
    refine aB ?_;refine aG rfl (fun h=>?_) (fun h=>?_)
    ·
     refine aB ?_;exact aT (h:=fun _ _=>by simp_all [gL])
    ·
     refine aB ?_;refine aG rfl (fun h=>?_) (fun h=>?_)
     ·
      refine aB ?_;refine aG rfl (fun h=>?_) (fun h=>?_)
      ·
       refine aB ?_;exact aT (h:=fun _ _=>by simp_all [gL])
      ·
       refine aB ?_;exact aT (h:=fun _ _=>by simp_all [gL])
     ·
      refine aB ?_;refine aG rfl (fun h=>?_) (fun h=>?_)
      ·
       refine aB ?_;exact aT (h:=fun _ _=>by simp_all [gL])
      ·
       refine aB ?_;exact aT (h:=fun _ _=>by simp_all [gL])
   ·
    refine aB ?_;refine aG rfl (fun h=>?_) (fun h=>?_)
    ·
     refine aB ?_;exact aT (h:=fun _ _=>by simp_all [gL])
    ·
     refine aB ?_;refine aG rfl (fun h=>?_) (fun h=>?_)
     ·
      refine aB ?_;refine aG rfl (fun h=>?_) (fun h=>?_)
      ·
       refine aB ?_;exact aT (h:=fun _ _=>by simp_all [gL])
      ·
       refine aB ?_;exact aT (h:=fun _ _=>by simp_all [gL])
     ·
      refine aB ?_;refine aG rfl (fun h=>?_) (fun h=>?_)
      ·
       refine aB ?_;exact aT (h:=fun _ _=>by simp_all [gL])
      ·
       refine aB ?_;exact aT (h:=fun _ _=>by simp_all [gL])
 ·
  refine aB ?_;refine aG rfl (fun h=>?_) (fun h=>?_)
  ·
   refine aB ?_;refine aG rfl (fun h=>?_) (fun h=>?_)
   ·
    refine aB ?_;exact aT (h:=fun _ _=>by simp_all [gL])
   ·
    refine aB ?_;refine aG rfl (fun h=>?_) (fun h=>?_)
    ·
     refine aB ?_;refine aG rfl (fun h=>?_) (fun h=>?_)
     ·
      refine aB ?_;exact aT (h:=fun _ _=>by simp_all [gL])
     ·
      refine aB ?_;refine aG rfl (fun h=>?_) (fun h=>?_)
      ·
       refine aB ?_;refine aG rfl (fun h=>?_) (fun h=>?_)
       ·
        refine aB ?_;exact aT (h:=fun _ _=>by simp_all [gL])
       ·
        refine aB ?_;exact aT (h:=fun _ _=>by simp_all [gL])
      ·
       refine aB ?_;refine aG rfl (fun h=>?_) (fun h=>?_)
       ·
        refine aB ?_;exact aT (h:=fun _ _=>by simp_all [gL])
       ·
        refine aB ?_;exact aT (h:=fun _ _=>by simp_all [gL])
    ·
     refine aB ?_;refine aG rfl (fun h=>?_) (fun h=>?_)
     ·
      refine aB ?_;exact aT (h:=fun _ _=>by simp_all [gL])
     ·
      refine aB ?_;refine aG rfl (fun h=>?_) (fun h=>?_)
      ·
       refine aB ?_;refine aG rfl (fun h=>?_) (fun h=>?_)
       ·
        refine aB ?_;exact aT (h:=fun _ _=>by simp_all [gL])
       ·
        refine aB ?_;exact aT (h:=fun _ _=>by simp_all [gL])
      ·
       refine aB ?_;refine aG rfl (fun h=>?_) (fun h=>?_)
       ·
        refine aB ?_;exact aT (h:=fun _ _=>by simp_all [gL])
       ·
        refine aB ?_;exact aT (h:=fun _ _=>by simp_all [gL])
  ·
   refine aB ?_;refine aG rfl (fun h=>?_) (fun h=>?_)
   ·
    refine aB ?_;exact aT (h:=fun _ _=>by simp_all [gL])
   ·
    refine aB ?_;refine aG rfl (fun h=>?_) (fun h=>?_)
    ·
     refine aB ?_;refine aG rfl (fun h=>?_) (fun h=>?_)
     ·
      refine aB ?_;exact aT (h:=fun _ _=>by simp_all [gL])
     ·
      refine aB ?_;refine aG rfl (fun h=>?_) (fun h=>?_)
      ·
       refine aB ?_;refine aG rfl (fun h=>?_) (fun h=>?_)
       ·
        refine aB ?_;exact aT (h:=fun _ _=>by simp_all [gL])
       ·
        refine aB ?_;exact aT (h:=fun _ _=>by simp_all [gL])
      ·
       refine aB ?_;refine aG rfl (fun h=>?_) (fun h=>?_)
       ·
        refine aB ?_;exact aT (h:=fun _ _=>by simp_all [gL])
       ·
        refine aB ?_;exact aT (h:=fun _ _=>by simp_all [gL])
    ·
     refine aB ?_;refine aG rfl (fun h=>?_) (fun h=>?_)
     ·
      refine aB ?_;exact aT (h:=fun _ _=>by simp_all [gL])
     ·
      refine aB ?_;refine aG rfl (fun h=>?_) (fun h=>?_)
      ·
       refine aB ?_;refine aG rfl (fun h=>?_) (fun h=>?_)
       ·
        refine aB ?_;exact aT (h:=fun _ _=>by simp_all [gL])
       ·
        refine aB ?_;exact aT (h:=fun _ _=>by simp_all [gL])
      ·
       refine aB ?_;refine aG rfl (fun h=>?_) (fun h=>?_)
       ·
        refine aB ?_;exact aT (h:=fun _ _=>by simp_all [gL])
       ·
        refine aB ?_;exact aT (h:=fun _ _=>by simp_all [gL])
theorem aCD(g ag:Nat)(x:bM)(k id:Int)(w:World)(hag:ag < 2)(hM:aAj w g (ag*3) x):
  Cz 166 #[pt g,iv (ag:Int),.int .u8 k,iv id] w (Rt (.bool (pR x k id)) w):=by
 obtain⟨A1,k1,A2,k2,A3,k3,h1,h2,h3,s1,s2,s3⟩:=hM;obtain⟨A,c,hL,hS⟩:=aPz (k1:=k1) (k2:=k2) (k3:=k3) s1 s2 s3 k;refine aM func166 ntmps166 ?_;refine aA ?_;refine aFV (ag) (ag*3) (n:=2) (el:=116) (sz:=3) (by kernel_rfl) (by kernel_rfl) rfl rfl (by omega) (by omega) (by omega) (by decide) ?_;refine aB ?_;refine dG (fun w1 st=>aD5 g (ag*3) k _ _ _ w1 (h1.thn (st.below (by simp))) (h2.thn (st.below (by simp))) (h3.thn (st.below (by simp)))) ?_;rw[hL];refine aB ?_
 (first | refine bQ (t:=19) rfl (fun hg=>?_) (fun hg=>?_) | refine sM (t:=19) rfl (fun hg=>?_) (fun hg=>?_))
 ·
  refine aB ?_
  (first | refine bQ (t:=25) rfl (fun hg=>?_) (fun hg=>?_) | refine sM (t:=25) rfl (fun hg=>?_) (fun hg=>?_))
  ·
   obtain⟨i,rfl⟩:∃i:Nat,id=(i:Int):=⟨id.toNat,by omega⟩
   have hil:i < (Ak k x).length:=by omega
   obtain⟨b,off,rfl,hz,hc⟩:=hS.2 (by omega);obtain⟨v,hv⟩:∃v,(Ak k x)[i]? =some v:=⟨_,List.getElem?_eq_getElem hil⟩
   refine fG rfl rfl ?_;refine cQ rfl (by decide) ?_;refine fG rfl rfl ?_;refine cQ rfl (by decide) ?_;refine fG rfl rfl ?_;refine kd (dat (i) (off+i)) ?_;refine fG rfl rfl ?_;refine jE (by kernel_rfl) rfl (Rd.ro (p:=all w) (by simp) hz (hc i _ (aJN hv))) (by decide) ?_
   (first | refine qE rfl rfl (by decide) ?_ | refine qF rfl rfl (by decide) ?_)
   refine fP rfl (by decide) ?_;refine dO ?_;refine Lp ?_;refine dS ?_;exact aT (h:=fun _ _=>by simp[pR,hasB,hv])
  ·
   refine aB ?_
   have hn:hasB (Ak k x) id.toNat=false:=by rw[hasB,List.getElem?_eq_none (by omega)];rfl
   exact aT (h:=fun _ _=>by simp[pR,hn])
 ·
  refine aB ?_
  have hn:decide (0≤id)=false:=by simp;omega
  exact aT (h:=fun _ _=>by simp[pR,hn])
end
section
def StM(w:World)(g:Nat)(x y:bM):Prop:=∀i,i < 2→aAj w g (i*3) (if i=0 then x else y)
def sN(x y:bM)(k id:Int):Bool:=pR x k id||pR y k id
theorem aAj.thn{w w':World}{g o:Nat}{x:bM}(h:aAj w g o x)(hb:Below w.heap.size w w'):aAj w' g o x:=by
 obtain⟨A1,k1,A2,k2,A3,k3,h1,h2,h3,s1,s2,s3⟩:=h
 have hl:(all w).Le (all w'):=fun b hb'=>⟨Nat.lt_of_lt_of_le hb' hb.size,hb.block b hb'⟩
 exact⟨A1,k1,A2,k2,A3,k3,h1.thn hb,h2.thn hb,h3.thn hb,s1.le hl,s2.le hl,s3.le hl⟩
theorem aCF(g:Nat)(x y:bM)(k id:Int)(w:World)(hM:StM w g x y):
  Cz 168 #[pt g,.int .u8 k,iv id] w (Rt (.bool (sN x y k id)) w):=by
 refine aM func168 ntmps168 ?_;refine aB ?_;refine bL [(8,iv 0),(2,iv id),(1,.int .u8 k),(0,pt g)] ?_;refine aB ?_;refine eJ (fun m e R H=>∃(i:Nat),i≤2∧m=2 - i∧(∀j,j < i→pR (if j=0 then x else y) k id=false)∧e=[(8,iv i),(2,iv id),(1,.int .u8 k),(0,pt g)]∧R=[all w]∧H=[]) 2 ⟨0,by omega,rfl,(fun j hj=>absurd hj (Nat.not_lt_zero j)),rfl,rfl,rfl⟩ fun m e R H hI=>?_;obtain⟨i,hi,rfl,hno,rfl,rfl,rfl⟩:=hI;refine aB ?_;refine aG rfl (fun h=>?_) (fun h=>?_)
 ·
  refine aB ?_
  have hi2:i < 2:=by have h':(i:Int) < 2:=h;omega
  refine dG (fun w1 st=>aCD g i (if i=0 then x else y) k id w1 hi2 ((hM i hi2).thn (st.below (by simp)))) ?_;refine aB ?_;refine qD rfl (fun hw=>?_) (fun hw=>?_)
  ·
   refine aB ?_
   have hr:sN x y k id=true:=by
    unfold sN;rcases(by omega:i=0∨i=1) with rfl | rfl
    ·simp at hw;simp[hw]
    ·simp at hw;simp[hw]
   exact aT (h:=fun _ _=>by rw[hr])
  ·
   refine aB ?_
   exact dZ (2 - (i+1)) ⟨i+1,by omega,rfl,(fun j hj=>by
    rcases Nat.lt_or_ge j i with h1 | h1
    ·exact hno j h1
    ·obtain rfl:j=i:=by omega
     exact hw),rfl,rfl,rfl⟩
 ·
  refine aB ?_
  have hi2:i=2:=by have h':¬(i:Int) < 2:=h;omega
  subst hi2
  have e0:=hno 0 (by omega)
  have e1:=hno 1 (by omega)
  have hr:sN x y k id=false:=by
   unfold sN;simp at e0 e1;simp[e0,e1]
  exact aT (h:=fun _ _=>by rw[hr])
theorem aMb(k:Int)(A:Option Addr)(n c:Nat)(r m d l:Int)(w:World):
  Cz 221 #[.agg #[.int .u8 k,.slice A n c,.int .u64 r,iv m,iv d,iv l]] w (Rt (.bool (decide (k=112∨k=103))) w):=by
 refine aM func221 ntmps221 ?_;refine aB ?_;refine bA fun g1=>?_;refine aB ?_
 (first | refine bQ (t:=6) rfl (fun hg=>?_) (fun hg=>?_) | refine sM (t:=6) rfl (fun hg=>?_) (fun hg=>?_))
 ·
  refine aB ?_;exact aT (h:=fun _ _=>by simp_all)
 ·
  refine aB ?_;exact aT (h:=fun _ _=>by simp_all)
end
section
def kP(p:Int×Int):Value:=.agg #[.int .i64 p.1,.int .i64 p.2]
def Ly(w:World)(r:Nat)(l:List ((Int×Int)×Value)):Prop:=∃es clock,w.heap[r]? =some (.map es clock)∧es.toList.map (fun x=>(x.key,x.val))=l.map fun p=>(kP p.1,p.2)
def lT(l:List ((Int×Int)×Value))(k:Int×Int):Option Value:=(l.find? fun p=>decide (p.1=k)).map (·.2)
theorem Mq(a:Int×Int)(b:Value)(l:List ((Int×Int)×Value))(k:Int×Int):lT ((a,b)::l) k=if a=k then some b else lT l k:=by
 unfold lT;rw[List.find?_cons]
 by_cases h:a=k<;>simp[h]
section
variable{P:Program}{w:World}{kt:TypeId}
theorem aRB(hfl:∀a b c d:Int,Sh P kt [.int .i64 a,.int .i64 b] [.int .i64 c,.int .i64 d]=true)(p q:Int×Int):(Op.equal kt (kP p) (kP q)).run P w=.ok (decide (q=p)) w:=by
 obtain⟨h,_⟩:=aME (P:=P) (w:=w) (hfl p.1 p.2 q.1 q.2);rw[show kP p=.agg [Value.int .i64 p.1,.int .i64 p.2].toArray from rfl,show kP q=.agg [Value.int .i64 q.1,.int .i64 q.2].toArray from rfl,h]
 congr 1
 obtain⟨a,b⟩:=p;obtain⟨c,d⟩:=q;simp only[Sm,eqV,Prod.mk.injEq]
 by_cases h1:a=c
 ·subst h1
  by_cases h2:b=d
  ·subst h2;simp
  ·have h3:¬d=b:=fun e=>h2 e.symm
   simp[h2,h3]
 ·have h3:¬c=a:=fun e=>h1 e.symm
  simp[h1,h3]
theorem aJR(hfl:∀a b c d:Int,Sh P kt [.int .i64 a,.int .i64 b] [.int .i64 c,.int .i64 d]=true)(k:Int×Int):∀(es:List MapEntry) (l:List ((Int×Int)×Value)) (i:Nat),es.map (fun x=>(x.key,x.val))=l.map (fun p=>(kP p.1,p.2))→
  ∃q,(Instr.findAsking kt (kP k) es i).run P w=.ok q w∧q.map (·.2)=lT l k
 | [],l,i,h=>by
  cases l with
  | nil=>exact⟨none,by simp[Instr.findAsking],rfl⟩
  | cons _ _=>cases h
 | e :: es, l, i, h => by
  cases l with
  | nil=>cases h
  | cons p l =>
   simp only[List.map_cons,List.cons.injEq,Prod.mk.injEq] at h;obtain⟨⟨h1,h2⟩,h3⟩:=h;obtain⟨q,Db,uT⟩:=aJR hfl k es l (i+1) h3;obtain⟨a,b⟩:=p
   have he:=aRB (w:=w) hfl k a
   rw[←h1] at he
   by_cases hk:a=k
   ·refine⟨some (i,e.val),?_,?_⟩
    ·unfold Instr.findAsking;simp[Sem.run_bind,he,hk]
    ·rw[Mq,if_pos hk];simp[h2]
   ·refine⟨q,?_,?_⟩
    ·unfold Instr.findAsking;simp[Sem.run_bind,he,hk,Db]
    ·rw[Mq,if_neg hk];exact uT
theorem aJB{f0 f1:Field}{k0 k1:IntKind}(hk:P.underlying kt=some (.struct #[f0,f1]))(h0:P.underlying f0.type=some (.int k0))(h1:P.underlying f1.type=some (.int k1))(o0:f0.offset=0)(o1:f1.offset=1)(p:Int×Int)(b:Bool):(Instr.checkKey b 10000 kt (kP p)).run P w=.ok () w:=by
 have e0:=aAC (P:=P) (w:=w) (cs:=#[.int .i64 p.1,.int .i64 p.2]) (i:=0) (v:=.int .i64 p.1) h0 (.inl ⟨_,rfl⟩) rfl
 have e1:=aAC (P:=P) (w:=w) (cs:=#[.int .i64 p.1,.int .i64 p.2]) (i:=1) (v:=.int .i64 p.2) h1 (.inl ⟨_,rfl⟩) rfl
 have c0:(Instr.checkKey b 9999 f0.type (.int .i64 p.1)).run P w=.ok () w:=by
  unfold Instr.checkKey;simp[Sem.run_bind,run_underlying h0]
 have c1:(Instr.checkKey b 9999 f1.type (.int .i64 p.2)).run P w=.ok () w:=by
  unfold Instr.checkKey;simp[Sem.run_bind,run_underlying h1]
 unfold Instr.checkKey kP
 by_cases n0:f0.name= "_" <;>by_cases n1:f1.name= "_" <;>simp[Sem.run_bind,run_underlying hk,n0,n1,o0,o1,e0,e1,c0,c1]
end
structure Ec(P:Program)(kt:TypeId):Prop where
 st:∃f0 f1 k0 k1,P.underlying kt=some (.struct #[f0,f1])∧P.underlying f0.type=some (.int k0)∧P.underlying f1.type=some (.int k1)∧f0.offset=0∧f1.offset=1
 fl:∀a b c d:Int,Sh P kt [.int .i64 a,.int .i64 b] [.int .i64 c,.int .i64 d]=true
theorem Ec.of{P:Program}{kt:TypeId}{f0 f1:Field}{k0 k1:IntKind}(h:P.underlying kt=some (.struct #[f0,f1]))(h0:P.underlying f0.type=some (.int k0))(h1:P.underlying f1.type=some (.int k1))(o0:f0.offset=0)(o1:f1.offset=1)(fl:∀a b c d:Int,Sh P kt [.int .i64 a,.int .i64 b] [.int .i64 c,.int .i64 d]=true):Ec P kt:=⟨⟨f0,f1,k0,k1,h,h0,h1,o0,o1⟩,fl⟩
section
variable{P:Program}{w:World}{t kt et:TypeId}{r:Nat}{l:List ((Int×Int)×Value)}
theorem aIT(hk:Ec P kt)(k:Int×Int)(es:List MapEntry)(h:es.map (fun x=>(x.key,x.val))=l.map (fun p=>(kP p.1,p.2))):∃q,(Instr.findKey kt (kP k) es).run P w=.ok q w∧q.map (·.2)=lT l k:=by
 obtain⟨f0,f1,k0,k1,hu,_⟩:=hk.st;obtain⟨q,h1,h2⟩:=aJR (w:=w) hk.fl k es l 0 h;cases es with
 | nil=>
  cases l with
  | cons _ _=>cases h
  | nil=>exact⟨none,by simp[Instr.findKey,Sem.run_bind,run_underlying hu,Instr.findNow],rfl⟩
 | cons e es =>
  refine⟨q,?_,h2⟩;unfold Instr.findKey
  have:Instr.findNow (.struct #[f0,f1]) (kP k) (e::es) 0=none:=by
   unfold Instr.findNow Instr.sameNow;rfl
  simp[Sem.run_bind,run_underlying hu,this,h1]
theorem aM7{z:Value}(ht:P.underlying t=some (.map kt et))(hk:Ec P kt)(hz:∀w,(zeroValue et).run P w=.ok z w)(h:Ly w r l)(k:Int×Int)(ok:Bool):
  (Instr.lookup t (.map (some r)) (kP k) ok).run P w=.ok (if ok then .tuple #[(lT l k).getD z,.bool (lT l k).isSome] else(lT l k).getD z) w:=by
 obtain⟨es,c,h1,h2⟩:=h;obtain⟨q,hf,uT⟩:=aIT (w:=w) hk k es.toList h2;obtain⟨f0,f1,k0,k1,hu,u0,u1,o0,o1⟩:=hk.st
 have hc:=fun b=>aJB (w:=w) hu u0 u1 o0 o1 k b
 unfold Instr.lookup;rw[←uT];cases q with
 | none=>cases ok<;>simp[Sem.run_bind,run_underlying ht,run_getObj_map h1,hc,hf,hz]
 | some x=>obtain⟨j,v⟩:=x;cases ok<;>simp[Sem.run_bind,run_underlying ht,run_getObj_map h1,hc,hf]
theorem aM9(ht:P.underlying t=some (.map kt et))(hk:Ec P kt)(h:Ly w r l)(k:Int×Int)(v:Value)(hno:lT l k=none):
  ∃es c,(Instr.mapUpdate t (.map (some r)) (kP k) v).run P w=.ok () {w with heap:=w.heap.setIfInBounds r (.map es c)}∧es.toList.map (fun x=>(x.key,x.val))=(l++[(k,v)]).map fun p=>(kP p.1,p.2):=by
 obtain⟨es,c,h1,h2⟩:=h;obtain⟨q,hf,uT⟩:=aIT (w:=w) hk k es.toList h2;obtain⟨f0,f1,k0,k1,hu,u0,u1,o0,o1⟩:=hk.st
 have hc:=fun b=>aJB (w:=w) hu u0 u1 o0 o1 k b
 have iX:∀o,(setObj r o).run P w=.ok () {w with heap:=w.heap.setIfInBounds r o}:=fun o=>by simp[setObj,Sem.run,h1]
 rw[hno] at uT;obtain rfl:q=none:=by cases q with | none=>rfl | some x=>cases uT
 refine⟨es.push {key:=kP k,val:=v,born:=c},c+1,?_,?_⟩
 ·unfold Instr.mapUpdate;simp[Sem.run_bind,run_underlying ht,run_getObj_map h1,hc,hf,iX]
 ·rw[Array.toList_push,List.map_append,h2];simp
end
def HP.vQ(r:Nat)(l:List ((Int×Int)×Value)):HP:=⟨fun F w=>F r∧Ly w r l,fun F w w' h hk=>⟨h.1,by
 obtain⟨es,c,h1,h2⟩:=h.2
 exact⟨es,c,(hk r h.1).trans h1,h2⟩⟩⟩
theorem Ly.lt{w:World}{r:Nat}{l:List ((Int×Int)×Value)}(h:Ly w r l):r < w.heap.size:=by
 obtain⟨es,c,h1,_⟩:=h;rcases Nat.lt_or_ge r w.heap.size with h | h
 ·exact h
 ·rw[Array.getElem?_eq_none h] at h1;cases h1
section
variable{P:Program}{N:cE}{w0 w:World}{e:Env}{R:List Piece}{H:List HP}{Q:Exit→Act→World→Prop}{ops:Array Oper}{rest:List Oper}
variable{d:Nat}{ty:TypeId}{pos:String}{aH:Array Edge}
theorem St.vQ(st:St w0 R H w){i r:Nat}{l:List ((Int×Int)×Value)}(hi:H[i]? =some (HP.vQ r l)):Ly w r l:=(st.sat hi).choose_spec.2
theorem aLj{t:TypeId}(hd:d < N.n)(k:∀g,XK N w0 (wpList P ops Q rest) ((d,.map (some g))::e) R (HP.vQ g []::H)):XK N w0 (wpList P ops Q (⟨some d,.makeMap t none,ty,pos,aH,none⟩::rest)) e R H:=
 vH rfl fun a w hr st=>⟨.map (some w.heap.size),w.alloc (.map #[] 0),by simp[execOp,Instr.makeMap],k w.heap.size _ _ (hr.put hd _) (st.new (Oi w _) ⟨⟨Nat.le_refl _,by simp⟩,#[],0,heap_alloc_new w _,rfl⟩)⟩
theorem aLn{x y:Operand}{t kt et:TypeId}{z:Value}{r:Nat}{l:List ((Int×Int)×Value)}{k:Int×Int}(ok:Bool)(ht:P.underlying t=some (.map kt et))(hk:Ec P kt)(hz:(P.info? et).bind (·.zero)=some z)
  (hx:e.ev x=some (.map (some r))) (hy:e.ev y=some (kP k)) (hm:∀w,St w0 R H w→Ly w r l) (hd:d < N.n)
  (kk:XK N w0 (wpList P ops Q rest) ((d,if ok then .tuple #[(lT l k).getD z,.bool (lT l k).isSome] else(lT l k).getD z)::e) R H):XK N w0 (wpList P ops Q (⟨some d,.lookup t x y ok,ty,pos,aH,none⟩::rest)) e R H:=
 vH rfl fun a w hr st=>⟨_,w,by simp only[execOp,hr.ev hx,hr.ev hy,Sem.run_bind,aM7 ht hk (zeroV hz) (hm w st),Result.andThen_ok,Sem.run_pure],kk _ _ (hr.put hd _) st⟩
theorem aC5{x y:Operand}{t kt et:TypeId}{z v:Value}{r:Nat}{l:List ((Int×Int)×Value)}{k:Int×Int}{b:Bool}(ht:P.underlying t=some (.map kt et))(hk:Ec P kt)(hz:(P.info? et).bind (·.zero)=some z)
  (hx:e.ev x=some (.map (some r))) (hy:e.ev y=some (kP k)) (hm:∀w,St w0 R H w→Ly w r l) (hv:(lT l k).getD z=v) (hb:(lT l k).isSome=b) (hd:d < N.n)
  (kk:XK N w0 (wpList P ops Q rest) ((d,.tuple #[v,.bool b])::e) R H):XK N w0 (wpList P ops Q (⟨some d,.lookup t x y true,ty,pos,aH,none⟩::rest)) e R H:=
 aLn true ht hk hz hx hy hm hd (by subst hv;subst hb;exact kk)
theorem aLo(i:Nat){x y u:Operand}{t kt et:TypeId}{r:Nat}{l:List ((Int×Int)×Value)}{k:Int×Int}{v:Value}(ht:P.underlying t=some (.map kt et))(hk:Ec P kt)(hi:H[i]? =some (HP.vQ r l))(hno:lT l k=none)
  (hx:e.ev x=some (.map (some r))) (hy:e.ev y=some (kP k)) (hu:e.ev u=some v) (kk:XK N w0 (wpList P ops Q rest) e R (H.set i (HP.vQ r (l++[(k,v)])))):XK N w0 (wpList P ops Q (⟨none,.insert t x y u,ty,pos,aH,none⟩::rest)) e R H:=
 aC4 rfl rfl fun a w hr st=>by
  have hm:=st.vQ hi
  have hlt:=hm.lt
  obtain⟨es,c,hrun,hl⟩:=aM9 (P:=P) ht hk hm k v hno;refine⟨{w with heap:=w.heap.setIfInBounds r (.map es c)},by simp only[execOp,hr.ev hx,hr.ev hy,hr.ev hu,Sem.run_bind,hrun,Result.andThen_ok,Sem.run_pure],kk _ _ hr ?_⟩;refine st.xX hi (by simp) rfl rfl rfl fun F hF hb=>⟨F,⟨hF.1,es,c,by simp[Array.getElem?_setIfInBounds,hlt],hl⟩,fun b h=>⟨.inl h,by simpa using hb b h⟩,fun b hb hnb=>?_⟩
  rw[Array.getElem?_setIfInBounds];split
  ·rename_i he;exact absurd (he▸hF.1) hnb
  ·rfl
end
end
section
theorem aHG:∀(sub:List Nat) (l:Array Bool),(kX sub l).size=l.size
 | [],l=>rfl
 | i::sub,l=>by
  show((kX sub l).setIfInBounds i true).size=_
  rw[Array.size_setIfInBounds,aHG sub l]
theorem aD2:∀(sub:List Nat) (l:Array Bool) (i:Nat) (b:Bool),i∈sub→i < l.size→(kX sub l).getD i b=true
 | j :: sub, l, i, b, h, hi => by
  show((kX sub l).setIfInBounds j true).getD i b=true
  by_cases e:j=i
  ·subst e
   have:j < (kX sub l).size:=by rw[aHG];exact hi
   simp[this]
  ·rw[getD_set_ne b e];rcases List.mem_cons.1 h with h | h
   ·exact absurd h.symm e
   ·exact aD2 sub l i b h hi
theorem Wd:∀(sub:List Nat) (l:Array Bool) (i:Nat) (b:Bool),i∉sub→(kX sub l).getD i b=l.getD i b
 | [],l,i,b,_=>rfl
 | j::sub,l,i,b,h=>by
  show((kX sub l).setIfInBounds j true).getD i b=_
  have e:j≠i:=fun e=>h (by simp[e])
  rw[getD_set_ne b e];exact Wd sub l i b fun h2=>h (by simp[h2])
theorem aPo{sub:List Nat}{l:Array Bool}{i:Nat}(h:l.getD i false=true):(kX sub l).getD i false=true:=by
 by_cases hi:i∈sub
 ·refine aD2 sub l i false hi ?_;rcases Nat.lt_or_ge i l.size with h1 | h1
  ·exact h1
  ·simp[Array.getElem?_eq_none h1] at h
 ·rw[Wd sub l i false hi];exact h
def aDD(ops:Array Oper)(I:List Nat)(listed:Array Bool):Bool:=
 I.all (fun i=>decide (i < listed.size)&& !(listed.getD i true)&&match ops[i]? with
  | some o=>o.after.toList.all fun x=> !(Region.binds .any x)||listed.getD x.on false
  | none=>false)&&
 (List.range ops.size).all fun j=>I.contains j||listed.getD j true||match ops[j]? with
  | some o=>I.all fun i=>o.after.toList.any fun x=>Region.binds .any x&&x.on==i
  | none=>true
theorem aNJ{ops:Array Oper}{I sub:List Nat}{listed:Array Bool}(hB:aDD ops I listed=true)(hsub:∀i∈sub,i∈I){i0:Nat}(pK:i0∈I)(hn0:i0∉sub):
  Region.ready .any ops (kX sub listed)≠[]∧∀j∈Region.ready .any ops (kX sub listed),j∈I∧j∉sub:=by
 unfold aDD at hB;rw[Bool.and_eq_true,List.all_eq_true,List.all_eq_true] at hB;obtain⟨hA,hC⟩:=hB
 have h0:=hA i0 pK
 simp only[Bool.and_eq_true,decide_eq_true_eq,Bool.not_eq_true'] at h0;obtain⟨⟨h1,h2⟩,h3⟩:=h0;constructor
 ·cases ho:ops[i0]? with
  | none=>rw[ho] at h3;cases h3
  | some o =>
   rw[ho] at h3;simp only[List.all_eq_true] at h3
   have:i0∈Region.ready .any ops (kX sub listed):=mem_ready.2 ⟨by rw[Wd _ _ _ _ hn0];exact h2,o,ho,fun x hx hb=>by
    have:=h3 x (by simpa using hx)
    rw[hb] at this
    exact aPo (by simpa using this)⟩
   intro he;rw[he] at this;cases this
 ·intro j hj;obtain⟨g1,o,ho,g2⟩:=mem_ready.1 hj
  have hjn:j∉sub:=fun h=>by
   have sC:=hA j (hsub j h)
   simp only[Bool.and_eq_true,decide_eq_true_eq] at sC;rw[aD2 sub listed j true h sC.1.1] at g1;cases g1
  refine⟨?_,hjn⟩;rw[Wd _ _ _ _ hjn] at g1
  have hlt:j < ops.size:=(Array.getElem?_eq_some_iff.1 ho).1
  have hc:=hC j (List.mem_range.2 hlt)
  rw[g1,ho] at hc;simp only[Bool.or_false,Bool.or_eq_true] at hc;rcases hc with hc | hc
  ·simpa using hc
  ·exfalso;rw[List.all_eq_true] at hc
   have:=hc i0 pK
   rw[List.any_eq_true] at this;obtain⟨x,hx,hb⟩:=this;simp only[Bool.and_eq_true,beq_iff_eq] at hb
   have:=g2 x (by simpa using hx) hb.1
   rw[hb.2,Wd _ _ _ _ hn0] at this
   have h4:listed.getD i0 true=listed.getD i0 false:=by simp[h1]
   rw[h4,this] at h2;cases h2
theorem aHq{I sub:List Nat}(hI:I.Nodup)(hn:sub.Nodup)(hin:∀i∈sub,i∈I):(I.filter fun i=>sub.contains i).Perm sub:=by
 rw[List.perm_iff_count];intro a;rw[(hI.sublist List.filter_sublist).count,hn.count]
 by_cases ha:a∈sub
 ·rw[if_pos ha,if_pos (by simp[ha,hin a ha])]
 ·rw[if_neg ha,if_neg (by simp[ha])]
theorem aPb{l1 l2:List ((Int×Int)×Value)}(h:l1.Perm l2)(hn:(l1.map (·.1)).Nodup)(k:Int×Int):lT l1 k=lT l2 k:=by
 induction h with
 | nil=>rfl
 | cons x _ ih=>
  obtain⟨a,b⟩:=x;rw[Mq,Mq,ih (List.nodup_cons.1 hn).2]
 | swap x y s =>
  obtain⟨a,b⟩:=x;obtain⟨c,d⟩:=y
  have hne:c≠a:=fun e=>(List.nodup_cons.1 hn).1 (by rw[e];simp)
  simp only[Mq]
  by_cases h1:a=k
  ·have:c≠k:=fun e=>hne (e.trans h1.symm)
   simp[h1,this]
  ·simp[h1]
 | trans h1 h2 i1 i2=>exact(i1 hn).trans (i2 ((h1.map _).nodup_iff.1 hn))
theorem aPc{l:List ((Int×Int)×Value)}{k:Int×Int}(h:k∉l.map (·.1)):lT l k=none:=by
 induction l with
 | nil=>rfl
 | cons x l ih=>
  obtain⟨a,b⟩:=x;rw[List.map_cons,List.mem_cons,not_or] at h;rw[Mq,if_neg (fun e=>h.1 e.symm)];exact ih h.2
section
variable{P:Program}{N:cE}{w0 w:World}{e:Env}{R R0:List Piece}{H H0:List HP}{Q:Exit→Act→World→Prop}{ops:Array Oper}{m fuel:Nat}{listed:Array Bool}
def Lays(P:Program)(ops:Array Oper)(e:Env)(r:Nat)(i:Nat)(p:(Int×Int)×Value):Prop:=∃x y u ty pos aH t kt et,ops[i]? =some ⟨none,.insert t x y u,ty,pos,aH,none⟩∧P.underlying t=some (.map kt et)∧Ec P kt∧e.ev x=some (.map (some r))∧e.ev y=some (kP p.1)∧e.ev u=some p.2
theorem aU9(I:List Nat)(Oa:Nat→(Int×Int)×Value)(r:Nat)(hI:I.Nodup)(hop:∀i∈I,Lays P ops e r i (Oa i))(hkeys:(I.map fun i=>(Oa i).1).Nodup)(hB:aDD ops I listed=true)
  (hS:∀l w,St w0 R (HP.vQ r l::H) w→St w0 R0 H0 w)
  (k:∀sub:List Nat,sub.Perm I→XA P N w0 ops Q R0 H0 m fuel (kX sub listed) e R (HP.vQ r (sub.reverse.map Oa)::H)):XA P N w0 ops Q R0 H0 m (fuel+I.length) listed e R (HP.vQ r []::H):=by
 have key : ∀ (n : Nat) (sub : List Nat), sub.Nodup → (∀ i ∈ sub, i ∈ I) → sub.length + n = I.length → XA P N w0 ops Q R0 H0 m (fuel + n) (kX sub listed) e R (HP.vQ r (sub.reverse.map Oa) :: H) := by
  intro n
  induction n with
  | zero=>
   intro sub hn hin hl
   have hp:=aHq hI hn hin
   have hf:(I.filter fun i=>sub.contains i)=I:=List.filter_sublist.eq_of_length (by have:=hp.length_eq;omega)
   rw[hf] at hp;exact k sub hp.symm
  | succ n ih =>
   intro sub hn hin hl
   obtain⟨i0,pK,hn0⟩:∃i,i∈I∧i∉sub:=Classical.byContradiction fun hno=>by
    have hp:=aHq hI hn hin
    have hf:(I.filter fun i=>sub.contains i)=I:=List.filter_eq_self.2 fun i hi=>by
     rcases Classical.em (i∈sub) with h | h
     ·simpa using h
     ·exact absurd ⟨i,hi,h⟩ hno
    rw[hf] at hp
    have:=hp.length_eq
    omega
   obtain⟨r1,r2⟩:=aNJ hB hin pK hn0;intro up a w cX st;refine⟨fun h=>absurd h r1,fun i hi=>?_⟩;obtain⟨hiI,Xc⟩:=r2 i hi;obtain⟨x,y,u,ty,pos,aH,t,kt,et,ho,ht,hk,hx,hy,hu⟩:=hop i hiI
   have hno:lT (sub.reverse.map Oa) (Oa i).1=none:=aPc fun hm=>by
    simp only[List.map_map,List.mem_map,List.mem_reverse,Function.comp] at hm;obtain⟨j,hj,he⟩:=hm
    have hji:j≠i:=fun e=>Xc (e▸hj)
    exact hji (Classical.byContradiction fun hne=>by
     have h1:=List.pairwise_map.1 hkeys
     exact absurd he (by
      obtain⟨a,ha⟩:=List.getElem?_of_mem (hin j hj);obtain⟨b,hb⟩:=List.getElem?_of_mem hiI
      have hal:=(List.getElem?_eq_some_iff.1 ha).1
      have hbl:=(List.getElem?_eq_some_iff.1 hb).1
      have hav:=(List.getElem?_eq_some_iff.1 ha).2
      have Xt:=(List.getElem?_eq_some_iff.1 hb).2
      have h2:=List.pairwise_iff_getElem.1 h1
      rcases Nat.lt_trichotomy a b with h | h | h
      ·have:=h2 a b hal hbl h;rw[hav,Xt] at this;exact this
      ·subst h;exact absurd (hav.symm.trans Xt) hji
      ·have:=h2 b a hbl hal h;rw[hav,Xt] at this;exact fun e=>this e.symm))
   refine Eo ho (fun a w h=>⟨h.1,h.2 (up.mH hi)⟩) (K:=tV P w0 ops Q R0 H0 m (fuel+n) (kX sub listed) i) ?_
   have:=aLo (P:=P) (N:=N) (w0:=w0) (R:=R) (H:=HP.vQ r (sub.reverse.map Oa)::H) (Q:=Exit.then (tV P w0 ops Q R0 H0 m (fuel+n) (kX sub listed) i) Q) (ops:=ops) (rest:=[]) (ty:=ty) (pos:=pos) (aH:=aH) 0 ht hk rfl hno hx hy hu
    (iE (gT (lB (hS _) (by
     have:=ih (i::sub) (List.nodup_cons.2 ⟨Xc,hn⟩) (fun j hj=>by
      rcases List.mem_cons.1 hj with rfl | hj
      ·exact hiI
      ·exact hin j hj) (by simp only[List.length_cons];omega)
     rw[List.reverse_cons,List.map_append] at this
     exact this))))
   exact this a w cX st
 exact key I.length [] List.nodup_nil (fun _ h=>by cases h) (by simp)
end
end
end Go.Proofs.YtdcdccmpcmjmhaaGreatDoor
