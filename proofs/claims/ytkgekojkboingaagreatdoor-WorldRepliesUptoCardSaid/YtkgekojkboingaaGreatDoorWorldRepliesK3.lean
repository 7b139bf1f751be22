/- conf: what is right of a clock, a domain, a reset line, a device, and of how many there are. -/
import Derived.KernelRfl
import Derived.Laws.StructEq
import Derived.Test.YtkgekojkboingaaGreatDoorProg
import Derived.Test.YtkgekojkboingaaGreatDoorWorldRepliesK2
namespace Go.Proofs.YtkgekojkboingaaGreatDoor
set_option linter.all false
set_option maxHeartbeats 4000000
set_option maxRecDepth 20000
open Go.RowKit Go.Proofs.Tryz
section
def kX(kind:Int)(n:Nat):Bool:=if kind=111 then decide (n=0) else if kind=112∨kind=100∨kind=103 then decide (n=1) else if kind=109 then iK n 1 4 else false
def sG(kind rate mul div lock:Int):Bool:=
 if kind=111 then decide (1≤rate)&&decide (rate≤1099511627776) else if kind=112 then iK mul 1 1000&&iK div 1 1000&&iK lock 0 20 else if kind=100 then iK div 1 1000 else true
def Mc(n1:Nat)(c:eW):Int:=kH [iO (!kX c.kind c.src.length) 1,kH (c.src.map fun f=>iO (!iK f 0 ((n1:Int) - 1)) 4),iO (!sG c.kind c.rate c.mul c.div c.lock) 3]
def Qi(n2:Nat)(d:Dom):Int:=kH [iO (decide (¬d.above= -1)&& !iK d.above 0 ((n2:Int) - 1)) 4,iO (!iK d.delay 0 20) 3]
def Yw(r:Int):Int:=iO (!iK r 0 20) 3
def Qm(n1 n2 n3 n4:Nat)(d:cH):Int:=
 kH [iO (!iK d.clock 0 ((n1:Int) - 1)) 4,iO (!iK d.domain 0 ((n2:Int) - 1)) 4,iO (!iK d.reset 0 ((n3:Int) - 1)) 4,kH (d.iU.map fun f=>iO (!iK f 0 ((n4:Int) - 1)) 4)]
def Oj(d:cH):Int:=iO (decide ((8:Int) < d.aR.length)||decide ((6:Int) < d.iU.length)) 8
theorem aG1(l:List Value):(l.map fun v=>[v]).flatten=l:=by induction l<;>simp_all
theorem aJQ(kind rate mul div lock:Int)(A:Option Addr)(n k:Nat)(w:World):
  Cz 113 #[.agg #[.int .u8 kind,.slice A n k,.int .u64 rate,iv mul,iv div,iv lock]] w (Rt (.bool (kX kind n)) w):=by
 refine aN func113 ntmps113 ?_;refine aB ?_;refine bN fun g1=>?_;refine aB ?_;refine aG rfl (fun h=>?_) (fun h=>?_)
 ·
  refine aB ?_;exact aP (h:=fun _ _=>by first | (exfalso;omega) | (simp[kX, *];done) | (simp[kX, *];omega))
 ·
  refine aB ?_;refine aG rfl (fun h=>?_) (fun h=>?_)
  ·
   refine aB ?_;refine aG rfl (fun h=>?_) (fun h=>?_)
   ·
    refine aB ?_;exact aP (h:=fun _ _=>by first | (exfalso;omega) | (simp[kX, *];done) | (simp[kX, *];omega))
   ·
    refine aB ?_;refine aG rfl (fun h=>?_) (fun h=>?_)
    ·
     refine aB ?_;refine cZ (fun w1 st=>tL _ _ _ w1) ?_;refine aB ?_;exact aP (h:=fun _ _=>by first | (exfalso;omega) | (simp[kX, *];done) | (simp[kX, *];omega))
    ·
     refine aB ?_;exact aP (h:=fun _ _=>by first | (exfalso;omega) | (simp[kX, *];done) | (simp[kX, *];omega))
  ·
   refine aB ?_;refine aG rfl (fun h=>?_) (fun h=>?_)
   ·
    refine aB ?_;refine aG rfl (fun h=>?_) (fun h=>?_)
    ·
     refine aB ?_;exact aP (h:=fun _ _=>by first | (exfalso;omega) | (simp[kX, *];done) | (simp[kX, *];omega))
    ·
     refine aB ?_;refine aG rfl (fun h=>?_) (fun h=>?_)
     ·
      refine aB ?_;refine cZ (fun w1 st=>tL _ _ _ w1) ?_;refine aB ?_;exact aP (h:=fun _ _=>by first | (exfalso;omega) | (simp[kX, *];done) | (simp[kX, *];omega))
     ·
      refine aB ?_;exact aP (h:=fun _ _=>by first | (exfalso;omega) | (simp[kX, *];done) | (simp[kX, *];omega))
   ·
    refine aB ?_;refine aG rfl (fun h=>?_) (fun h=>?_)
    ·
     refine aB ?_;exact aP (h:=fun _ _=>by first | (exfalso;omega) | (simp[kX, *];done) | (simp[kX, *];omega))
    ·
     refine aB ?_;refine aG rfl (fun h=>?_) (fun h=>?_)
     ·
      refine aB ?_;refine cZ (fun w1 st=>tL _ _ _ w1) ?_;refine aB ?_;exact aP (h:=fun _ _=>by first | (exfalso;omega) | (simp[kX, *];done) | (simp[kX, *];omega))
     ·
      refine aB ?_;exact aP (h:=fun _ _=>by first | (exfalso;omega) | (simp[kX, *];done) | (simp[kX, *];omega))
theorem aLR(kind rate mul div lock:Int)(A:Option Addr)(n k:Nat)(w:World):
  Cz 119 #[.agg #[.int .u8 kind,.slice A n k,.int .u64 rate,iv mul,iv div,iv lock]] w (Rt (.bool (sG kind rate mul div lock)) w):=by
 refine aN func119 ntmps119 ?_;refine aB ?_;refine bN fun g1=>?_;refine aB ?_;refine aG rfl (fun h=>?_) (fun h=>?_)
 ·
  refine aB ?_;refine qD (t:=10) rfl (fun hg=>?_) (fun hg=>?_)
  ·
   refine aB ?_;exact aP (h:=fun _ _=>by simp[sG, *])
  ·
   refine aB ?_;exact aP (h:=fun _ _=>by simp[sG, *])
 ·
  refine aB ?_;refine aG rfl (fun h=>?_) (fun h=>?_)
  ·
   refine aB ?_;refine cZ (fun w1 st=>tL _ _ _ w1) ?_;refine aB ?_;refine qD (t:=20) rfl (fun hg=>?_) (fun hg=>?_)
   ·
    refine aB ?_;refine cZ (fun w1 st=>tL _ _ _ w1) ?_;refine aB ?_;refine qD (t:=25) rfl (fun hg=>?_) (fun hg=>?_)
    ·
     refine aB ?_;refine cZ (fun w1 st=>tL _ _ _ w1) ?_;refine aB ?_;exact aP (h:=fun _ _=>by simp[sG, *])
    ·
     refine aB ?_;exact aP (h:=fun _ _=>by simp[sG, *])
   ·
    refine aB ?_;exact aP (h:=fun _ _=>by simp[sG, *])
  ·
   refine aB ?_;refine aG rfl (fun h=>?_) (fun h=>?_)
   ·
    refine aB ?_;refine cZ (fun w1 st=>tL _ _ _ w1) ?_;refine aB ?_;exact aP (h:=fun _ _=>by simp[sG, *])
   ·
    refine aB ?_;exact aP (h:=fun _ _=>by simp[sG, *])
theorem aPJ(kind rate mul div lock:Int)(A:Option Addr)(n k:Nat)(gc:Nat)(w:World)(hb:dU w gc 0 [.int .u8 kind,.slice A n k,.int .u64 rate,iv mul,iv div,iv lock]):
  Cz 112 #[pt gc] w (Rt (iv (iO (!kX kind n) 1)) w):=by
 refine aN func112 ntmps112 ?_;refine aB ?_;refine cZ (fun w1 st=>aJQ _ _ _ _ _ _ _ _ w1) ?_;refine aB ?_;refine cZ (fun w1 st=>uQ _ _ w1) ?_;refine aB ?_;exact aP (h:=fun _ _=>rfl)
theorem aPG(kind rate mul div lock:Int)(A:Option Addr)(n k:Nat)(gc:Nat)(w:World)(hb:dU w gc 0 [.int .u8 kind,.slice A n k,.int .u64 rate,iv mul,iv div,iv lock]):
  Cz 118 #[pt gc] w (Rt (iv (iO (!sG kind rate mul div lock) 3)) w):=by
 refine aN func118 ntmps118 ?_;refine aB ?_;refine cZ (fun w1 st=>aLR _ _ _ _ _ _ _ _ w1) ?_;refine aB ?_;refine cZ (fun w1 st=>uQ _ _ w1) ?_;refine aB ?_;exact aP (h:=fun _ _=>rfl)
theorem aPH(f:Int)(A1 A2 A3 A4:Option Addr)(n1 k1 n2 k2 n3 k3 n4 k4:Nat)(gs:Nat)(w:World)(hs:dU w gs 0 [.slice A1 n1 k1,.slice A2 n2 k2,.slice A3 n3 k3,.slice A4 n4 k4])(mE:(n1:Int)≤9223372036854775806):
  Cz 116 #[iv f,pt gs] w (Rt (iv (iO (!iK f 0 ((n1:Int) - 1)) 4)) w):=by
 refine aN func116 ntmps116 ?_;refine aB ?_;refine cZ (fun w1 st=>tL _ _ _ w1) ?_;refine aB ?_;refine cZ (fun w1 st=>uQ _ _ w1) ?_;refine aB ?_;exact aP (h:=fun _ _=>rfl)
theorem aPI(kind rate mul div lock:Int)(A:Option Addr)(n k:Nat)(A1 A2 A3 A4:Option Addr)(n1 k1 n2 k2 n3 k3 n4 k4:Nat)(gc gs:Nat)(w:World)(hb:dU w gc 0 [.int .u8 kind,.slice A n k,.int .u64 rate,iv mul,iv div,iv lock])(hs:dU w gs 0 [.slice A1 n1 k1,.slice A2 n2 k2,.slice A3 n3 k3,.slice A4 n4 k4])(mE:(n1:Int)≤9223372036854775806)(zs:List Int)(hA:aI (all w) 1 A n (aM zs))(hn:n=zs.length)(hz:(n:Int)≤9223372036854775806):
  Cz 114 #[pt gc,pt gs] w (Rt (iv (kH (zs.map fun f=>iO (!iK f 0 ((n1:Int) - 1)) 4))) w):=by
 refine aN func114 ntmps114 ?_;refine aA ?_;refine kA (vf:=[]) (vc:=[pt gs]) rfl rfl (by decide) ?_
 refine cZ (fun w1 st=>aGE _ _ _ 116 [pt gs] ((aM zs).map fun v=>[v]) (zs.map fun f=>iO (!iK f 0 ((n1:Int) - 1)) 4) w1 (by rw[aG1];exact hA.le (kT (st.started (by simp)))) (by simp) (by simp[aM];omega) (by simp;omega) (by omega) (by kernel_rfl) (fun i r x hr hx w2 eF=>by
  obtain⟨f,hf,rfl⟩:∃f,zs[i]? =some f∧r=[iv f]:=by
   rw[List.getElem?_map,aM,List.getElem?_map] at hr;cases hq:zs[i]? with
   | none=>simp[hq] at hr
   | some f=>simp[hq] at hr;exact⟨f,rfl,hr.symm⟩
  rw[List.getElem?_map,hf] at hx;cases hx
  exact aPH f A1 A2 A3 A4 n1 k1 n2 k2 n3 k3 n4 k4 gs w2 ((hs.below (st.started (by simp))).below eF) mE)) ?_
 refine aA ?_;exact aP (h:=fun _ _=>rfl)
theorem aPF(kind rate mul div lock:Int)(A:Option Addr)(n k:Nat)(A1 A2 A3 A4:Option Addr)(n1 k1 n2 k2 n3 k3 n4 k4:Nat)(w:World)(mE:(n1:Int)≤9223372036854775806)(zs:List Int)(hA:aI (all w) 1 A n (aM zs))(hn:n=zs.length)(hz:(n:Int)≤9223372036854775806):
  Cz 59 #[.agg #[.slice A1 n1 k1,.slice A2 n2 k2,.slice A3 n3 k3,.slice A4 n4 k4],.agg #[.int .u8 kind,.slice A n k,.int .u64 rate,iv mul,iv div,iv lock]] w (Rt (iv (Mc n1 ⟨kind,zs,rate,mul,div,lock⟩)) w):=by
 refine aN func59 ntmps59 ?_;refine aA ?_;refine bN fun g1=>?_;refine bN fun g2=>?_;refine aA ?_;refine kA (vf:=[]) (vc:=[pt g2]) rfl rfl (by decide) ?_;refine kA (vf:=[]) (vc:=[pt g2,pt g1]) rfl rfl (by decide) ?_;refine kA (vf:=[]) (vc:=[pt g2]) rfl rfl (by decide) ?_;refine eK fun g3=>?_
 refine cZ (fun w1 st=>aAs _ _ _ [(112,[pt g2]),(114,[pt g2,pt g1]),(118,[pt g2])] [iO (!kX kind n) 1,kH (zs.map fun f=>iO (!iK f 0 ((n1:Int) - 1)) 4),iO (!sG kind rate mul div lock) 3] w1 (st.uU (i:=0) (n:=3) (sz:=1) (cs:=[.func (.func 112) #[] #[pt g2],.func (.func 114) #[] #[pt g2,pt g1],.func (.func 118) #[] #[pt g2]]) rfl rfl) rfl rfl (by decide) (by simp only[List.mem_cons,List.not_mem_nil,or_false];rintro f (rfl | rfl | rfl)<;>kernel_rfl) (fun i f x hf hx w2 eF=>by
  have jF:=(st.started (by simp)).trans (eF.mono st.size)
  match i,hf,hx with
  | 0,hf,hx=>cases hf;cases hx;exact aPJ kind rate mul div lock A n k g2 w2 (st.box (cs:=[.int .u8 kind,.slice A n k,.int .u64 rate,.int .i64 mul,.int .i64 div,.int .i64 lock]) (i:=1) rfl|>.below eF)
  | 1,hf,hx=>cases hf;cases hx;exact aPI kind rate mul div lock A n k A1 A2 A3 A4 n1 k1 n2 k2 n3 k3 n4 k4 g2 g1 w2 (st.box (cs:=[.int .u8 kind,.slice A n k,.int .u64 rate,.int .i64 mul,.int .i64 div,.int .i64 lock]) (i:=1) rfl|>.below eF) (st.box (cs:=[.slice A1 n1 k1,.slice A2 n2 k2,.slice A3 n3 k3,.slice A4 n4 k4]) (i:=2) rfl|>.below eF) mE zs (hA.le (kT jF)) hn hz
  | 2,hf,hx=>cases hf;cases hx;exact aPG kind rate mul div lock A n k g2 w2 (st.box (cs:=[.int .u8 kind,.slice A n k,.int .u64 rate,.int .i64 mul,.int .i64 div,.int .i64 lock]) (i:=1) rfl|>.below eF)
  | i+3,hf,_=>simp at hf)) ?_
 refine aA ?_;exact aP (h:=fun _ _=>by simp[Mc,hn])
theorem aOT(above delay:Int)(ret:Bool)(A1 A2 A3 A4:Option Addr)(n1 k1 n2 k2 n3 k3 n4 k4:Nat)(gd gs:Nat)(w:World)(hd:dU w gd 0 [iv above,iv delay,.bool ret])(hs:dU w gs 0 [.slice A1 n1 k1,.slice A2 n2 k2,.slice A3 n3 k3,.slice A4 n4 k4])(oQ:(n2:Int)≤9223372036854775806):
  Cz 122 #[pt gd,pt gs] w (Rt (iv (iO (decide (¬above= -1)&& !iK above 0 ((n2:Int) - 1)) 4)) w):=by
 refine aN func122 ntmps122 ?_;refine aB ?_;refine bT (t:=6) rfl (fun hg=>?_) (fun hg=>?_)
 ·
  refine aB ?_;refine cZ (fun w1 st=>tL _ _ _ w1) ?_;refine aB ?_;refine cZ (fun w1 st=>uQ _ _ w1) ?_;refine aB ?_;exact aP (h:=fun _ _=>by simp[hg])
 ·
  refine aB ?_;refine cZ (fun w1 st=>uQ _ _ w1) ?_;refine aB ?_;exact aP (h:=fun _ _=>by simp[hg])
theorem aOS(above delay:Int)(ret:Bool)(gd:Nat)(w:World)(hd:dU w gd 0 [iv above,iv delay,.bool ret]):
  Cz 123 #[pt gd] w (Rt (iv (iO (!iK delay 0 20) 3)) w):=by
 refine aN func123 ntmps123 ?_;refine aB ?_;refine cZ (fun w1 st=>tL _ _ _ w1) ?_;refine aB ?_;refine cZ (fun w1 st=>uQ _ _ w1) ?_;refine aB ?_;exact aP (h:=fun _ _=>rfl)
theorem aOR(above delay:Int)(ret:Bool)(A1 A2 A3 A4:Option Addr)(n1 k1 n2 k2 n3 k3 n4 k4:Nat)(w:World)(oQ:(n2:Int)≤9223372036854775806):
  Cz 66 #[.agg #[.slice A1 n1 k1,.slice A2 n2 k2,.slice A3 n3 k3,.slice A4 n4 k4],.agg #[iv above,iv delay,.bool ret]] w (Rt (iv (Qi n2 ⟨above,delay,ret⟩)) w):=by
 refine aN func66 ntmps66 ?_;refine aA ?_;refine bN fun g1=>?_;refine bN fun g2=>?_;refine aA ?_;refine kA (vf:=[]) (vc:=[pt g2,pt g1]) rfl rfl (by decide) ?_;refine kA (vf:=[]) (vc:=[pt g2]) rfl rfl (by decide) ?_;refine eK fun g3=>?_
 refine cZ (fun w1 st=>aAs _ _ _ [(122,[pt g2,pt g1]),(123,[pt g2])] [iO (decide (¬above= -1)&& !iK above 0 ((n2:Int) - 1)) 4,iO (!iK delay 0 20) 3] w1 (st.uU (i:=0) (n:=2) (sz:=1) (cs:=[.func (.func 122) #[] #[pt g2,pt g1],.func (.func 123) #[] #[pt g2]]) rfl rfl) rfl rfl (by decide) (by simp only[List.mem_cons,List.not_mem_nil,or_false];rintro f (rfl | rfl)<;>kernel_rfl) (fun i f x hf hx w2 eF=>by
  have jF:=(st.started (by simp)).trans (eF.mono st.size)
  match i,hf,hx with
  | 0,hf,hx=>cases hf;cases hx;exact aOT above delay ret A1 A2 A3 A4 n1 k1 n2 k2 n3 k3 n4 k4 g2 g1 w2 (st.box (cs:=[.int .i64 above,.int .i64 delay,.bool ret]) (i:=1) rfl|>.below eF) (st.box (cs:=[.slice A1 n1 k1,.slice A2 n2 k2,.slice A3 n3 k3,.slice A4 n4 k4]) (i:=2) rfl|>.below eF) oQ
  | 1,hf,hx=>cases hf;cases hx;exact aOS above delay ret g2 w2 (st.box (cs:=[.int .i64 above,.int .i64 delay,.bool ret]) (i:=1) rfl|>.below eF)
  | i+2,hf,_=>simp at hf)) ?_
 refine aA ?_;exact aP (h:=fun _ _=>rfl)
theorem aKP(r:Int)(w:World):
  Cz 71 #[.agg #[iv r]] w (Rt (iv (Yw r)) w):=by
 refine aN func71 ntmps71 ?_;refine aB ?_;refine bN fun g1=>?_;refine aB ?_;refine cZ (fun w1 st=>tL _ _ _ w1) ?_;refine aB ?_;refine cZ (fun w1 st=>uQ _ _ w1) ?_;refine aB ?_;exact aP (h:=fun _ _=>rfl)
theorem aPr(clock domain reset iH:Int)(A B:Option Addr)(n k nb kb:Nat)(A1 A2 A3 A4:Option Addr)(n1 k1 n2 k2 n3 k3 n4 k4:Nat)(gd gs:Nat)(w:World)(hd:dU w gd 0 [iv clock,iv domain,iv reset,.int .u32 iH,.slice B nb kb,.slice A n k])(hs:dU w gs 0 [.slice A1 n1 k1,.slice A2 n2 k2,.slice A3 n3 k3,.slice A4 n4 k4])(mE:(n1:Int)≤9223372036854775806):
  Cz 124 #[pt gd,pt gs] w (Rt (iv (iO (!iK clock 0 ((n1:Int) - 1)) 4)) w):=by
 refine aN func124 ntmps124 ?_;refine aB ?_;refine cZ (fun w1 st=>tL _ _ _ w1) ?_;refine aB ?_;refine cZ (fun w1 st=>uQ _ _ w1) ?_;refine aB ?_;exact aP (h:=fun _ _=>rfl)
theorem aPq(clock domain reset iH:Int)(A B:Option Addr)(n k nb kb:Nat)(A1 A2 A3 A4:Option Addr)(n1 k1 n2 k2 n3 k3 n4 k4:Nat)(gd gs:Nat)(w:World)(hd:dU w gd 0 [iv clock,iv domain,iv reset,.int .u32 iH,.slice B nb kb,.slice A n k])(hs:dU w gs 0 [.slice A1 n1 k1,.slice A2 n2 k2,.slice A3 n3 k3,.slice A4 n4 k4])(oQ:(n2:Int)≤9223372036854775806):
  Cz 125 #[pt gd,pt gs] w (Rt (iv (iO (!iK domain 0 ((n2:Int) - 1)) 4)) w):=by
 refine aN func125 ntmps125 ?_;refine aB ?_;refine cZ (fun w1 st=>tL _ _ _ w1) ?_;refine aB ?_;refine cZ (fun w1 st=>uQ _ _ w1) ?_;refine aB ?_;exact aP (h:=fun _ _=>rfl)
theorem aPp(clock domain reset iH:Int)(A B:Option Addr)(n k nb kb:Nat)(A1 A2 A3 A4:Option Addr)(n1 k1 n2 k2 n3 k3 n4 k4:Nat)(gd gs:Nat)(w:World)(hd:dU w gd 0 [iv clock,iv domain,iv reset,.int .u32 iH,.slice B nb kb,.slice A n k])(hs:dU w gs 0 [.slice A1 n1 k1,.slice A2 n2 k2,.slice A3 n3 k3,.slice A4 n4 k4])(hz3:(n3:Int)≤9223372036854775806):
  Cz 126 #[pt gd,pt gs] w (Rt (iv (iO (!iK reset 0 ((n3:Int) - 1)) 4)) w):=by
 refine aN func126 ntmps126 ?_;refine aB ?_;refine cZ (fun w1 st=>tL _ _ _ w1) ?_;refine aB ?_;refine cZ (fun w1 st=>uQ _ _ w1) ?_;refine aB ?_;exact aP (h:=fun _ _=>rfl)
theorem aPn(f:Int)(A1 A2 A3 A4:Option Addr)(n1 k1 n2 k2 n3 k3 n4 k4:Nat)(gs:Nat)(w:World)(hs:dU w gs 0 [.slice A1 n1 k1,.slice A2 n2 k2,.slice A3 n3 k3,.slice A4 n4 k4])(Ov:(n4:Int)≤9223372036854775806):
  Cz 128 #[iv f,pt gs] w (Rt (iv (iO (!iK f 0 ((n4:Int) - 1)) 4)) w):=by
 refine aN func128 ntmps128 ?_;refine aB ?_;refine cZ (fun w1 st=>tL _ _ _ w1) ?_;refine aB ?_;refine cZ (fun w1 st=>uQ _ _ w1) ?_;refine aB ?_;exact aP (h:=fun _ _=>rfl)
theorem aPo(clock domain reset iH:Int)(A B:Option Addr)(n k nb kb:Nat)(A1 A2 A3 A4:Option Addr)(n1 k1 n2 k2 n3 k3 n4 k4:Nat)(gd gs:Nat)(w:World)(hd:dU w gd 0 [iv clock,iv domain,iv reset,.int .u32 iH,.slice B nb kb,.slice A n k])(hs:dU w gs 0 [.slice A1 n1 k1,.slice A2 n2 k2,.slice A3 n3 k3,.slice A4 n4 k4])(Ov:(n4:Int)≤9223372036854775806)(zs:List Int)(hA:aI (all w) 1 A n (aM zs))(hn:n=zs.length)(hz:(n:Int)≤9223372036854775806):
  Cz 127 #[pt gd,pt gs] w (Rt (iv (kH (zs.map fun f=>iO (!iK f 0 ((n4:Int) - 1)) 4))) w):=by
 refine aN func127 ntmps127 ?_;refine aA ?_;refine kA (vf:=[]) (vc:=[pt gs]) rfl rfl (by decide) ?_
 refine cZ (fun w1 st=>aGE _ _ _ 128 [pt gs] ((aM zs).map fun v=>[v]) (zs.map fun f=>iO (!iK f 0 ((n4:Int) - 1)) 4) w1 (by rw[aG1];exact hA.le (kT (st.started (by simp)))) (by simp) (by simp[aM];omega) (by simp;omega) (by omega) (by kernel_rfl) (fun i r x hr hx w2 eF=>by
  obtain⟨f,hf,rfl⟩:∃f,zs[i]? =some f∧r=[iv f]:=by
   rw[List.getElem?_map,aM,List.getElem?_map] at hr;cases hq:zs[i]? with
   | none=>simp[hq] at hr
   | some f=>simp[hq] at hr;exact⟨f,rfl,hr.symm⟩
  rw[List.getElem?_map,hf] at hx;cases hx
  exact aPn f A1 A2 A3 A4 n1 k1 n2 k2 n3 k3 n4 k4 gs w2 ((hs.below (st.started (by simp))).below eF) Ov)) ?_
 refine aA ?_;exact aP (h:=fun _ _=>rfl)
theorem aPm(rg:List Rg)(clock domain reset iH:Int)(A B:Option Addr)(n k nb kb:Nat)(A1 A2 A3 A4:Option Addr)(n1 k1 n2 k2 n3 k3 n4 k4:Nat)(w:World)(mE:(n1:Int)≤9223372036854775806)(oQ:(n2:Int)≤9223372036854775806)(hz3:(n3:Int)≤9223372036854775806)(Ov:(n4:Int)≤9223372036854775806)(zs:List Int)(hA:aI (all w) 1 A n (aM zs))(hn:n=zs.length)(hz:(n:Int)≤9223372036854775806):
  Cz 75 #[.agg #[.slice A1 n1 k1,.slice A2 n2 k2,.slice A3 n3 k3,.slice A4 n4 k4],.agg #[iv clock,iv domain,iv reset,.int .u32 iH,.slice B nb kb,.slice A n k]] w (Rt (iv (Qm n1 n2 n3 n4 ⟨clock,domain,reset,iH,rg,zs⟩)) w):=by
 refine aN func75 ntmps75 ?_;refine aA ?_;refine bN fun g1=>?_;refine bN fun g2=>?_;refine aA ?_;refine kA (vf:=[]) (vc:=[pt g2,pt g1]) rfl rfl (by decide) ?_;refine kA (vf:=[]) (vc:=[pt g2,pt g1]) rfl rfl (by decide) ?_;refine kA (vf:=[]) (vc:=[pt g2,pt g1]) rfl rfl (by decide) ?_;refine kA (vf:=[]) (vc:=[pt g2,pt g1]) rfl rfl (by decide) ?_;refine eK fun g3=>?_
 refine cZ (fun w1 st=>aAs _ _ _ [(124,[pt g2,pt g1]),(125,[pt g2,pt g1]),(126,[pt g2,pt g1]),(127,[pt g2,pt g1])] [iO (!iK clock 0 ((n1:Int) - 1)) 4,iO (!iK domain 0 ((n2:Int) - 1)) 4,iO (!iK reset 0 ((n3:Int) - 1)) 4,kH (zs.map fun f=>iO (!iK f 0 ((n4:Int) - 1)) 4)] w1 (st.uU (i:=0) (n:=4) (sz:=1) (cs:=[.func (.func 124) #[] #[pt g2,pt g1],.func (.func 125) #[] #[pt g2,pt g1],.func (.func 126) #[] #[pt g2,pt g1],.func (.func 127) #[] #[pt g2,pt g1]]) rfl rfl) rfl rfl (by decide) (by simp only[List.mem_cons,List.not_mem_nil,or_false];rintro f (rfl | rfl | rfl | rfl)<;>kernel_rfl) (fun i f x hf hx w2 eF=>by
  have jF:=(st.started (by simp)).trans (eF.mono st.size)
  match i,hf,hx with
  | 0,hf,hx=>cases hf;cases hx;exact aPr clock domain reset iH A B n k nb kb A1 A2 A3 A4 n1 k1 n2 k2 n3 k3 n4 k4 g2 g1 w2 (st.box (cs:=[.int .i64 clock,.int .i64 domain,.int .i64 reset,.int .u32 iH,.slice B nb kb,.slice A n k]) (i:=1) rfl|>.below eF) (st.box (cs:=[.slice A1 n1 k1,.slice A2 n2 k2,.slice A3 n3 k3,.slice A4 n4 k4]) (i:=2) rfl|>.below eF) mE
  | 1,hf,hx=>cases hf;cases hx;exact aPq clock domain reset iH A B n k nb kb A1 A2 A3 A4 n1 k1 n2 k2 n3 k3 n4 k4 g2 g1 w2 (st.box (cs:=[.int .i64 clock,.int .i64 domain,.int .i64 reset,.int .u32 iH,.slice B nb kb,.slice A n k]) (i:=1) rfl|>.below eF) (st.box (cs:=[.slice A1 n1 k1,.slice A2 n2 k2,.slice A3 n3 k3,.slice A4 n4 k4]) (i:=2) rfl|>.below eF) oQ
  | 2,hf,hx=>cases hf;cases hx;exact aPp clock domain reset iH A B n k nb kb A1 A2 A3 A4 n1 k1 n2 k2 n3 k3 n4 k4 g2 g1 w2 (st.box (cs:=[.int .i64 clock,.int .i64 domain,.int .i64 reset,.int .u32 iH,.slice B nb kb,.slice A n k]) (i:=1) rfl|>.below eF) (st.box (cs:=[.slice A1 n1 k1,.slice A2 n2 k2,.slice A3 n3 k3,.slice A4 n4 k4]) (i:=2) rfl|>.below eF) hz3
  | 3,hf,hx=>cases hf;cases hx;exact aPo clock domain reset iH A B n k nb kb A1 A2 A3 A4 n1 k1 n2 k2 n3 k3 n4 k4 g2 g1 w2 (st.box (cs:=[.int .i64 clock,.int .i64 domain,.int .i64 reset,.int .u32 iH,.slice B nb kb,.slice A n k]) (i:=1) rfl|>.below eF) (st.box (cs:=[.slice A1 n1 k1,.slice A2 n2 k2,.slice A3 n3 k3,.slice A4 n4 k4]) (i:=2) rfl|>.below eF) Ov zs (hA.le (kT jF)) hn hz
  | i+4,hf,_=>simp at hf)) ?_
 refine aA ?_;exact aP (h:=fun _ _=>rfl)
theorem aNV(rg:List Rg)(zs:List Int)(clock domain reset iH:Int)(A B:Option Addr)(n k nb kb:Nat)(w:World)(Ui:nb=rg.length)(hn:n=zs.length):
  Cz 110 #[.agg #[iv clock,iv domain,iv reset,.int .u32 iH,.slice B nb kb,.slice A n k]] w (Rt (iv (Oj ⟨clock,domain,reset,iH,rg,zs⟩)) w):=by
 refine aN func110 ntmps110 ?_;refine aB ?_;refine bN fun g1=>?_;refine aB ?_;refine bT (t:=7) rfl (fun hg=>?_) (fun hg=>?_)
 ·
  refine aB ?_;refine cZ (fun w1 st=>uQ _ _ w1) ?_;refine aB ?_;exact aP (h:=fun _ _=>by subst Ui hn;simp[Oj,hg])
 ·
  refine aB ?_;refine cZ (fun w1 st=>uQ _ _ w1) ?_;refine aB ?_;exact aP (h:=fun _ _=>by subst Ui hn;simp[Oj,hg])
end
section
def aC.small(s:aC):Prop:=s.aF.length≤1000000∧s.domains.length≤1000000∧s.bA.length≤1000000∧s.aD.length≤1000000∧(∀c∈s.aF,c.src.length≤1000000)∧∀d∈s.aD,d.iU.length≤1000000
structure iD(w:World)(s:aC)(A1:Option Addr)(n1:Nat)(A2:Option Addr)(n2:Nat)(A3:Option Addr)(n3:Nat)(A4:Option Addr)(n4:Nat):Prop where
 sU:jX (fJ (all w)) (qU (fJ (all w))) 86 6 A1 n1 s.aF
 dom:jX (fJ (all w)) tI 88 3 A2 n2 s.domains
 yI:jX (fJ (all w)) xO 90 1 A3 n3 s.bA
 dev:jX (fJ (all w)) (qB (fJ (all w))) 93 6 A4 n4 s.aD
 small:s.small
section
variable{w w':World}{s:aC}{A1 A2 A3 A4:Option Addr}{n1 n2 n3 n4:Nat}
theorem iD.le(h:iD w s A1 n1 A2 n2 A3 n3 A4 n4)(hb:Below w.heap.size w w'):iD w' s A1 n1 A2 n2 A3 n3 A4 n4:=
 ⟨h.sU.mono (kE (kT hb)) (fun _ _=>qU.mono (kE (kT hb))),h.dom.mono (kE (kT hb)) (fun _ _ h=>h),h.yI.mono (kE (kT hb)) (fun _ _ h=>h),h.dev.mono (kE (kT hb)) (fun _ _=>qB.mono (kE (kT hb))),h.small⟩
theorem iD.qZ(h:iD w s A1 n1 A2 n2 A3 n3 A4 n4):n1=s.aF.length:=by obtain⟨_,_,h,_⟩:=h.sU;exact h
theorem iD.qY(h:iD w s A1 n1 A2 n2 A3 n3 A4 n4):n2=s.domains.length:=by obtain⟨_,_,h,_⟩:=h.dom;exact h
theorem iD.tW(h:iD w s A1 n1 A2 n2 A3 n3 A4 n4):n3=s.bA.length:=by obtain⟨_,_,h,_⟩:=h.yI;exact h
theorem iD.sI(h:iD w s A1 n1 A2 n2 A3 n3 A4 n4):n4=s.aD.length:=by obtain⟨_,_,h,_⟩:=h.dev;exact h
end
theorem jX.row{α:Type}{w:World}{R:α→List Value→Prop}{t:TypeId}{sz n:Nat}{A:Option Addr}{es:List α}(h:jX (fJ (all w)) R t sz A n es){k:Nat}{e:α}(hk:es[k]? =some e):
  ∃b off r,A=some ⟨b,off,none⟩∧r.length=sz∧R e r∧dU w b (off+k*sz) r:=by
 obtain⟨rows,h1,h2,h3⟩:=h
 have hke:=(List.getElem?_eq_some_iff.1 hk).1
 have hl:=h1.len.1
 obtain⟨r,hr⟩:∃r,rows[k]? =some r:=⟨_,List.getElem?_eq_getElem (by omega)⟩
 obtain⟨e',he,hrl,hR⟩:=h1.at_ hr;rw[hk] at he;cases he;obtain⟨b,off,hA,hro⟩:=aI.row h3 h1.Mg hr (by omega);exact⟨b,off,r,hA,hrl,hR,hro⟩
def jV(s:aC):List (List Int):=s.aF.map (·.src)
def jU(s:aC):List (List Int):=s.domains.map fun d=>if d.above= -1 then[] else[d.above]
def dL(s:aC):List (List Int):=s.aD.map (·.iU)
def Ds(g:List (List Int)):Int:=iO (decide ((fK g).1=5)) 5
theorem aCQ{vs:List Value}{v z:Value}{k n:Nat}(h:vs.length=k)(hk:k < n):(vs++List.replicate (n - k) z).set k v=(vs++[v])++List.replicate (n - (k+1)) z:=by
 rw[List.set_append_right _ _ (by omega),h,Nat.sub_self,show n - k=(n - (k+1))+1 by omega,List.replicate_succ,List.set_cons_zero,List.append_assoc];rfl
theorem aOq{vs:List Value}{z:Value}{k n:Nat}(hk:k < n):vs++List.replicate (n - k) z=(vs++[z])++List.replicate (n - (k+1)) z:=by
 rw[show n - k=(n - (k+1))+1 by omega,List.replicate_succ,List.append_assoc];rfl
theorem Yu{g:List (List Int)}{k:Nat}{vs:List Value}{q q':Piece}{l:List Int}{v:Value}(h:Rows (tG (fJ q)) 1 (g.take k) (vs.map fun v=>[v]))(hl:q.Le q')(hg:g[k]? =some l)(hv:tG (fJ q') l [v]):Rows (tG (fJ q')) 1 (g.take (k+1)) ((vs++[v]).map fun v=>[v]):=by
 rw[List.take_add_one,hg,Option.toList_some,List.map_append];exact(h.mono (fun _ _=>tG.mono (kE hl))).snoc rfl hv
theorem aDK{q q2:Piece}{g:List (List Int)}{vs:List Value}{gG n:Nat}{t:TypeId}(h:Rows (tG (fJ q)) 1 g (vs.map fun v=>[v]))(hl:q.Le q2)(h1:∃F,(HP.aE gG t vs).sat F q2.w∧∀b,F b→q2.Z b)(hn:n=g.length):nH q2 (some ⟨gG,0,none⟩) n g:=by
 obtain⟨F,hs,hz⟩:=h1;refine⟨_,h.mono (fun _ _=>tG.mono (kE hl)),hn,?_⟩;rw[show(vs.map fun v=>[v]).flatten=vs by clear h hs;induction vs<;>simp_all];refine qR (c:=0) hs hz ?_
 have:=h.len.1
 simp at this;omega
def aDH(zs:List Int)(v:Value)(w w':World):Prop:=∃A c,v=.slice A zs.length c∧aI (fresh w w') 1 A zs.length (aM zs)
def Gu(g:List (List Int))(v:Value)(w w':World):Prop:=∃A c,v=.slice A g.length c∧nH (fresh w w') A g.length g
theorem aPV(A:Option Addr)(n c:Nat)(g:List (List Int))(w:World)(hg:nH (all w) A n g)(hn:n=g.length)(hn2:(n:Int)≤9223372036854775806)(hlen:∀l∈g,(l.length:Int)≤9223372036854775806):
  Cz 120 #[.slice A n c] w (Rt (iv (fK g).1) w):=by
 refine aN func120 ntmps120 ?_;refine aB ?_;refine kcV (fun v=>∃A m c,v=.tuple #[.slice A m c,iv (fK g).1]) (fun w1 st=>(Ze A n c g w1 (hg.le (kT (st.started (by simp)))) hn hn2 hlen).mono fun y w2 h=>?_) ?_
 ·obtain⟨⟨A',m,c',hy,_,_⟩,hb⟩:=h;exact⟨⟨_,hy,A',m,c',rfl⟩,hb⟩
 rintro _ ⟨A',m,c',rfl⟩;refine aB ?_;exact aP (h:=fun _ _=>rfl)
theorem aDd(A:Option Addr)(n c:Nat)(g:List (List Int))(w:World)(hg:nH (all w) A n g)(hn:n=g.length)(hn2:(n:Int)≤9223372036854775806)(hlen:∀l∈g,(l.length:Int)≤9223372036854775806):
  Cz 61 #[.slice A n c] w (Rt (iv (Ds g)) w):=by
 refine aN func61 ntmps61 ?_;refine aB ?_;refine cZ (fun w1 st=>aPV A n c g w1 (hg.le (kT (st.started (by simp)))) hn hn2 hlen) ?_;refine aB ?_;refine cZ (fun w1 st=>uQ _ _ w1) ?_;refine aB ?_;exact aP (h:=fun _ _=>rfl)
theorem aFm(A:Option Addr)(n c:Nat)(zs:List Int)(w:World)(hs:aI (all w) 1 A n (aM zs))(hn:n=zs.length)(hn2:n≤1000000):
  Cz 121 #[.slice A n c] w (fun y w'=>(∃v,y=.returned v∧aDH zs v w w')∧Below w.heap.size w w'):=by
 refine aN func121 ntmps121 ?_;refine aB ?_;refine lU 3 1 ?_;refine iF 0 1 8 n (n':=n) (v:=sn) (el:=3) (by kernel_rfl) (by kernel_rfl) (by decide) rfl rfl rfl (sA (by simp) hs) (by simp[aM,Value.oneCell']) (by omega) (by omega) (by omega) (by decide) fun A' k'=>?_;refine aB ?_;refine dF [] [0] [] (by simp) rfl (by decide) (by decide) fun q hq _ hfr=>?_;subst hn;exact aP (h:=fun w1 st=>⟨_,rfl,A',k',rfl,(aI.own (hq 0 _ (by simp) rfl)).le (st.mT (by simp) (hfr (by simp) (by simp)))⟩)
theorem aHe(s:aC)(A1 A2 A3 A4:Option Addr)(n1 k1 n2 k2 n3 k3 n4 k4:Nat)(w:World)(hW:iD w s A1 n1 A2 n2 A3 n3 A4 n4):
  Cz 62 #[.agg #[.slice A1 n1 k1,.slice A2 n2 k2,.slice A3 n3 k3,.slice A4 n4 k4]] w (fun y w'=>(∃v,y=.returned v∧Gu (jV s) v w w')∧Below w.heap.size w w'):=by
 have hn:=hW.qZ
 have dP:=hW.small
 unfold aC.small at dP;obtain⟨hs1,jB,vB,yM,sK,tY⟩:=dP;refine aN func62 ntmps62 ?_;refine aB ?_;refine bN fun g1=>?_;refine aB ?_;refine lY 24 (el:=22) (z:=sn) (by kernel_rfl) (by kernel_rfl) rfl rfl rfl (by omega) (by omega) (by decide) fun g2=>?_;refine aB ?_;refine bL [(13,iv 0),(12,iv n1),(11,.slice A1 n1 k1),(3,.slice (some ⟨g2,0,none⟩) n1 n1),(1,pt g1)] ?_;refine dF [] [] [0,1] (by simp) rfl (by decide) (by decide) fun q0 _ _ Uy=>?_;refine aB ?_;refine eV (fun m e R H=>∃(k:Nat) (vs:List Value) (q:Piece),k≤n1∧m=n1 - k∧qS w q∧Rows (tG (fJ q)) 1 ((jV s).take k) (vs.map fun v=>[v])∧vs.length=k∧e=[(13,iv k),(12,iv n1),(11,.slice A1 n1 k1),(3,.slice (some ⟨g2,0,none⟩) n1 n1),(1,pt g1)]∧R=[q,all w]∧H=[HP.aE g2 22 (vs++List.replicate (n1 - k) (sn)),HP.aE g1 30 [.slice A1 n1 k1,.slice A2 n2 k2,.slice A3 n3 k3,.slice A4 n4 k4]]) n1 ⟨0,[],_,by omega,rfl,Uy (by simp) (by simp),trivial,rfl,rfl,rfl,rfl⟩ fun m e R H hI=>?_;obtain⟨k,vs,q,hk,rfl,De,hrows,hvl,rfl,rfl,rfl⟩:=hI;refine aB ?_;refine aG rfl (fun h=>?_) (fun h=>?_)
 ·
  refine aB ?_
  have hkn:k < s.aF.length:=by omega
  obtain⟨e,he⟩:∃e,s.aF[k]? =some e:=⟨_,List.getElem?_eq_getElem hkn⟩
  obtain⟨b,off,r,rfl,hrl,hR,hro⟩:=hW.sU.row he;obtain⟨Af,nf,kf,rfl,hnf,yL⟩:=hR
  have Pg:(jV s)[k]? =some (e.src):=by simp[jV,he]
  refine aB ?_;refine bX fun g3=>?_;refine jM rfl (by decide) ?_;refine rU rfl rfl ?_;simp only[fP,Value.cells,List.set,List.take,List.drop,List.nil_append,List.append_nil,List.length_cons,List.length_nil,List.cons_append,Nat.reduceAdd];refine aB ?_;refine jN [q] (aDH e.src) (fun w1 st=>aFm Af nf kf e.src w1 (aI.le yL (kT (st.started (by simp)))) hnf (by have:=sK e (List.mem_of_getElem? he);omega)) ?_;rintro _ w1 q' ⟨Ao,co,rfl,Uf⟩ hf' hle aC3;refine kd (dat (k) (k)) ?_;refine rT 1 rfl (by kernel_rfl) rfl rfl rfl (by simp;omega) ?_;dsimp only[List.set];rw[aCQ hvl (by omega)];refine aB ?_;exact eP (n1 - (k+1)) ⟨k+1,vs++[_],q',by omega,rfl,aC3 (by simpa using De),Yu hrows (hle q (by simp)) Pg ⟨Ao,_,co,rfl,rfl,aI.le Uf hf'⟩,by simp[hvl],rfl,rfl,rfl⟩
 ·
  refine aB ?_;obtain rfl:k=n1:=by omega
  rw[Nat.sub_self,List.replicate_zero,List.append_nil];rw[List.take_of_length_le (by simp[jV];omega)] at hrows;refine aB ?_;refine dF [q] [0] [] (by simp) rfl (by decide) (by decide) fun q2 hq hle hfr=>?_
  have oJ:k=(jV s).length:=by simp[jV];omega
  exact aP (h:=fun w1 st=>⟨_,rfl,some ⟨g2,0,none⟩,k,by rw[←oJ],by rw[←oJ];exact(aDK hrows (hle q (by simp)) (hq 0 _ (by simp) rfl) oJ).le (st.mT (by simp) (hfr (by simp) (by simpa using De)))⟩)
theorem aFu(s:aC)(A1 A2 A3 A4:Option Addr)(n1 k1 n2 k2 n3 k3 n4 k4:Nat)(w:World)(hW:iD w s A1 n1 A2 n2 A3 n3 A4 n4):
  Cz 77 #[.agg #[.slice A1 n1 k1,.slice A2 n2 k2,.slice A3 n3 k3,.slice A4 n4 k4]] w (fun y w'=>(∃v,y=.returned v∧Gu (dL s) v w w')∧Below w.heap.size w w'):=by
 have hn:=hW.sI
 have dP:=hW.small
 unfold aC.small at dP;obtain⟨hs1,jB,vB,yM,sK,tY⟩:=dP;refine aN func77 ntmps77 ?_;refine aB ?_;refine bN fun g1=>?_;refine aB ?_;refine lY 24 (el:=22) (z:=sn) (by kernel_rfl) (by kernel_rfl) rfl rfl rfl (by omega) (by omega) (by decide) fun g2=>?_;refine aB ?_;refine bL [(13,iv 0),(12,iv n4),(11,.slice A4 n4 k4),(3,.slice (some ⟨g2,0,none⟩) n4 n4),(1,pt g1)] ?_;refine dF [] [] [0,1] (by simp) rfl (by decide) (by decide) fun q0 _ _ Uy=>?_;refine aB ?_;refine eV (fun m e R H=>∃(k:Nat) (vs:List Value) (q:Piece),k≤n4∧m=n4 - k∧qS w q∧Rows (tG (fJ q)) 1 ((dL s).take k) (vs.map fun v=>[v])∧vs.length=k∧e=[(13,iv k),(12,iv n4),(11,.slice A4 n4 k4),(3,.slice (some ⟨g2,0,none⟩) n4 n4),(1,pt g1)]∧R=[q,all w]∧H=[HP.aE g2 22 (vs++List.replicate (n4 - k) (sn)),HP.aE g1 30 [.slice A1 n1 k1,.slice A2 n2 k2,.slice A3 n3 k3,.slice A4 n4 k4]]) n4 ⟨0,[],_,by omega,rfl,Uy (by simp) (by simp),trivial,rfl,rfl,rfl,rfl⟩ fun m e R H hI=>?_;obtain⟨k,vs,q,hk,rfl,De,hrows,hvl,rfl,rfl,rfl⟩:=hI;refine aB ?_;refine aG rfl (fun h=>?_) (fun h=>?_)
 ·
  refine aB ?_
  have hkn:k < s.aD.length:=by omega
  obtain⟨e,he⟩:∃e,s.aD[k]? =some e:=⟨_,List.getElem?_eq_getElem hkn⟩
  obtain⟨b,off,r,rfl,hrl,hR,hro⟩:=hW.dev.row he;obtain⟨Ar,nr,kr,Af,nf,kf,rfl,_,hnf,_,yL⟩:=hR
  have Pg:(dL s)[k]? =some (e.iU):=by simp[dL,he]
  refine aB ?_;refine bX fun g3=>?_;refine jM rfl (by decide) ?_;refine rU rfl rfl ?_;simp only[fP,Value.cells,List.set,List.take,List.drop,List.nil_append,List.append_nil,List.length_cons,List.length_nil,List.cons_append,Nat.reduceAdd];refine aB ?_;refine jN [q] (aDH e.iU) (fun w1 st=>aFm Af nf kf e.iU w1 (aI.le yL (kT (st.started (by simp)))) hnf (by have:=tY e (List.mem_of_getElem? he);omega)) ?_;rintro _ w1 q' ⟨Ao,co,rfl,Uf⟩ hf' hle aC3;refine kd (dat (k) (k)) ?_;refine rT 1 rfl (by kernel_rfl) rfl rfl rfl (by simp;omega) ?_;dsimp only[List.set];rw[aCQ hvl (by omega)];refine aB ?_;exact eP (n4 - (k+1)) ⟨k+1,vs++[_],q',by omega,rfl,aC3 (by simpa using De),Yu hrows (hle q (by simp)) Pg ⟨Ao,_,co,rfl,rfl,aI.le Uf hf'⟩,by simp[hvl],rfl,rfl,rfl⟩
 ·
  refine aB ?_;obtain rfl:k=n4:=by omega
  rw[Nat.sub_self,List.replicate_zero,List.append_nil];rw[List.take_of_length_le (by simp[dL];omega)] at hrows;refine aB ?_;refine dF [q] [0] [] (by simp) rfl (by decide) (by decide) fun q2 hq hle hfr=>?_
  have oJ:k=(dL s).length:=by simp[dL];omega
  exact aP (h:=fun w1 st=>⟨_,rfl,some ⟨g2,0,none⟩,k,by rw[←oJ],by rw[←oJ];exact(aDK hrows (hle q (by simp)) (hq 0 _ (by simp) rfl) oJ).le (st.mT (by simp) (hfr (by simp) (by simpa using De)))⟩)
theorem aGH(s:aC)(A1 A2 A3 A4:Option Addr)(n1 k1 n2 k2 n3 k3 n4 k4:Nat)(w:World)(hW:iD w s A1 n1 A2 n2 A3 n3 A4 n4):
  Cz 68 #[.agg #[.slice A1 n1 k1,.slice A2 n2 k2,.slice A3 n3 k3,.slice A4 n4 k4]] w (fun y w'=>(∃v,y=.returned v∧Gu (jU s) v w w')∧Below w.heap.size w w'):=by
 have hn:=hW.qY
 have dP:=hW.small
 unfold aC.small at dP;obtain⟨hs1,jB,vB,yM,sK,tY⟩:=dP;refine aN func68 ntmps68 ?_;refine aB ?_;refine bN fun g1=>?_;refine aB ?_;refine lY 24 (el:=22) (z:=sn) (by kernel_rfl) (by kernel_rfl) rfl rfl rfl (by omega) (by omega) (by decide) fun g2=>?_;refine aB ?_;refine bL [(13,iv 0),(12,iv n2),(11,.slice A2 n2 k2),(3,.slice (some ⟨g2,0,none⟩) n2 n2),(1,pt g1)] ?_;refine dF [] [] [0,1] (by simp) rfl (by decide) (by decide) fun q0 _ _ Uy=>?_;refine aB ?_;refine eV (fun m e R H=>∃(k:Nat) (vs:List Value) (q:Piece),k≤n2∧m=n2 - k∧qS w q∧Rows (tG (fJ q)) 1 ((jU s).take k) (vs.map fun v=>[v])∧vs.length=k∧e=[(13,iv k),(12,iv n2),(11,.slice A2 n2 k2),(3,.slice (some ⟨g2,0,none⟩) n2 n2),(1,pt g1)]∧R=[q,all w]∧H=[HP.aE g2 22 (vs++List.replicate (n2 - k) (sn)),HP.aE g1 30 [.slice A1 n1 k1,.slice A2 n2 k2,.slice A3 n3 k3,.slice A4 n4 k4]]) n2 ⟨0,[],_,by omega,rfl,Uy (by simp) (by simp),trivial,rfl,rfl,rfl,rfl⟩ fun m e R H hI=>?_;obtain⟨k,vs,q,hk,rfl,De,hrows,hvl,rfl,rfl,rfl⟩:=hI;refine aB ?_;refine aG rfl (fun h=>?_) (fun h=>?_)
 ·
  refine aB ?_
  have hkn:k < s.domains.length:=by omega
  obtain⟨e,he⟩:∃e,s.domains[k]? =some e:=⟨_,List.getElem?_eq_getElem hkn⟩
  obtain⟨b,off,r,rfl,hrl,hR,hro⟩:=hW.dom.row he;obtain rfl:=hR
  have Pg:(jU s)[k]? =some (if e.above= -1 then[] else[e.above]):=by simp[jU,he]
  refine aB ?_;refine bX fun g3=>?_;refine jM rfl (by decide) ?_;refine rU rfl rfl ?_;simp only[fP,Value.cells,List.set,List.take,List.drop,List.nil_append,List.append_nil,List.length_cons,List.length_nil,List.cons_append,Nat.reduceAdd];refine aB ?_;refine aG rfl (fun h=>?_) (fun h=>?_)
  ·
   refine aB ?_;refine eK fun g4=>?_;refine kd (dat (k) (k)) ?_;refine rT 2 rfl (by kernel_rfl) rfl rfl rfl (by simp;omega) ?_;dsimp only[List.set];rw[aCQ hvl (by omega)];refine aB ?_;refine dF [q] [0] [2,3] (by simp) rfl (by decide) (by decide) fun q' nO hle aAg=>?_;obtain⟨Fg,hsg,hzg⟩:=nO 0 _ (by simp) rfl
   have Uf:=qR (n:=1) (sz:=1) (c:=0) hsg hzg rfl
   exact eP (n2 - (k+1)) ⟨k+1,vs++[_],q',by omega,rfl,aAg (by simp) (by simpa using De),Yu hrows (hle q (by simp)) Pg (by rw[if_neg h];exact⟨_,1,1,rfl,rfl,Uf⟩),by simp[hvl],rfl,rfl,rfl⟩
  ·
   refine aB ?_;rw[aOq (k:=k) (by omega)];exact eP (n2 - (k+1)) ⟨k+1,vs++[_],q,by omega,rfl,De,Yu hrows (fun b hb=>⟨hb,rfl⟩) Pg (by rw[if_pos (Classical.not_not.1 h)];exact⟨_,0,0,rfl,rfl,aI.nil _ 1⟩),by simp[hvl],rfl,rfl,rfl⟩
 ·
  refine aB ?_;obtain rfl:k=n2:=by omega
  rw[Nat.sub_self,List.replicate_zero,List.append_nil];rw[List.take_of_length_le (by simp[jU];omega)] at hrows;refine aB ?_;refine dF [q] [0] [] (by simp) rfl (by decide) (by decide) fun q2 hq hle hfr=>?_
  have oJ:k=(jU s).length:=by simp[jU];omega
  exact aP (h:=fun w1 st=>⟨_,rfl,some ⟨g2,0,none⟩,k,by rw[←oJ],by rw[←oJ];exact(aDK hrows (hle q (by simp)) (hq 0 _ (by simp) rfl) oJ).le (st.mT (by simp) (hfr (by simp) (by simpa using De)))⟩)
end
section
def Fp(s:aC):Int:=if(12:Int) < s.aF.length∨(6:Int) < s.domains.length∨(6:Int) < s.bA.length∨(6:Int) < s.aD.length then 8 else kH (s.aD.map Oj)
def aA2(s:aC):List Int:=[Fp s,kH (s.aF.map (Mc s.aF.length)),Ds (jV s),kH (s.domains.map (Qi s.domains.length)),Ds (jU s),kH (s.bA.map Yw),
 kH (s.aD.map (Qm s.aF.length s.domains.length s.bA.length s.aD.length)),Ds (dL s)]
def Wn(s:aC):Int:=kH (aA2 s)
theorem jX.rows{α:Type}{w:World}{R:α→List Value→Prop}{t:TypeId}{sz n:Nat}{A:Option Addr}{es:List α}(h:jX (fJ (all w)) R t sz A n es)(h1:∀e r,R e r→∀u∈r,u.oneCell'=true):
  ∃rows:List (List Value),aI (all w) sz A n rows.flatten∧(∀r∈rows,r.length=sz)∧(∀r∈rows,∀u∈r,u.oneCell'=true)∧rows.length=n∧n=es.length∧∀(i:Nat) (r:List Value),rows[i]? =some r→∃e,es[i]? =some e∧R e r:=by
 obtain⟨rows,h2,h3,h4⟩:=h;refine⟨rows,h4,h2.Mg,fun r hr=>?_,by rw[h2.len.1,h3],h3,fun i r hr=>?_⟩
 ·obtain⟨i,hi⟩:=List.getElem?_of_mem hr;obtain⟨e,_,_,hR⟩:=h2.at_ hi;exact h1 e r hR
 ·obtain⟨e,he,_,hR⟩:=h2.at_ hr;exact⟨e,he,hR⟩
theorem qU.one{S:tD}(e:eW)(r:List Value)(h:qU S e r):∀u∈r,u.oneCell'=true:=by obtain⟨A,n,k,rfl,_⟩:=h;simp[Value.oneCell']
theorem tI.one(e:Dom)(r:List Value)(h:tI e r):∀u∈r,u.oneCell'=true:=by cases h;simp[Value.oneCell']
theorem xO.one(e:Int)(r:List Value)(h:xO e r):∀u∈r,u.oneCell'=true:=by cases h;simp[Value.oneCell']
theorem qB.one{S:tD}(e:cH)(r:List Value)(h:qB S e r):∀u∈r,u.oneCell'=true:=by obtain⟨A,n,k,A',n',k',rfl,_⟩:=h;simp[Value.oneCell']
theorem aNU(s : aC)(A1 A2 A3 A4 : Option Addr)(n1 k1 n2 k2 n3 k3 n4 k4 : Nat)(w : World)(hW : iD w s A1 n1 A2 n2 A3 n3 A4 n4) :
    Cz 55 #[.agg #[.slice A1 n1 k1,.slice A2 n2 k2,.slice A3 n3 k3,.slice A4 n4 k4]] w (Rt (iv (Fp s)) w):=by
  have lM:=hW.qZ
  have hn2:=hW.qY
  have sL:=hW.tW
  have uA:=hW.sI
  have dP:=hW.small
  unfold aC.small at dP;obtain⟨hs1,jB,vB,yM,sK,tY⟩:=dP;obtain⟨rows,dQ,fV,wS,Fe,hr5,Fb⟩:=hW.dev.rows qB.one;refine aN func55 ntmps55 ?_;refine aB ?_;refine bN fun g1=>?_;refine aB ?_;refine bT (t:=7) rfl (fun hg=>?_) (fun hg=>?_)
  ·
    refine aB ?_;exact aP (h:=fun _ _=>by rw[Fp,if_pos (by omega)])
  ·
    refine aB ?_;refine bT (t:=13) rfl (fun hg=>?_) (fun hg=>?_)
    ·
      refine aB ?_;exact aP (h:=fun _ _=>by rw[Fp,if_pos (by omega)])
    ·
      refine aB ?_;refine bT (t:=19) rfl (fun hg=>?_) (fun hg=>?_)
      ·
        refine aB ?_;exact aP (h:=fun _ _=>by rw[Fp,if_pos (by omega)])
      ·
        refine aB ?_;refine aG rfl (fun h=>?_) (fun h=>?_)
        ·
          refine aB ?_;exact aP (h:=fun _ _=>by rw[Fp,if_pos (by omega)])
        ·
          refine aB ?_
          refine cZ (fun w1 st=>aGF A4 n4 k4 110 [] rows (s.aD.map Oj) w1 (dQ.le (kT (st.started (by simp)))) fV wS Fe (by simp;omega) (by omega) (by kernel_rfl) (fun i r x hr hx w2 eF=>by
    have jF:=(st.started (by simp)).trans (eF.mono st.size)
    obtain⟨e,he,hR⟩:=Fb i r hr;rw[List.getElem?_map,he] at hx;cases hx;obtain⟨Ar,nr,kr,Af,nf,kf,rfl,gF,hnf,_,yL⟩:=hR
    exact aNV e.aR e.iU _ _ _ _ _ _ _ _ _ _ w2 gF hnf)) ?_
          refine aB ?_;exact aP (h:=fun _ _=>by rw[Fp,if_neg (by omega)])
theorem check_1(s:aC)(A1 A2 A3 A4:Option Addr)(n1 k1 n2 k2 n3 k3 n4 k4:Nat)(w:World)(hW:iD w s A1 n1 A2 n2 A3 n3 A4 n4)(gs:Nat)(hs:dU w gs 0 [.slice A1 n1 k1,.slice A2 n2 k2,.slice A3 n3 k3,.slice A4 n4 k4]):
  Cz 54 #[pt gs] w (Rt (iv (Fp s)) w):=by
 have lM:=hW.qZ
 have hn2:=hW.qY
 have sL:=hW.tW
 have uA:=hW.sI
 have dP:=hW.small
 unfold aC.small at dP;obtain⟨hs1,jB,vB,yM,sK,tY⟩:=dP;refine aN func54 ntmps54 ?_;refine aB ?_;refine cZ (fun w1 st=>aNU s A1 A2 A3 A4 n1 k1 n2 k2 n3 k3 n4 k4 w1 (hW.le (st.started (by simp)))) ?_;refine aB ?_;exact aP (h:=fun _ _=>rfl)
theorem aQe(kind rate mul div lock:Int)(A:Option Addr)(n k:Nat)(A1 A2 A3 A4:Option Addr)(n1 k1 n2 k2 n3 k3 n4 k4:Nat)(gs:Nat)(w:World)(hs:dU w gs 0 [.slice A1 n1 k1,.slice A2 n2 k2,.slice A3 n3 k3,.slice A4 n4 k4])(mE:(n1:Int)≤9223372036854775806)(zs:List Int)(hA:aI (all w) 1 A n (aM zs))(hn:n=zs.length)(hz:(n:Int)≤9223372036854775806):
  Cz 58 #[.agg #[.int .u8 kind,.slice A n k,.int .u64 rate,iv mul,iv div,iv lock],pt gs] w (Rt (iv (Mc n1 ⟨kind,zs,rate,mul,div,lock⟩)) w):=by
 refine aN func58 ntmps58 ?_;refine aB ?_;refine bN fun g1=>?_;refine aB ?_;refine cZ (fun w1 st=>aPF kind rate mul div lock A n k A1 A2 A3 A4 n1 k1 n2 k2 n3 k3 n4 k4 w1 mE zs (hA.le (kT (st.started (by simp)))) hn hz) ?_;refine aB ?_;exact aP (h:=fun _ _=>rfl)
theorem aQb(above delay:Int)(ret:Bool)(A1 A2 A3 A4:Option Addr)(n1 k1 n2 k2 n3 k3 n4 k4:Nat)(gs:Nat)(w:World)(hs:dU w gs 0 [.slice A1 n1 k1,.slice A2 n2 k2,.slice A3 n3 k3,.slice A4 n4 k4])(oQ:(n2:Int)≤9223372036854775806):
  Cz 65 #[.agg #[iv above,iv delay,.bool ret],pt gs] w (Rt (iv (Qi n2 ⟨above,delay,ret⟩)) w):=by
 refine aN func65 ntmps65 ?_;refine aB ?_;refine bN fun g1=>?_;refine aB ?_;refine cZ (fun w1 st=>aOR above delay ret A1 A2 A3 A4 n1 k1 n2 k2 n3 k3 n4 k4 w1 oQ) ?_;refine aB ?_;exact aP (h:=fun _ _=>rfl)
theorem aPX(rg:List Rg)(clock domain reset iH:Int)(A B:Option Addr)(n k nb kb:Nat)(A1 A2 A3 A4:Option Addr)(n1 k1 n2 k2 n3 k3 n4 k4:Nat)(gs:Nat)(w:World)(hs:dU w gs 0 [.slice A1 n1 k1,.slice A2 n2 k2,.slice A3 n3 k3,.slice A4 n4 k4])(mE:(n1:Int)≤9223372036854775806)(oQ:(n2:Int)≤9223372036854775806)(hz3:(n3:Int)≤9223372036854775806)(Ov:(n4:Int)≤9223372036854775806)(zs:List Int)(hA:aI (all w) 1 A n (aM zs))(hn:n=zs.length)(hz:(n:Int)≤9223372036854775806):
  Cz 74 #[.agg #[iv clock,iv domain,iv reset,.int .u32 iH,.slice B nb kb,.slice A n k],pt gs] w (Rt (iv (Qm n1 n2 n3 n4 ⟨clock,domain,reset,iH,rg,zs⟩)) w):=by
 refine aN func74 ntmps74 ?_;refine aB ?_;refine bN fun g1=>?_;refine aB ?_;refine cZ (fun w1 st=>aPm rg clock domain reset iH A B n k nb kb A1 A2 A3 A4 n1 k1 n2 k2 n3 k3 n4 k4 w1 mE oQ hz3 Ov zs (hA.le (kT (st.started (by simp)))) hn hz) ?_;refine aB ?_;exact aP (h:=fun _ _=>rfl)
theorem aQf(s:aC)(A1 A2 A3 A4:Option Addr)(n1 k1 n2 k2 n3 k3 n4 k4:Nat)(w:World)(hW:iD w s A1 n1 A2 n2 A3 n3 A4 n4)(gs:Nat)(hs:dU w gs 0 [.slice A1 n1 k1,.slice A2 n2 k2,.slice A3 n3 k3,.slice A4 n4 k4]):
  Cz 56 #[pt gs] w (Rt (iv (kH (s.aF.map (Mc s.aF.length)))) w):=by
 have lM:=hW.qZ
 have hn2:=hW.qY
 have sL:=hW.tW
 have uA:=hW.sI
 have dP:=hW.small
 unfold aC.small at dP;obtain⟨hs1,jB,vB,yM,sK,tY⟩:=dP;obtain⟨rows,dQ,fV,wS,Fe,hr5,Fb⟩:=hW.sU.rows qU.one;rw[←lM];refine aN func56 ntmps56 ?_;refine aA ?_;refine kA (vf:=[]) (vc:=[pt gs]) rfl rfl (by decide) ?_
 refine cZ (fun w1 st=>aOC A1 n1 k1 58 [pt gs] rows (s.aF.map (Mc n1)) w1 (dQ.le (kT (st.started (by simp)))) fV wS Fe (by simp;omega) (by omega) (by kernel_rfl) (fun i r x hr hx w2 eF=>by
  have jF:=(st.started (by simp)).trans (eF.mono st.size)
  obtain⟨e,he,hR⟩:=Fb i r hr;rw[List.getElem?_map,he] at hx;cases hx;obtain⟨Af,nf,kf,rfl,hnf,yL⟩:=hR
  exact aQe _ _ _ _ _ _ _ _ A1 A2 A3 A4 n1 k1 n2 k2 n3 k3 n4 k4 gs w2 (hs.below jF) (by omega) e.src (aI.le yL (kT jF)) hnf (by have:=sK e (List.mem_of_getElem? he);omega))) ?_
 refine aA ?_;exact aP (h:=fun _ _=>rfl)
theorem aQc(s:aC)(A1 A2 A3 A4:Option Addr)(n1 k1 n2 k2 n3 k3 n4 k4:Nat)(w:World)(hW:iD w s A1 n1 A2 n2 A3 n3 A4 n4)(gs:Nat)(hs:dU w gs 0 [.slice A1 n1 k1,.slice A2 n2 k2,.slice A3 n3 k3,.slice A4 n4 k4]):
  Cz 63 #[pt gs] w (Rt (iv (kH (s.domains.map (Qi s.domains.length)))) w):=by
 have lM:=hW.qZ
 have hn2:=hW.qY
 have sL:=hW.tW
 have uA:=hW.sI
 have dP:=hW.small
 unfold aC.small at dP;obtain⟨hs1,jB,vB,yM,sK,tY⟩:=dP;obtain⟨rows,dQ,fV,wS,Fe,hr5,Fb⟩:=hW.dom.rows tI.one;rw[←hn2];refine aN func63 ntmps63 ?_;refine aA ?_;refine kA (vf:=[]) (vc:=[pt gs]) rfl rfl (by decide) ?_
 refine cZ (fun w1 st=>aOB A2 n2 k2 65 [pt gs] rows (s.domains.map (Qi n2)) w1 (dQ.le (kT (st.started (by simp)))) fV wS Fe (by simp;omega) (by omega) (by kernel_rfl) (fun i r x hr hx w2 eF=>by
  have jF:=(st.started (by simp)).trans (eF.mono st.size)
  obtain⟨e,he,hR⟩:=Fb i r hr;rw[List.getElem?_map,he] at hx;cases hx;obtain rfl:=hR
  exact aQb _ _ _ A1 A2 A3 A4 n1 k1 n2 k2 n3 k3 n4 k4 gs w2 (hs.below jF) (by omega))) ?_
 refine aA ?_;exact aP (h:=fun _ _=>rfl)
theorem aPZ(s:aC)(A1 A2 A3 A4:Option Addr)(n1 k1 n2 k2 n3 k3 n4 k4:Nat)(w:World)(hW:iD w s A1 n1 A2 n2 A3 n3 A4 n4)(gs:Nat)(hs:dU w gs 0 [.slice A1 n1 k1,.slice A2 n2 k2,.slice A3 n3 k3,.slice A4 n4 k4]):
  Cz 69 #[pt gs] w (Rt (iv (kH (s.bA.map Yw))) w):=by
 have lM:=hW.qZ
 have hn2:=hW.qY
 have sL:=hW.tW
 have uA:=hW.sI
 have dP:=hW.small
 unfold aC.small at dP;obtain⟨hs1,jB,vB,yM,sK,tY⟩:=dP;obtain⟨rows,dQ,fV,wS,Fe,hr5,Fb⟩:=hW.yI.rows xO.one;refine aN func69 ntmps69 ?_;refine aB ?_
 refine cZ (fun w1 st=>aOA A3 n3 k3 71 [] rows (s.bA.map Yw) w1 (dQ.le (kT (st.started (by simp)))) fV wS Fe (by simp;omega) (by omega) (by kernel_rfl) (fun i r x hr hx w2 eF=>by
  have jF:=(st.started (by simp)).trans (eF.mono st.size)
  obtain⟨e,he,hR⟩:=Fb i r hr;rw[List.getElem?_map,he] at hx;cases hx;obtain rfl:=hR
  exact aKP _ w2)) ?_
 refine aB ?_;exact aP (h:=fun _ _=>rfl)
theorem aPY(s:aC)(A1 A2 A3 A4:Option Addr)(n1 k1 n2 k2 n3 k3 n4 k4:Nat)(w:World)(hW:iD w s A1 n1 A2 n2 A3 n3 A4 n4)(gs:Nat)(hs:dU w gs 0 [.slice A1 n1 k1,.slice A2 n2 k2,.slice A3 n3 k3,.slice A4 n4 k4]):
  Cz 72 #[pt gs] w (Rt (iv (kH (s.aD.map (Qm s.aF.length s.domains.length s.bA.length s.aD.length)))) w):=by
 have lM:=hW.qZ
 have hn2:=hW.qY
 have sL:=hW.tW
 have uA:=hW.sI
 have dP:=hW.small
 unfold aC.small at dP;obtain⟨hs1,jB,vB,yM,sK,tY⟩:=dP;obtain⟨rows,dQ,fV,wS,Fe,hr5,Fb⟩:=hW.dev.rows qB.one;rw[←lM,←hn2,←sL,←uA];refine aN func72 ntmps72 ?_;refine aA ?_;refine kA (vf:=[]) (vc:=[pt gs]) rfl rfl (by decide) ?_
 refine cZ (fun w1 st=>aGF A4 n4 k4 74 [pt gs] rows (s.aD.map (Qm n1 n2 n3 n4)) w1 (dQ.le (kT (st.started (by simp)))) fV wS Fe (by simp;omega) (by omega) (by kernel_rfl) (fun i r x hr hx w2 eF=>by
  have jF:=(st.started (by simp)).trans (eF.mono st.size)
  obtain⟨e,he,hR⟩:=Fb i r hr;rw[List.getElem?_map,he] at hx;cases hx;obtain⟨Ar,nr,kr,Af,nf,kf,rfl,gF,hnf,_,yL⟩:=hR
  exact aPX e.aR _ _ _ _ _ _ _ _ _ _ A1 A2 A3 A4 n1 k1 n2 k2 n3 k3 n4 k4 gs w2 (hs.below jF) (by omega) (by omega) (by omega) (by omega) e.iU (aI.le yL (kT jF)) hnf (by have:=tY e (List.mem_of_getElem? he);omega))) ?_
 refine aA ?_;exact aP (h:=fun _ _=>rfl)
theorem aQd(s:aC)(A1 A2 A3 A4:Option Addr)(n1 k1 n2 k2 n3 k3 n4 k4:Nat)(w:World)(hW:iD w s A1 n1 A2 n2 A3 n3 A4 n4)(gs:Nat)(hs:dU w gs 0 [.slice A1 n1 k1,.slice A2 n2 k2,.slice A3 n3 k3,.slice A4 n4 k4]):
  Cz 60 #[pt gs] w (Rt (iv (Ds (jV s))) w):=by
 have lM:=hW.qZ
 have hn2:=hW.qY
 have sL:=hW.tW
 have uA:=hW.sI
 have dP:=hW.small
 unfold aC.small at dP;obtain⟨hs1,jB,vB,yM,sK,tY⟩:=dP;refine aN func60 ntmps60 ?_;refine aB ?_;refine jN [] (Gu (jV s)) (fun w1 st=>aHe s A1 A2 A3 A4 n1 k1 n2 k2 n3 k3 n4 k4 w1 (hW.le (st.started (by simp)))) ?_;rintro _ w1 q ⟨Ag,cg,rfl,pU⟩ hf' _ aAg
 have Ut:=pU.le hf'
 have oJ:(jV s).length=n1:=by simp[jV];omega
 refine cZ (fun w1 st=>aDd Ag _ cg (jV s) w1 (Ut.le (st.le (by simp))) rfl (by omega) (fun l hl=>by
  simp only[jV,List.mem_map] at hl;obtain⟨x,hx,rfl⟩:=hl
  have:=sK x hx;omega)) ?_
 refine aB ?_;exact aP (h:=fun _ _=>rfl)
theorem aQa(s:aC)(A1 A2 A3 A4:Option Addr)(n1 k1 n2 k2 n3 k3 n4 k4:Nat)(w:World)(hW:iD w s A1 n1 A2 n2 A3 n3 A4 n4)(gs:Nat)(hs:dU w gs 0 [.slice A1 n1 k1,.slice A2 n2 k2,.slice A3 n3 k3,.slice A4 n4 k4]):
  Cz 67 #[pt gs] w (Rt (iv (Ds (jU s))) w):=by
 have lM:=hW.qZ
 have hn2:=hW.qY
 have sL:=hW.tW
 have uA:=hW.sI
 have dP:=hW.small
 unfold aC.small at dP;obtain⟨hs1,jB,vB,yM,sK,tY⟩:=dP;refine aN func67 ntmps67 ?_;refine aB ?_;refine jN [] (Gu (jU s)) (fun w1 st=>aGH s A1 A2 A3 A4 n1 k1 n2 k2 n3 k3 n4 k4 w1 (hW.le (st.started (by simp)))) ?_;rintro _ w1 q ⟨Ag,cg,rfl,pU⟩ hf' _ aAg
 have Ut:=pU.le hf'
 have oJ:(jU s).length=n2:=by simp[jU];omega
 refine cZ (fun w1 st=>aDd Ag _ cg (jU s) w1 (Ut.le (st.le (by simp))) rfl (by omega) (fun l hl=>by
  simp only[jU,List.mem_map] at hl;obtain⟨x,hx,rfl⟩:=hl
  split<;>simp)) ?_
 refine aB ?_;exact aP (h:=fun _ _=>rfl)
theorem aPW(s:aC)(A1 A2 A3 A4:Option Addr)(n1 k1 n2 k2 n3 k3 n4 k4:Nat)(w:World)(hW:iD w s A1 n1 A2 n2 A3 n3 A4 n4)(gs:Nat)(hs:dU w gs 0 [.slice A1 n1 k1,.slice A2 n2 k2,.slice A3 n3 k3,.slice A4 n4 k4]):
  Cz 76 #[pt gs] w (Rt (iv (Ds (dL s))) w):=by
 have lM:=hW.qZ
 have hn2:=hW.qY
 have sL:=hW.tW
 have uA:=hW.sI
 have dP:=hW.small
 unfold aC.small at dP;obtain⟨hs1,jB,vB,yM,sK,tY⟩:=dP;refine aN func76 ntmps76 ?_;refine aB ?_;refine jN [] (Gu (dL s)) (fun w1 st=>aFu s A1 A2 A3 A4 n1 k1 n2 k2 n3 k3 n4 k4 w1 (hW.le (st.started (by simp)))) ?_;rintro _ w1 q ⟨Ag,cg,rfl,pU⟩ hf' _ aAg
 have Ut:=pU.le hf'
 have oJ:(dL s).length=n4:=by simp[dL];omega
 refine cZ (fun w1 st=>aDd Ag _ cg (dL s) w1 (Ut.le (st.le (by simp))) rfl (by omega) (fun l hl=>by
  simp only[dL,List.mem_map] at hl;obtain⟨x,hx,rfl⟩:=hl
  have:=tY x hx;omega)) ?_
 refine aB ?_;exact aP (h:=fun _ _=>rfl)
theorem aA1(s:aC)(A1 A2 A3 A4:Option Addr)(n1 k1 n2 k2 n3 k3 n4 k4:Nat)(w:World)(hW:iD w s A1 n1 A2 n2 A3 n3 A4 n4):
  Cz 27 #[.agg #[.slice A1 n1 k1,.slice A2 n2 k2,.slice A3 n3 k3,.slice A4 n4 k4]] w (Rt (iv (Wn s)) w):=by
 refine aN func27 ntmps27 ?_;refine aA ?_;refine bN fun g1=>?_;refine aA ?_;refine kA (vf:=[]) (vc:=[pt g1]) rfl rfl (by decide) ?_;refine kA (vf:=[]) (vc:=[pt g1]) rfl rfl (by decide) ?_;refine kA (vf:=[]) (vc:=[pt g1]) rfl rfl (by decide) ?_;refine kA (vf:=[]) (vc:=[pt g1]) rfl rfl (by decide) ?_;refine kA (vf:=[]) (vc:=[pt g1]) rfl rfl (by decide) ?_;refine kA (vf:=[]) (vc:=[pt g1]) rfl rfl (by decide) ?_;refine kA (vf:=[]) (vc:=[pt g1]) rfl rfl (by decide) ?_;refine kA (vf:=[]) (vc:=[pt g1]) rfl rfl (by decide) ?_;refine eK fun g2=>?_
 refine cZ (fun w1 st=>aAs _ _ _ [(54,[pt g1]),(56,[pt g1]),(60,[pt g1]),(63,[pt g1]),(67,[pt g1]),(69,[pt g1]),(72,[pt g1]),(76,[pt g1])] (aA2 s) w1 (st.uU (i:=0) (n:=8) (sz:=1) (cs:=[.func (.func 54) #[] #[pt g1],.func (.func 56) #[] #[pt g1],.func (.func 60) #[] #[pt g1],.func (.func 63) #[] #[pt g1],.func (.func 67) #[] #[pt g1],.func (.func 69) #[] #[pt g1],.func (.func 72) #[] #[pt g1],.func (.func 76) #[] #[pt g1]]) rfl rfl) rfl rfl (by decide) (by simp only[List.mem_cons,List.not_mem_nil,or_false];rintro f (rfl | rfl | rfl | rfl | rfl | rfl | rfl | rfl)<;>kernel_rfl) (fun i f x hf hx w2 eF=>by
  have jF:=(st.started (by simp)).trans (eF.mono st.size)
  unfold aA2 at hx
  match i,hf,hx with
  | 0,hf,hx=>cases hf;cases hx;exact check_1 s A1 A2 A3 A4 n1 k1 n2 k2 n3 k3 n4 k4 w2 (hW.le jF) g1 (st.box (cs:=[.slice A1 n1 k1,.slice A2 n2 k2,.slice A3 n3 k3,.slice A4 n4 k4]) (i:=1) rfl|>.below eF)
  | 1,hf,hx=>cases hf;cases hx;exact aQf s A1 A2 A3 A4 n1 k1 n2 k2 n3 k3 n4 k4 w2 (hW.le jF) g1 (st.box (cs:=[.slice A1 n1 k1,.slice A2 n2 k2,.slice A3 n3 k3,.slice A4 n4 k4]) (i:=1) rfl|>.below eF)
  | 2,hf,hx=>cases hf;cases hx;exact aQd s A1 A2 A3 A4 n1 k1 n2 k2 n3 k3 n4 k4 w2 (hW.le jF) g1 (st.box (cs:=[.slice A1 n1 k1,.slice A2 n2 k2,.slice A3 n3 k3,.slice A4 n4 k4]) (i:=1) rfl|>.below eF)
  | 3,hf,hx=>cases hf;cases hx;exact aQc s A1 A2 A3 A4 n1 k1 n2 k2 n3 k3 n4 k4 w2 (hW.le jF) g1 (st.box (cs:=[.slice A1 n1 k1,.slice A2 n2 k2,.slice A3 n3 k3,.slice A4 n4 k4]) (i:=1) rfl|>.below eF)
  | 4,hf,hx=>cases hf;cases hx;exact aQa s A1 A2 A3 A4 n1 k1 n2 k2 n3 k3 n4 k4 w2 (hW.le jF) g1 (st.box (cs:=[.slice A1 n1 k1,.slice A2 n2 k2,.slice A3 n3 k3,.slice A4 n4 k4]) (i:=1) rfl|>.below eF)
  | 5,hf,hx=>cases hf;cases hx;exact aPZ s A1 A2 A3 A4 n1 k1 n2 k2 n3 k3 n4 k4 w2 (hW.le jF) g1 (st.box (cs:=[.slice A1 n1 k1,.slice A2 n2 k2,.slice A3 n3 k3,.slice A4 n4 k4]) (i:=1) rfl|>.below eF)
  | 6,hf,hx=>cases hf;cases hx;exact aPY s A1 A2 A3 A4 n1 k1 n2 k2 n3 k3 n4 k4 w2 (hW.le jF) g1 (st.box (cs:=[.slice A1 n1 k1,.slice A2 n2 k2,.slice A3 n3 k3,.slice A4 n4 k4]) (i:=1) rfl|>.below eF)
  | 7,hf,hx=>cases hf;cases hx;exact aPW s A1 A2 A3 A4 n1 k1 n2 k2 n3 k3 n4 k4 w2 (hW.le jF) g1 (st.box (cs:=[.slice A1 n1 k1,.slice A2 n2 k2,.slice A3 n3 k3,.slice A4 n4 k4]) (i:=1) rfl|>.below eF)
  | i+8,hf,_=>simp at hf)) ?_
 refine aA ?_;exact aP (h:=fun _ _=>rfl)
end
section
attribute [local irreducible] KC KI KQ
def bG(l:List Bool):List Value:=l.map .bool
theorem aHo{l:List Bool}{i:Nat}{b:Bool}(h:l[i]? =some b):(bG l)[i]? =some (.bool b):=by simp[bG,h]
def hasB(l:List Bool)(i:Nat):Bool:=l[i]?.getD false
def RP(p:Piece)(g o:Nat)(v:Value):Prop:=p.Z g∧p.w.cell? ⟨g,o,none⟩=some v
theorem RP.le{p q:Piece}{g o:Nat}{v:Value}(h:RP p g o v)(hl:p.Le q):RP q g o v:=⟨(hl g h.1).1,(World.cell?_of_block (w:=p.w) (a:=⟨g,o,none⟩) (hl g h.1).2).trans h.2⟩
theorem RP.rd{w0:World}{R:List Piece}{H:List HP}{p:Piece}{g o:Nat}{v:Value}(h:RP p g o v)(hp:p∈R):Rd w0 R H g o v:=Rd.ro hp h.1 h.2
theorem Iter.le{P:Program}{g:FuncId}{lb:List Value}{encs:List (List Value)}{p q:Piece}(h:Iter P g lb encs p)(hl:p.Le q):Iter P g lb encs q:=fun l J Jx W F hq hd=>h l J Jx W F (fun b hb=>⟨(hq b (hl b hb).1).1,((hq b (hl b hb).1).2).trans (hl b hb).2⟩) (fun b hb=>hd b (hl b hb).1)
theorem aOp{α:Type}{l:List α}{s:α→Bool}{k:Nat}{x:α}(hx:l[k]? =some x)(hs:s x=true):(l.filter s)[((l.take k).filter s).length]? =some x∧((l.take (k+1)).filter s).length=((l.take k).filter s).length+1:=by
 have h1:l.take (k+1)=l.take k++[x]:=by rw[List.take_add_one,hx];rfl
 have h2:l=l.take k++x::l.drop (k+1):=by
  have hlt:=(List.getElem?_eq_some_iff.1 hx).1
  have hv:=(List.getElem?_eq_some_iff.1 hx).2
  rw[←hv,List.getElem_cons_drop hlt,List.take_append_drop]
 refine⟨?_,by rw[h1,List.filter_append];simp[hs]⟩
 have h3:l.filter s=(l.take k).filter s++(x::l.drop (k+1)).filter s:=by rw[←List.filter_append,←h2]
 rw[h3,List.getElem?_append_right (Nat.le_refl _),Nat.sub_self,List.filter_cons_of_pos hs];rfl
theorem aG4{α:Type}{l:List α}{s:α→Bool}{k:Nat}{x:α}(hx:l[k]? =some x)(hs:s x=false):((l.take (k+1)).filter s).length=((l.take k).filter s).length:=by
 rw[List.take_add_one,hx,Option.toList_some,List.filter_append];simp[hs]
def zR(fr to:List Bool)(i:Nat):Bool:=hasB to i&& !hasB fr i
def iM(order:List Nat)(fr to:List Bool):List Nat:=order.filter (zR fr to)
def vA(ids:List Nat):List (List Value):=ids.map fun(i:Nat)=>[iv (i:Int)]
theorem aCB(A:Option Addr)(n c i:Nat)(bs:List Bool)(w:World)(hs:aI (all w) 1 A n (bG bs))(hn:n=bs.length)(hi:(i:Int)≤9223372036854775807):
  Cz 166 #[.slice A n c,iv i] w (Rt (.bool (hasB bs i)) w):=by
 refine aN func166 ntmps166 ?_;refine aB ?_;refine bT (t:=9) rfl (fun hg=>?_) (fun hg=>?_)
 ·
  refine aB ?_
  have hin:i < bs.length:=by omega
  obtain⟨b,off,rfl,hz,hc⟩:=hs.2 (by omega);obtain⟨v,hv⟩:∃v,bs[i]? =some v:=⟨_,List.getElem?_eq_getElem hin⟩
  have c1:fS w b (off+i) (.bool v):=⟨hz,hc i _ (aHo hv)⟩
  refine aB ?_;exact aP (h:=fun _ _=>by rw[hasB,hv];rfl)
 ·
  refine aB ?_;exact aP (h:=fun _ _=>by rw[hasB,List.getElem?_eq_none (by omega)];rfl)
theorem aMh(p:Piece)(g1 g2 g3 n Hq nf c ct cf:Nat)(A At Af:Option Addr)(order:List Nat)(fr to:List Bool)(h1:RP p g1 0 (.slice A n c))(h2:RP p g2 0 (.slice At Hq ct))(h3:RP p g3 0 (.slice Af nf cf))
  (hs:aI p 1 A n (aM (dO order))) (hn:n=order.length) (hn2:(n:Int)≤9223372036854775806) (hst:aI p 1 At Hq (bG to)) (hnt:Hq=to.length) (yL:aI p 1 Af nf (bG fr)) (hnf:nf=fr.length) (Ld:∀i∈order,(i:Int)≤9223372036854775807):
  Iter Tryz.prog 260 [pt g1,pt g2,pt g3] (vA (iM order fr to)) p:=by
 unfold Iter;intro l J Jx W F hp hd hJ hF hY;refine aAX (vs:=[.func (.yield l) #[] #[],pt g1,pt g2,pt g3]) func260 rfl ntmps260 (by simp) (aDC hp hd hJ hF) ?_;dsimp only[List.cons_append,List.nil_append];refine jP ?_;refine kC (by kernel_rfl) ?_;refine kV (by kernel_rfl) rfl (h1.rd (by simp)) (by decide) ?_;refine Js (el:=3) (by kernel_rfl) rfl (by decide) ?_;refine dN rfl (by decide) ?_;refine kD ?_;refine eE ?_;refine bL [(9,iv 0),(8,iv n),(7,.slice A n c),(3,pt g3),(2,pt g2),(0,.func (.yield l) #[] #[])] ?_;refine zC ?_;refine aD1 (fun m L e R H=>∃k:Nat,k≤n∧m=n - k∧L=[]∧e=[(9,iv k),(8,iv n),(7,.slice A n c),(3,pt g3),(2,pt g2),(0,.func (.yield l) #[] #[])]∧R=[p,nt W F]∧H=[J (((order.take k).filter (zR fr to)).length),rQ []]) n ⟨0,by omega,rfl,rfl,rfl,rfl,rfl⟩ fun m L e R H hI=>?_;obtain⟨k,hk,rfl,rfl,rfl,rfl,rfl⟩:=hI;refine jP ?_;refine kC (by kernel_rfl) ?_;refine Yb rfl rfl (by decide) ?_;refine kD ?_;refine eE ?_;refine jP ?_;refine aAW rfl (fun h=>?_) (fun h=>?_)
 ·
  refine Gn ?_;refine eE ?_;refine jP ?_;refine zC ?_;refine jP ?_
  have hkn:k < order.length:=by omega
  obtain⟨b,off,rfl,hz,hc⟩:=hs.2 (by omega);obtain⟨i,hi⟩:∃i,order[k]? =some i:=⟨_,List.getElem?_eq_getElem hkn⟩
  have hib:=Ld i (List.mem_of_getElem? hi)
  refine kC (by kernel_rfl) ?_;refine kd (dat (k) (off+k)) ?_;refine kV (by kernel_rfl) rfl (Rd.ro (p:=p) (by simp) hz (hc k (iv (i:Int)) (by simp[aM,dO,hi]))) (by decide) ?_;refine jM rfl (by decide) ?_;refine kD ?_;refine eE ?_;refine jP ?_;refine aHO ?_;refine iR (by kernel_rfl) ?_;refine kV (by kernel_rfl) rfl (h2.rd (by simp)) (by decide) ?_;refine iS ?_;refine iR (by kernel_rfl) ?_;refine dN rfl (by decide) ?_;refine iS ?_;refine iR (by kernel_rfl) ?_;refine cZ (fun w1 st=>aCB _ _ _ i to w1 (hst.le (st.le (by simp))) hnt (by omega)) ?_;refine iS ?_;refine iR (by kernel_rfl) ?_;refine dN rfl (by decide) ?_;refine iS ?_;refine qD (t:=16) rfl (fun hg=>?_) (fun hg=>?_)
  ·
   refine iR (by kernel_rfl) ?_;refine jA rfl rfl ?_;refine kV (by kernel_rfl) rfl (h3.rd (by simp)) (by decide) ?_;refine iS ?_;refine iR (by kernel_rfl) ?_;refine jA rfl rfl ?_;refine dN rfl (by decide) ?_;refine iS ?_;refine iR (by kernel_rfl) ?_;refine jA rfl rfl ?_;refine cZ (fun w1 st=>aCB _ _ _ i fr w1 (yL.le (st.le (by simp))) hnf (by omega)) ?_;refine iS ?_;refine iR (by kernel_rfl) ?_;refine jA rfl rfl ?_;(first | refine aEb rfl (by decide) ?_ | refine Eh rfl (by decide) ?_);refine iS ?_;refine iR (by kernel_rfl) ?_;(first | refine rX rfl rfl (by decide) ?_ | refine rY rfl rfl (by decide) ?_);refine iS ?_;refine iR (by kernel_rfl) ?_;refine dN rfl (by decide) ?_;refine iS ?_;refine qD (t:=22) rfl (fun Uw=>?_) (fun Uw=>?_)
   ·
    refine iR (by kernel_rfl) ?_;refine jA rfl rfl ?_;refine dN rfl (by decide) ?_;refine iS ?_;refine iR (by kernel_rfl) ?_;refine jA rfl rfl ?_;refine dN rfl (by decide) ?_;refine iS ?_
    have hsel:zR fr to i=true:=by rw[zR,hg,Uw];rfl
    obtain⟨gH,mS⟩:=aOp hi hsel;refine aR3 rfl rfl ?_;refine aDz 0 rfl rfl (by decide) (by simp:nt W F∈[p,nt W F]) (vO.refl W) rfl (fun W1 F1 h1 h2 h3=>hY _ [iv i] W1 F1 (by simp[vA,iM,gH]) h1 h2 h3) ?_ ?_
    rotate_left
    ·
     refine iR (by kernel_rfl) ?_;refine jA rfl rfl ?_;refine Eh rfl (by decide) ?_;refine iS ?_;refine iR (by kernel_rfl) ?_;(first | refine rX rfl rfl (by decide) ?_ | refine rY rfl rfl (by decide) ?_);refine iS ?_;refine Jg ?_;refine eE ?_;refine Gp rfl (fun _=>?_) (fun h=>by cases h);refine Mn ?_;refine eE ?_;refine Rn (Hs:=[Jx (((order.take k).filter (zR fr to)).length+1)]) (.inl rfl) rfl fun w1 st=>?_;obtain⟨F',h1,h2⟩:=st.turns hF (by simp[nt]) (i:=0) rfl;exact⟨⟨_,rfl⟩,F',h2,.inr ⟨_,by simp[vA,iM];exact(List.getElem?_eq_some_iff.1 gH).1,h1⟩⟩
    dsimp only[List.set];refine iR (by kernel_rfl) ?_;refine jA rfl rfl ?_;refine Eh rfl (by decide) ?_;refine iS ?_;refine iR (by kernel_rfl) ?_;(first | refine rX rfl rfl (by decide) ?_ | refine rY rfl rfl (by decide) ?_);refine iS ?_;refine Jg ?_;refine eE ?_;refine Gp rfl (fun h=>by cases h) (fun _=>?_)
    ·skip
     refine Gn ?_;refine eE ?_;refine kC (by kernel_rfl) ?_;refine Ei rfl rfl (iT (by omega)) (by decide) ?_;refine dN rfl (by decide) ?_;refine kD ?_;refine eE ?_;exact bL [(9,iv (k+1)),(8,iv n),(7,.slice (some ⟨b,off,none⟩) n c),(3,pt g3),(2,pt g2),(0,.func (.yield l) #[] #[])] (Xg (n - (k+1)) (by omega) ⟨k+1,by omega,rfl,rfl,rfl,rfl,by rw[mS]⟩)
   ·
    refine iR (by kernel_rfl) ?_;refine jL rfl rfl rfl (by decide) ?_;refine iS ?_;refine iR (by kernel_rfl) ?_;refine jL rfl rfl rfl (by decide) ?_;refine iS ?_;refine iR (by kernel_rfl) ?_;refine jL rfl rfl rfl (by decide) ?_;refine iS ?_;refine iR (by kernel_rfl) ?_;refine jL rfl rfl rfl (by decide) ?_;refine iS ?_;refine iR (by kernel_rfl) ?_;(first | refine rX rfl rfl (by decide) ?_ | refine rY rfl rfl (by decide) ?_);refine iS ?_;refine Jg ?_;refine eE ?_;refine Gp rfl (fun h=>by cases h) (fun _=>?_);refine Gn ?_;refine eE ?_;refine kC (by kernel_rfl) ?_;refine Ei rfl rfl (iT (by omega)) (by decide) ?_;refine dN rfl (by decide) ?_;refine kD ?_;refine eE ?_
    have hsel:zR fr to i=false:=by rw[zR,hg];simpa using Uw
    exact bL [(9,iv (k+1)),(8,iv n),(7,.slice (some ⟨b,off,none⟩) n c),(3,pt g3),(2,pt g2),(0,.func (.yield l) #[] #[])] (Xg (n - (k+1)) (by omega) ⟨k+1,by omega,rfl,rfl,rfl,rfl,by rw[aG4 hi hsel]⟩)
  ·
   refine iR (by kernel_rfl) ?_;refine jL rfl rfl rfl (by decide) ?_;refine iS ?_;refine iR (by kernel_rfl) ?_;refine jL rfl rfl rfl (by decide) ?_;refine iS ?_;refine iR (by kernel_rfl) ?_;refine jL rfl rfl rfl (by decide) ?_;refine iS ?_;refine iR (by kernel_rfl) ?_;refine jL rfl rfl rfl (by decide) ?_;refine iS ?_;refine iR (by kernel_rfl) ?_;(first | refine rX rfl rfl (by decide) ?_ | refine rY rfl rfl (by decide) ?_);refine iS ?_;refine iR (by kernel_rfl) ?_;refine dN rfl (by decide) ?_;refine iS ?_;refine iR (by kernel_rfl) ?_;refine jL rfl rfl rfl (by decide) ?_;refine iS ?_;refine iR (by kernel_rfl) ?_;refine jL rfl rfl rfl (by decide) ?_;refine iS ?_;refine iR (by kernel_rfl) ?_;refine jL rfl rfl rfl (by decide) ?_;refine iS ?_;refine iR (by kernel_rfl) ?_;refine jL rfl rfl rfl (by decide) ?_;refine iS ?_;refine iR (by kernel_rfl) ?_;(first | refine rX rfl rfl (by decide) ?_ | refine rY rfl rfl (by decide) ?_);refine iS ?_;refine Jg ?_;refine eE ?_;refine Gp rfl (fun h=>by cases h) (fun _=>?_);refine Gn ?_;refine eE ?_;refine kC (by kernel_rfl) ?_;refine Ei rfl rfl (iT (by omega)) (by decide) ?_;refine dN rfl (by decide) ?_;refine kD ?_;refine eE ?_
   have hsel:zR fr to i=false:=by rw[zR,hg];rfl
   exact bL [(9,iv (k+1)),(8,iv n),(7,.slice (some ⟨b,off,none⟩) n c),(3,pt g3),(2,pt g2),(0,.func (.yield l) #[] #[])] (Xg (n - (k+1)) (by omega) ⟨k+1,by omega,rfl,rfl,rfl,rfl,by rw[aG4 hi hsel]⟩)
 ·
  refine aD2 ?_;refine eE ?_;refine Rn (Hs:=[J (((order.take k).filter (zR fr to)).length)]) (.inr rfl) rfl fun w1 st=>?_;obtain⟨F',h1,h2⟩:=st.turns hF (by simp[nt]) (i:=0) rfl;rw[List.take_of_length_le (by omega)] at h1;exact⟨⟨_,rfl⟩,F',h2,.inl (by simpa[vA,iM] using h1)⟩
end
section
attribute [local irreducible] KC KI KQ
def aHZ(pr msg i v:Int):Value:=.agg #[iv pr,iv msg,.int .u32 i,.int .u32 v]
def wE(pr msg:Int)(val:Nat→Int)(ids:List Nat):List (List Value):=ids.map fun(i:Nat)=>[aHZ pr msg i (val i)]
def Mo(p:Piece)(uS:FuncId)(yC:List Value)(ids:List Nat)(val:Nat→Int):Prop:=∀i∈ids,∀w',p.Le (all w')→Cz uS (Value.int .i64 (i:Int)::yC).toArray w' (Rt (.int .u32 (val i)) w')
theorem Piece.Le.trans'{p q r:Piece}(h:p.Le q)(k:q.Le r):p.Le r:=fun b hb=>⟨(k b (h b hb).1).1,(k b (h b hb).1).2.trans (h b hb).2⟩
theorem Mo.le{p q:Piece}{uS:FuncId}{yC:List Value}{ids:List Nat}{val:Nat→Int}(h:Mo p uS yC ids val)(hl:p.Le q):Mo q uS yC ids val:=fun i hi w' hq=>h i hi w' (hl.trans' hq)
theorem rP{q:Piece}{g o:Nat}{t:TypeId}{cs:List Value}{v:Value}(h:∃F,(HP.aE g t cs).sat F q.w∧∀b,F b→q.Z b)(hv:cs[o]? =some v):RP q g o v:=by
 obtain⟨F,hs,hz⟩:=h;refine⟨hz g hs.1,?_⟩
 have:tK q.w g t cs.toArray:=hs.2
 rw[this.cell]
 simpa using hv
theorem aQO(i v:Int)(g:Nat)(w:World)(h:fS w g 0 (.int .u32 v)):Cz 261 #[iv i,pt g] w (Rt (.int .u32 v) w):=by
 refine aN func261 ntmps261 ?_;refine aB ?_;exact aP (h:=fun _ _=>rfl)
def Rx(v:Int)(y:Value)(w w':World):Prop:=∃g,y=.func (.func 261) #[] #[pt g]∧∀q,(fresh w w').Le q→∀ids,Mo q 261 [pt g] ids fun _=>v
theorem Wq(v:Int)(w:World):Cz 256 #[.int .u32 v] w (fun y w'=>(∃x,y=.returned x∧Rx v x w w')∧Below w.heap.size w w'):=by
 refine aN func256 ntmps256 ?_;refine aA ?_;refine bN fun g1=>?_;refine aA ?_;refine kA (vf:=[]) (vc:=[pt g1]) rfl rfl (by decide) ?_;refine aA ?_;refine dF [] [0] [] (by simp) rfl (by decide) (by decide) fun q hq _ hfr=>?_;refine mI rfl rfl fun w1 st=>⟨⟨_,rfl,g1,rfl,fun q2 hf ids i hi=>?_⟩,st.below (by simp)⟩
 have cQ:=(rP (o:=0) (v:=.int .u32 v) (hq 0 _ (by simp) rfl) rfl).le ((st.mT (by simp) (hfr (by simp) (by simp))).trans' hf)
 intro w' hw'
 have:=cQ.le hw'
 exact aQO _ v g1 w' this
def Mx(p0:Piece)(ids:List Nat)(y:Value)(w w':World):Prop:=∃g1 g2 g3,y=.func (.func 260) #[] #[pt g1,pt g2,pt g3]∧∀q,p0.Le q→(fresh w w').Le q→Iter Tryz.prog 260 [pt g1,pt g2,pt g3] (vA ids) q
theorem Oe(p0:Piece)(n Hq nf c ct cf:Nat)(A At Af:Option Addr)(order:List Nat)(fr to:List Bool)(w:World)
  (hs:aI p0 1 A n (aM (dO order))) (hn:n=order.length) (hn2:(n:Int)≤9223372036854775806) (hst:aI p0 1 At Hq (bG to)) (hnt:Hq=to.length) (yL:aI p0 1 Af nf (bG fr)) (hnf:nf=fr.length) (Ld:∀i∈order,(i:Int)≤9223372036854775807):
  Cz 255 #[.slice A n c,.slice Af nf cf,.slice At Hq ct] w (fun y w'=>(∃x,y=.returned x∧Mx p0 (iM order fr to) x w w')∧Below w.heap.size w w'):=by
 refine aN func255 ntmps255 ?_;refine aA ?_;refine bN fun g1=>?_;refine bN fun g2=>?_;refine bN fun g3=>?_;refine aA ?_;refine kA (vf:=[]) (vc:=[pt g1,pt g3,pt g2]) rfl rfl (by decide) ?_;refine aA ?_;refine dF [] [0,1,2] [] (by simp) rfl (by decide) (by decide) fun q hq _ hfr=>?_;refine mI rfl rfl fun w1 st=>⟨⟨_,rfl,g1,g3,g2,rfl,fun q2 Da hf=>?_⟩,st.below (by simp)⟩
 have hle:=(st.mT (by simp) (hfr (by simp) (by simp))).trans' hf
 exact aMh q2 g1 g3 g2 n Hq nf c ct cf A At Af order fr to ((rP (hq 2 _ (by simp) rfl) rfl).le hle) ((rP (hq 0 _ (by simp) rfl) rfl).le hle) ((rP (hq 1 _ (by simp) rfl) rfl).le hle) (hs.le Da) hn hn2 (hst.le Da) hnt (yL.le Da) hnf Ld
theorem aJH(p:Piece)(g1 g2 g3 g4:Nat)(gf uS:FuncId)(lb yC:List Value)(pr msg:Int)(val:Nat→Int)(ids:List Nat)(h1:RP p g1 0 (.func (.func gf) #[] lb.toArray))(h2:RP p g2 0 (iv pr))(h3:RP p g3 0 (iv msg))(h4:RP p g4 0 (.func (.func uS) #[] yC.toArray))
  (hit:Iter Tryz.prog gf lb (vA ids) p) (Uv:eY Tryz.prog gf=true) (hvc:eY Tryz.prog uS=true) (hval:Mo p uS yC ids val) (Ur:∀i∈ids,i < 4294967296):
  Iter Tryz.prog 259 [pt g1,pt g2,pt g3,pt g4] (wE pr msg val ids) p:=by
 unfold Iter;intro l J Jx W F hp hd hJ hF hY;refine aAX (vs:=[.func (.yield l) #[] #[],pt g1,pt g2,pt g3,pt g4]) func259 rfl ntmps259 (by simp) (aDC hp hd hJ hF) ?_;dsimp only[List.cons_append,List.nil_append];refine jP ?_;refine kC (by kernel_rfl) ?_;refine bN fun g5=>?_;refine kD ?_;refine eE ?_;refine jP ?_;refine kC (by kernel_rfl) ?_;refine kV (by kernel_rfl) rfl (h1.rd (by simp)) (by decide) ?_;refine kD ?_;refine eE ?_;refine bL [(7,.func (.func gf) #[] lb.toArray),(5,pt g5),(4,pt g4),(3,pt g3),(2,pt g2)] ?_;refine zC ?_
 refine aD0 (gf:=gf) (lb:=lb) (encs:=vA ids) (p:=p) rfl Uv hit (by simp) (fun vs hvs=>?_) (by decide) (fun k=>[HP.aE g5 356 [.func (.yield l) #[] #[]],J k]) (fun k=>[HP.aE g5 356 [.func (.yield l) #[] #[]],Jx k])
  (fun k vs e1 H1=>e1=[(6,vs.headD (.tuple #[])),(5,pt g5),(4,pt g4),(3,pt g3),(2,pt g2)]∧H1=[HP.aE g5 356 [.func (.yield l) #[] #[]],J k]) rfl ?_ ?_ ?_ ?_
 ·simp only[vA,List.mem_map] at hvs;obtain⟨i,_,rfl⟩:=hvs;rfl
 ·
  intro l2 k vs W1 q X hvs dP
  obtain⟨i,hi,rfl⟩:∃i,ids[k]? =some i∧vs=[iv (i:Int)]:=by
   simp only[vA,List.getElem?_map,Option.map_eq_some_iff] at hvs;obtain⟨i,h,e⟩:=hvs;exact⟨i,h,e.symm⟩
  refine kC (by kernel_rfl) ?_;refine jM rfl (by decide) ?_;refine kD ?_;refine bL [(6,iv (i:Int)),(5,pt g5),(4,pt g4),(3,pt g3),(2,pt g2)] ?_;exact aD4 ⟨rfl,rfl⟩
 ·
  rintro l2 k vs W1 q X _ _ hvs dP ⟨rfl,rfl⟩
  obtain⟨i,hik,rfl⟩:∃i,ids[k]? =some i∧vs=[iv (i:Int)]:=by
   simp only[vA,List.getElem?_map,Option.map_eq_some_iff] at hvs;obtain⟨i,h,e⟩:=hvs;exact⟨i,h,e.symm⟩
  have hi:=List.mem_of_getElem? hik
  have hib:=Ur i hi
  dsimp only[List.cons_append,List.nil_append,List.headD_cons];refine zC ?_;refine jP ?_;refine aRB 9 (by kernel_rfl) (by kernel_rfl) ?_;simp only[List.take_succ_cons,List.take_zero,List.drop_succ_cons,List.drop_zero];refine fX 0 rfl rfl rfl (It (by kernel_rfl) rfl (Rd.aE 0 rfl rfl)) ?_;refine fX 1 rfl rfl rfl (It (by kernel_rfl) rfl (h2.rd (by simp))) ?_;refine fX 2 rfl rfl rfl (It (by kernel_rfl) rfl (h3.rd (by simp))) ?_;refine fX 3 rfl rfl rfl (lS rfl) ?_;refine fX 4 rfl rfl rfl (Iv (ds:=.int .i64) (by kernel_rfl) (by kernel_rfl) rfl (wrap_u32 (by omega))) ?_;refine fX 5 rfl rfl rfl (It (by kernel_rfl) rfl (h4.rd (by simp))) ?_;refine fX 6 rfl rfl rfl (lS rfl) ?_;refine cJ 7 ?_;refine xZ (f:=uS) (fi:=[]) (ca:=yC) hvc rfl rfl (by decide) (fun w1 st=>hval i hi w1 (st.le (by simp))) ?_;refine mV ?_;refine fX 8 rfl rfl rfl (kS (zs:=[iv 0,iv 0,.int .u32 0,.int .u32 0]) (L:=[(0,1),(1,1),(2,1),(3,1)]) (gY (by kernel_rfl)) (by kernel_rfl) rfl (by simp[fB,gB,Value.cells];rfl)) ?_;refine kJ ?_;refine aR2 ?_;refine aDz 1 rfl rfl (by decide) (by simp:nt W F∈[p,nt W F,q]) dP rfl (fun W2 F2 h1 h2 h3=>hY k _ W2 F2 (by simp[wE,hik];rfl) h1 h2 h3) ?_ ?_
  ·dsimp only[List.set];refine iR (by kernel_rfl) ?_;refine Eh rfl (by decide) ?_;refine iS ?_;refine Jg ?_;refine eE ?_;refine Gp rfl (fun h=>by cases h) (fun _=>?_);refine Gn ?_;refine eE ?_;exact aD3
  ·dsimp only[List.set];refine iR (by kernel_rfl) ?_;refine Eh rfl (by decide) ?_;refine iS ?_;refine Jg ?_;refine eE ?_;refine Gp rfl (fun _=>?_) (fun h=>by cases h);refine Mn ?_;refine eE ?_;exact aHP
 ·
  intro D;dsimp only[List.cons_append,List.nil_append];refine eE ?_;refine Rn (Hs:=[HP.aE g5 356 [.func (.yield l) #[] #[]],J (vA ids).length]) (.inr rfl) rfl fun w1 st=>?_;obtain⟨F',h1,h2⟩:=st.turns hF (by simp[nt]) (i:=1) rfl;exact⟨⟨_,rfl⟩,F',h2,.inl (by simpa[vA,wE] using h1)⟩
 ·intro D k hk;dsimp only[List.cons_append,List.nil_append];refine Mn ?_;refine eE ?_;refine Rn (Hs:=[HP.aE g5 356 [.func (.yield l) #[] #[]],Jx (k+1)]) (.inl rfl) rfl fun w1 st=>?_;obtain⟨F',h1,h2⟩:=st.turns hF (by simp[nt]) (i:=1) rfl;exact⟨⟨_,rfl⟩,F',h2,.inr ⟨k,by simpa[vA,wE] using hk,h1⟩⟩
def Mq(p0:Piece)(encs:List (List Value))(y:Value)(w w':World):Prop:=∃g1 g2 g3 g4,y=.func (.func 259) #[] #[pt g1,pt g2,pt g3,pt g4]∧∀q,p0.Le q→(fresh w w').Le q→Iter Tryz.prog 259 [pt g1,pt g2,pt g3,pt g4] encs q
theorem Nn(p0:Piece)(gf uS:FuncId)(lb yC:List Value)(pr msg:Int)(val:Nat→Int)(ids:List Nat)(w:World)(hit:Iter Tryz.prog gf lb (vA ids) p0)(Uv:eY Tryz.prog gf=true)(hvc:eY Tryz.prog uS=true)(hval:Mo p0 uS yC ids val)(Ur:∀i∈ids,i < 4294967296):
  Cz 254 #[.func (.func gf) #[] lb.toArray,iv pr,iv msg,.func (.func uS) #[] yC.toArray] w (fun y w'=>(∃x,y=.returned x∧Mq p0 (wE pr msg val ids) x w w')∧Below w.heap.size w w'):=by
 refine aN func254 ntmps254 ?_;refine aA ?_;refine bN fun g1=>?_;refine bN fun g2=>?_;refine bN fun g3=>?_;refine bN fun g4=>?_;refine aA ?_;refine kA (vf:=[]) (vc:=[pt g1,pt g2,pt g3,pt g4]) rfl rfl (by decide) ?_;refine aA ?_;refine dF [] [0,1,2,3] [] (by simp) rfl (by decide) (by decide) fun q hq _ hfr=>?_;refine mI rfl rfl fun w1 st=>⟨⟨_,rfl,g1,g2,g3,g4,rfl,fun q2 Da hf=>?_⟩,st.below (by simp)⟩
 have hle:=(st.mT (by simp) (hfr (by simp) (by simp))).trans' hf
 exact aJH q2 g1 g2 g3 g4 gf uS lb yC pr msg val ids ((rP (hq 3 _ (by simp) rfl) rfl).le hle) ((rP (hq 2 _ (by simp) rfl) rfl).le hle) ((rP (hq 1 _ (by simp) rfl) rfl).le hle) ((rP (hq 0 _ (by simp) rfl) rfl).le hle) (hit.le Da) Uv hvc (hval.le Da) Ur
end
section
attribute [local irreducible] KC KI KQ
structure fE where
 pr:Int
 msg:Int
 id:Int
 v:Int
def fE.cells(s:fE):List Value:=[iv s.pr,iv s.msg,.int .u32 s.id,.int .u32 s.v]
def qX(s:fE):Value:=.agg s.cells.toArray
def nT(l:List fE):List (List Value):=l.map fun s=>[qX s]
def pP(pr msg:Int)(val:Nat→Int)(ids:List Nat):List fE:=ids.map fun(i:Nat)=>⟨pr,msg,i,val i⟩
theorem Nq(pr msg:Int)(val:Nat→Int)(ids:List Nat):wE pr msg val ids=nT (pP pr msg val ids):=by
 simp[wE,nT,pP,qX,aHZ,fE.cells]
structure xP where
 gf:FuncId
 lb:List Value
 Ch:List fE
def xP.fn(r:xP):Value:=.func (.func r.gf) #[] r.lb.toArray
def Ck(rows:List xP):List fE:=rows.flatMap (·.Ch)
def sF(rows:List xP)(i:Nat):Nat:=(Ck (rows.take i)).length
theorem aLP{rows:List xP}{i:Nat}{r:xP}(h:rows[i]? =some r):sF rows (i+1)=sF rows i+r.Ch.length:=by
 simp[sF,Ck,List.take_add_one,h]
theorem aFp{rows:List xP}{i k:Nat}{r:xP}{s:fE}(h:rows[i]? =some r)(hs:r.Ch[k]? =some s):(Ck rows)[sF rows i+k]? =some s:=by
 have hlt:=(List.getElem?_eq_some_iff.1 h).1
 have hv:=(List.getElem?_eq_some_iff.1 h).2
 have h2:rows=rows.take i++r::rows.drop (i+1):=by
  rw[←hv,List.getElem_cons_drop hlt,List.take_append_drop]
 have h3:Ck rows=Ck (rows.take i)++(r.Ch++Ck (rows.drop (i+1))):=by
  conv=>lhs;rw[h2]
  simp[Ck]
 have hk:=(List.getElem?_eq_some_iff.1 hs).1
 rw[h3,sF,List.getElem?_append_right (by omega),Nat.add_sub_cancel_left,List.getElem?_append_left hk];exact hs
theorem aLQ{rows:List xP}{i:Nat}(h:rows.length≤i):sF rows i=(Ck rows).length:=by rw[sF,List.take_of_length_le h]
theorem aQY(p:Piece)(g1 n c:Nat)(A:Option Addr)(rows:List xP)(h1:RP p g1 0 (.slice A n c))(hs:aI p 1 A n (rows.map xP.fn))(hn:n=rows.length)(hn2:(n:Int)≤1000000)
  (hrows:∀r∈rows,eY Tryz.prog r.gf=true∧Iter Tryz.prog r.gf r.lb (nT r.Ch) p):
  Iter Tryz.prog 258 [pt g1] (nT (Ck rows)) p:=by
 unfold Iter;intro l J Jx W F hp hd hJ hF hY;refine aAX (vs:=[.func (.yield l) #[] #[],pt g1]) func258 rfl ntmps258 (by simp) (aDC hp hd hJ hF) ?_;dsimp only[List.cons_append,List.nil_append];refine jP ?_;refine kC (by kernel_rfl) ?_;refine bN fun g2=>?_;refine kD ?_;refine eE ?_;refine jP ?_;refine kC (by kernel_rfl) ?_;refine kV (by kernel_rfl) rfl (h1.rd (by simp)) (by decide) ?_;refine Js (el:=346) (by kernel_rfl) rfl (by decide) ?_;refine dN rfl (by decide) ?_;refine kD ?_;refine eE ?_;refine bL [(8,iv 0),(7,iv n),(6,.slice A n c),(2,pt g2)] ?_;refine zC ?_;refine aD1 (fun m L e R H=>∃i:Nat,i≤n∧m=n - i∧e=[(8,iv i),(7,iv n),(6,.slice A n c),(2,pt g2)]∧R=[p,nt W F]∧H=[HP.aE g2 356 [.func (.yield l) #[] #[]],J (sF rows i),rQ L]) n ⟨0,by omega,rfl,rfl,rfl,rfl⟩ fun m L e R H hI=>?_;obtain⟨i,hi,rfl,rfl,rfl,rfl⟩:=hI;refine jP ?_;refine kC (by kernel_rfl) ?_;refine Yb rfl rfl (by decide) ?_;refine kD ?_;refine eE ?_;refine jP ?_;refine aAW rfl (fun h=>?_) (fun h=>?_)
 ·
  refine Gn ?_;refine eE ?_;refine jP ?_;refine zC ?_;refine jP ?_
  have hin:i < rows.length:=by omega
  obtain⟨b,off,rfl,hz,hc⟩:=hs.2 (by omega);obtain⟨r,hr⟩:∃r,rows[i]? =some r:=⟨_,List.getElem?_eq_getElem hin⟩
  obtain⟨hcb,hit⟩:=hrows r (List.mem_of_getElem? hr)
  have hoff:=aLP hr
  refine kC (by kernel_rfl) ?_;refine kd (dat (i) (off+i)) ?_;refine kV (by kernel_rfl) rfl (Rd.ro (p:=p) (by simp) hz (hc i (xP.fn r) (by simp[hr]))) (by decide) ?_;refine jM rfl (by decide) ?_;refine kD ?_;refine eE ?_;refine jP ?_;refine kC (by kernel_rfl) ?_;refine dN rfl (by decide) ?_;refine kD ?_;refine eE ?_;refine zC ?_;refine bL [(12,xP.fn r),(8,iv i),(7,iv n),(6,.slice (some ⟨b,off,none⟩) n c),(2,pt g2)] ?_
  refine aD0 (gf:=r.gf) (lb:=r.lb) (encs:=nT r.Ch) (p:=p) rfl hcb hit (by simp) (fun vs hvs=>?_) (by decide) (fun k=>[HP.aE g2 356 [.func (.yield l) #[] #[]],J (sF rows i+k)]) (fun k=>[HP.aE g2 356 [.func (.yield l) #[] #[]],Jx (sF rows i+k)])
   (fun k vs e1 H1=>∃(g3:Nat) (s:fE),vs=[qX s]∧e1=[(5,pt g3),(2,pt g2)]∧H1=[HP.aE g3 293 s.cells,HP.aE g2 356 [.func (.yield l) #[] #[]],J (sF rows i+k)]) rfl ?_ ?_ ?_ ?_
  ·simp only[nT,List.mem_map] at hvs;obtain⟨s,_,rfl⟩:=hvs;rfl
  ·
   intro l2 k vs W1 q X hvs dP
   obtain⟨s,rfl⟩:∃s,vs=[qX s]:=by
    simp only[nT,List.getElem?_map,Option.map_eq_some_iff] at hvs;obtain⟨s,_,e⟩:=hvs;exact⟨s,e.symm⟩
   dsimp only[List.cons_append,List.nil_append];refine kC (by kernel_rfl) ?_;refine bX fun g3=>?_;refine qC 0 rfl rfl rfl (by kernel_rfl) (by simp[qX,fE.cells,Value.cells,Value.oneCell']) (by simp[qX,fE.cells,Value.cells]) ?_;rw[show fP [Value.int .i64 0,iv 0,.int .u32 0,.int .u32 0] 0 (qX s).cells.toList=s.cells by simp[fP,qX,fE.cells,Value.cells]];dsimp only[List.set];refine kD ?_;refine bL [(5,pt g3),(2,pt g2)] ?_;exact aD4 (H1:=[HP.aE g3 293 s.cells,HP.aE g2 356 [.func (.yield l) #[] #[]],J (sF rows i+k)]) ⟨g3,s,rfl,rfl,rfl⟩
  ·
   rintro l2 k vs W1 q X _ _ hvs dP ⟨g3,s,rfl,rfl,rfl⟩
   have hsk:r.Ch[k]? =some s:=by
    simp only[nT,List.getElem?_map,Option.map_eq_some_iff] at hvs;obtain⟨s',h,e⟩:=hvs
    have:s'=s:=by
     cases s;cases s';simp[qX,fE.cells] at e;simp[e]
    exact this▸h
   have Ap:=aFp hr hsk
   dsimp only[List.cons_append,List.nil_append];refine zC ?_;refine jP ?_;refine aHO ?_;refine iR (by kernel_rfl) ?_;refine kV (by kernel_rfl) rfl (Rd.aE 1 rfl rfl) (by decide) ?_;refine iS ?_;refine iR (by kernel_rfl) ?_;refine xX 4 (by kernel_rfl) rfl (aO.whole 0 rfl) rfl (by decide) ?_;refine iS ?_;refine aDz 2 rfl rfl (by decide) (by simp:nt W F∈[p,nt W F,q]) dP rfl (fun W2 F2 h1 h2 h3=>hY (sF rows i+k) [qX s] W2 F2 (by simp[nT,Ap]) h1 h2 h3) ?_ ?_
   ·dsimp only[List.set];refine iR (by kernel_rfl) ?_;refine Eh rfl (by decide) ?_;refine iS ?_;refine Jg ?_;refine eE ?_;refine Gp rfl (fun h=>by cases h) (fun _=>?_);refine Gn ?_;refine eE ?_;refine aT [1,2,3] rfl (by decide) (fun _ hp=>hp) ?_;exact aD3
   ·dsimp only[List.set];refine iR (by kernel_rfl) ?_;refine Eh rfl (by decide) ?_;refine iS ?_;refine Jg ?_;refine eE ?_;refine Gp rfl (fun _=>?_) (fun h=>by cases h);refine Mn ?_;refine eE ?_;refine aT [1,2,3] rfl (by decide) (fun _ hp=>hp) ?_;exact aHP
  rotate_left
  ·
   intro D k hk;dsimp only[List.cons_append,List.nil_append];refine Mn ?_;refine eE ?_;refine Rn (Hs:=[HP.aE g2 356 [.func (.yield l) #[] #[]],Jx (sF rows i+(k+1))]) (.inl rfl) rfl fun w1 st=>?_;obtain⟨F',h1,h2⟩:=st.turns hF (by simp[nt]) (i:=1) rfl;obtain⟨s,jB⟩:∃s,r.Ch[k]? =some s:=⟨_,List.getElem?_eq_getElem (by simpa[nT] using hk)⟩
   have:=(List.getElem?_eq_some_iff.1 (aFp hr jB)).1
   exact⟨⟨_,rfl⟩,F',h2,.inr ⟨sF rows i+k,by simpa[nT] using this,h1⟩⟩
  intro D;dsimp only[List.cons_append,List.nil_append];refine eE ?_;refine kC (by kernel_rfl) ?_;refine Ei rfl rfl (iT (by omega)) (by decide) ?_;refine dN rfl (by decide) ?_;refine kD ?_;refine eE ?_;exact bL [(8,iv (i+1)),(7,iv n),(6,.slice (some ⟨b,off,none⟩) n c),(2,pt g2)] (Xg (n - (i+1)) (by omega) ⟨i+1,by omega,rfl,rfl,rfl,by rw[hoff];simp[nT]⟩)
 ·
  refine aD2 ?_;refine eE ?_;refine Rn (Hs:=[HP.aE g2 356 [.func (.yield l) #[] #[]],J (sF rows i)]) (.inr rfl) rfl fun w1 st=>?_;obtain⟨F',h1,h2⟩:=st.turns hF (by simp[nt]) (i:=1) rfl;rw[aLQ (by omega)] at h1;exact⟨⟨_,rfl⟩,F',h2,.inl (by simpa[nT] using h1)⟩
def zX(s:aC)(d:Nat):Int:=if(s.domains[d]?.map (·.ret)).getD false then 2 else 0
theorem aRa(d gs n2 k2:Nat)(s:aC)(A2:Option Addr)(w:World)(h2:fS w gs 1 (.slice A2 n2 k2))(Pm:jX (fJ (all w)) tI 88 3 A2 n2 s.domains)(hn2:(n2:Int)≤1000000)(hd:d < n2):
  Cz 257 #[iv d,pt gs] w (Rt (.int .u32 (zX s d)) w):=by
 have hl:n2=s.domains.length:=by obtain⟨_,_,h,_⟩:=Pm;exact h
 obtain⟨x,hx⟩:∃x,s.domains[d]? =some x:=⟨_,List.getElem?_eq_getElem (by omega)⟩
 obtain⟨b,off,r,rfl,hrl,rfl,hro⟩:=Pm.row hx;refine aN func257 ntmps257 ?_;refine eA ?_;refine fR ?_;refine jM rfl (by decide) ?_;refine fD ?_;refine eA ?_;refine eA ?_;refine fR ?_;refine xY (off:=1) (by kernel_rfl) rfl (by decide) ?_;refine kV (by kernel_rfl) rfl (Xq (by simp) h2) (by decide) ?_;refine dN rfl (by decide) ?_;refine kd (dat (d) (off+d*3)) ?_;refine xY (off:=2) (by kernel_rfl) rfl (by decide) ?_;refine kV (by kernel_rfl) rfl (Xq (by simp) (hro.at_ (j:=2) (v:=.bool x.ret) rfl)) (by decide) ?_;refine fD ?_;refine pE rfl (fun h=>?_) (fun h=>?_)
 ·
  refine aB ?_;exact aP (h:=fun _ _=>by rw[zX,hx];simp[h])
 ·
  refine aB ?_;exact aP (h:=fun _ _=>by rw[zX,hx];simp[h])
theorem aQZ(p:Piece)(gs n2 k2:Nat)(s:aC)(A2:Option Addr)(h2:RP p gs 1 (.slice A2 n2 k2))(Pm:jX (fJ p) tI 88 3 A2 n2 s.domains)(hn2:(n2:Int)≤1000000)(ids:List Nat)(Ur:∀i∈ids,i < n2):Mo p 257 [pt gs] ids (zX s):=fun i hi w' hw'=>
 aRa i gs n2 k2 s A2 w' (h2.le hw') (Pm.mono (kE hw') (fun _ _ h=>h)) hn2 (Ur i hi)
end
section
def aDR(n:Nat)(xs:List Value)(v:Value)(hs:List HP)(_:Piece):Prop:=∃A c,v=.slice A n c∧hs=[HP.own 3 1 (.slice A n c) n xs]
theorem aHd(A:Option Addr)(n c:Nat)(xs:List Value)(w:World)(hs:aI (all w) 1 A n xs)(h1:∀u∈xs,u.oneCell'=true)(hn:n≤1000000):
  Cz 252 #[.slice A n c] w (fun y w'=>(∃v hs q,y=.returned v∧q.w=w'∧aDR n xs v hs q∧gI w hs q)∧Below w.heap.size w w'):=by
 refine aN func252 ntmps252 ?_;refine aB ?_;refine Sb (el:=3) (by kernel_rfl) rfl (by decide) ?_;refine aB ?_;refine pE rfl (fun hA=>?_) (fun hA=>?_)
 ·
  refine aB ?_
  have hn0:n=0:=by
   rcases Nat.eq_zero_or_pos n with h | h
   ·exact h
   ·obtain⟨b,off,rfl,_⟩:=hs.2 h;cases hA
  subst hn0
  have hx:xs=[]:=List.eq_nil_of_length_eq_zero (by simpa using hs.1)
  subst hx;refine lU 3 1 ?_;refine dF [] [] [0] (by simp) rfl (by decide) (by decide) fun q _ _ hfr=>?_;exact aP (h:=fun w1 st=>⟨_,_,⟨w1,q.Z⟩,rfl,rfl,⟨_,_,rfl,rfl⟩,st.newR (by simp) (by simp) (hfr (by simp) (by simp))⟩)
 ·
  refine aB ?_;refine Rz (el:=3) (sz:=1) (by kernel_rfl) (by kernel_rfl) (by decide) fun g=>?_;refine Mm 0 1 0 rfl rfl (by omega) ?_;dsimp only[List.set];refine aB ?_;refine iF 0 1 8 n (n':=n) (el:=3) (by kernel_rfl) (by kernel_rfl) (by decide) rfl rfl rfl (sA (by simp) hs) h1 (by omega) (by omega) (by omega) (by decide) fun A' k'=>?_;dsimp only[List.set,List.nil_append];refine aB ?_;refine dF [] [] [0] (by simp) rfl (by decide) (by decide) fun q _ _ hfr=>?_;exact aP (h:=fun w1 st=>⟨_,_,⟨w1,q.Z⟩,rfl,rfl,⟨_,_,rfl,rfl⟩,st.newR (by simp) (by simp) (hfr (by simp) (by simp))⟩)
def Na(n:Nat)(xs:List Value)(v:Value)(hs:List HP)(_:Piece):Prop:=∃A c,v=.slice A n c∧hs=[HP.own 4 1 (.slice A n c) n xs]
theorem Qp(A:Option Addr)(n c:Nat)(xs:List Value)(w:World)(hs:aI (all w) 1 A n xs)(h1:∀u∈xs,u.oneCell'=true)(hn:n≤1000000):
  Cz 171 #[.slice A n c] w (fun y w'=>(∃v hs q,y=.returned v∧q.w=w'∧Na n xs v hs q∧gI w hs q)∧Below w.heap.size w w'):=by
 refine aN func171 ntmps171 ?_;refine aB ?_;refine Sb (el:=4) (by kernel_rfl) rfl (by decide) ?_;refine aB ?_;refine pE rfl (fun hA=>?_) (fun hA=>?_)
 ·
  refine aB ?_
  have hn0:n=0:=by
   rcases Nat.eq_zero_or_pos n with h | h
   ·exact h
   ·obtain⟨b,off,rfl,_⟩:=hs.2 h;cases hA
  subst hn0
  have hx:xs=[]:=List.eq_nil_of_length_eq_zero (by simpa using hs.1)
  subst hx;refine lU 4 1 ?_;refine dF [] [] [0] (by simp) rfl (by decide) (by decide) fun q _ _ hfr=>?_;exact aP (h:=fun w1 st=>⟨_,_,⟨w1,q.Z⟩,rfl,rfl,⟨_,_,rfl,rfl⟩,st.newR (by simp) (by simp) (hfr (by simp) (by simp))⟩)
 ·
  refine aB ?_;refine Rz (el:=4) (sz:=1) (by kernel_rfl) (by kernel_rfl) (by decide) fun g=>?_;refine Mm 0 1 0 rfl rfl (by omega) ?_;dsimp only[List.set];refine aB ?_;refine iF 0 1 1 n (n':=n) (el:=4) (by kernel_rfl) (by kernel_rfl) (by decide) rfl rfl rfl (sA (by simp) hs) h1 (by omega) (by omega) (by omega) (by decide) fun A' k'=>?_;dsimp only[List.set,List.nil_append];refine aB ?_;refine dF [] [] [0] (by simp) rfl (by decide) (by decide) fun q _ _ hfr=>?_;exact aP (h:=fun w1 st=>⟨_,_,⟨w1,q.Z⟩,rfl,rfl,⟨_,_,rfl,rfl⟩,st.newR (by simp) (by simp) (hfr (by simp) (by simp))⟩)
theorem aET(A:Option Addr)(n c:Nat)(xs:List Value)(w:World)(F:Nat→Prop)(hp:(HP.own 3 1 (.slice A n c) n xs).sat F w)(hF:∀b,F b→b < w.heap.size)(h1:∀u∈xs,u.oneCell'=true)(hn:xs.length=n)(hn2:n≤1000000)(hA:0 < n→∃g,A=some ⟨g,0,none⟩):
  Cz 253 #[.slice A n c] w (Wr (.tuple #[]) (HP.own 3 1 (.slice A n c) n xs.reverse) w F):=by
 refine cS func253 ntmps253 hp hF ?_;refine aB ?_;refine bL [(3,iv ((n:Int) - 1)),(2,iv 0),(0,.slice A n c)] ?_;refine aB ?_;refine eV (fun m e R H=>∃(k:Nat) (l:List Value),m=n - k∧2*k≤n∧Jl xs k l∧e=[(3,iv ((n:Int) - 1 - k)),(2,iv k),(0,.slice A n c)]∧R=[⟨w,fun b=>b < w.heap.size∧¬F b⟩]∧H=[HP.own 3 1 (.slice A n c) n l]) n ⟨0,xs,by omega,by omega,.zero xs,by simp,rfl,rfl⟩ fun m e R H hI=>?_;obtain⟨k,l,rfl,hk,hl,rfl,rfl,rfl⟩:=hI;refine aB ?_;refine aG rfl (fun h=>?_) (fun h=>?_)
 ·
  refine oA ?_;refine eB ?_;refine eA ?_
  have h':(k:Int) < (n:Int) - 1 - k:=h
  have uC:=hl.1
  obtain⟨g,rfl⟩:∃g,A=some ⟨g,0,none⟩:=hA (by omega);obtain⟨u,hu⟩:∃u,l[xs.length - 1 - k]? =some u:=⟨_,List.getElem?_eq_getElem (by omega)⟩
  obtain⟨v,hv⟩:∃u,l[k]? =some u:=⟨_,List.getElem?_eq_getElem (by omega)⟩
  have hou:u.oneCell'=true:=by
   have:=hl.2 _ (by omega:xs.length - 1 - k < xs.length);rw[hu] at this
   split at this<;>exact h1 _ (List.mem_of_getElem? this.symm)
  have hov:v.oneCell'=true:=by
   have:=hl.2 _ (by omega:k < xs.length);rw[hv] at this
   split at this<;>exact h1 _ (List.mem_of_getElem? this.symm)
  refine Gj 0 rfl fun cs Po nC hc3 hc4=>?_;dsimp only[List.set];rw[Nat.mul_one] at Po nC
  have hcu:=aEy nC hu
  have Vg:=aEy nC hv
  refine xN ?_;refine aRz 16 (by kernel_rfl) (by kernel_rfl) ?_;refine fH 0 rfl rfl rfl (by decide) (lS rfl) (by kernel_rfl) (fun _ _ _ h=>h) (fun _ h=>h.bare) ?_;refine fH 1 rfl rfl rfl (by decide) (lS rfl) (by kernel_rfl) (fun _ _ _ h=>h) (fun _ h=>h.bare) ?_;refine fH 2 rfl rfl rfl (by decide) (lS rfl) (by kernel_rfl) (fun _ _ _ h=>h) (fun _ h=>h.bare) ?_;refine fH 3 rfl rfl rfl (by decide) (lS rfl) (by kernel_rfl) (fun _ _ _ h=>h) (fun _ h=>h.bare) ?_;refine fH 4 rfl rfl rfl (by decide) (lS rfl) (by kernel_rfl) (fun _ _ _ h=>h) (fun _ h=>h.bare) ?_;refine fH 5 rfl rfl rfl (by decide) (lS rfl) (by kernel_rfl) (fun _ _ _ h=>h) (fun _ h=>h.bare) ?_;refine fH 8 rfl rfl rfl (by decide) (lS rfl) (by kernel_rfl) (fun _ _ _ h=>h) (fun _ h=>h.bare) ?_;refine fH 9 rfl rfl rfl (by decide) (lS rfl) (by kernel_rfl) (fun _ _ _ h=>h) (fun _ h=>h.bare) ?_;refine fH 6 rfl rfl rfl (by decide) (aCY (n - 1 - k) (n - 1 - k) (el:=3) (sz:=1) (by kernel_rfl) (by kernel_rfl) rfl rfl (by omega) (by omega) (by omega)) (by kernel_rfl) (fun _ _ _ h=>h) (fun _ h=>h.bare) ?_;refine fH 10 rfl rfl rfl (by decide) (aCY (k) (k) (el:=3) (sz:=1) (by kernel_rfl) (by kernel_rfl) rfl rfl (by omega) (by omega) (by omega)) (by kernel_rfl) (fun _ _ _ h=>h) (fun _ h=>h.bare) ?_;refine Ji 7 11 rfl rfl (by kernel_rfl) ?_ ?_
  ·refine kV (by kernel_rfl) rfl (Rd.aE 0 rfl (by rw[←hn];exact hcu)) (by decide) ?_;refine gX ?_;refine gP ?_;refine kK (fun _ h=>h.bare) ?_;refine cJ 11 ?_;refine kV (by kernel_rfl) rfl (Rd.aE 0 rfl Vg) (by decide) ?_;refine gX ?_;refine gP ?_;refine kK (fun _ h=>h.bare) ?_;refine cJ 12 ?_;refine kd (dat (k) (k)) ?_;refine gX ?_;refine gP ?_;refine kK (fun _ h=>h.bare) ?_;refine cJ 13 ?_;refine rT 0 rfl (by kernel_rfl) rfl rfl hou (by omega) ?_;dsimp only[List.set];refine gX ?_;refine gP ?_;refine kK (fun _ h=>h.bare) ?_;refine cJ 14 ?_;refine kd (dat (n - 1 - k) (n - 1 - k)) ?_;refine gX ?_;refine gP ?_;refine kK (fun _ h=>h.bare) ?_;refine cJ 15 ?_;refine rT 0 rfl (by kernel_rfl) rfl rfl hov (by simp;omega) ?_;dsimp only[List.set];refine gX ?_;refine gP ?_;refine kK (fun _ h=>h.bare) ?_;refine kJ ?_;refine eB ?_;refine fR ?_;refine dN rfl (by decide) ?_;refine Ei rfl rfl (iT (by omega)) (by decide) ?_;refine dN rfl (by decide) ?_;refine Xz rfl rfl (iT (by omega)) (by decide) ?_;refine jM rfl (by decide) ?_;refine jM rfl (by decide) ?_;refine fD ?_;refine Ea 0 (n:=n) (c:=c) (sz:=1) (xs:=(l.set k u).set (xs.length - 1 - k) v) rfl (by simp;omega) (by rw[Nat.mul_one,hn];exact take_set (take_set nC)) hc3 hc4 ?_;dsimp only[List.set];exact bL [(3,iv ((n:Int) - 1 - k - 1)),(2,iv ((k:Int)+1)),(0,.slice (some ⟨g,0,none⟩) n c)] (gQ (n - (k+1)) (by omega) ⟨k+1,_,rfl,by omega,hl.next (by omega) hu hv,(by rw[show(n:Int) - 1 - k - 1=(n:Int) - 1 - ((k+1:Nat):Int) by omega];rfl),rfl,rfl⟩)
  ·refine kV (by kernel_rfl) rfl (Rd.aE 0 rfl Vg) (by decide) ?_;refine gX ?_;refine gP ?_;refine kK (fun _ h=>h.bare) ?_;refine cJ 7 ?_;refine kV (by kernel_rfl) rfl (Rd.aE 0 rfl (by rw[←hn];exact hcu)) (by decide) ?_;refine gX ?_;refine gP ?_;refine kK (fun _ h=>h.bare) ?_;refine cJ 12 ?_;refine kd (dat (k) (k)) ?_;refine gX ?_;refine gP ?_;refine kK (fun _ h=>h.bare) ?_;refine cJ 13 ?_;refine rT 0 rfl (by kernel_rfl) rfl rfl hou (by omega) ?_;dsimp only[List.set];refine gX ?_;refine gP ?_;refine kK (fun _ h=>h.bare) ?_;refine cJ 14 ?_;refine kd (dat (n - 1 - k) (n - 1 - k)) ?_;refine gX ?_;refine gP ?_;refine kK (fun _ h=>h.bare) ?_;refine cJ 15 ?_;refine rT 0 rfl (by kernel_rfl) rfl rfl hov (by simp;omega) ?_;dsimp only[List.set];refine gX ?_;refine gP ?_;refine kK (fun _ h=>h.bare) ?_;refine kJ ?_;refine eB ?_;refine fR ?_;refine dN rfl (by decide) ?_;refine Ei rfl rfl (iT (by omega)) (by decide) ?_;refine dN rfl (by decide) ?_;refine Xz rfl rfl (iT (by omega)) (by decide) ?_;refine jM rfl (by decide) ?_;refine jM rfl (by decide) ?_;refine fD ?_;refine Ea 0 (n:=n) (c:=c) (sz:=1) (xs:=(l.set k u).set (xs.length - 1 - k) v) rfl (by simp;omega) (by rw[Nat.mul_one,hn];exact take_set (take_set nC)) hc3 hc4 ?_;dsimp only[List.set];exact bL [(3,iv ((n:Int) - 1 - k - 1)),(2,iv ((k:Int)+1)),(0,.slice (some ⟨g,0,none⟩) n c)] (gQ (n - (k+1)) (by omega) ⟨k+1,_,rfl,by omega,hl.next (by omega) hu hv,(by rw[show(n:Int) - 1 - k - 1=(n:Int) - 1 - ((k+1:Nat):Int) by omega];rfl),rfl,rfl⟩)
 ·
  refine aB ?_
  have h':¬(k:Int) < (n:Int) - 1 - k:=h
  have:=hl.all (by omega)
  subst this;exact fC 0 hF
end
section
theorem Ou(l:List Int):∀u∈aM l,u.oneCell'=true:=by
 intro u hu;simp only[aM,List.mem_map] at hu;obtain⟨x,_,rfl⟩:=hu;rfl
theorem aFl{F:Nat→Prop}{w:World}{el:TypeId}{sz n c:Nat}{A:Option Addr}{xs:List Value}(h:(HP.own el sz (.slice A n c) n xs).sat F w)(hn:0 < n):∃g,A=some ⟨g,0,none⟩:=by
 rcases h.2.2 with⟨_,h0⟩ | ⟨g,cap,cur,hv,_⟩
 ·omega
 ·injection hv with hA
  exact⟨g,hA⟩
theorem aEU(l:List Nat):(aM (dO l)).reverse=aM (dO l.reverse):=by simp[aM,dO]
section
variable{P:Program}{N:cF}{w0:World}{e:Env}{R R' R0:List Piece}{H H0:List HP}{Q:Exit→Act→World→Prop}{ops:Array Oper}{m fuel dA d:Nat}{listed:Array Bool}{t ty:TypeId}{pos:String}{aH:Array Edge}{cs:List Value}{v:Value}
theorem yS{x:Operand}{g o:Nat}{p:Piece}(h:RP p g o v)(hp:p∈R:=by simp)(ht:tR P t=true:=by kernel_rfl)(hx:e.ev x=some (.pointer (some ⟨g,o,none⟩)):=by rfl):bQ P N w0 e R H ⟨some d,.load t x,ty,pos,aH,none⟩ v:=It ht hx (h.rd hp)
theorem rL{i j:Nat}{M:Option Nat}(i':Nat)(R':List Piece){oi:Oper}(step:∀M,XK N w0 (wpList P ops (Exit.then (rM P w0 ops Q R0 H0 m (Dj M fuel) (yJ M j (listed.setIfInBounds i true)) i') Q) [oi]) (uF M dA ((d,v)::e)) R' (wT M t cs H))(hi:ops[i']? =some oi:=by rfl)(hj:ops[j]? =some ⟨some dA,.alloc t,ty,pos,aH,none⟩:=by rfl)(ht:Cb P t cs:=by exact gY (by kernel_rfl))(hd:dA < N.n:=by decide)
  (Cw:Region.ready .any ops (listed.setIfInBounds i true)=[i',j]:=by kernel_rfl) (dQ:Region.ready .any ops ((listed.setIfInBounds i true).setIfInBounds j true)=[i']:=by kernel_rfl) (hS:∀w,St w0 R' H w→St w0 R0 H0 w:=by exact fun _ h=>h.aY) (hR:∀p∈R',p∈R:=by simp) (hij:i≠j:=by decide) (hb:Nat.beq d dA=false:=by rfl):
  XK N w0 (wpList P ops (Exit.then (rM P w0 ops Q R0 H0 m (Dj M (fuel+1)) (yJ M j listed) i) Q) []) ((d,v)::uF M dA e) R (wT M t cs H):=vK hR (gX (gP (Xh hij hb hS (Ro i' j hi hj ht hd Cw dQ hS step))))
end
def vJ(s:aC)(dl cl ll:List Nat)(fd fc fl td tc tl:List Bool):List fE:=
 pP 17 4 (fun _=>1) (iM (dl) fd td)++(pP 20 7 (fun _=>1) (iM (cl) fc tc)++(pP 22 4 (fun _=>0) (iM (ll) fl tl)++(pP 22 4 (fun _=>1) (iM (ll) tl fl)++(pP 20 7 (fun _=>0) (iM (cl.reverse) tc fc)++(pP 17 4 (zX s) (iM (dl.reverse) td fd))))))
def aIB(p0:Piece)(Ch:List fE)(y:Value)(w w':World):Prop:=∃g,y=.func (.func 258) #[] #[pt g]∧∀q,p0.Le q→(fresh w w').Le q→Iter Tryz.prog 258 [pt g] (nT Ch) q in
theorem aQU(p0:Piece)(s:aC)(A1 A2 A3 A4 Ad Ac Al Fd Fc Fl Td Tc Tl:Option Addr)(n1 k1 n2 k2 n3 k3 n4 k4 nd cd nc cc nl kl xB Fs xC Ft xA Fq wC Ep wD pN wB Em:Nat)(dl cl ll:List Nat)(fd fc fl td tc tl:List Bool)(w:World)
  (Da:p0.Le (all w)) (Pm:jX (fJ p0) tI 88 3 A2 n2 s.domains) (hn2:(n2:Int)≤1000000)
  (lB:aI p0 1 Ad nd (aM (dO dl))) (hnd:nd=dl.length) (aFW:nd≤1000000) (Vd:∀i∈dl,i < n2)
  (jT:aI p0 1 Ac nc (aM (dO cl))) (hnc:nc=cl.length) (aFX:nc≤1000000) (aAk:∀i∈cl,i < 1000000)
  (nW:aI p0 1 Al nl (aM (dO ll))) (fL:nl=ll.length) (aFU:nl≤1000000) (aAf:∀i∈ll,i < 1000000)
  (Ph:aI p0 1 Fd xB (bG fd)) (aAi:xB=fd.length) (Oz:aI p0 1 Td wC (bG td)) (aAc:wC=td.length) (Pj:aI p0 1 Fc xC (bG fc)) (aAj:xC=fc.length) (Pa:aI p0 1 Tc wD (bG tc)) (aAd:wD=tc.length) (hfl:aI p0 1 Fl xA (bG fl)) (aAh:xA=fl.length) (sJ:aI p0 1 Tl wB (bG tl)) (aAb:wB=tl.length):
  Cz 249 #[.agg #[.slice A1 n1 k1,.slice A2 n2 k2,.slice A3 n3 k3,.slice A4 n4 k4],.slice Ad nd cd,.slice Ac nc cc,.slice Al nl kl,.agg #[.slice Fd xB Fs,.slice Fc xC Ft,.slice Fl xA Fq],.agg #[.slice Td wC Ep,.slice Tc wD pN,.slice Tl wB Em]] w (fun y w'=>(∃x,y=.returned x∧aIB p0 (vJ s dl cl ll fd fc fl td tc tl) x w w')∧Below w.heap.size w w'):=by
 have aSg:=hnd
 refine aN func249 ntmps249 ?_;refine yZ p0 (by simp) Da ?_;refine aB ?_;refine bN fun g1=>?_;refine bN fun g2=>?_;refine bN fun g3=>?_;refine aB ?_;refine eX (aDR nc (aM (dO cl))) (fun w1 st=>aHd Ac nc cc _ w1 (jT.le (st.le (by simp))) (Ou _) aFX) ?_;rintro _ _ Za ⟨A13,c13,rfl,rfl⟩ _;refine aB ?_;refine Sd (f:=253) (fi:=[]) (ca:=[]) 0 (HP.own 3 1 (.slice A13 nc c13) nc (aM (dO cl)).reverse) (by kernel_rfl) rfl rfl rfl ⟨by decide,rfl⟩ (fun w1 F st hp hF=>aET A13 nc c13 _ w1 F hp hF (Ou _) (by simp[aM,dO,hnc]) aFX (aFl hp)) ?_;dsimp only[List.set,List.cons_append,List.nil_append];rw[aEU];refine aB ?_;refine eX (aDR nd (aM (dO dl))) (fun w1 st=>aHd Ad nd cd _ w1 (lB.le (st.le (by simp))) (Ou _) aFW) ?_;rintro _ _ Nz ⟨A14,c14,rfl,rfl⟩ _;refine aB ?_;refine Sd (f:=253) (fi:=[]) (ca:=[]) 0 (HP.own 3 1 (.slice A14 nd c14) nd (aM (dO dl)).reverse) (by kernel_rfl) rfl rfl rfl ⟨by decide,rfl⟩ (fun w1 F st hp hF=>aET A14 nd c14 _ w1 F hp hF (Ou _) (by simp[aM,dO,hnd]) aFW (aFl hp)) ?_;dsimp only[List.set,List.cons_append,List.nil_append];rw[aEU];refine fD ?_;refine aT [0,1,2,3,4] rfl (by decide) (R':=[p0,all w]) (by simp) ?_;refine aHF p0 p0 [0,1,2,3,4] [] (by simp) (by simp) (fun b h=>.inl h) rfl (by decide) (by decide) fun q0 hq Ai N0=>?_
 have f14:=aI.own (hq 0 _ (by simp) rfl)
 have f13:=aI.own (hq 1 _ (by simp) rfl)
 have t_d:RP q0 g3 0 (.slice Td wC Ep):=rP (hq 2 _ (by simp) rfl) rfl
 have f_d:RP q0 g2 0 (.slice Fd xB Fs):=rP (hq 3 _ (by simp) rfl) rfl
 have t_c:RP q0 g3 1 (.slice Tc wD pN):=rP (hq 2 _ (by simp) rfl) rfl
 have f_c:RP q0 g2 1 (.slice Fc xC Ft):=rP (hq 3 _ (by simp) rfl) rfl
 have t_l:RP q0 g3 2 (.slice Tl wB Em):=rP (hq 2 _ (by simp) rfl) rfl
 have f_l:RP q0 g2 2 (.slice Fl xA Fq):=rP (hq 3 _ (by simp) rfl) rfl
 have b1:RP q0 g1 1 (.slice A2 n2 k2):=rP (hq 4 _ (by simp) rfl) rfl
 have E0:q0.Le q0:=fun b hb=>⟨hb,rfl⟩
 have aJs:=aQZ q0 g1 n2 k2 s A2 b1 (Pm.mono (kE Ai) (fun _ _ h=>h)) hn2
 have lB:=lB.le Ai
 have jT:=jT.le Ai
 have nW:=nW.le Ai
 have Ph:=Ph.le Ai
 have Pj:=Pj.le Ai
 have hfl:=hfl.le Ai
 have Oz:=Oz.le Ai
 have Pa:=Pa.le Ai
 have sJ:=sJ.le Ai
 refine eA ?_;refine qP 50 (by kernel_rfl) (by kernel_rfl) ?_;refine bP 0 ?_;refine bP 1 ?_;refine bP 2 ?_ (cM:=yS f_d);refine bP 3 ?_;refine bP 4 ?_ (cM:=yS t_d);refine bP 8 ?_;refine bP 9 ?_;refine bP 10 ?_ (cM:=yS f_c);refine bP 11 ?_;refine bP 12 ?_ (cM:=yS t_c);refine bP 16 ?_;refine bP 17 ?_;refine bP 18 ?_ (cM:=yS f_l);refine bP 19 ?_;refine bP 20 ?_ (cM:=yS t_l);refine bP 24 ?_;refine bP 25 ?_;refine bP 26 ?_ (cM:=yS t_l);refine bP 27 ?_;refine bP 28 ?_ (cM:=yS f_l);refine bP 32 ?_;refine bP 33 ?_;refine bP 34 ?_ (cM:=yS t_c);refine bP 35 ?_;refine bP 36 ?_ (cM:=yS f_c);refine bP 40 ?_;refine bP 41 ?_;refine bP 42 ?_ (cM:=yS t_d);refine bP 43 ?_;refine bP 44 ?_ (cM:=yS f_d);refine fX 46 rfl rfl rfl (aGQ (vf:=[]) (vc:=[pt g1]) rfl rfl) ?_;refine aHR (j:=49) 15 355 [sn] fun M=>?_;refine Ro 5 49 rfl rfl (gY (by kernel_rfl)) (by decide) (by kernel_rfl) (by kernel_rfl) (fun _ h=>h) (fun M=>?_);refine rA p0 q0 (Mx q0 (iM (dl) fd td)) (fun w1 st=>Oe q0 nd wC xB cd Ep Fs Ad Td Fd (dl) fd td w1 (lB.le E0) hnd (by omega) (Oz.le E0) aAc (Ph.le E0) aAi (fun i hi=>by have:=Vd i hi;omega)) ?_;rintro _ w1 q1 ⟨x0,y0,z0,rfl,hit⟩ hf L1 N1
 have it0:=hit q1 L1 hf
 have E1:=E0.trans' L1
 refine rL 6 [q1,q0,p0,all w] fun M=>?_;refine rA p0 q1 (Rx 1) (fun w1 st=>Wq 1 w1) ?_;rintro _ w1 q2 ⟨u0,rfl,Ez⟩ hf L2 N2
 have va0:=Ez q2 hf
 have E2:=E1.trans' L2
 refine rL 7 [q2,q0,p0,all w] fun M=>?_;refine rA p0 q2 (Mq q2 (wE 17 4 (fun _=>1) (iM (dl) fd td))) (fun w1 st=>Nn q2 260 261 [pt x0,pt y0,pt z0] [pt u0] 17 4 (fun _=>1) (iM (dl) fd td) w1 (it0.le L2) (by kernel_rfl) (by kernel_rfl) (va0 _) (fun i hi=>by have:=Vd i (List.mem_filter.1 hi).1;omega)) ?_;rintro _ w1 q3 ⟨c0,d0,e0,f0,rfl,hst⟩ hf L3 N3
 have st0:=hst q3 L3 hf
 have E3:=E2.trans' L3
 refine rL 13 [q3,q0,p0,all w] fun M=>?_;refine rA p0 q3 (Mx q3 (iM (cl) fc tc)) (fun w1 st=>Oe q3 nc wD xC cc pN Ft Ac Tc Fc (cl) fc tc w1 (jT.le E3) hnc (by omega) (Pa.le E3) aAd (Pj.le E3) aAj (fun i hi=>by have:=aAk i hi;omega)) ?_;rintro _ w1 q4 ⟨x1,y1,z1,rfl,hit⟩ hf L4 N4
 have it1:=hit q4 L4 hf
 have E4:=E3.trans' L4
 refine rL 14 [q4,q0,p0,all w] fun M=>?_;refine rA p0 q4 (Rx 1) (fun w1 st=>Wq 1 w1) ?_;rintro _ w1 q5 ⟨u1,rfl,Ez⟩ hf L5 N5
 have va1:=Ez q5 hf
 have E5:=E4.trans' L5
 refine rL 15 [q5,q0,p0,all w] fun M=>?_;refine rA p0 q5 (Mq q5 (wE 20 7 (fun _=>1) (iM (cl) fc tc))) (fun w1 st=>Nn q5 260 261 [pt x1,pt y1,pt z1] [pt u1] 20 7 (fun _=>1) (iM (cl) fc tc) w1 (it1.le L5) (by kernel_rfl) (by kernel_rfl) (va1 _) (fun i hi=>by have:=aAk i (List.mem_filter.1 hi).1;omega)) ?_;rintro _ w1 q6 ⟨c1,d1,e1,f1,rfl,hst⟩ hf L6 N6
 have lI:=hst q6 L6 hf
 have E6:=E5.trans' L6
 refine rL 21 [q6,q0,p0,all w] fun M=>?_;refine rA p0 q6 (Mx q6 (iM (ll) fl tl)) (fun w1 st=>Oe q6 nl wB xA kl Em Fq Al Tl Fl (ll) fl tl w1 (nW.le E6) fL (by omega) (sJ.le E6) aAb (hfl.le E6) aAh (fun i hi=>by have:=aAf i hi;omega)) ?_;rintro _ w1 q7 ⟨x2,y2,z2,rfl,hit⟩ hf L7 N7
 have it2:=hit q7 L7 hf
 have E7:=E6.trans' L7
 refine rL 22 [q7,q0,p0,all w] fun M=>?_;refine rA p0 q7 (Rx 0) (fun w1 st=>Wq 0 w1) ?_;rintro _ w1 q8 ⟨u2,rfl,Ez⟩ hf L8 N8
 have va2:=Ez q8 hf
 have E8:=E7.trans' L8
 refine rL 23 [q8,q0,p0,all w] fun M=>?_;refine rA p0 q8 (Mq q8 (wE 22 4 (fun _=>0) (iM (ll) fl tl))) (fun w1 st=>Nn q8 260 261 [pt x2,pt y2,pt z2] [pt u2] 22 4 (fun _=>0) (iM (ll) fl tl) w1 (it2.le L8) (by kernel_rfl) (by kernel_rfl) (va2 _) (fun i hi=>by have:=aAf i (List.mem_filter.1 hi).1;omega)) ?_;rintro _ w1 q9 ⟨c2,d2,e2,f2,rfl,hst⟩ hf L9 N9
 have wH:=hst q9 L9 hf
 have E9:=E8.trans' L9
 refine rL 29 [q9,q0,p0,all w] fun M=>?_;refine rA p0 q9 (Mx q9 (iM (ll) tl fl)) (fun w1 st=>Oe q9 nl xA wB kl Fq Em Al Fl Tl (ll) tl fl w1 (nW.le E9) fL (by omega) (hfl.le E9) aAh (sJ.le E9) aAb (fun i hi=>by have:=aAf i hi;omega)) ?_;rintro _ w1 q10 ⟨x3,y3,z3,rfl,hit⟩ hf L10 N10
 have it3:=hit q10 L10 hf
 have E10:=E9.trans' L10
 refine rL 30 [q10,q0,p0,all w] fun M=>?_;refine rA p0 q10 (Rx 1) (fun w1 st=>Wq 1 w1) ?_;rintro _ w1 Tk ⟨u3,rfl,Ez⟩ hf L11 N11
 have va3:=Ez Tk hf
 have E11:=E10.trans' L11
 refine rL 31 [Tk,q0,p0,all w] fun M=>?_;refine rA p0 Tk (Mq Tk (wE 22 4 (fun _=>1) (iM (ll) tl fl))) (fun w1 st=>Nn Tk 260 261 [pt x3,pt y3,pt z3] [pt u3] 22 4 (fun _=>1) (iM (ll) tl fl) w1 (it3.le L11) (by kernel_rfl) (by kernel_rfl) (va3 _) (fun i hi=>by have:=aAf i (List.mem_filter.1 hi).1;omega)) ?_;rintro _ w1 Tj ⟨c3,d3,e3,f3,rfl,hst⟩ hf L12 N12
 have Kg:=hst Tj L12 hf
 have E12:=E11.trans' L12
 refine rL 37 [Tj,q0,p0,all w] fun M=>?_;refine rA p0 Tj (Mx Tj (iM (cl.reverse) tc fc)) (fun w1 st=>Oe Tj nc xC wD c13 Ft pN A13 Fc Tc (cl.reverse) tc fc w1 (f13.le E12) (by simpa using hnc) (by omega) (Pj.le E12) aAj (Pa.le E12) aAd (fun i hi=>by have:=(fun i hi=>aAk i (by simpa using hi)) i hi;omega)) ?_;rintro _ w1 Za ⟨x4,y4,z4,rfl,hit⟩ hf L13 N13
 have it4:=hit Za L13 hf
 have E13:=E12.trans' L13
 refine rL 38 [Za,q0,p0,all w] fun M=>?_;refine rA p0 Za (Rx 0) (fun w1 st=>Wq 0 w1) ?_;rintro _ w1 Nz ⟨u4,rfl,Ez⟩ hf L14 N14
 have va4:=Ez Nz hf
 have E14:=E13.trans' L14
 refine rL 39 [Nz,q0,p0,all w] fun M=>?_;refine rA p0 Nz (Mq Nz (wE 20 7 (fun _=>0) (iM (cl.reverse) tc fc))) (fun w1 st=>Nn Nz 260 261 [pt x4,pt y4,pt z4] [pt u4] 20 7 (fun _=>0) (iM (cl.reverse) tc fc) w1 (it4.le L14) (by kernel_rfl) (by kernel_rfl) (va4 _) (fun i hi=>by have:=(fun i hi=>aAk i (by simpa using hi)) i (List.mem_filter.1 hi).1;omega)) ?_;rintro _ w1 Ti ⟨c4,d4,e4,f4,rfl,hst⟩ hf L15 N15
 have st4:=hst Ti L15 hf
 have E15:=E14.trans' L15
 refine rL 45 [Ti,q0,p0,all w] fun M=>?_;refine rA p0 Ti (Mx Ti (iM (dl.reverse) td fd)) (fun w1 st=>Oe Ti nd xB wC c14 Fs Ep A14 Fd Td (dl.reverse) td fd w1 (f14.le E15) (by simpa using hnd) (by omega) (Ph.le E15) aAi (Oz.le E15) aAc (fun i hi=>by have:=(fun i hi=>Vd i (by simpa using hi)) i hi;omega)) ?_;rintro _ w1 Th ⟨x5,y5,z5,rfl,hit⟩ hf L16 N16
 have it5:=hit Th L16 hf
 have E16:=E15.trans' L16
 refine rL 47 [Th,q0,p0,all w] fun M=>?_;refine rA p0 Th (Mq Th (wE 17 4 (zX s) (iM (dl.reverse) td fd))) (fun w1 st=>Nn Th 260 257 [pt x5,pt y5,pt z5] [pt g1] 17 4 (zX s) (iM (dl.reverse) td fd) w1 (it5.le (Piece.Le.refl _)) (by kernel_rfl) (by kernel_rfl) ((aJs (iM (dl.reverse) td fd) (fun i hi=>by have:=(fun i hi=>Vd i (by simpa using hi)) i (List.mem_filter.1 hi).1;omega)).le E16) (fun i hi=>by have:=(fun i hi=>Vd i (by simpa using hi)) i (List.mem_filter.1 hi).1;omega)) ?_;rintro _ w1 q17 ⟨c5,d5,e5,f5,rfl,hst⟩ hf L17 N17
 have Kf:=hst q17 L17 hf
 have E17:=E16.trans' L17
 refine rL 48 [q17,q0,p0,all w] fun M=>?_;rcases M with _ | g15
 all_goals
  dsimp only[uF,wT,yJ,Dj];refine eK fun gS=>?_;refine gX ?_;refine gP ?_
 refine kK (fun _ h=>h.tail.aY) ?_;refine cJ 49 ?_;refine bX fun g15=>?_;refine gX ?_;refine gP ?_
 rotate_left
 refine aT [1,0] rfl (by decide) (fun _ h=>h) ?_
 all_goals
  refine kK (fun _ h=>h.tail.tail.aY) ?_;refine cJ 50 ?_;refine aDY rfl rfl ?_;dsimp only[List.set];refine eR ?_;refine kJ ?_;refine eB ?_;refine eA ?_;refine fR ?_;refine kA (vf:=[]) (vc:=[pt g15]) rfl rfl (by decide) ?_;refine aB ?_;refine aHF p0 q17 [0,1] [] (by simp) (by simp) N17 rfl (by decide) (by decide) fun qs hqs Ls Ns=>?_
  have r15:=rP (o:=0) (hqs 0 _ (by simp) rfl) rfl
  obtain⟨FS,sS,zS⟩:=hqs 1 _ (by simp) rfl
  have rS:=qR (n:=6) (sz:=1) (c:=6) sS zS rfl
  refine mI rfl rfl fun w1 st=>⟨⟨_,rfl,g15,rfl,fun q2 Lc mS=>?_⟩,st.below (by simp)⟩
  have Lq:=aLZ (p0:=p0) st (by simp:qs∈_) Ns (((Ai.trans' E17).trans' Ls)) Lc mS
  have T17:=Ls.trans' Lq
  have T16:=L17.trans' T17
  have T15:=L16.trans' T16
  have T14:=L15.trans' T15
  have T13:=L14.trans' T14
  have T12:=L13.trans' T13
  have T11:=L12.trans' T12
  have T10:=L11.trans' T11
  have T9:=L10.trans' T10
  have T8:=L9.trans' T9
  have T7:=L8.trans' T8
  have T6:=L7.trans' T7
  have T5:=L6.trans' T6
  have T4:=L5.trans' T5
  have T3:=L4.trans' T4
  have hall:=aQY q2 g15 6 6 _ [⟨259,[pt c0,pt d0,pt e0,pt f0],pP 17 4 (fun _=>1) (iM (dl) fd td)⟩,⟨259,[pt c1,pt d1,pt e1,pt f1],pP 20 7 (fun _=>1) (iM (cl) fc tc)⟩,⟨259,[pt c2,pt d2,pt e2,pt f2],pP 22 4 (fun _=>0) (iM (ll) fl tl)⟩,⟨259,[pt c3,pt d3,pt e3,pt f3],pP 22 4 (fun _=>1) (iM (ll) tl fl)⟩,⟨259,[pt c4,pt d4,pt e4,pt f4],pP 20 7 (fun _=>0) (iM (cl.reverse) tc fc)⟩,⟨259,[pt c5,pt d5,pt e5,pt f5],pP 17 4 (zX s) (iM (dl.reverse) td fd)⟩] (r15.le Lq) (rS.le Lq) rfl (by omega) (fun r hr=>by
   simp only[List.mem_cons,List.not_mem_nil,or_false] at hr;rcases hr with rfl | rfl | rfl | rfl | rfl | rfl
   ·exact⟨by kernel_rfl,by have h:=st0.le T3;rw[Nq] at h;exact h⟩
   ·exact⟨by kernel_rfl,by have h:=lI.le T6;rw[Nq] at h;exact h⟩
   ·exact⟨by kernel_rfl,by have h:=wH.le T9;rw[Nq] at h;exact h⟩
   ·exact⟨by kernel_rfl,by have h:=Kg.le T12;rw[Nq] at h;exact h⟩
   ·exact⟨by kernel_rfl,by have h:=st4.le T15;rw[Nq] at h;exact h⟩
   ·exact⟨by kernel_rfl,by have h:=Kf.le T17;rw[Nq] at h;exact h⟩)
  simpa[Ck,vJ] using hall
end
section
def zH(g:List (List Int)):Prop:=∀(k:Nat) (l:List Int),g[k]? =some l→∀u∈l,0≤u∧u < (k:Int)
theorem zH.in{g:List (List Int)}(h:zH g):xS g:=by
 intro l hl u hu;obtain⟨k,hk⟩:=List.getElem?_of_mem hl
 have:=h k l hk u hu
 have:=(List.getElem?_eq_some_iff.1 hk).1
 omega
theorem zH.next{g:List (List Int)}(h:zH g){k:Nat}(hk:k < g.length):Hr g (List.range k)=some k:=by
 refine aFt hk (fun j hj=>aBO (by simpa using hj)) ?_;unfold tT;obtain⟨l,hl⟩:∃l,g[k]? =some l:=⟨_,List.getElem?_eq_getElem hk⟩
 rw[hl];simp only[Option.getD_some,Bool.and_eq_true,Bool.not_eq_true',List.all_eq_true];refine⟨by simp,fun u hu=>?_⟩
 have:=h k l hl u hu
 simp;omega
theorem zH.order{g:List (List Int)}(h:zH g):∀(m k:Nat),k+m=g.length→sE g m (List.range k)=some (List.range g.length)
 | 0,k,hk=>by rw[sE];simp at hk;rw[hk]
 | m+1,k,hk=>by
  rw[sE,h.next (by omega)]
  have:=zH.order h m (k+1) (by omega)
  rw[List.range_succ] at this;exact this
theorem zH.fK{g:List (List Int)}(h:zH g)(hl:g.length≤100):fK g=(0,List.range g.length):=by
 have h1:Du g=false:=aHq fun k l hk j u hj=>by
  have:=h.in l (List.mem_of_getElem? hk) u (List.mem_of_getElem? hj)
  exact this
 have h2:pR g=0:=by unfold pR;rw[if_neg (by omega),h1];rfl
 have h3:=h.order g.length 0 (by omega)
 unfold Go.Proofs.YtkgekojkboingaaGreatDoor.fK;rw[if_neg (by simp[h2])];simp only[List.range_zero] at h3;rw[h3]
end
section
theorem Bh{es:List Int}(h:∀e∈es,e=0):kH es=0:=Io fun j hj=>by rw[List.getElem?_eq_getElem hj,h _ (List.getElem_mem hj)]
theorem Gx{n lo hi:Int}(h1:lo≤n)(h2:n≤hi):iK n lo hi=true:=by simp[iK,h1,h2]
theorem zQ{b:Bool}{e:Int}(h:b=false):iO b e=0:=by rw[h];rfl
section
variable{s:aC}(h:s.made)
include h
theorem aMA:zH (jV s):=by
 intro k l hl u hu;simp only[jV,List.getElem?_map,Option.map_eq_some_iff] at hl;obtain⟨c,hc,rfl⟩:=hl;exact(h.aF k c hc).1 u hu
theorem aM8:zH (jU s):=by
 intro k l hl u hu;simp only[jU,List.getElem?_map,Option.map_eq_some_iff] at hl;obtain⟨d,hd,rfl⟩:=hl
 have:=(h.domains k d hd).1
 split at hu
 ·cases hu
 ·rename_i hne
  simp at hu;subst hu;exact this.resolve_left hne
theorem aM7:zH (dL s):=by
 intro k l hl u hu;simp only[dL,List.getElem?_map,Option.map_eq_some_iff] at hl;obtain⟨d,hd,rfl⟩:=hl;obtain⟨_,_,_,_,_,_,_,_,_,_,_,h1⟩:=h.aD k d hd;exact h1 u hu
theorem Zq:s.small:=by
 refine⟨by have:=h.nc;omega,by have:=h.nd;omega,by have:=h.nr;omega,by have:=h.nv;omega,fun c hc=>?_,fun d hd=>?_⟩
 ·obtain⟨k,hk⟩:=List.getElem?_of_mem hc;rcases(h.aF k c hk).2 with h1 | h1 | h1 | h1 | h1
  ·rw[h1.2.1];simp
  all_goals(have:=h1.2.1;omega)
 ·obtain⟨k,hk⟩:=List.getElem?_of_mem hd;obtain⟨_,_,_,_,_,_,_,_,_,_,h1,_⟩:=h.aD k d hk;omega
theorem aCe:fK (jV s)=(0,List.range s.aF.length)∧fK (jU s)=(0,List.range s.domains.length)∧fK (dL s)=(0,List.range s.aD.length):=by
 refine⟨?_,?_,?_⟩
 ·have:=(aMA h).fK (by simp[jV];have:=h.nc;omega)
  simpa[jV] using this
 ·have:=(aM8 h).fK (by simp[jU];have:=h.nd;omega)
  simpa[jU] using this
 ·have:=(aM7 h).fK (by simp[dL];have:=h.nv;omega)
  simpa[dL] using this
theorem aMB{k:Nat}{c:eW}(hc:s.aF[k]? =some c):Mc s.aF.length c=0:=by
 have hk:=(List.getElem?_eq_some_iff.1 hc).1
 obtain⟨h1,h2⟩:=h.aF k c hc;refine Bh fun e he=>?_;simp only[List.mem_cons,List.not_mem_nil,or_false] at he;rcases he with rfl | rfl | rfl
 ·refine zQ ?_;rcases h2 with h2 | h2 | h2 | h2 | h2
  ·simp[kX,h2.1,h2.2.1]
  ·simp[kX,h2.1,h2.2.1]
  ·simp[kX,h2.1,h2.2.1]
  ·simp[kX,h2.1,h2.2.1]
  ·simp[kX,h2.1,h2.2.1,iK]
 ·refine Bh fun e he=>?_;simp only[List.mem_map] at he;obtain⟨f,hf,rfl⟩:=he
  have:=h1 f hf
  exact zQ (by rw[Gx (by omega) (by omega)];rfl)
 ·refine zQ ?_;rcases h2 with h2 | h2 | h2 | h2 | h2
  ·obtain⟨h3,_,h4,h5,_⟩:=h2;simp[sG,h3];omega
  ·obtain⟨h3,_,_,h4,h5,h6,h7,h8,h9⟩:=h2;simp[sG,h3,iK];omega
  ·obtain⟨h3,_,_,_,h4,h5,_⟩:=h2;simp[sG,h3,iK];omega
  ·simp[sG,h2.1]
  ·simp[sG,h2.1]
theorem aM9{k:Nat}{d:Dom}(hd:s.domains[k]? =some d):Qi s.domains.length d=0:=by
 have hk:=(List.getElem?_eq_some_iff.1 hd).1
 obtain⟨h1,h2,h3⟩:=h.domains k d hd;refine Bh fun e he=>?_;simp only[List.mem_cons,List.not_mem_nil,or_false] at he;rcases he with rfl | rfl
 ·refine zQ ?_;rcases h1 with h1 | h1
  ·simp[h1]
  ·rw[Gx (by omega) (by omega)];simp
 ·exact zQ (by rw[Gx (by omega) (by omega)];rfl)
theorem aF7{k:Nat}{d:cH}(hd:s.aD[k]? =some d):Qm s.aF.length s.domains.length s.bA.length s.aD.length d=0∧Oj d=0:=by
 have hk:=(List.getElem?_eq_some_iff.1 hd).1
 obtain⟨a1,a2,a3,a4,a5,a6,_,_,a7,_,a8,a9⟩:=h.aD k d hd;refine⟨Bh fun e he=>?_,?_⟩
 ·simp only[List.mem_cons,List.not_mem_nil,or_false] at he;rcases he with rfl | rfl | rfl | rfl
  ·exact zQ (by rw[Gx (by omega) (by omega)];rfl)
  ·exact zQ (by rw[Gx (by omega) (by omega)];rfl)
  ·exact zQ (by rw[Gx (by omega) (by omega)];rfl)
  ·refine Bh fun e he=>?_;simp only[List.mem_map] at he;obtain⟨f,hf,rfl⟩:=he
   have:=a9 f hf
   exact zQ (by rw[Gx (by omega) (by omega)];rfl)
 ·refine zQ ?_;simp;omega
theorem Zr:Wn s=0:=by
 obtain⟨o1,o2,o3⟩:=aCe h;refine Bh fun e he=>?_;simp only[aA2,List.mem_cons,List.not_mem_nil,or_false] at he
 have h1:=h.nc
 have h2:=h.nd
 have h3:=h.nr
 have h4:=h.nv
 rcases he with rfl | rfl | rfl | rfl | rfl | rfl | rfl | rfl
 ·rw[Fp,if_neg (by omega)];refine Bh fun e he=>?_;obtain⟨d,hd,rfl⟩:=List.mem_map.1 he;obtain⟨k,hk⟩:=List.getElem?_of_mem hd;exact(aF7 h hk).2
 ·refine Bh fun e he=>?_;obtain⟨d,hd,rfl⟩:=List.mem_map.1 he;obtain⟨k,hk⟩:=List.getElem?_of_mem hd;exact aMB h hk
 ·rw[Ds,o1];rfl
 ·refine Bh fun e he=>?_;obtain⟨d,hd,rfl⟩:=List.mem_map.1 he;obtain⟨k,hk⟩:=List.getElem?_of_mem hd;exact aM9 h hk
 ·rw[Ds,o2];rfl
 ·refine Bh fun e he=>?_;obtain⟨d,hd,rfl⟩:=List.mem_map.1 he
  have:=h.bA d hd
  exact zQ (by rw[Gx (by omega) (by omega)];rfl)
 ·refine Bh fun e he=>?_;obtain⟨d,hd,rfl⟩:=List.mem_map.1 he;obtain⟨k,hk⟩:=List.getElem?_of_mem hd;exact(aF7 h hk).1
 ·rw[Ds,o3];rfl
end
structure aC.qH(s:aC):Prop where
 aF:Fits eW.fit s.aF
 aD:Fits (cH.fit s.aF.length s.domains.length s.bA.length) s.aD
 nc:s.aF.length≤9
 nd:s.domains.length≤4
 nr:s.bA.length≤3
 nv:s.aD.length≤4
 Qs:Wn s=0
 small:s.small
theorem aC.made.qH{s:aC}(h:s.made):s.qH:=⟨h.aF,h.aD,h.nc.2,h.nd.2,h.nr.2,h.nv.2,Zr h,Zq h⟩
end
section
attribute [local irreducible] KC KI KQ
def Rs(g:List (List Int))(v:Value)(w w':World):Prop:=∃A m c,v=.tuple #[.slice A m c,iv (fK g).1]∧m=(fK g).2.length∧aI (fresh w w') 1 A m (aM (dO (fK g).2))
theorem Mu.aBI{w w':World}{g:List (List Int)}{y:Ending}(h:Mu w (fK g).2 (fK g).1 y w'):(∃v,y=.returned v∧Rs g v w w')∧Below w.heap.size w w':=by
 obtain⟨⟨A,m,c,hy,hm,hs⟩,hb⟩:=h;exact⟨⟨_,hy,A,m,c,rfl,hm,hs⟩,hb⟩
theorem aMF{k n:Nat}(h:k < n):(aM ((dO (List.range k))++List.replicate (n - k) 0)).set k (iv (k:Int))=aM ((dO (List.range (k+1)))++List.replicate (n - (k+1)) 0):=by
 rw[Zx,List.set_append_right _ _ (by simp[dO])];rw[show k - (dO (List.range k)).length=0 by simp[dO],show n - k=(n - (k+1))+1 by omega,List.replicate_succ,List.set_cons_zero,List.range_succ,aBT,List.append_assoc];rfl
theorem aQX(s:aC)(dl cl ll:List Nat)(fd fc fl td tc tl:List Bool):(vJ s dl cl ll fd fc fl td tc tl).length≤2*(dl.length+cl.length+ll.length):=by
 have h:=fun(a:List Nat) (x y:List Bool)=>List.length_filter_le (zR x y) a
 have h1:=h dl fd td;have h2:=h cl fc tc;have h3:=h ll fl tl;have h4:=h ll tl fl;have h5:=h cl.reverse tc fc;have h6:=h dl.reverse td fd
 rw[List.length_reverse] at h5 h6;simp only[vJ,pP,iM,List.length_append,List.length_map];omega
theorem aRO{Y:Nat→Prop}{w:World}{F:Nat→Prop}{e:TypeId}{sz n:Nat}{v:Value}{xs:List Value}(h:(HP.own e sz v n xs).sat F w)(hF:∀b,F b→Y b):∃A c,v=.slice A n c∧aI ⟨w,Y⟩ sz A n xs∧n≤c:=by
 obtain⟨A,c,hv,hs⟩:=zF (Y:=Y) h hF;refine⟨A,c,hv,hs,?_⟩;obtain⟨_,ho⟩:=h;rcases ho.2 with⟨rfl,hn⟩ | ⟨g,cap,cur,rfl,_,_,h3,_⟩
 ·omega
 ·cases hv;exact h3
set_option maxHeartbeats 1000000 in
theorem aJF(s:aC)(A1 A2 A3 A4 Fd Fc Fl Td Tc Tl:Option Addr)(n1 k1 n2 k2 n3 k3 n4 k4 xB Fs xC Ft xA Fq wC Ep wD pN wB Em:Nat)(fd fc fl td tc tl:List Bool)(w:World)(hW:iD w s A1 n1 A2 n2 A3 n3 A4 n4)(aCA:Wn s=0)(hD3:(fK (jU s)).2.length≤1000000)(hC3:(fK (jV s)).2.length≤1000000)(hDb:∀i∈(fK (jU s)).2,i < n2)(hCb:∀i∈(fK (jV s)).2,i < 1000000)
    (Ph:aI (all w) 1 Fd xB (bG fd)) (aAi:xB=fd.length) (Oz:aI (all w) 1 Td wC (bG td)) (aAc:wC=td.length) (Pj:aI (all w) 1 Fc xC (bG fc)) (aAj:xC=fc.length) (Pa:aI (all w) 1 Tc wD (bG tc)) (aAd:wD=tc.length) (hfl:aI (all w) 1 Fl xA (bG fl)) (aAh:xA=fl.length) (sJ:aI (all w) 1 Tl wB (bG tl)) (aAb:wB=tl.length):
    Cz 247 #[.agg #[.slice A1 n1 k1,.slice A2 n2 k2,.slice A3 n3 k3,.slice A4 n4 k4],.agg #[.slice Fd xB Fs,.slice Fc xC Ft,.slice Fl xA Fq],.agg #[.slice Td wC Ep,.slice Tc wD pN,.slice Tl wB Em]] w (fun y w'=>(∃A c,y=.returned (.slice A (vJ s (fK (jU s)).2 (fK (jV s)).2 (List.range n3) fd fc fl td tc tl).length c)∧aI (fresh w w') 4 A (vJ s (fK (jU s)).2 (fK (jV s)).2 (List.range n3) fd fc fl td tc tl).length ((vJ s (fK (jU s)).2 (fK (jV s)).2 (List.range n3) fd fc fl td tc tl).flatMap fE.cells)∧(vJ s (fK (jU s)).2 (fK (jV s)).2 (List.range n3) fd fc fl td tc tl).length≤c)∧Below w.heap.size w w'):=by
  have lM:=hW.qZ
  have hn2:=hW.qY
  have sL:=hW.tW
  have dP:=hW.small
  unfold aC.small at dP;obtain⟨hs1,jB,vB,yM,sK,tY⟩:=dP;refine aAX (vs:=[.agg #[.slice A1 n1 k1,.slice A2 n2 k2,.slice A3 n3 k3,.slice A4 n4 k4],.agg #[.slice Fd xB Fs,.slice Fc xC Ft,.slice Fl xA Fq],.agg #[.slice Td wC Ep,.slice Tc wD pN,.slice Tl wB Em]]) func247 rfl ntmps247 (by simp) (St.start w) ?_;dsimp only[List.cons_append,List.nil_append];refine jP ?_;refine kC (by kernel_rfl) ?_;refine bN fun g1=>?_;refine bN fun g2=>?_;refine bN fun g3=>?_;refine bE ?_;refine kD ?_;refine eE ?_;refine jP ?_;refine jP ?_;refine kC (by kernel_rfl) ?_;refine bE ?_;refine cZ (fun w1 st=>aA1 s A1 A2 A3 A4 n1 k1 n2 k2 n3 k3 n4 k4 w1 (hW.le (st.started (by simp)))) ?_;refine bE ?_;refine kD ?_;refine eE ?_;refine aAW rfl (fun h=>?_) (fun h=>?_)
  ·
    refine jP ?_;refine kC (by kernel_rfl) ?_;refine bE ?_;refine kD ?_;refine eE ?_;refine Mn ?_;refine eE ?_;exact absurd aCA h
  ·
    refine Gn ?_;refine eE ?_;refine jP ?_;refine kC (by kernel_rfl) ?_;refine bE ?_;refine jN [(all w)] (Gu (jU s)) (fun w1 st=>aGH s A1 A2 A3 A4 n1 k1 n2 k2 n3 k3 n4 k4 w1 (hW.le (st.started (by simp)))) ?_;rintro _ w1 qda ⟨Ag,cg,rfl,pU⟩ hf Lq _
    have pU:=pU.le hf
    have aRV:=Lq (all w) (by simp)
    clear hf Lq
    refine jN [qda] (Rs (jU s)) (fun w1 st=>(Ze Ag _ cg (jU s) w1 (pU.le (st.le (by simp))) rfl (by simp[jU];omega) (fun l hl=>by
        simp only[jU,List.mem_map] at hl;obtain⟨x,_,rfl⟩:=hl
        split<;>simp)).mono fun y w2 h=>h.aBI) ?_
    rintro _ w1 qd ⟨AD,mD,cD,rfl,hmD,hsD⟩ hf Lq _
    have hsD:=hsD.le hf
    have Lqd:=Lq qda (by simp)
    clear hf Lq pU;refine bE ?_;refine bE ?_;refine bE ?_;refine bE ?_;refine bE ?_;refine kD ?_;refine eE ?_;refine jP ?_;refine kC (by kernel_rfl) ?_;refine bE ?_;refine jN [qd] (Gu (jV s)) (fun w1 st=>aHe s A1 A2 A3 A4 n1 k1 n2 k2 n3 k3 n4 k4 w1 (hW.le (st.started (by simp)))) ?_;rintro _ w1 qca ⟨Ag,cg,rfl,pU⟩ hf Lq _
    have pU:=pU.le hf
    have aIq:=Lq qd (by simp)
    clear hf Lq
    refine jN [qca] (Rs (jV s)) (fun w1 st=>(Ze Ag _ cg (jV s) w1 (pU.le (st.le (by simp))) rfl (by simp[jV];omega) (fun l hl=>by
        simp only[jV,List.mem_map] at hl;obtain⟨x,hx,rfl⟩:=hl
        have:=sK x hx;omega)).mono fun y w2 h=>h.aBI) ?_
    rintro _ w1 qc ⟨AC,mC,cC,rfl,hmC,hsC⟩ hf Lq _
    have hsC:=hsC.le hf
    have Lqc:=Lq qca (by simp)
    clear hf Lq pU;refine bE ?_;refine bE ?_;refine bE ?_;refine bE ?_;refine bE ?_;refine kD ?_;refine eE ?_;refine jP ?_;refine kC (by kernel_rfl) ?_;refine bE ?_;refine bE ?_;refine bE ?_;refine lY 8 (el:=3) (z:=iv 0) (by kernel_rfl) (by kernel_rfl) rfl rfl rfl (by omega) (by omega) (by decide) fun g4=>?_;refine bE ?_;refine kD ?_;refine eE ?_;refine jP ?_;refine jP ?_;refine kC (by kernel_rfl) ?_;refine bE ?_;refine bE ?_;refine bE ?_;refine kD ?_;refine eE ?_;refine bL [(36,iv 0),(35,iv n3),(11,.slice (some ⟨g4,0,none⟩) n3 n3),(9,.slice AC mC cC),(7,.slice AD mD cD),(5,pt g3),(4,pt g2),(3,pt g1)] ?_;refine aT (R':=[qc,all w]) [0,1,2,3,4] rfl (by decide) (by simp) ?_;refine zC ?_;refine aD1 (fun m L e R H=>∃k:Nat,k≤n3∧m=n3 - k∧L=[]∧e=[(36,iv k),(35,iv n3),(11,.slice (some ⟨g4,0,none⟩) n3 n3),(9,.slice AC mC cC),(7,.slice AD mD cD),(5,pt g3),(4,pt g2),(3,pt g1)]∧R=[qc,all w]∧H=[HP.aE g4 3 (aM ((dO (List.range k))++List.replicate (n3 - k) 0)),HP.aE g3 55 [.slice Td wC Ep,.slice Tc wD pN,.slice Tl wB Em],HP.aE g2 55 [.slice Fd xB Fs,.slice Fc xC Ft,.slice Fl xA Fq],HP.aE g1 30 [.slice A1 n1 k1,.slice A2 n2 k2,.slice A3 n3 k3,.slice A4 n4 k4],rQ []]) n3 ⟨0,by omega,rfl,rfl,rfl,rfl,by simp[aM,dO,Value.cells]⟩ fun m L e R H hI=>?_;obtain⟨k,hk,rfl,rfl,rfl,rfl,rfl⟩:=hI;refine jP ?_;refine kC (by kernel_rfl) ?_;refine bE ?_;refine kD ?_;refine eE ?_;refine jP ?_;refine aAW rfl (fun h=>?_) (fun h=>?_)
    ·
      refine Gn ?_;refine eE ?_;refine jP ?_;refine zC ?_;refine jP ?_;refine kC (by kernel_rfl) ?_;refine bE ?_;refine bE ?_;refine kD ?_;refine eE ?_;refine kC (by kernel_rfl) ?_;refine bE ?_;refine bE ?_;refine bE ?_;refine kd (dat (k) (k)) ?_;refine rT 0 rfl (by kernel_rfl) rfl rfl rfl (by simp[aM,dO];omega) ?_;dsimp only[List.set];rw[aMF (by omega)];refine kD ?_;refine eE ?_;refine kC (by kernel_rfl) ?_;refine bE ?_;refine bE ?_;refine kD ?_;refine eE ?_;exact bL [(36,iv (k+1)),(35,iv n3),(11,.slice (some ⟨g4,0,none⟩) n3 n3),(9,.slice AC mC cC),(7,.slice AD mD cD),(5,pt g3),(4,pt g2),(3,pt g1)] (Xg (n3 - (k+1)) (by omega) ⟨k+1,by omega,rfl,rfl,rfl,rfl,rfl⟩)
    ·
      refine aD2 ?_;refine eE ?_;refine jP ?_;refine kC (by kernel_rfl) ?_;refine bX fun g5=>?_;refine kD ?_;refine eE ?_;refine jP ?_;refine jP ?_;refine dF [qc] [1] [0,2,3,4,5] (by simp) rfl (by decide) (by decide) fun q5 hq5 L5 _=>?_
      have L5:=L5 qc (by simp)
      have hk3:k=n3:=by omega
      have aFY:=qR (n:=n3) (sz:=1) (c:=n3) (hq5 1 _ (by simp) rfl).choose_spec.1 (hq5 1 _ (by simp) rfl).choose_spec.2 (by simp[aM,dO];omega)
      rw[hk3,Nat.sub_self,List.replicate_zero,List.append_nil] at aFY
      have L0:(all w).Le q5:=(((aRV.trans' Lqd).trans' aIq).trans' Lqc).trans' L5
      refine aT (R':=[q5,all w]) [0,1,2,3,4] rfl (by decide) (by simp) ?_;refine kC (by kernel_rfl) ?_;refine bE ?_;refine bE ?_;refine bE ?_;refine bE ?_;refine bE ?_;refine bE ?_;refine jN [q5] (aIB q5 (vJ s (fK (jU s)).2 (fK (jV s)).2 (List.range n3) fd fc fl td tc tl)) (fun w1 st=>aQU q5 s A1 A2 A3 A4 AD AC (some ⟨g4,0,none⟩) Fd Fc Fl Td Tc Tl n1 k1 n2 k2 n3 k3 n4 k4 mD cD mC cC n3 n3 xB Fs xC Ft xA Fq wC Ep wD pN wB Em (fK (jU s)).2 (fK (jV s)).2 (List.range n3) fd fc fl td tc tl w1 (st.le (by simp)) (hW.dom.mono (kE L0) (fun _ _ h=>h)) (by omega) (hsD.le ((aIq.trans' Lqc).trans' L5)) hmD (by omega) hDb (hsC.le L5) hmC (by omega) hCb aFY (by simp) (by omega) (fun i hi=>by have:=List.mem_range.1 hi;omega) (Ph.le L0) aAi (Oz.le L0) aAc (Pj.le L0) aAj (Pa.le L0) aAd (hfl.le L0) aAh (sJ.le L0) aAb) ?_;rintro _ w1 q6 ⟨g6,rfl,hall⟩ hf L6 _
      have hit:=hall q6 (L6 q5 (by simp)) hf
      refine kD ?_;refine eE ?_;refine zC ?_;refine lU 293 4 ?_;refine mU ?_;generalize hSL:vJ s (fK (jU s)).2 (fK (jV s)).2 (List.range n3) fd fc fl td tc tl=SL at hit;refine uK 0 (f:=fun v=>HP.many [HP.own 293 4 v 0 ((SL.take 0).flatMap fE.cells),HP.aE g5 188 [v]]) (sn) rfl ?_;dsimp only[List.set];refine aT (R':=[q6,all w]) [0,4] rfl (by decide) (by simp) ?_;refine bL [(50,.func (.func 258) #[] #[pt g6]),(13,pt g5)] ?_
      refine aD0 (gf:=258) (lb:=[pt g6]) (encs:=nT SL) (p:=q6) rfl (by kernel_rfl) hit (by simp) (fun vs hvs=>?_) (by decide) (fun k=>[(HP.ex fun v=>HP.many [HP.own 293 4 v k ((SL.take k).flatMap fE.cells),HP.aE g5 188 [v]])]) (fun _=>[HP.ex fun(_:Empty)=>cG])
        (fun k vs e1 H1=>∃(g7:Nat) (s:fE),vs=[qX s]∧e1=[(14,pt g7),(13,pt g5)]∧H1=[HP.aE g7 293 s.cells,(HP.ex fun v=>HP.many [HP.own 293 4 v k ((SL.take k).flatMap fE.cells),HP.aE g5 188 [v]])]) rfl ?_ ?_ ?_ ?_
      · simp only[nT,List.mem_map] at hvs
        obtain⟨s,_,rfl⟩:=hvs;rfl
      · intro l2 k vs W1 q X hvs dP
        obtain⟨s,rfl⟩:∃s,vs=[qX s]:=by
          simp only[nT,List.getElem?_map,Option.map_eq_some_iff] at hvs;obtain⟨s,_,e⟩:=hvs;exact⟨s,e.symm⟩
        dsimp only[List.cons_append,List.nil_append];refine kC (by kernel_rfl) ?_;refine bX fun g7=>?_;refine qC 0 rfl rfl rfl (by kernel_rfl) (by simp[qX,fE.cells,Value.cells,Value.oneCell']) (by simp[qX,fE.cells,Value.cells]) ?_;rw[show fP [Value.int .i64 0,iv 0,.int .u32 0,.int .u32 0] 0 (qX s).cells.toList=s.cells by simp[fP,qX,fE.cells,Value.cells]];dsimp only[List.set];refine kD ?_;refine bL [(14,pt g7),(13,pt g5)] ?_;exact aD4 (H1:=[HP.aE g7 293 s.cells,(HP.ex fun v=>HP.many [HP.own 293 4 v k ((SL.take k).flatMap fE.cells),HP.aE g5 188 [v]])]) ⟨g7,s,rfl,rfl,rfl⟩
      · rintro l2 k vs W1 q X _ _ hvs dP ⟨g7,s,rfl,rfl,rfl⟩
        have hsk:SL[k]? =some s:=by
          simp only[nT,List.getElem?_map,Option.map_eq_some_iff] at hvs;obtain⟨s',h,e⟩:=hvs
          have:s'=s:=by
            cases s;cases s';simp[qX,fE.cells] at e;simp[e]
          exact this▸h
        have Uo:=(List.getElem?_eq_some_iff.1 hsk).1
        have aSu:SL.length≤6000000:=by rw[←hSL];refine Nat.le_trans (aQX _ _ _ _ _ _ _ _ _ _) ?_;simp only[List.length_range];omega
        have pS:((SL.take (k+1)).flatMap fE.cells)=((SL.take k).flatMap fE.cells)++s.cells:=by
          rw[List.take_add_one,hsk];simp
        dsimp only[List.cons_append,List.nil_append];refine zC ?_;refine iW 1 fun v=>?_;refine aV 1 0 ?_;refine aV 2 1 ?_;refine kC (by kernel_rfl) ?_;refine kV (by kernel_rfl) rfl (Rd.aE 0 rfl rfl) (by decide) ?_;refine xX 4 (by kernel_rfl) rfl (aO.whole 2 rfl) rfl (by decide) ?_;refine aDZ (cs:=s.cells) (el:=293) (sz:=4) (zs:=[iv 0,iv 0,.int .u32 0,.int .u32 0]) (by kernel_rfl) (gY (by kernel_rfl)) (by kernel_rfl) rfl (by decide) (by decide) rfl (by simp[fB,gB,Value.cells,List.range_succ,List.set,fE.cells]) (by decide) fun g8=>?_;refine iF 2 4 24 1 (n':=k+1) (el:=293) (by kernel_rfl) (by kernel_rfl) (by decide) rfl rfl rfl (mM 0 rfl rfl) (by simp[fE.cells,Value.oneCell']) rfl (by omega) (by omega) (by decide) fun A' k'=>?_;dsimp only[List.set];refine rT 1 rfl (by kernel_rfl) rfl rfl rfl (by simp) ?_;dsimp only[List.set];refine kD ?_;refine aT [2,1,4,5] rfl (by decide) (fun _ hp=>hp) ?_;refine aJ 1 0 ?_;refine aJ 0 1 ?_;refine uK 0 (f:=fun v=>HP.many [HP.own 293 4 v (k+1) ((SL.take (k+1)).flatMap fE.cells),HP.aE g5 188 [v]]) (.slice A' (k+1) k') (by rw[pS];rfl) ?_;dsimp only[List.set];refine eE ?_;exact aD3
      rotate_left
      · intro D k hk
        exact aAN 0 rfl fun a=>a.elim
      intro D;dsimp only[List.cons_append,List.nil_append];refine iW 0 fun v=>?_;refine aV 0 0 ?_;refine aV 1 1 ?_;refine eE ?_;refine jP ?_;refine kC (by kernel_rfl) ?_;refine bE ?_;refine bE ?_;refine kD ?_;refine eE ?_;refine Mn ?_;refine eE ?_;refine dF [] [1] [3] (by simp) rfl (by decide) (by decide) fun qf Uj _ hfr=>?_;obtain⟨Ff,sf,zf⟩:=Uj 1 _ (by simp) rfl;obtain⟨Av,cv,rfl,tX,Vg⟩:=aRO (Y:=qf.Z) sf zf;refine aR7 (Hs:=[]) rfl rfl fun w1 st=>⟨⟨Av,cv,by simp[nT],?_,by simpa[nT] using Vg⟩,st.below (by simp)⟩
      have hlen:(nT SL).length=SL.length:=by simp[nT]
      rw[hlen,List.take_length] at tX;exact aI.le tX (st.mT (by simp) (hfr (by simp) (by simp)))
end
section
def eqV:Value→Value→Bool
 | .int _ a,.int _ b=>a==b
 | .bool a,.bool b=>a==b
 | _,_=>false
def Qc:List Value→List Value→Bool
 | [],[]=>true
 | x::xs,y::ys=>eqV x y&&Qc xs ys
 | _,_=>false
def Im(P:Program):List Field→Nat→List Value→List Value→Bool
 | [],_,[],[]=>true
 | f :: fs, i, x :: xs, y :: ys => f.name != "_" && f.offset == i && (match P.underlying f.type, x, y with
   | some (.int _),.int kx _,.int ky _=>decide (kx=ky)
   | some .bool,.bool _,.bool _=>true
   | _,_,_=>false)&&Im P fs (i+1) xs ys
 | _,_,_,_=>false
section
variable{P:Program}{w:World}
theorem Yr{t:TypeId}{cs:Array Value}{i:Nat}{v:Value}{d:TypeDesc}(hu:P.underlying t=some d)(hd:(∃k,d=.int k)∨d=.bool)(hx:cs[i]? =some v):(part t cs i).run P w=.ok v w:=by
 rcases hd with⟨k,rfl⟩ | rfl<;>simp[part,isAgg,run_underlying hu,hx]
theorem aEI(d:Nat)(xs ys:Array Value):∀(fs:List Field) (i:Nat),Im P fs i (xs.toList.drop i) (ys.toList.drop i)=true→(Op.eqFields (d+1) xs ys fs).run P w=.ok (Qc (xs.toList.drop i) (ys.toList.drop i)) w
 | [], i, h => by
  cases hx:xs.toList.drop i with
  | nil=>cases hy:ys.toList.drop i with
   | nil=>simp[Op.eqFields,Qc]
   | cons y yr=>rw[hx,hy] at h;simp[Im] at h
  | cons x xr=>rw[hx] at h;simp[Im] at h
 | f :: fs, i, h => by
  cases hx:xs.toList.drop i with
  | nil=>rw[hx] at h;simp[Im] at h
  | cons x xr =>
   cases hy:ys.toList.drop i with
   | nil=>rw[hx,hy] at h;simp[Im] at h
   | cons y yr =>
    rw[hx,hy] at h;simp only[Im,Bool.and_eq_true,bne_iff_ne,beq_iff_eq] at h;obtain⟨⟨⟨h1,h2⟩,h3⟩,h4⟩:=h
    have ex:xs[i]? =some x:=by
     have:(xs.toList.drop i)[0]? =some x:=by rw[hx];rfl
     simpa using this
    have ey:ys[i]? =some y:=by
     have:(ys.toList.drop i)[0]? =some y:=by rw[hy];rfl
     simpa using this
    have dx:xr=xs.toList.drop (i+1):=by rw[←List.tail_drop,hx];rfl
    have dy:yr=ys.toList.drop (i+1):=by rw[←List.tail_drop,hy];rfl
    subst dx;subst dy
    have ih:=aEI d xs ys fs (i+1) h4
    have key:∃u,P.underlying f.type=some u∧((∃k,u=.int k)∨u=.bool)∧(Op.equalIn (d+1) f.type x y).run P w=.ok (eqV x y) w:=by
     split at h3
     ·rename_i k kx a ky b hu
      have:=of_decide_eq_true h3
      subst this;exact⟨_,hu,.inl ⟨_,rfl⟩,run_equalIn_int w d f.type kx _ a b hu⟩
     ·rename_i a b hu
      exact⟨_,hu,.inr rfl,run_equalIn_bool' w d f.type a b hu⟩
     ·cases h3
    obtain⟨u,hu,hk,he⟩:=key;simp only[Op.eqFields,if_pos h1,Sem.run_bind,h2,Yr hu hk ex,Yr hu hk ey,Result.andThen_ok,he,Sem.run_ite,Sem.run_pure,ih,Qc];cases eqV x y<;>simp
variable{N:cF}{w0:World}{e:Env}{R:List Piece}{H:List HP}{Q:Exit→Act→World→Prop}{ops:Array Oper}{rest:List Oper}
variable{d:Nat}{ty:TypeId}{pos:String}{aH:Array Edge}
def Pz(P:Program)(t:TypeId)(xs ys:List Value):Bool:=(match P.underlying t with
 | some (.struct fs)=>Im P fs.toList 0 xs ys
 | _=>false)&& !P.stoodInHeld t&& !P.eqGuardType P.depth t
theorem aKq{t:TypeId}{xs ys:List Value}(h:Pz P t xs ys=true):(Op.equal t (.agg xs.toArray) (.agg ys.toArray)).run P w=.ok (Qc xs ys) w∧∀op x y,(eqGuard op t x y (.agg xs.toArray) (.agg ys.toArray)).run P w=.ok () w:=by
 unfold Pz at h;simp only[Bool.and_eq_true,Bool.not_eq_true'] at h;obtain⟨⟨h1,h2⟩,h3⟩:=h;refine⟨?_,fun op x y=>run_eqGuard_agg w op t x y _ _ h3⟩;split at h1
 ·rename_i fs hu
  have hf:P.fieldsOf t=fs:=by unfold Program.fieldsOf;rw[hu]
  have:=run_equalIn_struct (P:=P) w 9999 t xs.toArray ys.toArray (by rw[hf];exact hu) h2
  unfold Op.equal Op.maxDepth;rw[this,hf]
  have:=aEI (P:=P) (w:=w) 9998 xs.toArray ys.toArray fs.toList 0 (by simpa using h1)
  simpa using this
 ·cases h1
end
end
section
structure dR where
 d:List Bool
 c:List Bool
 l:List Bool
def zD(p:Piece)(x:dR)(v:Value):Prop:=∃A1 k1 A2 k2 A3 k3,v=.agg #[.slice A1 x.d.length k1,.slice A2 x.c.length k2,.slice A3 x.l.length k3]∧
 aI p 1 A1 x.d.length (bG x.d)∧aI p 1 A2 x.c.length (bG x.c)∧aI p 1 A3 x.l.length (bG x.l)
theorem zD.le{p q:Piece}{x:dR}{v:Value}(h:zD p x v)(hl:p.Le q):zD q x v:=by
 obtain⟨A1,k1,A2,k2,A3,k3,h0,h1,h2,h3⟩:=h;exact⟨A1,k1,A2,k2,A3,k3,h0,h1.le hl,h2.le hl,h3.le hl⟩
def Rp(Rl:Value→World→World→Prop)(w:World):Ending→World→Prop:=fun y w'=>(∃v,y=.returned v∧Rl v w w')∧Below w.heap.size w w'
end
section
def zZ(l:List Bool)(id:Int)(b:Bool):List Bool:=l.set id.toNat b
theorem aBD(l:List Bool)(id:Int)(b:Bool):(zZ l id b).length=l.length:=by simp[zZ]
structure dR.sm(x:dR):Prop where
 d:x.d.length≤1000000
 c:x.c.length≤1000000
 l:x.l.length≤1000000
theorem aDj(l:List Bool)(k:Nat)(b:Bool):(bG l).set k (.bool b)=bG (l.set k b):=by simp[bG,List.map_set]
theorem aDk(l:List Bool):(bG l).length=l.length:=by simp[bG]
theorem Qx(l:List Bool):∀u∈bG l,u.oneCell'=true:=by
 intro u hu;simp only[bG,List.mem_map] at hu;obtain⟨x,_,rfl⟩:=hu;rfl
structure fE.ok(p:fE):Prop where
 pr: -9223372036854775808≤p.pr∧p.pr≤9223372036854775807
 msg: -9223372036854775808≤p.msg∧p.msg≤9223372036854775807
 id:0≤p.id∧p.id < 4294967296
 v:0≤p.v∧p.v < 4294967296
end
section
structure qA(p:Piece)(s:aC)(A1:Option Addr)(n1:Nat)(A2:Option Addr)(n2:Nat)(A3:Option Addr)(n3:Nat)(A4:Option Addr)(n4:Nat):Prop where
 sU:jX (fJ p) (qU (fJ p)) 86 6 A1 n1 s.aF
 dom:jX (fJ p) tI 88 3 A2 n2 s.domains
 yI:jX (fJ p) xO 90 1 A3 n3 s.bA
 dev:jX (fJ p) (qB (fJ p)) 93 6 A4 n4 s.aD
section
variable{p q:Piece}{w:World}{s:aC}{A1 A2 A3 A4:Option Addr}{n1 n2 n3 n4:Nat}
theorem qA.le(h:qA p s A1 n1 A2 n2 A3 n3 A4 n4)(hl:p.Le q):qA q s A1 n1 A2 n2 A3 n3 A4 n4:=
 ⟨h.sU.mono (kE hl) (fun _ _=>qU.mono (kE hl)),h.dom.mono (kE hl) (fun _ _ h=>h),h.yI.mono (kE hl) (fun _ _ h=>h),h.dev.mono (kE hl) (fun _ _=>qB.mono (kE hl))⟩
theorem qA.W(h:qA p s A1 n1 A2 n2 A3 n3 A4 n4)(hl:p.Le (all w))(hs:s.small):iD w s A1 n1 A2 n2 A3 n3 A4 n4:=⟨(h.le hl).sU,(h.le hl).dom,(h.le hl).yI,(h.le hl).dev,hs⟩
theorem qA.len(h:qA p s A1 n1 A2 n2 A3 n3 A4 n4):n1=s.aF.length∧n2=s.domains.length∧n3=s.bA.length∧n4=s.aD.length:=by
 obtain⟨⟨_,_,h1,_⟩,⟨_,_,h2,_⟩,⟨_,_,h3,_⟩,⟨_,_,h4,_⟩⟩:=h;exact⟨h1,h2,h3,h4⟩
theorem uN.P{cs:Array Value}(h:uN (fJ p) s cs):∃A1 n1 k1 A2 n2 k2 A3 n3 k3 A4 n4 k4,cs=#[.slice A1 n1 k1,.slice A2 n2 k2,.slice A3 n3 k3,.slice A4 n4 k4]∧qA p s A1 n1 A2 n2 A3 n3 A4 n4:=by
 obtain⟨A1,n1,k1,A2,n2,k2,A3,n3,k3,A4,n4,k4,h0,h1,h2,h3,h4⟩:=h;exact⟨A1,n1,k1,A2,n2,k2,A3,n3,k3,A4,n4,k4,h0,h1,h2,h3,h4⟩
end
def allM(s:aC)(x y:dR):List fE:=vJ s (List.range s.domains.length) (List.range s.aF.length) (List.range s.bA.length) x.d x.c x.l y.d y.c y.l
def aHY(l:List fE)(v:Value)(w w':World):Prop:=∃A c,v=.slice A l.length c∧aI (fresh w w') 4 A l.length (l.flatMap fE.cells)∧l.length≤c
theorem aJG{q qx qy:Piece}{s:aC}{A1 A2 A3 A4:Option Addr}{n1 k1 n2 k2 n3 k3 n4 k4:Nat}{x y:dR}{v1 v2:Value}{w:World}(hS:qA q s A1 n1 A2 n2 A3 n3 A4 n4)(hm:s.made)(hq:q.Le (all w))(hx:zD qx x v1)(Fh:qx.Le (all w))(hy:zD qy y v2)(hqy:qy.Le (all w)):
  Cz 247 #[.agg #[.slice A1 n1 k1,.slice A2 n2 k2,.slice A3 n3 k3,.slice A4 n4 k4],v1,v2] w (Rp (aHY (allM s x y)) w):=by
 obtain⟨o1,o2,o3⟩:=aCe hm;obtain⟨rfl,rfl,rfl,rfl⟩:=hS.len;obtain⟨B1,b1,B2,b2,B3,b3,rfl,hx1,Ey,hx3⟩:=hx;obtain⟨C1,c1,C2,c2,C3,c3,rfl,hy1,hy2,hy3⟩:=hy
 have h1:=hm.nc
 have h2:=hm.nd
 have h:=aJF s A1 A2 A3 A4 B1 B2 B3 C1 C2 C3 _ k1 _ k2 _ k3 _ k4 _ b1 _ b2 _ b3 _ c1 _ c2 _ c3 x.d x.c x.l y.d y.c y.l w (hS.W hq (Zq hm)) (Zr hm) (by rw[o2];simp;omega) (by rw[o1];simp;omega)
  (fun i hi=>by rw[o2] at hi;have:=List.mem_range.1 hi;omega) (fun i hi=>by rw[o1] at hi;have:=List.mem_range.1 hi;omega)
  (hx1.le Fh) rfl (hy1.le hqy) rfl (Ey.le Fh) rfl (hy2.le hqy) rfl (hx3.le Fh) rfl (hy3.le hqy) rfl
 rw[o1,o2] at h
 have hL:vJ s ((0:Int),List.range s.domains.length).2 ((0:Int),List.range s.aF.length).2 (List.range s.bA.length) x.d x.c x.l y.d y.c y.l=allM s x y:=rfl
 rw[hL] at h;clear hL;generalize allM s x y=L at h⊢;refine Calls.mono h ?_;rintro z w' ⟨⟨A,c,hz,hs,hc⟩,hb⟩;exact⟨⟨_,hz,⟨A,c,rfl,hs,hc⟩⟩,hb⟩
end
section
theorem jX.tP{α:Type}{p:Piece}{R:α→List Value→Prop}{t:TypeId}{sz n:Nat}{A:Option Addr}{es:List α}(h:jX (fJ p) R t sz A n es){k:Nat}{e:α}(hk:es[k]? =some e):
  ∃b off r,A=some ⟨b,off,none⟩∧p.Z b∧r.length=sz∧R e r∧∀f u,r[f]? =some u→p.w.cell? ⟨b,off+k*sz+f,none⟩=some u:=by
 obtain⟨rows,h1,h2,h3⟩:=h
 have hlt:k < n:=by
  rw[h2];rcases Nat.lt_or_ge k es.length with h | h
  ·exact h
  ·rw[List.getElem?_eq_none h] at hk;cases hk
 obtain⟨b,off,hA,hb,hc⟩:=aI.at_ h3 hlt;obtain⟨r,h4,h5,h6⟩:=h1.get hk;refine⟨b,off,r,hA,hb,h4,h5,fun f u hu=>hc f u ?_⟩
 have hf:f < sz:=by
  rw[←h4];rcases Nat.lt_or_ge f r.length with h | h
  ·exact h
  ·rw[List.getElem?_eq_none h] at hu;cases hu
 rw[h6 f hf,hu]
theorem aMt{p:fE}{pr msg:Int}{val:Nat→Int}{ids:List Nat}(h:p∈pP pr msg val ids):∃i∈ids,p=⟨pr,msg,i,val i⟩:=by
 simp only[pP,List.mem_map] at h;obtain⟨i,hi,rfl⟩:=h;exact⟨i,hi,rfl⟩
theorem aKN(s:aC)(k:Nat):zX s k=0∨zX s k=2:=by unfold zX;split<;>simp
theorem Np{pr msg:Int}{val:Nat→Int}{ids:List Nat}(h1:pr=17∨pr=20∨pr=22)(h2:msg=4∨msg=7)(hv:∀k,val k=0∨val k=1∨val k=2)(hi:∀i∈ids,i < 1000):∀p∈pP pr msg val ids,p.ok:=by
 intro p hp;obtain⟨i,hi',rfl⟩:=aMt hp
 have h3:=hi i hi'
 have h4:=hv i
 exact⟨by dsimp only;omega,by dsimp only;omega,by dsimp only;omega,by dsimp only;omega⟩
theorem aQW{s:aC}(hm:s.made)(x y:dR):∀p∈allM s x y,p.ok:=by
 have h1:=hm.nc
 have h2:=hm.nd
 have h3:=hm.nr
 have mr:∀(n:Nat) (fr to:List Bool),n≤9→∀i∈iM (List.range n) fr to,i < 1000:=fun n fr to hn i hi=>by have:=List.mem_range.1 (List.mem_filter.1 hi).1;omega
 have mv:∀(n:Nat) (fr to:List Bool),n≤9→∀i∈iM (List.range n).reverse fr to,i < 1000:=fun n fr to hn i hi=>by have:=List.mem_range.1 (List.mem_reverse.1 (List.mem_filter.1 hi).1);omega
 intro p hp;simp only[allM,vJ,List.mem_append] at hp;rcases hp with hp | hp | hp | hp | hp | hp
 ·exact Np (by omega) (by omega) (fun _=>by omega) (mr _ _ _ (by omega)) p hp
 ·exact Np (by omega) (by omega) (fun _=>by omega) (mr _ _ _ (by omega)) p hp
 ·exact Np (by omega) (by omega) (fun _=>by omega) (mr _ _ _ (by omega)) p hp
 ·exact Np (by omega) (by omega) (fun _=>by omega) (mr _ _ _ (by omega)) p hp
 ·exact Np (by omega) (by omega) (fun _=>by omega) (mv _ _ _ (by omega)) p hp
 ·exact Np (by omega) (by omega) (fun k=>by have:=aKN s k;omega) (mv _ _ _ (by omega)) p hp
end
section
structure dR.of(x:dR)(s:aC):Prop where
 d:x.d.length=s.domains.length
 c:x.c.length=s.aF.length
 l:x.l.length=s.bA.length
end
section
structure AL where
 d:Nat
 t:TypeId
 cs:List Value
 val:Nat→Value
def rF(al:Nat→AL)(g:Nat→Nat)(ds:List Nat)(e:Env):Env:=ds.map (fun i=>((al i).d,(al i).val (g i)))++e
def vD(al:Nat→AL)(g:Nat→Nat)(ds:List Nat)(H:List HP):List HP:=ds.map (fun i=>HP.aE (g i) (al i).t (al i).cs)++H
def lA(ds:List Nat)(l:Array Bool):Array Bool:=ds.foldr (fun i a=>a.setIfInBounds i true) l
def Ke:List Nat→List (List Nat)
 | []=>[[]]
 | i::l=>(Ke l).map (i:: ·)++Ke l
theorem Nl(p:Nat→Bool):∀l:List Nat,l.filter p∈Ke l
 | []=>by simp[Ke]
 | i::l=>by
  unfold Ke;rw[List.filter_cons];split
  ·exact List.mem_append_left _ (List.mem_map_of_mem (Nl p l))
  ·exact List.mem_append_right _ (Nl p l)
def aKZ(ops:Array Oper)(idx:List Nat)(ex:List (List Nat))(listed:Array Bool):Bool:=
 (Ke idx).all fun sub=>ex.contains sub||(!(Region.ready .any ops (lA sub listed)).isEmpty&&(Region.ready .any ops (lA sub listed)).all fun j=>idx.contains j&& !sub.contains j)
theorem Zp{l1 l2:List Nat}(h:l1.Perm l2)(l:Array Bool):lA l1 l=lA l2 l:=by
 induction h with
 | nil=>rfl
 | cons x _ ih=>show(lA _ l).setIfInBounds x true=_;rw[ih];rfl
 | swap x y s=>
  show((lA s l).setIfInBounds x true).setIfInBounds y true=((lA s l).setIfInBounds y true).setIfInBounds x true
  by_cases hxy:x=y
  ·rw[hxy]
  ·exact Array.setIfInBounds_comm _ _ hxy
 | trans _ _ h1 h2=>exact h1.trans h2
section
variable{P:Program}{N:cF}{w0 w:World}{e:Env}{R R0:List Piece}{H H0:List HP}{Q:Exit→Act→World→Prop}{ops:Array Oper}{m fuel:Nat}{listed:Array Bool}{K:Act→World→Prop}
variable{al:Nat→AL}{g g':Nat→Nat}
theorem aAp(k:Nat)(v:Value)(e:Env)(t:Nat):Env.get ((k,v)::e) t=if k=t then some v else e.get t:=by
 show(match Nat.beq k t with | true=>some v | false=>Env.get e t)=_
 by_cases h:k=t
 ·subst h;rw[if_pos rfl,Nat.beq_refl]
 ·rw[if_neg h];cases hb:Nat.beq k t with
  | true=>exact absurd (Nat.eq_of_beq_eq_true hb) h
  | false=>rfl
theorem aGA{l1 l2:List Nat}(h:l1.Perm l2)(hn:(l1.map fun i=>(al i).d).Nodup)(t:Nat):(rF al g l1 e).get t=(rF al g l2 e).get t:=by
 induction h with
 | nil=>rfl
 | cons x _ ih=>
  show Env.get ((_,_)::rF al g _ e) t=Env.get ((_,_)::rF al g _ e) t
  rw[aAp,aAp,ih (List.nodup_cons.1 (show((al x).d::List.map (fun i=>(al i).d) _).Nodup from hn)).2]
 | swap x y s=>
  show Env.get ((_,_)::(_,_)::rF al g s e) t=Env.get ((_,_)::(_,_)::rF al g s e) t
  have hne:(al y).d≠(al x).d:=fun he=>(List.nodup_cons.1 (show((al y).d::(al x).d::List.map (fun i=>(al i).d) s).Nodup from hn)).1 (by rw[he];exact List.mem_cons_self)
  simp only[aAp]
  by_cases h1:(al x).d=t
  ·rw[if_pos h1,if_neg (fun h2=>hne (h2.trans h1.symm)),if_pos h1]
  ·rw[if_neg h1,if_neg h1]
 | trans h1 h2 i1 i2=>exact(i1 hn).trans (i2 ((h1.map _).nodup_iff.1 hn))
theorem aFR{l1 l2:List Nat}(h:l1.Perm l2):∀pre:List HP,St w0 R (pre++vD al g l1 H) w→St w0 R (pre++vD al g l2 H) w:=by
 induction h with
 | nil=>exact fun _ h=>h
 | cons x _ ih=>
  intro pre st
  have:=ih (pre++[HP.aE (g x) (al x).t (al x).cs]) (by rw[List.append_assoc];exact st)
  rw[List.append_assoc] at this;exact this
 | swap x y s =>
  intro pre st;refine st.weak (fun _ hp=>hp) (fun i=>if i=pre.length then pre.length+1 else if i=pre.length+1 then pre.length else i) (fun i j _ _ he=>?_) (fun i p hi=>?_)
  ·split at he<;>split at he<;>(try split at he)<;>(try split at he)<;>omega
  ·change (pre++HP.aE (g x) (al x).t (al x).cs::HP.aE (g y) (al y).t (al y).cs::vD al g s H)[i]? =some p at hi
   show(pre++HP.aE (g y) (al y).t (al y).cs::HP.aE (g x) (al x).t (al x).cs::vD al g s H)[_]? =some p
   rcases Nat.lt_or_ge i pre.length with h | h
   ·rw[if_neg (by omega),if_neg (by omega),List.getElem?_append_left h]
    rwa [List.getElem?_append_left h] at hi
   ·obtain⟨k,rfl⟩:∃k,i=pre.length+k:=⟨i - pre.length,by omega⟩
    rw[List.getElem?_append_right (by omega),Nat.add_sub_cancel_left] at hi
    match k,hi with
    | 0,hi=>
     rw[if_pos (by omega),List.getElem?_append_right (by omega),Nat.add_sub_cancel_left];exact hi
    | 1,hi=>
     rw[if_neg (by omega),if_pos rfl,List.getElem?_append_right (by omega),Nat.sub_self];exact hi
    | k+2,hi=>
     rw[if_neg (by omega),if_neg (by omega),List.getElem?_append_right (by omega),Nat.add_sub_cancel_left];exact hi
 | trans _ _ i1 i2=>exact fun pre st=>i2 pre (i1 pre st)
def aBd(P:Program)(N:cF)(e:Env)(o:Oper)(x:AL):Prop:=∀a w,eC N e a→(execOp a.eval o).run P w=.ok (.value (x.val w.heap.size)) (w.alloc (.cells x.cs.toArray x.t))
theorem aM5{t ty:TypeId}{d:Nat}{pos:String}{aH:Array Edge}{cs:List Value}(ht:Cb P t cs):aBd P N e ⟨some d,.alloc t,ty,pos,aH,none⟩ ⟨d,t,cs,fun g=>.pointer (some ⟨g,0,none⟩)⟩:=fun a w hr=>by
 obtain⟨i,z,hi,hz,rfl⟩:=ht;simp[execOp,Instr.alloc,zeroValue,typeInfo,hi,hz,newVar,newRow]
theorem Ol(bytes:Nat){x y:Operand}{t el ty:TypeId}{d n:Nat}{z:Value}{pos:String}{aH:Array Edge}{kd oP:IntKind}(ht:P.underlying t=some (.slice el))(hT:(P.info? el).map (fun i=>(i.zero,i.size,i.bytes))=some (some z,1,bytes))(Kv:z.cells=#[z])(hx:e.ev x=some (.int kd (n:Int)))(hy:e.ev y=some (.int oP (n:Int)))
  (hb:bytes*n≤281474976710656) (hn:(n:Int)≤9223372036854775807):aBd P N e ⟨some d,.makeSlice t x y,ty,pos,aH,none⟩ ⟨d,el,List.replicate n z,fun g=>.slice (some ⟨g,0,none⟩) n n⟩:=fun a w hr=>by
 obtain⟨i,hi,he⟩:=Option.map_eq_some_iff.1 hT;simp only[Prod.mk.injEq] at he;obtain⟨h1,h2,rfl⟩:=he
 have:=run_make (P:=P) w t el i z ht hi h1 kd oP n n (by omega) (Int.le_refl _) (by rw[←Int.natCast_mul];omega) hn
 have hm:madeCells z.cells (n*i.size)=(List.replicate n z).toArray:=by
  rw[h2,Nat.mul_one,Kv];unfold madeCells;apply Array.ext
  ·simp
  ·intro j h1 h2;simp;rw[Nat.mod_one];rfl
 simp only[Int.toNat_natCast,hm] at this;simp only[execOp,hr.ev hx,hr.ev hy,Sem.run_bind,this,Result.andThen_ok,Sem.run_pure]
structure Eg(P:Program)(N:cF)(ops:Array Oper)(e:Env)(x:AL)(i:Nat):Prop where
 ok:∃o,ops[i]? =some o∧o.guard=none∧o.dst=some x.d∧aBd P N e o x
 lt:x.d < N.n
 new:e.get x.d=none
theorem Eg.of{o:Oper}{x:AL}{i:Nat}(h1:ops[i]? =some o)(h2:o.guard=none)(h3:o.dst=some x.d)(h4:aBd P N e o x)(h5:x.d < N.n)(h6:e.get x.d=none):Eg P N ops e x i:=⟨⟨o,h1,h2,h3,h4⟩,h5,h6⟩
theorem aOz{ds:List Nat}(hn:∀i∈ds,e.get (al i).d=none){t:Nat}{v:Value}(h:e.get t=some v):(rF al g ds e).get t=some v:=by
 induction ds with
 | nil=>exact h
 | cons i ds ih=>
  show Env.get ((_,_)::rF al g ds e) t=some v
  rw[aAp,if_neg (fun he=>by have:=hn i (by simp);rw[he,h] at this;cases this)];exact ih fun j hj=>hn j (by simp[hj])
theorem eC.aO0{a:Act}{ds:List Nat}(hn:∀i∈ds,e.get (al i).d=none)(h:eC N (rF al g ds e) a):eC N e a:=⟨h.size,h.defers,fun t v ht=>h.get t v (aOz hn ht)⟩
theorem St.unA{ds:List Nat}(h:St w0 R (vD al g ds H) w):St w0 R H w:=h.weak (fun _ hp=>hp) (fun i=>i+ds.length) (fun i j _ _ he=>by omega) (fun i p hi=>by
 show(ds.map _++H)[i+ds.length]? =some p
 rw[List.getElem?_append_right (by simp)]
 simpa using hi)
theorem aHS(idx:List Nat)(ex:List (List Nat))(al:Nat→AL)(hok:∀i∈idx,Eg P N ops e (al i) i)(hd:(idx.map fun i=>(al i).d).Nodup)(hr:aKZ ops idx ex listed=true)(hS:∀w,St w0 R H w→St w0 R0 H0 w)
  (k:∀sub∈Ke idx,ex.contains sub=true→∀g:Nat→Nat,XA P N w0 ops Q R0 H0 m (fuel+(idx.length - sub.length)) (lA sub listed) (rF al g sub e) R (vD al g sub H)):XA P N w0 ops Q R0 H0 m (fuel+idx.length) listed e R H:=by
 have hni:idx.Nodup:=(List.pairwise_map.1 hd).imp fun h e=>h (by rw[e])
 have key:∀(n:Nat) (ds:List Nat) (g:Nat→Nat),ds.Nodup→(∀i∈ds,i∈idx)→ds.length+n=idx.length→XA P N w0 ops Q R0 H0 m (fuel+n) (lA ds listed) (rF al g ds e) R (vD al g ds H):=by
  intro n
  induction n with
  | zero =>
   intro ds g hn hin hl
   have Cy:(idx.filter fun i=>ds.contains i).Perm ds:=by
    rw[List.perm_iff_count];intro a;rw[(hni.sublist List.filter_sublist).count,hn.count]
    by_cases ha:a∈ds
    ·rw[if_pos ha,if_pos (by simp[ha,hin a ha])]
    ·rw[if_neg ha,if_neg (by simp[ha])]
   have hlen:=Cy.length_eq
   have heq:(idx.filter fun i=>ds.contains i)=idx:=List.filter_sublist.eq_of_length (by omega)
   have dQ:=List.all_eq_true.1 hr _ (Nl (fun i=>ds.contains i) idx)
   rw[Bool.or_eq_true] at dQ;rcases dQ with hc | hc
   ·have h:=k _ (Nl _ idx) hc g
    rw[Zp Cy,show fuel+(idx.length - (idx.filter fun i=>ds.contains i).length)=fuel+0 by omega] at h;exact fun up a w cQ st=>h up a w ⟨cQ.size,cQ.defers,fun t v ht=>cQ.get t v (by rw[←aGA Cy (by rw[heq];exact hd)];exact ht)⟩ (aFR Cy.symm [] st)
   ·exfalso;rw[Bool.and_eq_true,List.all_eq_true] at hc;obtain⟨h1,h2⟩:=hc;rw[heq] at h1 h2;cases hrd:Region.ready .any ops (lA idx listed) with
    | nil=>rw[hrd] at h1;cases h1
    | cons j js=>
     rw[hrd] at h2
     have:=h2 j (by simp)
     simp at this
  | succ n ih =>
   intro ds g hn hin hl
   have Cy:(idx.filter fun i=>ds.contains i).Perm ds:=by
    rw[List.perm_iff_count];intro a;rw[(hni.sublist List.filter_sublist).count,hn.count]
    by_cases ha:a∈ds
    ·rw[if_pos ha,if_pos (by simp[ha,hin a ha])]
    ·rw[if_neg ha,if_neg (by simp[ha])]
   have hlen:=Cy.length_eq
   have dQ:=List.all_eq_true.1 hr _ (Nl (fun i=>ds.contains i) idx)
   rw[Bool.or_eq_true] at dQ;rcases dQ with hc | hc
   ·have h:=k _ (Nl _ idx) hc g
    rw[Zp Cy,show fuel+(idx.length - (idx.filter fun i=>ds.contains i).length)=fuel+(n+1) by omega] at h
    have hnd:((idx.filter fun i=>ds.contains i).map fun i=>(al i).d).Nodup:=hd.sublist (List.filter_sublist.map _)
    exact fun up a w cQ st=>h up a w ⟨cQ.size,cQ.defers,fun t v ht=>cQ.get t v (by rw[←aGA Cy hnd];exact ht)⟩ (aFR Cy.symm [] st)
   ·rw[Bool.and_eq_true,List.all_eq_true,Zp Cy] at hc;obtain⟨h1,h2⟩:=hc;intro up a w cQ st
    show Ju P ops Q (St w0 R0 H0) m ((fuel+n)+1) (lA ds listed) a w
    refine⟨(fun h=>by rw[h] at h1;exact absurd h1 (by decide)),fun j hj=>?_⟩
    have hj2:=h2 j hj
    simp only[Bool.and_eq_true,Bool.not_eq_true',List.contains_eq_mem,decide_eq_true_eq,decide_eq_false_iff_not,List.mem_filter,not_and] at hj2
    have hjd:j∉ds:=hj2.2 hj2.1
    obtain⟨⟨o,ho,hog,hod,hmk⟩,hlt,hnew⟩:=hok j hj2.1
    have hrun:=hmk a w (cQ.aO0 fun i hi=>(hok i (hin i hi)).new)
    let g':Nat→Nat:=fun i=>if i=j then w.heap.size else g i
    have hg1:rF al g' (j::ds) e=((al j).d,(al j).val w.heap.size)::rF al g ds e:=by
     show((al j).d,(al j).val (g' j))::(ds.map _++e)=_
     rw[show g' j=w.heap.size from if_pos rfl]
     congr 1
     unfold rF
     congr 1
     refine List.map_congr_left fun i hi=>?_;rw[show g' i=g i from if_neg (fun he:i=j=>hjd (he▸hi))]
    have Uw:vD al g' (j::ds) H=HP.aE w.heap.size (al j).t (al j).cs::vD al g ds H:=by
     show HP.aE (g' j) _ _::(ds.map _++H)=_
     rw[show g' j=w.heap.size from if_pos rfl]
     congr 1
     unfold vD
     congr 1
     refine List.map_congr_left fun i hi=>?_;rw[show g' i=g i from if_neg (fun he:i=j=>hjd (he▸hi))]
    have st':St w0 R (vD al g' (j::ds) H) (w.alloc (.cells (al j).cs.toArray (al j).t)):=by
     rw[Uw];exact st.new (Qy w _) (aGt w _ _)
    have h:=ih (j::ds) g' (List.nodup_cons.2 ⟨hjd,hn⟩) (fun i hi=>by
     rcases List.mem_cons.1 hi with rfl | hi
     ·exact hj2.1
     ·exact hin i hi) (by simp only[List.length_cons];omega)
    rw[hg1] at h
    have vE:=h (up.kY hj) (a.put (some (al j).d) ((al j).val w.heap.size)) _ (cQ.put hlt _) st'
    unfold wpOp;simp only[ho]
    have hw:Region.wanted o (yielded ops a.tmps)=true:=by simp[Region.wanted,hog]
    simp only[hw,if_true,Oper.wp,hrun,Oper.upon,hod];exact .inl ⟨fun _=>hS _ st'.unA,vE⟩
 have:=key idx.length [] (fun _=>0) List.nodup_nil (fun i hi=>by cases hi) (by simp)
 exact this
end
end
section
def sW(s:aC):Nat→Nat→List Nat
 | 0,_=>[]
 | k + 1, c => match s.aF[c]? with
  | some x=>c::(match x.src with
   | []=>[]
   | f::_=>sW s k f.toNat)
  | none=>[]
def mH(s:aC)(c:Nat):List Nat:=sW s s.aF.length c
theorem aHi(s:aC):∀(k c:Nat),∀i∈sW s k c,i < s.aF.length
 | 0,c,i,h=>by simp[sW] at h
 | k + 1, c, i, h => by
  unfold sW at h;cases hc:s.aF[c]? with
  | none=>rw[hc] at h;simp at h
  | some x =>
   rw[hc] at h;dsimp only at h
   have hlt:=(List.getElem?_eq_some_iff.1 hc).1
   cases hs:x.src with
   | nil=>rw[hs] at h;simp at h;omega
   | cons f fs=>
    rw[hs] at h;rcases List.mem_cons.1 h with rfl | h
    ·exact hlt
    ·exact aHi s k _ i h
theorem aA4(s:aC):∀(k c:Nat),(sW s k c).length≤k
 | 0,c=>by simp[sW]
 | k + 1, c => by
  unfold sW;split
  ·rename_i x hx
   split
   ·simp
   ·rename_i f fs hs
    have:=aA4 s k f.toNat
    simp only[List.length_cons];omega
  ·simp
theorem aQg{s:aC}{k c:Nat}{x:eW}(h:s.aF[c]? =some x):sW s (k+1) c=c::(match x.src with
      | []=>[]
      | f::_=>sW s k f.toNat):=by
  show(match s.aF[c]? with | some x=>_ | none=>_)=_
  rw[h]
def Yj(s:aC):Nat→Nat→List Nat
 | 0,_=>[]
 | k+1,d=>match s.domains[d]? with
  | some x=>d::(if x.above= -1 then[] else Yj s k x.above.toNat)
  | none=>[]
def Jy(s:aC)(d:Nat):List Nat:=Yj s (d+1) d
def Xk(s:aC):Int→List Nat→Prop
 | d,[]=>d= -1
 | d,i::r=>d=(i:Int)∧∃x,s.domains[i]? =some x∧Xk s x.above r
theorem aEt{s:aC}(hm:s.made):∀(k d:Nat),d < k→d < s.domains.length→Xk s d (Yj s k d)
 | k + 1, d, hk, hd => by
  have hx:s.domains[d]? =some (s.domains[d]'hd):=List.getElem?_eq_getElem _
  have hf:=(hm.domains d _ hx).1
  show Xk s d (match s.domains[d]? with | some x=>d::(if x.above= -1 then[] else Yj s k x.above.toNat) | none=>[])
  rw[hx];refine⟨rfl,_,hx,?_⟩
  by_cases h1:(s.domains[d]'hd).above= -1
  ·rw[if_pos h1];exact h1
  ·rw[if_neg h1]
   have h2:((s.domains[d]'hd).above.toNat:Int)=(s.domains[d]'hd).above:=by omega
   have:=aEt hm k (s.domains[d]'hd).above.toNat (by omega) (by omega)
   rwa [h2] at this
theorem aJw{s:aC}(hm:s.made){d:Nat}(hd:d < s.domains.length):Xk s d (Jy s d):=aEt hm _ _ (by omega) hd
def uY(ids:List Nat)(l:List Bool):List Bool:=ids.foldl (fun d (i:Nat)=>zZ d (i:Int) true) l
theorem aBE(ids:List Nat)(l:List Bool):(uY ids l).length=l.length:=by
 unfold uY
 induction ids generalizing l with
 | nil=>rfl
 | cons i ids ih=>rw[List.foldl_cons,ih,aBD]
def yF(s:aC)(i:Nat):Bool:=match s.aF[i]? with
 | some c=>decide (c.kind=112∨c.kind=103)
 | none=>false
def fI(s:aC):dR:=⟨List.replicate s.domains.length false,List.replicate s.aF.length false,List.replicate s.bA.length false⟩
def Ni(s:aC)(w:dR)(x:cH):dR:=⟨uY (Jy s x.domain.toNat) w.d,uY ((mH s x.clock.toNat).filter (yF s)) w.c,zZ w.l x.reset true⟩
def nJ(s:aC)(act:List Bool):Nat→dR
 | 0=>fI s
 | j+1=>if hasB act j then(match s.aD[j]? with
  | some x=>Ni s (nJ s act j) x
  | none=>nJ s act j) else nJ s act j
def gM(s:aC)(act:List Bool):dR:=nJ s act s.aD.length
theorem Yi(s:aC)(act:List Bool):∀j,(nJ s act j).of s
 | 0=>⟨by simp[nJ,fI],by simp[nJ,fI],by simp[nJ,fI]⟩
 | j + 1 => by
  have ih:=Yi s act j
  unfold nJ;split
  ·split
   ·exact⟨by rw[Ni,aBE];exact ih.d,by rw[Ni,aBE];exact ih.c,by rw[Ni,aBD];exact ih.l⟩
   ·exact ih
  ·exact ih
theorem aJj{s:aC}{act:List Bool}{j:Nat}{x:cH}(hx:s.aD[j]? =some x)(ha:hasB act j=true):nJ s act (j+1)=Ni s (nJ s act j) x:=by
 show(if hasB act j then _ else _)=_
 rw[if_pos ha,hx]
theorem aJi{s:aC}{act:List Bool}{j:Nat}(ha:hasB act j=false):nJ s act (j+1)=nJ s act j:=by
 show(if hasB act j then _ else _)=_
 rw[if_neg (by rw[ha];decide)]
end
section
structure aC.dJ(s:aC):Prop where
 t:s.qH
 domains:Fits Dom.fit s.domains
 bA:∀r∈s.bA,0≤r∧r≤3
theorem aC.made.dJ{s:aC}(h:s.made):s.dJ:=⟨h.qH,h.domains,h.bA⟩
structure eM where
 on:Bool
 left:Int
def xK(c:eW):eM:=⟨false,if c.kind=112 then c.lock else 0⟩
def byF(c:eW):Int:=if c.kind=100 then c.div else 0
def yD(c:eW)(x:eM):Bool:=if c.kind=112 then x.on&&decide (x.left=0) else if c.kind=103 then x.on else true
def upK(s:aC)(st:List eM)(i:Nat):Bool:=match s.aF[i]?,st[i]? with
 | some c,some x=>yD c x
 | _,_=>false
def runs(s:aC)(st:List eM)(i:Nat):Bool:=(mH s i).all (upK s st)
theorem aDh{s:aC}(hf:Fits eW.fit s.aF):∀(c k:Nat),c < k→sW s k c=sW s (c+1) c:=by
 intro c
 induction c using Nat.strongRecOn with
 | _ c ih =>
  intro k hk;obtain⟨k,rfl⟩:=Nat.exists_eq_add_of_lt hk;rw[show c+k+1=(c+k)+1 from rfl];unfold sW;cases hc:s.aF[c]? with
  | none=>rfl
  | some x =>
   dsimp only;cases hs:x.src with
   | nil=>rfl
   | cons f fs=>
    have hfit:=(hf c x hc).1 f (by rw[hs];simp)
    have h1:f.toNat < c:=by omega
    dsimp only;rw[ih f.toNat h1 (c+k) (by omega),ih f.toNat h1 c h1]
theorem aQh{s:aC}(hf:Fits eW.fit s.aF){i:Nat}{c:eW}(hc:s.aF[i]? =some c):mH s i=i::(match c.src with
  | []=>[]
  | f::_=>mH s f.toNat):=by
 have hlt:i < s.aF.length:=(List.getElem?_eq_some_iff.1 hc).1
 unfold mH;rw[aDh hf i _ hlt];rw[sW,hc];dsimp only;cases hs:c.src with
 | nil=>rfl
 | cons f fs=>
  have hfit:=(hf i c hc).1 f (by rw[hs];simp)
  dsimp only;rw[aDh hf f.toNat i (by omega),aDh hf f.toNat s.aF.length (by omega)]
theorem aKe{s:aC}(hf:Fits eW.fit s.aF){st:List eM}{i:Nat}{c:eW}{x:eM}(hc:s.aF[i]? =some c)(hx:st[i]? =some x):runs s st i=(yD c x&&(match c.src with
  | []=>true
  | f::_=>runs s st f.toNat)):=by
 unfold runs;rw[aQh hf hc,List.all_cons]
 have:upK s st i=yD c x:=by unfold upK;rw[hc,hx]
 rw[this];cases c.src<;>rfl
def bZ(n:Nat)(i:Int):Bool:=decide (0≤i∧i < (n:Int))
def tO(s:aC)(st:List eM)(i:Int):Bool:=bZ s.aF.length i&&runs s st i.toNat
def Tq(c:eW)(x:eM)(b:Bool):eM:=⟨b,if c.kind=112∧b=false then c.lock else x.left⟩
def lR(s:aC)(st:List eM)(i:Int)(b:Bool):Int×List eM:=
 if bZ s.aF.length i=false then(4,st) else match s.aF[i.toNat]?,st[i.toNat]? with
 | some c,some x=>if c.kind≠112∧c.kind≠103 then(1,st) else(0,st.set i.toNat (Tq c x b))
 | _,_=>(4,st)
def aE0(c:eW):Nat:=(c.src.headD 0).toNat
def zT(s:aC)(st:List eM)(c:eW)(x:eM):eM:=
 if c.kind=112∧x.on=true then(if runs s st (aE0 c)=false then⟨true,c.lock⟩ else if 0 < x.left then⟨true,x.left - 1⟩ else x) else x
def mL(s:aC)(st:List eM):List eM:=List.zipWith (zT s st) s.aF st
structure pK(s:aC)(st:List eM):Prop where
 len:st.length=s.aF.length
 left:∀x∈st,0≤x.left∧x.left≤3
structure fT where
 phase:Int
 left:Int
 kept:Bool
 keep:Bool
def xG:fT:=⟨48,0,false,false⟩
def Qh(x:fT):Bool:=decide (x.phase=48∨x.phase=116)
def sC(st:List fT)(d:Int):Int:=if bZ st.length d then(st[d.toNat]?.map (·.phase)).getD 0 else 0
def Wt(st:List fT)(a:Int):Bool:=decide (a= -1)||decide ((st[a.toNat]?.map (·.phase)).getD 0=49)
def uT(s:aC)(st:List fT)(d:Int):Int×List fT:=
 if bZ st.length d=false then(4,st) else match s.domains[d.toNat]?,st[d.toNat]? with
 | some c,some x=>if Qh x=false∨Wt st c.above=false then(6,st) else(0,st.set d.toNat ⟨114,c.delay,decide (x.phase=116),x.keep⟩)
 | _,_=>(4,st)
def Ij(d:Int)(c:Dom)(x:fT):Bool:=decide (c.above=d)&& !Qh x
def Ii(s:aC)(st:List fT)(d:Int):Bool:=(List.zipWith (Ij d) s.domains st).any id
def xF(s:aC)(st:List fT)(d:Int)(keep:Bool):Int×List fT:=
 if bZ st.length d=false then(4,st) else match s.domains[d.toNat]?,st[d.toNat]? with
 | some c,some x=>if x.phase≠49 then(6,st) else if keep=true∧c.ret=false then(1,st) else if Ii s st d then(7,st) else(0,st.set d.toNat ⟨99,x.left,x.kept,keep⟩)
 | _,_=>(4,st)
def jE(x:fT):Int×fT:=
 if x.phase=114 then(if 0 < x.left then(0,⟨114,x.left - 1,x.kept,x.keep⟩) else(if x.kept then 114 else 110,⟨104,x.left,x.kept,x.keep⟩))
 else if x.phase=104 then(111,⟨49,x.left,x.kept,x.keep⟩)
 else if x.phase=99 then(if x.keep then(115,⟨116,x.left,x.kept,x.keep⟩) else(108,⟨48,x.left,x.kept,x.keep⟩))
 else(0,x)
def kR(st:List fT)(n:Nat):List (Int×Nat):=(List.range n).filterMap fun i=>(st[i]?).bind fun x=>if(jE x).1=0 then none else some ((jE x).1,i)
def pM(st:List fT):List fT:=st.map fun x=>(jE x).2
structure tJ(s:aC)(st:List fT):Prop where
 len:st.length=s.domains.length
 left:∀x∈st,0≤x.left∧x.left≤3
 phase:∀x∈st,0≤x.phase∧x.phase < 256
structure jY where
 left:Int
 held:Bool
 wanted:Bool
def qK:jY:=⟨0,true,false⟩
def Ig(st:List jY)(i:Int):Bool:= !bZ st.length i||(st[i.toNat]?.map (·.held)).getD true
def rI(s:aC)(st:List jY)(i:Int):Int×List jY:=
 if bZ st.length i=false then(4,st) else(0,st.set i.toNat ⟨(s.bA[i.toNat]?).getD 0,true,false⟩)
def wM(st:List jY)(i:Int):Int×List jY:=
 if bZ st.length i=false then(4,st) else match st[i.toNat]? with
 | some x=>if x.held=false then(6,st) else(0,st.set i.toNat ⟨x.left,x.held,true⟩)
 | none=>(4,st)
def mY(x:jY):jY:=if x.held=false then x else if 0 < x.left then⟨x.left - 1,x.held,x.wanted⟩ else if x.wanted then⟨x.left,false,false⟩ else x
def He(st:List jY):List jY:=st.map mY
structure Ed(s:aC)(st:List jY):Prop where
 len:st.length=s.bA.length
 left:∀x∈st,0≤x.left∧x.left≤3
structure dS where
 now:List Int
 saved:List Int
 kept:Bool
def Dl(d:cH):dS:=⟨d.aR.map (·.reset),d.aR.map fun _=>0,false⟩
def Dt(d:cH)(x:dS):dS:=⟨d.aR.map (·.reset),x.saved,false⟩
def Kh(r:Rg)(p:Int×Int):Int:=if r.kept then p.1 else p.2
def uV(d:cH)(x:dS):dS:=⟨x.now,List.zipWith Kh d.aR (x.now.zip x.saved),true⟩
def Yv(k:Bool)(r:Rg)(v:Int):Int:=if k&&r.kept then v else r.reset
def Hi(d:cH)(x:dS):dS:=⟨List.zipWith (Yv x.kept) d.aR x.saved,x.saved,x.kept⟩
structure xT(d:cH)(x:dS):Prop where
 now:x.now.length=d.aR.length
 saved:x.saved.length=d.aR.length
 u:(∀v∈x.now,0≤v∧v < 4294967296)∧∀v∈x.saved,0≤v∧v < 4294967296
structure fF where
 at_:Int
 denied:Int
def Ny:fF:=⟨0,0⟩
def oO(a:Int):Int:=if a=0 then 114 else if a=1 then 97 else if a=2 then 115 else 100
def sX(x:fF):Int×fF:=if x.at_≠0 then(6,x) else(0,⟨1,x.denied⟩)
def oH(x:fF):Int×fF:=if x.at_≠2∧x.at_≠3 then(6,x) else(0,⟨0,x.denied⟩)
def yE(x:fF)(Mh bF:Bool):fF:=if x.at_≠1 then x else if bF then⟨3,IntKind.i64.wrap (x.denied+1)⟩ else if Mh then x else⟨2,0⟩
def zG(x:fF):Prop:=0≤x.at_∧x.at_≤3
end
section
def Rw(n:Nat)(xs:List Value)(v:Value)(hs:List HP)(_:Piece):Prop:=∃A c,v=.slice A n c∧hs=[HP.own 95 2 (.slice A n c) n xs]
theorem Wk(A:Option Addr)(n c:Nat)(xs:List Value)(w:World)(hs:aI (all w) 2 A n xs)(h1:∀u∈xs,u.oneCell'=true)(hn:n≤1000000):
  Cz 159 #[.slice A n c] w (fun y w'=>(∃v hs q,y=.returned v∧q.w=w'∧Rw n xs v hs q∧gI w hs q)∧Below w.heap.size w w'):=by
 refine aN func159 ntmps159 ?_;refine aA ?_;refine Sb (el:=95) (by kernel_rfl) rfl (by decide) ?_;refine fD ?_;refine pE rfl (fun hA=>?_) (fun hA=>?_)
 ·refine aA ?_
  have hn0:n=0:=by
   rcases Nat.eq_zero_or_pos n with h | h
   ·exact h
   ·obtain⟨b,off,rfl,_⟩:=hs.2 h;cases hA
  subst hn0
  have hx:xs=[]:=List.eq_nil_of_length_eq_zero (by simpa using hs.1)
  subst hx;refine lU 95 2 ?_;refine dF [] [] [0] (by simp) rfl (by decide) (by decide) fun q _ _ hfr=>?_;exact aP (h:=fun w1 st=>⟨_,_,⟨w1,q.Z⟩,rfl,rfl,⟨_,_,rfl,rfl⟩,st.newR (by simp) (by simp) (hfr (by simp) (by simp))⟩)
 ·refine aA ?_;refine Rz (el:=95) (sz:=2) (by kernel_rfl) (by kernel_rfl) (by decide) fun g=>?_;refine Mm 0 2 0 rfl rfl (by omega) ?_;dsimp only[List.set];refine aA ?_;refine iF 0 2 8 n (n':=n) (el:=95) (by kernel_rfl) (by kernel_rfl) (by decide) rfl rfl rfl (sA (by simp) hs) h1 (by omega) (by omega) (by omega) (by decide) fun A' k'=>?_;dsimp only[List.set,List.nil_append];refine aA ?_;refine dF [] [] [0] (by simp) rfl (by decide) (by decide) fun q _ _ hfr=>?_;exact aP (h:=fun w1 st=>⟨_,_,⟨w1,q.Z⟩,rfl,rfl,⟨_,_,rfl,rfl⟩,st.newR (by simp) (by simp) (hfr (by simp) (by simp))⟩)
def Xv(n:Nat)(xs:List Value)(v:Value)(hs:List HP)(_:Piece):Prop:=∃A c,v=.slice A n c∧hs=[HP.own 37 1 (.slice A n c) n xs]
theorem aA0(A:Option Addr)(n c:Nat)(xs:List Value)(w:World)(hs:aI (all w) 1 A n xs)(h1:∀u∈xs,u.oneCell'=true)(hn:n≤1000000):
  Cz 26 #[.slice A n c] w (fun y w'=>(∃v hs q,y=.returned v∧q.w=w'∧Xv n xs v hs q∧gI w hs q)∧Below w.heap.size w w'):=by
 refine aN func26 ntmps26 ?_;refine aA ?_;refine Sb (el:=37) (by kernel_rfl) rfl (by decide) ?_;refine fD ?_;refine pE rfl (fun hA=>?_) (fun hA=>?_)
 ·refine aA ?_
  have hn0:n=0:=by
   rcases Nat.eq_zero_or_pos n with h | h
   ·exact h
   ·obtain⟨b,off,rfl,_⟩:=hs.2 h;cases hA
  subst hn0
  have hx:xs=[]:=List.eq_nil_of_length_eq_zero (by simpa using hs.1)
  subst hx;refine lU 37 1 ?_;refine dF [] [] [0] (by simp) rfl (by decide) (by decide) fun q _ _ hfr=>?_;exact aP (h:=fun w1 st=>⟨_,_,⟨w1,q.Z⟩,rfl,rfl,⟨_,_,rfl,rfl⟩,st.newR (by simp) (by simp) (hfr (by simp) (by simp))⟩)
 ·refine aA ?_;refine Rz (el:=37) (sz:=1) (by kernel_rfl) (by kernel_rfl) (by decide) fun g=>?_;refine Mm 0 1 0 rfl rfl (by omega) ?_;dsimp only[List.set];refine aA ?_;refine iF 0 1 4 n (n':=n) (el:=37) (by kernel_rfl) (by kernel_rfl) (by decide) rfl rfl rfl (sA (by simp) hs) h1 (by omega) (by omega) (by omega) (by decide) fun A' k'=>?_;dsimp only[List.set,List.nil_append];refine aA ?_;refine dF [] [] [0] (by simp) rfl (by decide) (by decide) fun q _ _ hfr=>?_;exact aP (h:=fun w1 st=>⟨_,_,⟨w1,q.Z⟩,rfl,rfl,⟨_,_,rfl,rfl⟩,st.newR (by simp) (by simp) (hfr (by simp) (by simp))⟩)
end
section
def mK(l:List Int):List Value:=l.map (Value.int .u32)
theorem Yk(l:List Int):(mK l).length=l.length:=by simp[mK]
theorem aBu{l:List Int}{i:Nat}{v:Int}(h:l[i]? =some v):(mK l)[i]? =some (.int .u32 v):=by simp[mK,h]
theorem aBt(l:List Int)(i:Nat)(v:Int):(mK l).set i (.int .u32 v)=mK (l.set i v):=by simp[mK,List.map_set]
structure FL where
 f:Nat
 gn:Nat
 gs:Nat
 A:Option Addr
 c:Nat
def rO(d:cH)(A:Option Addr)(p:Piece):Prop:=aI p 2 A d.aR.length (d.aR.flatMap Rg.cells)
theorem rO.le{d:cH}{A:Option Addr}(p q:Piece)(hl:p.Le q)(h:rO d A p):rO d A q:=aI.le h hl
def Ip(L:FL)(d:cH)(k:Bool):List Value:=[.slice L.A d.aR.length L.c,.slice (some ⟨L.gn,0,none⟩) d.aR.length d.aR.length,.slice (some ⟨L.gs,0,none⟩) d.aR.length d.aR.length,.bool k]
def gR(L:FL)(d:cH)(x:dS):HP:=HP.many [HP.aE L.f 264 (Ip L d x.kept),HP.aE L.gn 37 (mK x.now),HP.aE L.gs 37 (mK x.saved),HP.bR (rO d L.A) (rO.le (d:=d) (A:=L.A))]
structure Bz(w:World)(L:FL)(d:cH)(x:dS):Prop where
 r0:dU w L.f 0 (Ip L d x.kept)
 now:dU w L.gn 0 (mK x.now)
 saved:dU w L.gs 0 (mK x.saved)
 made:aI (all w) 2 L.A d.aR.length (d.aR.flatMap Rg.cells)
theorem Bz.below{w w':World}{L:FL}{d:cH}{x:dS}(h:Bz w L d x)(hb:Below w.heap.size w w'):Bz w' L d x:=⟨h.r0.below hb,h.now.below hb,h.saved.below hb,h.made.le (kT hb)⟩
theorem uI{w:World}{g:Nat}{t:TypeId}{cs:List Value}(h:tK w g t cs.toArray):dU w g 0 cs:=⟨h.lt,fun j v hv=>by rw[h.cell,Nat.zero_add];simpa using hv⟩
theorem Xs{L:FL}{d:cH}{x:dS}{F:Nat→Prop}{w:World}(h:(gR L d x).sat F w)(hF:∀b,F b→b < w.heap.size):Bz w L d x:=by
 obtain⟨G,g1,g2,_⟩:=h;exact⟨uI (g1 0 _ rfl).2,uI (g1 1 _ rfl).2,uI (g1 2 _ rfl).2,aI.le (g1 3 _ rfl) (fun b hb=>⟨hF b (g2 3 b hb),rfl⟩)⟩
section
variable{N:cF}{w0 w:World}{e:Env}{R:List Piece}{H:List HP}{K:Act→World→Prop}{L:FL}{d:cH}{x:dS}
theorem St.aCR(t:St w0 R H w)(i:Nat)(hi:H[i]? =some (gR L d x)):Bz w L d x:=by
 obtain⟨F,h1,h2,_⟩:=t.chunk hi;exact Xs h1 h2
theorem Xc(i:Nat)(hi:H[i]? =some (gR L d x))(h:XK N w0 K e R (HP.aE L.gs 37 (mK x.saved)::HP.aE L.gn 37 (mK x.now)::HP.aE L.f 264 (Ip L d x.kept)::H.set i (HP.many [cG,cG,cG,HP.bR (rO d L.A) (rO.le (d:=d) (A:=L.A))]))):XK N w0 K e R H:=by
 have hlt:=wU hi
 refine qM i 0 hi rfl ?_;refine qM (i+1) 1 (by rw[List.getElem?_cons_succ,List.getElem?_set_self hlt]) rfl ?_;refine qM (i+2) 2 (by simp[hlt];rfl) rfl ?_
 simpa[List.set_cons_succ,List.set_set] using h
theorem Xf(i:Nat)(hi:H[i]? =some (HP.many [cG,cG,cG,HP.bR (rO d L.A) (rO.le (d:=d) (A:=L.A))]))(h:XK N w0 K e R (H.set i (gR L d x))):XK N w0 K e R (HP.aE L.gs 37 (mK x.saved)::HP.aE L.gn 37 (mK x.now)::HP.aE L.f 264 (Ip L d x.kept)::H):=by
 have hlt:=wU hi
 refine qO (i+2) 2 (by simpa using hi) rfl ?_;dsimp only[List.set];refine qO (i+1) 1 (by simp[hlt];rfl) rfl ?_;dsimp only[List.set];refine qO i 0 (by simp[hlt];rfl) rfl ?_
 simpa[List.set_set,gR] using h
end
theorem Tf(L:FL)(d:cH)(x:dS)(w:World)(hR:Bz w L d x):
  Cz 103 #[.pointer (some ⟨L.f,0,none⟩)] w (Rt (iv d.aR.length) w):=by
 have h0:=hR.r0.at_ (j:=0) rfl
 refine aN func103 ntmps103 ?_;refine aA ?_;exact dI
theorem aEX(p:Piece)(S:Nat→HP)(L:FL)(d:cH)(hrl:d.aR.length≤100)(f:FuncId)(hf:eY Tryz.prog f=true)(ca:List Value)
  (hread:∀i,i≤d.aR.length→∀w F,(S i).sat F w→(∀b,F b→b < w.heap.size)→∃x,Bz w L d x)
  (hstep:∀i r,d.aR[i]? =some r→∀w F,(S i).sat F w→(∀b,F b→b < w.heap.size)→p.Le ⟨w,fun b=>b < w.heap.size∧¬F b⟩→
   Cz f (([iv (i:Int),.agg r.cells.toArray]:List Value)++ca).toArray w (Wr (.tuple #[]) (S (i+1)) w F))
  (w:World) (F:Nat→Prop) (hp:(S 0).sat F w) (hF:∀b,F b→b < w.heap.size) (Fj:p.Le ⟨w,fun b=>b < w.heap.size∧¬F b⟩):
  Cz 213 #[.pointer (some ⟨L.f,0,none⟩),.func (.func f) #[] ca.toArray] w (Wr (.tuple #[]) (S d.aR.length) w F):=by
 have hfr:∀{i:Nat} {R:List Piece} {H:List HP} {w1:World},i≤d.aR.length→St w R (S i::H) w1→∃x,Bz w1 L d x:=fun hi t=>by
  obtain⟨G,g1,g2,_⟩:=t.chunk (i:=0) rfl;exact hread _ hi _ G g1 g2
 refine cS func213 ntmps213 hp hF ?_;refine aA ?_
 refine aU (v:=iv d.aR.length) (fun w1 t=>by
  obtain⟨x,hx⟩:=hfr (Nat.zero_le _) t
  exact Tf L d x w1 hx) ?_
 refine aA ?_;refine bL [(7,iv 0),(6,iv d.aR.length),(1,.func (.func f) #[] ca.toArray),(0,.pointer (some ⟨L.f,0,none⟩))] ?_;refine eV (fun m e R H=>∃i:Nat,i≤d.aR.length∧m=d.aR.length - i∧e=[(7,iv i),(6,iv d.aR.length),(1,.func (.func f) #[] ca.toArray),(0,.pointer (some ⟨L.f,0,none⟩))]∧R=[⟨w,fun b=>b < w.heap.size∧¬F b⟩]∧H=[S i]) d.aR.length ⟨0,by omega,rfl,rfl,rfl,rfl⟩ fun m e R H hI=>?_;obtain⟨i,hi,rfl,rfl,rfl,rfl⟩:=hI;refine aA ?_;refine aG rfl (fun hlt=>?_) (fun hge=>?_)
 ·have hlt:i < d.aR.length:=by omega
  obtain⟨r,hr⟩:=get_some hlt
  have hb0:∃b off,L.A=some ⟨b,off,none⟩:=by
   obtain⟨x,hx⟩:=hread 0 (Nat.zero_le _) w F hp hF;obtain⟨b,off,h,_⟩:=hx.made.2 (by omega);exact⟨b,off,h⟩
  obtain⟨b,off,hA⟩:=hb0
  have aCy:Rd w [⟨w,fun b=>b < w.heap.size∧¬F b⟩] [S i] L.f 0 (.slice (some ⟨b,off,none⟩) d.aR.length L.c):=fun w1 t=>by
   obtain⟨x,hx⟩:=hfr hi t;rw[←hA];exact(hx.r0.at_ (j:=0) rfl).2
  have aSd:aO w [⟨w,fun b=>b < w.heap.size∧¬F b⟩] [S i] b (off+i*2) r.cells:=fun w1 t=>by
   obtain⟨x,hx⟩:=hfr hi t;obtain⟨b',off',pV,hro⟩:=aI.row (rows:=d.aR.map Rg.cells) (by rw[←List.flatMap_def];exact hx.made) (fun r hr=>by obtain⟨q,_,rfl⟩:=List.mem_map.1 hr;rfl) (by rw[List.getElem?_map,hr];rfl) hlt;rw[hA] at pV;cases pV;exact hro.2
  refine aA ?_;refine kd (dat i (off+i*2)) ?_;refine aA ?_
  refine aEh 0 (fi:=[]) (ca:=ca) (vs:=[iv (i:Int),.agg r.cells.toArray]) (p:=S i) (S (i+1)) hf rfl rfl rfl ⟨(by decide),rfl⟩ (fun w1 G t hG wV hle=>by
   have hpl:=Piece.Le.trans Fj (hle _ (by simp))
   simpa using hstep i r hr w1 G hG wV hpl) ?_
  dsimp only[List.set];refine aA ?_;exact eP (d.aR.length - (i+1)) ⟨i+1,hlt,rfl,rfl,rfl,rfl⟩
 ·obtain rfl:i=d.aR.length:=by omega
  refine aA ?_;exact fC 0 hF
end
section
def kF(vs old:List Int)(i:Nat):List Int:=vs.take i++old.drop i
theorem Ts(vs old:List Int):kF vs old 0=old:=by simp[kF]
theorem Tv{vs old:List Int}{n:Nat}(h1:vs.length=n)(h2:old.length=n):kF vs old n=vs:=by
 rw[kF,List.drop_eq_nil_of_le (by omega),List.append_nil,List.take_of_length_le (by omega)]
theorem Tu{vs old:List Int}{i n:Nat}(h1:vs.length=n)(h2:old.length=n)(hi:i≤n):(kF vs old i).length=n:=by simp[kF];omega
theorem Tt{vs old:List Int}{i:Nat}{v:Int}(h1:vs.length=old.length)(hv:vs[i]? =some v):(kF vs old i).set i v=kF vs old (i+1):=by
 have hi:=(List.getElem?_eq_some_iff.1 hv).1
 refine List.ext_getElem? fun j=>?_;rw[List.getElem?_set];unfold kF
 by_cases he:i=j
 ·subst he;rw[if_pos rfl,if_pos (by simp;omega),List.getElem?_append_left (by simp;omega),List.getElem?_take_of_lt (by omega),hv]
 ·rw[if_neg he];rcases Nat.lt_or_ge j i with hj | hj
  ·rw[List.getElem?_append_left (by simp;omega),List.getElem?_append_left (by simp;omega),List.getElem?_take_of_lt hj,List.getElem?_take_of_lt (by omega)]
  ·rw[List.getElem?_append_right (by simp;omega),List.getElem?_append_right (by simp;omega),List.getElem?_drop,List.getElem?_drop]
   congr 1
   simp;omega
theorem aMj{vs old:List Int}{i:Nat}{v:Int}(h1:vs.length=old.length)(hi:i < old.length)(hv:old[i]? =some v):(kF vs old i)[i]? =some v:=by
 rw[kF,List.getElem?_append_right (by simp;omega),List.getElem?_drop];simp only[List.length_take];rw[show i+(i - min i vs.length)=i by omega];exact hv
theorem aKW(p:Piece)(L:FL)(d:cH)(x:dS)(f:FuncId)(hf:eY Tryz.prog f=true)(ca:List Value)(g2 g3 i:Nat)(r:Rg)(v:Int)(hr:d.aR[i]? =some r)(uC:x.now.length=d.aR.length)
  (h2:p.Z g2∧p.w.cell? ⟨g2,0,none⟩=some (.pointer (some ⟨L.f,0,none⟩))) (h3:p.Z g3∧p.w.cell? ⟨g3,0,none⟩=some (.func (.func f) #[] ca.toArray))
  (hw:∀w F,(gR L d x).sat F w→(∀b,F b→b < w.heap.size)→p.Le (all w)→Cz f (([iv (i:Int),.agg r.cells.toArray]:List Value)++ca).toArray w (Rt (.int .u32 v) w))
  (w:World) (F:Nat→Prop) (hp:(gR L d x).sat F w) (hF:∀b,F b→b < w.heap.size) (Fj:p.Le ⟨w,fun b=>b < w.heap.size∧¬F b⟩):
  Cz 216 #[iv (i:Int),.agg r.cells.toArray,pt g3,pt g2] w (Wr (.tuple #[]) (gR L d ⟨x.now.set i v,x.saved,x.kept⟩) w F):=by
 have hlt:=(List.getElem?_eq_some_iff.1 hr).1
 obtain⟨c2,e2⟩:=Fj g2 h2.1;obtain⟨c3,e3⟩:=Fj g3 h3.1
 have k2:w.cell? ⟨g2,0,none⟩=some (.pointer (some ⟨L.f,0,none⟩)):=(World.cell?_of_block (w:=p.w) e2).trans h2.2
 have k3:w.cell? ⟨g3,0,none⟩=some (.func (.func f) #[] ca.toArray):=(World.cell?_of_block (w:=p.w) e3).trans h3.2
 refine cS func216 ntmps216 hp hF ?_;refine aA ?_;refine bN fun g1=>?_;refine aA ?_
 have r2:Rd w [⟨w,fun b=>b < w.heap.size∧¬F b⟩] [HP.aE g1 95 r.cells,gR L d x] g2 0 (.pointer (some ⟨L.f,0,none⟩)):=Rd.ro (List.mem_singleton.2 rfl) c2 k2
 have r3:Rd w [⟨w,fun b=>b < w.heap.size∧¬F b⟩] [HP.aE g1 95 r.cells,gR L d x] g3 0 (.func (.func f) #[] ca.toArray):=Rd.ro (List.mem_singleton.2 rfl) c3 k3
 have r4:Rd w [⟨w,fun b=>b < w.heap.size∧¬F b⟩] [HP.aE g1 95 r.cells,gR L d x] L.f 1 (.slice (some ⟨L.gn,0,none⟩) d.aR.length d.aR.length):=fun w1 t=>((t.aCR 1 rfl).r0.at_ (j:=1) rfl).2
 refine qP 9 (by kernel_rfl) (by kernel_rfl) ?_;refine bP 0 ?_;refine bP 1 ?_;refine bP 2 ?_;refine bP 3 ?_;refine bP 4 ?_;refine bP 5 ?_;refine bP 6 ?_;refine bP 7 ?_;refine cJ 8 ?_
 refine Zw (fi:=[]) (ca:=ca) (vs:=[iv (i:Int),.agg r.cells.toArray]) (v:=.int .u32 v) (hf:=hf) (fun w1 t=>by
  obtain⟨G,g1',g2',g3',_⟩:=t.chunk (i:=1) rfl
  have hle:p.Le (all w1):=fun b hb=>by
   obtain⟨a1,a2⟩:=(Piece.Le.trans Fj (g3' _ (List.mem_singleton.2 rfl))) b hb;exact⟨a1.1,a2⟩
  simpa using hw w1 G g1' g2' hle) ?_
 refine mV ?_;refine cJ 9 ?_;refine kd (dat i i) ?_;refine eR ?_;refine cJ 10 ?_;refine Xc 1 rfl ?_;dsimp only[List.set]
 have Ow:=Yk x.now
 refine eN rfl rfl ?_;dsimp only[List.set];rw[aBt];refine Xf (x:=⟨x.now.set i v,x.saved,x.kept⟩) 1 rfl ?_;refine eR ?_;refine kJ ?_;refine aA ?_;exact fC 1 hF
theorem aEY(L:FL)(d:cH)(x:dS)(hrl:d.aR.length≤100)(f:FuncId)(hf:eY Tryz.prog f=true)(ca:List Value)(p:Piece)(vs:List Int)(hvl:vs.length=d.aR.length)(uC:x.now.length=d.aR.length)
  (hw:∀(i:Nat) (r:Rg) (v:Int),d.aR[i]? =some r→vs[i]? =some v→∀(now:List Int) w F,(gR L d ⟨now,x.saved,x.kept⟩).sat F w→(∀b,F b→b < w.heap.size)→p.Le (all w)→Cz f (([iv (i:Int),.agg r.cells.toArray]:List Value)++ca).toArray w (Rt (.int .u32 v) w))
  (w:World) (F:Nat→Prop) (hp:(gR L d x).sat F w) (hF:∀b,F b→b < w.heap.size) (Fj:p.Le ⟨w,fun b=>b < w.heap.size∧¬F b⟩):
  Cz 197 #[.pointer (some ⟨L.f,0,none⟩),.func (.func f) #[] ca.toArray] w (Wr (.tuple #[]) (gR L d ⟨vs,x.saved,x.kept⟩) w F):=by
 refine cS func197 ntmps197 hp hF ?_;refine aA ?_;refine bN fun g2=>?_;refine bN fun g3=>?_;refine aA ?_;refine kA (vf:=[]) (vc:=[pt g3,pt g2]) rfl rfl (by decide) ?_;refine dF [⟨w,fun b=>b < w.heap.size∧¬F b⟩] [0,1] [2] (by simp) rfl (by decide) (by decide) fun q hq hLe _=>?_;obtain⟨F3,s3,z3⟩:=hq 0 _ (by simp) rfl;obtain⟨F2,s2,z2⟩:=hq 1 _ (by simp) rfl
 have hpq:p.Le q:=Piece.Le.trans Fj (hLe _ (by simp))
 refine bU 0 (gR L d ⟨vs,x.saved,x.kept⟩) (fun w1 G t hG wV hle=>by
  have key:=aEX q (fun i=>gR L d ⟨kF vs x.now i,x.saved,x.kept⟩) L d hrl 216 (by kernel_rfl) [pt g3,pt g2]
   (fun i _ w F h1 h2=>⟨_,Xs h1 h2⟩) (fun i r hr w2 F2' h1 h2 h3=>by
    have hlt:=(List.getElem?_eq_some_iff.1 hr).1
    obtain⟨v,hv⟩:=get_some (l:=vs) (i:=i) (by omega)
    have:=aKW q L d ⟨kF vs x.now i,x.saved,x.kept⟩ f hf ca g2 g3 i r v hr (Tu hvl uC (by omega))
     ⟨z2 _ s2.1,by rw[s2.2.cell];rfl⟩ ⟨z3 _ s3.1,by rw[s3.2.cell];rfl⟩ (fun w3 F3 a1 a2 a3=>hw i r v hr hv _ w3 F3 a1 a2 (Piece.Le.trans hpq a3)) w2 F2' h1 h2 h3
    try dsimp only at this
    rw[Tt (by omega) hv] at this
    exact this) w1 G (by show(gR L d ⟨kF vs x.now 0,x.saved,x.kept⟩).sat G w1;rw[Ts];exact hG) wV (hle q (by simp))
  try dsimp only at key
  rw[Tv hvl uC] at key
  exact key) ?_
 refine aA ?_;exact fC 0 hF
end
section
structure GL where
 t:Nat
 A:Option Addr
 c:Nat
def nY(c:Dom)(x:fT):List Value:=[iv c.above,iv c.delay,.bool c.ret,.int .u8 x.phase,iv x.left,.bool x.kept,.bool x.keep]
def oY(s:aC)(st:List fT):List (List Value):=List.zipWith nY s.domains st
abbrev uP(L:GL)(s:aC)(st:List fT):HP:=Ms 254 256 7 L.t L.A s.domains.length L.c (oY s st)
abbrev aIz(w:World)(L:GL)(s:aC)(st:List fT):Prop:=Bv w 7 L.t L.A s.domains.length L.c (oY s st)
section
variable{s:aC}{st:List fT}
theorem aAx(hok:tJ s st):(oY s st).length=s.domains.length∧∀r∈oY s st,r.length=7:=by
 have:=hok.len
 refine⟨by simp[oY];omega,fun r hr=>?_⟩;obtain⟨j,hj⟩:=List.getElem?_of_mem hr;rw[oY,List.getElem?_zipWith] at hj;split at hj<;>cases hj
 rfl
theorem Is{i:Nat}{c:Dom}{x:fT}(hc:s.domains[i]? =some c)(hx:st[i]? =some x):(oY s st)[i]? =some (nY c x):=by
 rw[oY,List.getElem?_zipWith,hc,hx]
theorem aCW{i:Nat}{c:Dom}{x:fT}(hc:s.domains[i]? =some c)(hi:i < st.length):(oY s st).set i (nY c x)=oY s (st.set i x):=by
 refine List.ext_getElem? fun j=>?_;rw[List.getElem?_set]
 by_cases he:i=j
 ·subst he;rw[if_pos rfl,Is hc (x:=x) (by rw[List.getElem?_set_self hi])];rw[if_pos]
  have h1:=(List.getElem?_eq_some_iff.1 hc).1
  simp[oY];omega
 ·rw[if_neg he,oY,oY,List.getElem?_zipWith,List.getElem?_zipWith,List.getElem?_set_ne he]
end
theorem aBH(t n c b off i:Nat)(w:World)(h0:fS w t 0 (.slice (some ⟨b,off,none⟩) n c))(hi:i < n):
  Cz 188 #[pt t,iv (i:Int)] w (Rt (.pointer (some ⟨b,off+i*7,none⟩)) w):=by
 refine aN func188 ntmps188 ?_;refine aA ?_;refine bT (t:=11) rfl (fun h=>absurd h (by omega)) (fun _=>?_);refine aA ?_;refine aG rfl (fun h=>absurd h (by omega)) (fun _=>?_);refine aA ?_;refine kd (dat i (off+i*7)) ?_;refine aA ?_;exact dI
theorem aBG(t n c:Nat)(A:Option Addr)(i:Int)(w:World)(h0:fS w t 0 (.slice A n c))(hi:bZ n i=false):
  Cz 188 #[pt t,iv i] w (Rt (.pointer none) w):=by
 have hi:=of_decide_eq_false hi
 refine aN func188 ntmps188 ?_;refine aA ?_;refine bT (t:=11) rfl (fun h=>?_) (fun h=>?_)
 ·refine aA ?_;exact dI
 ·refine aA ?_;refine aG rfl (fun h=>?_) (fun h=>absurd hi (by omega));refine aA ?_;exact dI
theorem aFf(g o:Nat)(p:Int)(w:World)(h3:fS w g (o+3) (.int .u8 p)):
  Cz 218 #[.pointer (some ⟨g,o,none⟩)] w (Rt (.bool (decide (p=48∨p=116))) w):=by
 refine aN func218 ntmps218 ?_;refine aA ?_;refine bT (t:=8) rfl (fun h=>?_) (fun h=>?_)
 ·refine aA ?_;refine jI (by simp) ?_;simp[h]
 ·refine aA ?_;refine jI (by simp) ?_;simp[h]
theorem aFe(L:GL)(s:aC)(st:List fT)(hok:tJ s st)(d:Int)(w:World)(hR:aIz w L s st):
  Cz 148 #[.pointer (some ⟨L.t,0,none⟩),iv d] w (Rt (.int .u8 (sC st d)) w):=by
 have hl:=hok.len
 cases hi:bZ s.domains.length d
 ·refine aN func148 ntmps148 ?_;refine aA ?_;refine aU (fun w1 t=>aBG L.t s.domains.length L.c L.A d w1 ((hR.below (t.below (by simp))).r0) hi) ?_;refine aA ?_;refine jI (by simp) ?_;simp[sC,hl,hi]
 ·obtain⟨n,rfl⟩:∃n:Nat,d=n:=⟨d.toNat,by have:=of_decide_eq_true hi;omega⟩
  have hlt:n < s.domains.length:=by have:=of_decide_eq_true hi;omega
  obtain⟨c,hc⟩:=get_some hlt;obtain⟨x,hx⟩:=get_some (l:=st) (i:=n) (by omega);obtain⟨b,off,hA,hro⟩:=hR.at_ (aAx hok).2 (Is hc hx) hlt
  have h3:=hro.at_ (j:=3) rfl
  refine aN func148 ntmps148 ?_;refine aA ?_;refine aU (fun w1 t=>aBH L.t s.domains.length L.c b off n w1 (by rw[←hA];exact(hR.below (t.below (by simp))).r0) hlt) ?_;refine aA ?_;refine jI (by simp) ?_;simp[sC,hl,hi,hx]
theorem aLr(L:GL)(s:aC)(st:List fT)(hH:s.dJ)(hok:tJ s st)(d:Int)(w:World)(F:Nat→Prop)(hp:(uP L s st).sat F w)(hF:∀b,F b→b < w.heap.size):
  Cz 204 #[.pointer (some ⟨L.t,0,none⟩),iv d] w (Wr (iv (uT s st d).1) (uP L s (uT s st d).2) w F):=by
 have hl:=hok.len
 cases hi:bZ s.domains.length d
 ·have hr:uT s st d=(4,st):=by simp[uT,hl,hi]
  rw[hr];refine cS func204 ntmps204 hp hF ?_;refine aA ?_;refine aU (fun w1 t=>aBG L.t s.domains.length L.c L.A d w1 ((t.aBB 0 rfl).r0) hi) ?_;refine aA ?_;exact bO 0 hF
 ·obtain⟨n,rfl⟩:∃n:Nat,d=n:=⟨d.toNat,by have:=of_decide_eq_true hi;omega⟩
  have hlt:n < s.domains.length:=by have:=of_decide_eq_true hi;omega
  obtain⟨c,hc⟩:=get_some hlt;obtain⟨x,hx⟩:=get_some (l:=st) (i:=n) (by omega);obtain⟨fL,gF⟩:=aAx hok
  have hup:uT s st (n:Int)=if Qh x=false∨Wt st c.above=false then(6,st) else(0,st.set n ⟨114,c.delay,decide (x.phase=116),x.keep⟩):=by
   simp[uT,hl,hi,hc,hx]
  obtain⟨hfa,_,_⟩:=hH.domains n c hc;refine cS func204 ntmps204 hp hF ?_;refine aDu 0 rfl (by omega) fun g cs hA h1 h2 h3 h4=>?_;dsimp only[List.set]
  have hs:=Dk h2 fL gF (Is hc hx)
  have hlen:n*7+7≤cs.length:=by omega
  have hs1:=hs.set 5 (.bool (decide (x.phase=116))) (by simp[nY]) (by omega)
  have jB:=hs1.set 3 (.int .u8 114) (by simp[nY]) (by simp;omega)
  have vB:=jB.set 4 (iv c.delay) (by simp[nY]) (by simp;omega)
  have hu3:=(((tC.refl cs (n*7) 7).set 5 (.bool (decide (x.phase=116))) (by decide)).set 3 (.int .u8 114) (by decide)).set 4 (iv c.delay) (by decide)
  have hf:=Bg (r':=nY c ⟨114,c.delay,decide (x.phase=116),x.keep⟩) h2 fL gF hlt (by omega) rfl vB hu3
  rw[aCW hc (by omega)] at hf;refine aA ?_;refine aU (fun w1 t=>aBH L.t s.domains.length L.c g 0 n w1 ((t.box (i:=1) rfl).at_ (j:=0) rfl) hlt) ?_;rw[Nat.zero_add];refine aA ?_;refine lV ?_;refine jC ?_;refine sZ (fun w1 t=>aFf g (n*7) x.phase w1 ⟨(t.aE (i:=0) rfl).lt,Rd.sub 0 3 rfl hs rfl rfl w1 t⟩) ?_;refine jC ?_;refine Mi 14 rfl (fun hd=>?_) (fun hd=>?_)
  ·rw[hup,if_pos (.inl (decide_eq_false hd))];refine iV ?_;refine aA ?_;refine Gm 0 hA h1 h2 h3 h4 rfl ?_;exact bO 0 hF
  ·have hdn:Qh x=true:=decide_eq_true (Classical.not_not.1 hd)
   refine jC ?_;refine Mi 21 rfl (fun ha=>?_) (fun ha=>?_)
   ·obtain⟨a,Bc,uB⟩:∃a:Nat,c.above=a∧a < n:=⟨c.above.toNat,by omega,by omega⟩
    obtain⟨ca,hca⟩:=get_some (l:=s.domains) (i:=a) (by omega);obtain⟨xa,hxa⟩:=get_some (l:=st) (i:=a) (by omega)
    have hsa:=Dk h2 fL gF (Is hca hxa)
    refine jC ?_;refine yX (dat a (a*7)) ?_;refine iV ?_
    have hal:Wt st c.above=decide (xa.phase=49):=by
     unfold Wt;rw[Bc,Int.toNat_natCast,hxa]
     first | (simp;done) | (simp;omega)
    refine aG rfl (fun h=>?_) (fun h=>?_)
    ·rw[hup,if_pos (.inr (by rw[hal];exact decide_eq_false h))];refine aA ?_;refine Gm 0 hA h1 h2 h3 h4 rfl ?_;exact bO 0 hF
    ·rw[hup,if_neg (by rw[hal,hdn];simp;exact Classical.not_not.1 h)];refine aA ?_;refine Gm 0 hA (by simpa using h1) hf h3 h4 rfl ?_;exact bO 0 hF
   ·have ha:=Classical.not_not.1 ha
    rw[hup,if_neg (by rw[hdn];simp[Wt,ha])];refine iV ?_;refine aA ?_;refine Gm 0 hA (by simpa using h1) hf h3 h4 rfl ?_;exact bO 0 hF
end
section
theorem aNF{s:aC}{st:List fT}{d:Int}(h:∀(j:Nat) (c:Dom) (x:fT),s.domains[j]? =some c→st[j]? =some x→Ij d c x=false):Ii s st d=false:=by
 unfold Ii;rw[List.any_eq_false];intro b hb;obtain⟨j,hj⟩:=List.getElem?_of_mem hb;rw[List.getElem?_zipWith] at hj;cases hc:s.domains[j]? with
 | none=>rw[hc] at hj;cases hj
 | some c =>
  cases hx:st[j]? with
  | none=>rw[hc,hx] at hj;cases hj
  | some x=>
   rw[hc,hx] at hj;cases hj;rw[h j c x hc hx];decide
theorem aNE{s:aC}{st:List fT}{d:Int}{j:Nat}{c:Dom}{x:fT}(hc:s.domains[j]? =some c)(hx:st[j]? =some x)(h:Ij d c x=true):Ii s st d=true:=by
 unfold Ii;rw[List.any_eq_true];exact⟨Ij d c x,List.mem_of_getElem? (i:=j) (by rw[List.getElem?_zipWith,hc,hx]),h⟩
theorem aLw(L:GL)(s:aC)(st:List fT)(hok:tJ s st)(hnd:s.domains.length≤1000)(d:Int)(keep:Bool)(w:World)(F:Nat→Prop)(hp:(uP L s st).sat F w)(hF:∀b,F b→b < w.heap.size):
  Cz 208 #[.pointer (some ⟨L.t,0,none⟩),iv d,.bool keep] w (Wr (iv (xF s st d keep).1) (uP L s (xF s st d keep).2) w F):=by
 have hl:=hok.len
 cases hi:bZ s.domains.length d
 ·have hr:xF s st d keep=(4,st):=by simp[xF,hl,hi]
  rw[hr];refine cS func208 ntmps208 hp hF ?_;refine aB ?_;refine aU (fun w1 t=>aBG L.t s.domains.length L.c L.A d w1 ((t.aBB 0 rfl).r0) hi) ?_;refine aB ?_;exact bO 0 hF
 ·obtain⟨n,rfl⟩:∃n:Nat,d=n:=⟨d.toNat,by have:=of_decide_eq_true hi;omega⟩
  have hlt:n < s.domains.length:=by have:=of_decide_eq_true hi;omega
  obtain⟨c,hc⟩:=get_some hlt;obtain⟨x,hx⟩:=get_some (l:=st) (i:=n) (by omega);obtain⟨fL,gF⟩:=aAx hok
  have hdn:xF s st (n:Int) keep=if x.phase≠49 then(6,st) else if keep=true∧c.ret=false then(1,st) else if Ii s st n then(7,st) else(0,st.set n ⟨99,x.left,x.kept,keep⟩):=by
   simp[xF,hl,hi,hc,hx]
  refine cS func208 ntmps208 hp hF ?_;refine aDu 0 rfl (by omega) fun g cs hA h1 h2 h3 h4=>?_;dsimp only[List.set]
  have hs:=Dk h2 fL gF (Is hc hx)
  have hlen:n*7+7≤cs.length:=by omega
  have hs1:=hs.set 3 (.int .u8 99) (by simp[nY]) (by omega)
  have jB:=hs1.set 6 (.bool keep) (by simp[nY]) (by simp;omega)
  have Cu:=((tC.refl cs (n*7) 7).set 3 (.int .u8 99) (by decide)).set 6 (.bool keep) (by decide)
  have hf:=Bg (r':=nY c ⟨99,x.left,x.kept,keep⟩) h2 fL gF hlt (by omega) rfl jB Cu
  rw[aCW hc (by omega)] at hf;refine aB ?_;refine aU (fun w1 t=>aBH L.t s.domains.length L.c g 0 n w1 ((t.box (i:=1) rfl).at_ (j:=0) rfl) hlt) ?_;rw[Nat.zero_add];refine aB ?_;refine aG rfl (fun Cx=>?_) (fun Cx=>?_)
  ·rw[hdn,if_pos Cx];refine aB ?_;refine Gm 0 hA h1 h2 h3 h4 rfl ?_;exact bO 0 hF
  rw[if_neg Cx] at hdn;refine oA ?_;refine eB ?_;refine eA ?_;refine aDy 27 (keep=true∧c.ret=false) ?_ ?_
  ·cases keep
   ·refine aA ?_;exact aAO
   ·refine aA ?_;cases hrt:c.ret<;>exact aAO
  refine aG rfl (fun hk=>?_) (fun hk=>?_)
  ·rw[hdn,if_pos hk];refine aB ?_;refine Gm 0 hA h1 h2 h3 h4 rfl ?_;exact bO 0 hF
  rw[if_neg hk] at hdn;refine aB ?_;refine bL [(33,iv 0),(32,iv s.domains.length),(7,.pointer (some ⟨g,n*7,none⟩)),(2,.bool keep),(1,iv n),(0,.pointer (some ⟨L.t,0,none⟩))] ?_;refine eV (fun m e R H=>∃i:Nat,i≤s.domains.length∧(∀(j:Nat) (c:Dom) (x:fT),j < i→s.domains[j]? =some c→st[j]? =some x→Ij n c x=false)∧m=s.domains.length - i∧e=[(33,iv i),(32,iv s.domains.length),(7,.pointer (some ⟨g,n*7,none⟩)),(2,.bool keep),(1,iv n),(0,.pointer (some ⟨L.t,0,none⟩))]∧R=[⟨w,fun b=>b < w.heap.size∧¬F b⟩]∧H=[HP.aE g 256 cs,HP.aE L.t 254 [.slice (some ⟨g,0,none⟩) s.domains.length L.c],HP.many [cG,cG]]) s.domains.length ⟨0,by omega,fun j _ _ hj=>by omega,rfl,rfl,rfl,rfl⟩ fun m e R H hI=>?_;obtain⟨i,hi2,hno,rfl,rfl,rfl,rfl⟩:=hI;refine aB ?_;refine aG rfl (fun uB=>?_) (fun hge=>?_)
  ·have uB:i < s.domains.length:=by omega
   obtain⟨ci,Dh⟩:=get_some uB;obtain⟨xi,hxi⟩:=get_some (l:=st) (i:=i) (by omega)
   have hsi:=Dk h2 fL gF (Is Dh hxi)
   clear hs1 jB;refine aA ?_;refine kd (dat i (i*7)) ?_;refine aB ?_;refine bT (t:=47) rfl (fun ha=>?_) (fun ha=>?_)
   ·refine aA ?_;refine kd (dat i (i*7)) ?_;refine aB ?_;refine aU (fun w1 t=>aFf g (i*7) xi.phase w1 ⟨(t.aE (i:=0) rfl).lt,Rd.sub 0 3 rfl hsi rfl rfl w1 t⟩) ?_;refine aB ?_;refine aG rfl (fun hd=>?_) (fun hd=>?_)
    ·have hh:Ii s st n=true:=aNE Dh hxi (by simp[Ij,ha,Qh];simpa using hd)
     rw[hdn,if_pos hh];refine aB ?_;refine Gm 0 hA h1 h2 h3 h4 rfl ?_;exact bO 0 hF
    ·refine aB ?_;refine bL [(33,iv (i+1:Nat)),(32,iv s.domains.length),(7,.pointer (some ⟨g,n*7,none⟩)),(2,.bool keep),(1,iv n),(0,.pointer (some ⟨L.t,0,none⟩))] ?_;refine gQ (s.domains.length - (i+1)) (by omega) ⟨i+1,uB,fun j c x hj Dg Ex=>?_,rfl,rfl,rfl,rfl⟩;rcases Nat.lt_or_ge j i with h | h
     ·exact hno j c x h Dg Ex
     ·obtain rfl:j=i:=by omega
      rw[Dh] at Dg;rw[hxi] at Ex;cases Dg;cases Ex
      have hd:=Classical.not_not.1 hd
      simp[Ij,Qh,hd]
   ·refine aB ?_;refine bL [(33,iv (i+1:Nat)),(32,iv s.domains.length),(7,.pointer (some ⟨g,n*7,none⟩)),(2,.bool keep),(1,iv n),(0,.pointer (some ⟨L.t,0,none⟩))] ?_;refine gQ (s.domains.length - (i+1)) (by omega) ⟨i+1,uB,fun j c x hj Dg Ex=>?_,rfl,rfl,rfl,rfl⟩;rcases Nat.lt_or_ge j i with h | h
    ·exact hno j c x h Dg Ex
    ·obtain rfl:j=i:=by omega
     rw[Dh] at Dg;rw[hxi] at Ex;cases Dg;cases Ex;simp[Ij,ha]
  ·obtain rfl:i=s.domains.length:=by omega
   have hh:Ii s st n=false:=aNF fun j c x Dg Ex=>hno j c x (List.getElem?_eq_some_iff.1 Dg).1 Dg Ex
   rw[hdn,if_neg (by rw[hh];decide)];refine aB ?_;refine Gm 0 hA (by simpa using h1) hf h3 h4 rfl ?_;exact bO 0 hF
def mZ(cs:List Value)(o:Nat)(x:fT):List Value:=
 if x.phase=114 then(if 0 < x.left then cs.set (o+4) (iv (x.left - 1)) else cs.set (o+3) (.int .u8 104))
 else if x.phase=104 then cs.set (o+3) (.int .u8 49)
 else if x.phase=99 then cs.set (o+3) (.int .u8 (if x.keep then 116 else 48)) else cs
theorem aJ7{cs:List Value}{o:Nat}{c:Dom}{x:fT}(h:Sub cs o (nY c x))(hl:o+7≤cs.length):Sub (mZ cs o x) o (nY c (jE x).2)∧tC cs (mZ cs o x) o 7:=by
 have hu:=tC.refl cs o 7
 obtain⟨ph,left,kept,keep⟩:=x
 by_cases h1:ph=114
 ·subst h1
  by_cases h2:0 < left
  ·simp only[mZ,jE,if_pos h2,if_true];exact⟨h.set 4 (iv (left - 1)) (by simp[nY]) (by omega),hu.set 4 _ (by decide)⟩
  ·simp only[mZ,jE,if_neg h2,if_true];exact⟨h.set 3 (.int .u8 104) (by simp[nY]) (by omega),hu.set 3 _ (by decide)⟩
 ·by_cases h2:ph=104
  ·simp only[mZ,jE,if_neg h1,if_pos h2];exact⟨h.set 3 (.int .u8 49) (by simp[nY]) (by omega),hu.set 3 _ (by decide)⟩
  ·by_cases h3:ph=99
   ·simp only[mZ,jE,if_neg h1,if_neg h2,if_pos h3];cases keep
    ·exact⟨h.set 3 (.int .u8 48) (by simp[nY]) (by omega),hu.set 3 _ (by decide)⟩
    ·exact⟨h.set 3 (.int .u8 116) (by simp[nY]) (by omega),hu.set 3 _ (by decide)⟩
   ·simp only[mZ,jE,if_neg h1,if_neg h2,if_neg h3];exact⟨h,hu⟩
theorem aLt(g o:Nat)(cs:List Value)(c:Dom)(x:fT)(hs:Sub cs o (nY c x))(hlen:o+7≤cs.length)(hx:0≤x.left∧x.left≤3)(w:World)(F:Nat→Prop)(hp:(HP.aE g 256 cs).sat F w)(hF:∀b,F b→b < w.heap.size):
  Cz 194 #[.pointer (some ⟨g,o,none⟩)] w (Wr (.int .u8 (jE x).1) (HP.aE g 256 (mZ cs o x)) w F):=by
 refine cS func194 ntmps194 hp hF ?_;obtain⟨ph,left,kept,keep⟩:=x;dsimp only at hx;dsimp only[nY] at hs;refine aA ?_;refine aG rfl (fun h=>?_) (fun h=>?_)
 ·subst h;refine aA ?_;refine aG rfl (fun hp=>?_) (fun hp=>?_)
  ·refine aA ?_;refine mI rfl rfl fun w1 t=>⟨by simp[jE,mZ,hp,if_true],?_⟩
   simp only[jE,mZ,if_pos hp,if_true];exact t.turns hF (by simp) (i:=0) rfl
  ·have hs1:=hs.set 3 (.int .u8 104) (by simp) (by omega)
   refine aA ?_;refine pE rfl (fun hk=>?_) (fun hk=>?_)
   ·refine aA ?_;refine mI rfl rfl fun w1 t=>⟨by simp[jE,mZ,hp,if_true,hk],?_⟩
    simp only[jE,mZ,if_neg hp,if_true,hk];exact t.turns hF (by simp) (i:=0) rfl
   ·refine aA ?_;refine mI rfl rfl fun w1 t=>⟨by simp[jE,mZ,hp,if_true,hk],?_⟩
    simp only[jE,mZ,if_neg hp,if_true,hk];exact t.turns hF (by simp) (i:=0) rfl
 ·refine aA ?_;refine aG rfl (fun h2=>?_) (fun h2=>?_)
  ·refine aA ?_;refine mI rfl rfl fun w1 t=>⟨by simp[jE,mZ,h,h2],?_⟩
   simp only[jE,mZ,if_neg h,if_pos h2];exact t.turns hF (by simp) (i:=0) rfl
  ·refine aA ?_;refine aG rfl (fun h3=>?_) (fun h3=>?_)
   ·refine aA ?_;refine pE rfl (fun hk=>?_) (fun hk=>?_)
    ·refine aA ?_;refine mI rfl rfl fun w1 t=>⟨by simp[jE,mZ,h,h2,h3,hk,if_true],?_⟩
     simp only[jE,mZ,if_neg h,if_neg h2,if_pos h3,hk,if_true];exact t.turns hF (by simp) (i:=0) rfl
    ·refine aA ?_;refine mI rfl rfl fun w1 t=>⟨by simp[jE,mZ,h,h2,h3,hk],?_⟩
     simp only[jE,mZ,if_neg h,if_neg h2,if_pos h3,hk];exact t.turns hF (by simp) (i:=0) rfl
   ·refine aA ?_;refine mI rfl rfl fun w1 t=>⟨by simp[jE,mZ,h,h2,h3],?_⟩
    simp only[jE,mZ,if_neg h,if_neg h2,if_neg h3];exact t.turns hF (by simp) (i:=0) rfl
theorem aE7{α:Type}{l:List α}{i:Nat}{x:α}(h:l[i]? =some x):l.set i x=l:=by
 refine List.ext_getElem? fun j=>?_;rw[List.getElem?_set]
 by_cases he:i=j
 ·subst he;rw[if_pos rfl,if_pos (List.getElem?_eq_some_iff.1 h).1,h]
 ·rw[if_neg he]
def Ew(st:List fT)(i:Nat):List fT:=(pM st).take i++st.drop i
theorem aBW{α:Type}(f:α→α)(st:List α){i:Nat}(hi:i < st.length):((st.map f).take i++st.drop i)[i]? =st[i]? :=by
 have:((st.map f).take i).length=i:=by simp;omega
 rw[List.getElem?_append_right (by omega),this,Nat.sub_self,List.getElem?_drop,Nat.add_zero]
theorem aBV{α:Type}(f:α→α)(st:List α){i:Nat}{x:α}(hx:st[i]? =some x):((st.map f).take i++st.drop i).set i (f x)=(st.map f).take (i+1)++st.drop (i+1):=by
 have hi:=(List.getElem?_eq_some_iff.1 hx).1
 refine List.ext_getElem? fun j=>?_;rw[List.getElem?_set]
 by_cases he:i=j
 ·subst he;rw[if_pos rfl,if_pos (by simp;omega),List.getElem?_append_left (by simp;omega),List.getElem?_take_of_lt (by omega),List.getElem?_map,hx];rfl
 ·rw[if_neg he];rcases Nat.lt_or_ge j i with hj | hj
  ·rw[List.getElem?_append_left (by simp;omega),List.getElem?_append_left (by simp;omega),List.getElem?_take_of_lt hj,List.getElem?_take_of_lt (by omega)]
  ·rw[List.getElem?_append_right (by simp;omega),List.getElem?_append_right (by simp;omega),List.getElem?_drop,List.getElem?_drop]
   congr 1
   simp;omega
theorem aEw{x:fT}(hl:0≤x.left∧x.left≤3)(hp:0≤x.phase∧x.phase < 256):(0≤(jE x).2.left∧(jE x).2.left≤3)∧(0≤(jE x).2.phase∧(jE x).2.phase < 256):=by
 unfold jE
 repeat' split
 all_goals(dsimp only;constructor<;>omega)
theorem aBx{s:aC}{st:List fT}(hok:tJ s st):tJ s (pM st):=by
 have hl:=hok.len
 refine⟨by simp[pM];omega,fun x hx=>?_,fun x hx=>?_⟩
 ·obtain⟨y,hy,rfl⟩:=List.mem_map.1 hx;exact(aEw (hok.left y hy) (hok.phase y hy)).1
 ·obtain⟨y,hy,rfl⟩:=List.mem_map.1 hx;exact(aEw (hok.left y hy) (hok.phase y hy)).2
theorem aMl{s:aC}{st:List fT}(hok:tJ s st){i:Nat}(hi:i≤s.domains.length):tJ s (Ew st i):=by
 have hl:=hok.len
 have ht:=aBx hok
 refine⟨by simp[Ew,pM];omega,fun x hx=>?_,fun x hx=>?_⟩
 ·rcases List.mem_append.1 hx with h | h
  ·exact ht.left x (List.mem_of_mem_take h)
  ·exact hok.left x (List.mem_of_mem_drop h)
 ·rcases List.mem_append.1 hx with h | h
  ·exact ht.phase x (List.mem_of_mem_take h)
  ·exact hok.phase x (List.mem_of_mem_drop h)
def Dn(p:Int×Nat):List Value:=[.int .u8 p.1,iv (p.2:Int)]
theorem aG9(st:List fT)(n:Nat):(kR st n).length≤n:=by
 unfold kR;exact Nat.le_trans (List.length_filterMap_le _ _) (by simp)
theorem aOx{st:List fT}{i:Nat}{x:fT}(hx:st[i]? =some x):kR st (i+1)=kR st i++(if(jE x).1=0 then[] else[((jE x).1,i)]):=by
 unfold kR;rw[List.range_succ,List.filterMap_append];simp only[List.filterMap_cons,List.filterMap_nil,hx,Option.bind_some]
 by_cases h:(jE x).1=0<;>simp[h]
theorem aLs(L:GL)(s:aC)(st:List fT)(hok:tJ s st)(hnd:s.domains.length≤1000)(w:World)(F:Nat→Prop)(hp:(uP L s st).sat F w)(hF:∀b,F b→b < w.heap.size):
  Cz 155 #[.pointer (some ⟨L.t,0,none⟩)] w (fun y w'=>∃a:Option Addr×Nat,y=.returned (.slice a.1 (kR st s.domains.length).length a.2)∧True∧∃F',(HP.many [uP L s (pM st),HP.own 242 2 (.slice a.1 (kR st s.domains.length).length a.2) (kR st s.domains.length).length ((kR st s.domains.length).flatMap Dn)]).sat F' w'∧iC w w' F F'):=by
 have hl:=hok.len
 refine cS func155 ntmps155 hp hF ?_
 have aCy:Rd w [⟨w,fun b=>b < w.heap.size∧¬F b⟩] [uP L s st] L.t 0 (.slice L.A s.domains.length L.c):=Rd.row 0 rfl
 refine aA ?_;refine lU 242 2 ?_;refine bL [(13,iv 0),(12,iv s.domains.length),(3,sn),(0,.pointer (some ⟨L.t,0,none⟩))] ?_;refine eV (fun m e R H=>∃(i:Nat) (A:Option Addr) (k:Nat),i≤s.domains.length∧m=s.domains.length - i∧e=[(13,iv i),(12,iv s.domains.length),(3,.slice A (kR st i).length k),(0,.pointer (some ⟨L.t,0,none⟩))]∧R=[⟨w,fun b=>b < w.heap.size∧¬F b⟩]∧H=[HP.own 242 2 (.slice A (kR st i).length k) (kR st i).length ((kR st i).flatMap Dn),uP L s (Ew st i)]) s.domains.length ⟨0,none,0,by omega,rfl,rfl,rfl,by simp[Ew,kR]⟩ fun m e R H hI=>?_;obtain⟨i,A,k,hi,rfl,rfl,rfl,rfl⟩:=hI;refine aA ?_;refine aG rfl (fun hlt=>?_) (fun hge=>?_)
 ·have hlt:i < s.domains.length:=by omega
  obtain⟨c,hc⟩:=get_some hlt;obtain⟨x,hx⟩:=get_some (l:=st) (i:=i) (by omega)
  have Lf:(Ew st i)[i]? =some x:=by rw[Ew,pM,aBW _ st (by omega)];exact hx
  have Um:=aMl hok hi
  obtain⟨fL,gF⟩:=aAx Um
  have hel:=aG9 st i
  refine aDu 1 rfl (by omega) fun g cs hA h1 h2 h3 h4=>?_;dsimp only[List.set]
  have hs:=Dk h2 fL gF (Is hc Lf)
  obtain⟨hs1,mO⟩:=aJ7 hs (by omega)
  have hf:=Bg (r':=nY c (jE x).2) h2 fL gF hlt (by omega) rfl hs1 mO
  rw[aCW hc (by have:=Um.len;omega),Ew,pM,aBV (fun x=>(jE x).2) st hx] at hf;refine aA ?_;refine kd (dat i (i*7)) ?_;refine Sd 0 (fi:=[]) (ca:=[]) (p:=HP.aE g 256 cs) (HP.aE g 256 (mZ cs (i*7) x)) (by kernel_rfl) rfl rfl rfl ⟨(by decide),rfl⟩ (fun w1 G t hG wV=>aLt g (i*7) cs c x hs (by omega) (hok.left x (List.mem_of_getElem? hx)) w1 G hG wV) ?_;dsimp only[List.set]
  have sJ:(mZ cs (i*7) x).length=L.c*7:=by rw[mO.1,h1]
  refine Gm 1 hA sJ hf h3 h4 rfl ?_;dsimp only[List.set]
  have dB:=aOx hx
  refine aA ?_;refine aG rfl (fun hz=>?_) (fun hz=>?_)
  ·rw[if_neg hz] at dB;refine aB ?_;refine eK fun g2=>?_;refine iF 1 2 16 1 (el:=242) (by kernel_rfl) (by kernel_rfl) (by decide) rfl rfl rfl (mM 0 rfl rfl) (by simp[Value.oneCell']) rfl (by omega) (by omega) (by decide) fun A' k'=>?_;dsimp only[List.set];refine aA ?_
   have e1:(kR st (i+1)).length=(kR st i).length+1:=by rw[dB];simp
   have e2:(kR st (i+1)).flatMap Dn=(kR st i).flatMap Dn++[.int .u8 (jE x).1,iv (i:Int)]:=by rw[dB,List.flatMap_append];rfl
   refine aT [1,2] rfl (by decide) (fun _ h=>h) ?_;refine bL [(13,iv (i+1:Nat)),(12,iv s.domains.length),(3,.slice A' ((kR st i).length+1) k'),(0,.pointer (some ⟨L.t,0,none⟩))] ?_;exact gQ (s.domains.length - (i+1)) (by omega) ⟨i+1,A',k',hlt,rfl,by rw[e1],rfl,by rw[e1,e2];rfl⟩
  ·have hz:=Classical.not_not.1 hz
   rw[if_pos hz,List.append_nil] at dB;refine aA ?_;refine bL [(13,iv (i+1:Nat)),(12,iv s.domains.length),(3,.slice A (kR st i).length k),(0,.pointer (some ⟨L.t,0,none⟩))] ?_;refine gQ (s.domains.length - (i+1)) (by omega) ⟨i+1,A,k,hlt,rfl,by rw[dB],rfl,by rw[dB];rfl⟩
 ·obtain rfl:i=s.domains.length:=by omega
  have vE:Ew st s.domains.length=pM st:=by
   rw[Ew,List.drop_eq_nil_of_le (by omega),List.append_nil,List.take_of_length_le (by simp[pM];omega)]
  rw[vE];refine aA ?_;refine aT [1,0] rfl (by decide) (fun _ h=>h) ?_;refine mU ?_;exact mI rfl rfl fun w1 t=>⟨(A,k),rfl,trivial,t.turns hF (by simp) (i:=0) rfl⟩
end
end Go.Proofs.YtkgekojkboingaaGreatDoor
