/- package bus: addresses; something is posted. -/
import Derived.Test.YtkgekojkboingaaGreatDoorWorldRoundsK4
namespace Go.Proofs.YtkgekojkboingaaGreatDoor
set_option linter.all false
set_option maxHeartbeats 4000000
set_option maxRecDepth 20000
open Go.RowKit Go.Proofs.Tryz
section
theorem aAB(w0 low many:Int)(w:World)(hok:okF low many)(hr:0≤cN w0 low many∧cN w0 low many < 4294967296):
  Cz 270 #[.int .u32 w0,iv low,iv many] w (Rt (iv (cN w0 low many)) w):=by
 refine aO func270 ntmps270 ?_;refine aA ?_;refine aS (fun w1 t=>aG6 w0 low many w1 hok) ?_;refine aA ?_;refine kd (Jd (ds:=.int .u32) (kd:=.i64) (c:=cN w0 low many) (by kernel_rfl) (by kernel_rfl) rfl (iW (by omega))) ?_;refine aA ?_;exact dH
theorem aAv(w low many:Int):0≤cN w low many∧cN w low many < 4294967296:=Nl _
theorem aH3(a dev cF:Int)(h0:cN a 0 2=0)(h1:cN a 24 8=0)(h2:cN a 16 8=dev)(h3:cN a 2 14=cF)(w:World):
  Cz 268 #[.int .u32 a] w (Rt (.tuple #[iv dev,iv cF]) w):=by
 refine aO func268 ntmps268 ?_;refine aA ?_;refine aS (fun w1 t=>aAB a 0 2 w1 (by unfold okF;omega) (aAv _ _ _)) ?_;rw[h0];refine aA ?_;refine aS (fun w1 t=>aAB a 24 8 w1 (by unfold okF;omega) (aAv _ _ _)) ?_;rw[h1];refine aA ?_;refine aS (fun w1 t=>aAB a 16 8 w1 (by unfold okF;omega) (aAv _ _ _)) ?_;rw[h2];refine aA ?_;refine aS (fun w1 t=>aAB a 2 14 w1 (by unfold okF;omega) (aAv _ _ _)) ?_;rw[h3];refine aA ?_;exact fS rfl rfl rfl fun w1 t=>⟨rfl,t.below (by simp)⟩
def Qz(dev cF:Int):Int:=(wK (wK 0 16 8 dev).1 2 14 cF).1
structure aSp(dev cF:Int):Prop where
 p1:(wK 0 16 8 dev).2=0
 p2:(wK (wK 0 16 8 dev).1 2 14 cF).2=0
 z0:cN (Qz dev cF) 0 2=0
 z1:cN (Qz dev cF) 24 8=0
 z2:cN (Qz dev cF) 16 8=dev
 z3:cN (Qz dev cF) 2 14=cF
theorem aHJ{dev cF:Int}(h1:0≤dev∧dev < 4)(h2:0≤cF∧cF < 4):aSp dev cF:=by
 have hd:dev=0∨dev=1∨dev=2∨dev=3:=by omega
 have hr:cF=0∨cF=1∨cF=2∨cF=3:=by omega
 rcases hd with rfl | rfl | rfl | rfl<;>rcases hr with rfl | rfl | rfl | rfl<;>exact⟨by decide+kernel,by decide+kernel,by decide+kernel,by decide+kernel,by decide+kernel,by decide+kernel⟩
theorem aQ7(dev cF:Int)(hd:0≤dev∧dev < 4)(hr:0≤cF∧cF < 4)(w:World):
  Cz 266 #[iv dev,iv cF] w (Rt (.tuple #[.int .u32 (Qz dev cF),iv 0]) w):=by
 have ha:=aHJ hd hr
 refine aO func266 ntmps266 ?_;refine aA ?_;refine cG (t:=10) rfl (fun h=>absurd h (by omega)) (fun _=>?_);refine aA ?_;refine cG (t:=14) rfl (fun h=>absurd h (by omega)) (fun _=>?_);refine aA ?_;refine cG (t:=18) rfl (fun h=>absurd h (by omega)) (fun _=>?_);refine aA ?_;refine aG rfl (fun h=>absurd h (by omega)) (fun _=>?_);refine aA ?_;refine kd (Jd (ds:=.int .i64) (kd:=.u32) (c:=dev) (by kernel_rfl) (by kernel_rfl) rfl (wrap_u32 (by omega))) ?_;refine aS (fun w1 t=>aBH 0 16 8 dev w1 (by unfold okF;omega)) ?_;rw[ha.p1];refine aA ?_;refine kd (Jd (ds:=.int .i64) (kd:=.u32) (c:=cF) (by kernel_rfl) (by kernel_rfl) rfl (wrap_u32 (by omega))) ?_;refine aS (fun w1 t=>aBH _ 2 14 cF w1 (by unfold okF;omega)) ?_;rw[ha.p2];refine aA ?_;exact fS rfl rfl rfl fun w1 t=>⟨rfl,t.below (by simp)⟩
theorem aQ5(L:BL)(ms:List Int)(ws:List (Option jA))(aZ:Int)(i:Nat)(hi:i < ms.length)(hml:ms.length≤6)(hw:ws.length=ms.length)(h0:(ws[i]?).join=none)(a cF:Int)(z0:cN a 0 2=0)(z1:cN a 24 8=0)(z2:cN a 16 8=i)(z3:cN a 2 14=cF)(m:Int)(hm:ms[i]? =some m)(hr:0≤cF∧cF < m)(b:Bool)(v:Int)(mM:0≤aZ∧aZ≤1000000000)(w:World)(F:Nat→Prop)(hp:(xV L ms ws aZ).sat F w)(hF:∀b,F b→b < w.heap.size):
  Cz 269 #[.pointer (some ⟨L.b,0,none⟩),.int .u32 a,.bool b,.int .u32 v] w (Wr (.tuple #[iv aZ,iv 0]) (xV L ms (ws.set i (some ⟨aZ,b,cF,v⟩)) (aZ+1)) w F):=by
 have hin:bZ ms.length (i:Int)=true:=decide_eq_true (by omega)
 have hmi:(aN ms)[i]? =some (iv m):=by simp[aN,hm]
 refine cT func269 ntmps269 hp hF ?_;generalize cP:(⟨w,fun b=>b < w.heap.size∧¬F b⟩:Piece)=R0;refine aA ?_;refine aS (fun w1 t=>aH3 a i cF z0 z1 z2 z3 w1) ?_;refine aA ?_;refine aS (fun w1 st=>aAC L ms ws aZ i w1 (st.aH4 0 rfl)) ?_;rw[hin];refine aHW 0 i rfl hi fun vs hv=>?_;rw[h0];dsimp only[List.set];refine aW 4 1 ?_;refine aR8 (p:=∃A,vs.getD i undef=.slice A 0 0) 1 rfl fun⟨A,hA⟩=>?_
 have Ug:vs[i]? =some (.slice A 0 0):=by
  obtain⟨u,h1⟩:=get_some (l:=vs) (i:=i) (by omega);rw[List.getD_eq_getElem?_getD,h1] at hA;rw[h1];exact congrArg some hA
 refine aA ?_;refine cG (t:=26) rfl (fun h=>absurd h (by omega)) (fun _=>?_);refine aA ?_;refine kd (dat i i) ?_;refine aA ?_;refine kd (bH rfl (Rd.aE 0 rfl hmi)) ?_;refine aA ?_;refine aG rfl (fun h=>absurd h (by omega)) (fun _=>?_);refine aA ?_;refine kd (dat i i) ?_;refine aA ?_;refine kd (bH rfl (Rd.aE 2 rfl Ug)) ?_;refine aA ?_;refine eO rfl rfl ?_ (hs:=eL.mk 4 rfl cO.h rfl (by simp[Ww]));dsimp only[List.set];rw[show(Ww L ms aZ).set (0+2) (iv (aZ+1))=Ww L ms (aZ+1) from rfl];refine aA ?_;refine iZ [1,2,3,6,7,8,10,11] ?_;refine bJ 0 ?_;refine aK 1 ?_;refine aK 2 ?_;refine aK 3 ?_;refine bJ 4 ?_;refine bJ 5 ?_;refine aK 6 ?_;refine aK 7 ?_;refine aK 8 ?_;refine bJ 9 ?_;refine aK 10 ?_ (hi:=rfl) (cM:=dat i i);refine aK 11 ?_ (hi:=rfl) (cM:=bH rfl (Rd.aE 2 rfl Ug));refine bJ 12 ?_;refine bJ 13 ?_;refine bJ 14 ?_;refine bJ 15 ?_;refine aL 16 ?_;refine kd (iG rfl) ?_;refine bB ?_;refine aL 17 ?_;refine eH fun g4=>?_;refine bB ?_;refine aL 18 ?_;refine aJh 4 32 1 (el:=306) (by kernel_rfl) (by kernel_rfl) (by decide) rfl rfl (lV 0 rfl rfl) (by simp[Value.oneCell']) (by decide) (by decide) (by decide) (by decide) fun An cn=>?_;refine bB ?_;refine aL 19 ?_;refine kd (dat i i) ?_;refine cI ?_;refine aL 20 ?_;refine eO rfl rfl ?_ (hs:=eL.mk 4 rfl cO.h rfl (by omega));dsimp only[List.set];refine cI ?_;refine dY ?_;refine aA ?_;refine aT [2,0,4,5,6,7] rfl (by decide) (fun _ h=>h) ?_;refine aJ 4 1 ?_;refine aId (v:=.slice An 1 cn) (q:=some ⟨aZ,b,cF,v⟩) 0 i rfl hi hv hw ?_;dsimp only[List.set];subst cP;exact fS rfl rfl rfl fun w1 st=>⟨rfl,st.turns hF (by simp) (i:=0) rfl⟩
end
section
def xK(s:aC)(x:aU)(i:Nat):Bool:=match s.aD[i]? with
 | some d=>tK s x.ck d.clock&&(decide (rX x.dm d.domain=49)&& !Il x.ln d.reset)
 | none=>false
def wD(x:aU)(i:Nat):Int:=((x.dv[i]?).map fun p=>oM p.2.at_).getD 0
theorem aBg{w0:World}{R:List Piece}{H:List HP}{b o:Nat}{vs:List Value}{v:Value}(j:Nat)(h:aM w0 R H b o vs)(hv:vs[j]? =some v):Rd w0 R H b (o+j) v:=fun w st=>h w st j v hv
section
variable(L:HL)(s:aC)(x:aU)(w:World)
theorem aGw(hH:s.dK)(i:Int)(hR:tD w L s x):Cz 179 #[.pointer (some ⟨L.h,0,none⟩),iv i] w (Rt (.bool (tK s x.ck i)) w):=by
 have k0:=hR.r0.at_ (j:=0) rfl
 refine aO func179 ntmps179 ?_;refine aA ?_;refine aS (fun w1 t=>Ba L s x w1 (hR.below (t.below (by simp)))) ?_;refine aA ?_;refine aS (fun w1 t=>Wt L.T s x.ck hH i w1 (hR.tree.below (t.below (by simp)))) ?_;refine aA ?_;exact dH
theorem aG1(hH:s.dK)(aQ:gA L s)(hok:cX s x)(i:Nat)(hi:i < s.aD.length)(hR:tD w L s x):Cz 93 #[.pointer (some ⟨L.h,0,none⟩),iv (i:Int)] w (Rt (.bool (xK s x i)) w):=by
 have k0:=hR.r0.at_ (j:=0) rfl
 have k1:=hR.r0.at_ (j:=1) rfl
 have k2:=hR.r0.at_ (j:=2) rfl
 have k4:=hR.r0.at_ (j:=4) rfl
 have hls:=aQ.ds
 obtain⟨d,dB⟩:=get_some hi;obtain⟨l,iA⟩:=get_some (l:=L.ds) (i:=i) (by omega);obtain⟨b,off,hA,hr⟩:=aI.row hR.rows (rows:=vE s.aD L.ds) (fun r hr=>aCY r hr) (aCZ dB iA) hi
 have hin:bZ s.aD.length (i:Int)=true:=decide_eq_true (by omega)
 have hal:xK s x i=(tK s x.ck d.clock&&(decide (rX x.dm d.domain=49)&& !Il x.ln d.reset)):=by
  unfold xK;rw[dB]
 rw[hal];refine aO func93 ntmps93 ?_;refine aA ?_;refine aS (fun w1 t=>Pj L s x w1 i (hR.below (t.below (by simp)))) ?_;rw[hin];refine aA ?_;refine kd (dat i (off+i*6) (hx:=by rw[←hA];rfl)) ?_;refine aB ?_;refine bY fun g1=>?_;refine aA ?_;refine lJ ?_;refine jC ?_;refine rB (fun w1 t=>Wt L.T s x.ck hH d.clock w1 (hR.tree.below (t.below (by simp)))) ?_;cases hrun:tK s x.ck d.clock
 ·refine iY ?_;refine aA ?_;exact dH
 ·refine jC ?_;refine rB (fun w1 t=>aFr L.G s x.dm hok.dm d.domain w1 (Bw.below hR.aCM (t.below (by simp)))) ?_;refine jC ?_;refine Ea 32 rfl (fun hp=>?_) (fun hp=>?_)
  ·rw[decide_eq_true hp];refine jC ?_;refine rB (fun w1 t=>aFa L.R s x.ln d.reset w1 (hR.lines.below (t.below (by simp)))) ?_;refine iY ?_;refine aA ?_;exact dH
  ·rw[decide_eq_false hp];refine iY ?_;refine aA ?_;exact dH
theorem aGv(aQ:gA L s)(hok:cX s x)(i:Nat)(hi:i < s.aD.length)(cZ:Rw w)(hR:tD w L s x):Cz 174 #[.pointer (some ⟨L.h,0,none⟩),iv (i:Int)] w (Rt (.int .u8 (wD x i)) w):=by
 have k4:=hR.r0.at_ (j:=4) rfl
 have hls:=aQ.ds
 have lC:=hok.dv
 obtain⟨d,dB⟩:=get_some hi;obtain⟨l,iA⟩:=get_some (l:=L.ds) (i:=i) (by omega);obtain⟨p,gE⟩:=get_some (l:=x.dv) (i:=i) (by omega);obtain⟨b,off,hA,hr⟩:=aI.row hR.rows (rows:=vE s.aD L.ds) (fun r hr=>aCY r hr) (aCZ dB iA) hi
 have k5:=hr.at_ (j:=5) rfl
 have hin:bZ s.aD.length (i:Int)=true:=decide_eq_true (by omega)
 have hst:wD x i=oM p.2.at_:=by
  unfold wD;rw[gE];rfl
 rw[hst];refine aO func174 ntmps174 ?_;refine aA ?_;refine aS (fun w1 t=>Pj L s x w1 i (hR.below (t.below (by simp)))) ?_;rw[hin];refine aA ?_;refine kd (dat i (off+i*6) (hx:=by rw[←hA];rfl)) ?_;refine aA ?_;refine aS (fun w1 t=>aFo l.2 p.2 (hok.each i d p dB gE).2 w1 (cZ.below (t.below (by simp))) ((hR.below (t.below (by simp))).each i d l p dB iA gE).2) ?_;refine aA ?_;exact dH
def Gh(x:aU)(i:Nat):aU:={x with dv:=match x.dv[i]? with | some p=>x.dv.set i (p.1,(sO p.2).2) | none=>x.dv}
def yJ(x:aU)(i:Nat):aU:={x with dv:=match x.dv[i]? with | some p=>x.dv.set i (p.1,(nX p.2).2) | none=>x.dv}
theorem aG0(hH:s.dK)(aQ:gA L s)(hok:cX s x)(i:Nat)(hi:i < s.aD.length)(F:Nat→Prop)(hp:(dN L s x).sat F w)(hF:∀b,F b→b < w.heap.size):
  Cz 207 #[.pointer (some ⟨L.h,0,none⟩),iv (i:Int)] w (fun y w'=>∃r:Int,y=.returned (iv r)∧True∧∃F',(dN L s (Gh x i)).sat F' w'∧iC w w' F F'):=by
 have hls:=aQ.ds
 have lC:=hok.dv
 obtain⟨d,dB⟩:=get_some hi;obtain⟨l,iA⟩:=get_some (l:=L.ds) (i:=i) (by omega);obtain⟨p,gE⟩:=get_some (l:=x.dv) (i:=i) (by omega)
 have hin:bZ s.aD.length (i:Int)=true:=decide_eq_true (by omega)
 have hX:Gh x i={x with dv:=x.dv.set i (p.1,(sO p.2).2)}:=by
  unfold Gh;rw[gE]
 rw[hX];refine cT func207 ntmps207 hp hF ?_;refine aA ?_;refine aS (fun w1 t=>Pj L s x w1 i (t.mA 0 rfl aQ hok)) ?_;rw[hin];refine aA ?_;refine kd (bH rfl (pG 0 rfl rfl)) ?_;refine Mm 0 rfl aQ hok (by omega) fun b off hA=>?_;refine aA ?_;refine kd (dat i (off+i*6) (hx:=by rw[←hA];rfl)) ?_;refine aA ?_;refine kd (bH rfl (aBg (vs:=Iz d l) 5 (aM.dev 0 rfl aQ hok hA dB iA rfl) rfl)) ?_;refine Rb 0 i rfl dB iA gE ?_;dsimp only[List.set];refine aW 0 1 ?_;refine bT 0 (tB l.2 (sO p.2).2) (fun w1 F1 t h1 h2 h3=>aLw h1 h2) ?_;refine aJ 0 1 ?_;refine Rj 0 i rfl dB iA gE (p':=(p.1,(sO p.2).2)) ?_;dsimp only[List.set];refine aA ?_;exact mF rfl rfl fun w1 t=>⟨_,rfl,trivial,t.turns hF (by simp) (i:=0) rfl⟩
theorem aCB(hH:s.dK)(aQ:gA L s)(hok:cX s x)(i:Nat)(hi:i < s.aD.length)(F:Nat→Prop)(hp:(dN L s x).sat F w)(hF:∀b,F b→b < w.heap.size):
  Cz 175 #[.pointer (some ⟨L.h,0,none⟩),iv (i:Int)] w (fun y w'=>∃r:Int,y=.returned (iv r)∧True∧∃F',(dN L s (yJ x i)).sat F' w'∧iC w w' F F'):=by
 have hls:=aQ.ds
 have lC:=hok.dv
 obtain⟨d,dB⟩:=get_some hi;obtain⟨l,iA⟩:=get_some (l:=L.ds) (i:=i) (by omega);obtain⟨p,gE⟩:=get_some (l:=x.dv) (i:=i) (by omega)
 have hin:bZ s.aD.length (i:Int)=true:=decide_eq_true (by omega)
 have hX:yJ x i={x with dv:=x.dv.set i (p.1,(nX p.2).2)}:=by
  unfold yJ;rw[gE]
 rw[hX];refine cT func175 ntmps175 hp hF ?_;refine aA ?_;refine aS (fun w1 t=>Pj L s x w1 i (t.mA 0 rfl aQ hok)) ?_;rw[hin];refine aA ?_;refine kd (bH rfl (pG 0 rfl rfl)) ?_;refine Mm 0 rfl aQ hok (by omega) fun b off hA=>?_;refine aA ?_;refine kd (dat i (off+i*6) (hx:=by rw[←hA];rfl)) ?_;refine aA ?_;refine kd (bH rfl (aBg (vs:=Iz d l) 5 (aM.dev 0 rfl aQ hok hA dB iA rfl) rfl)) ?_;refine Rb 0 i rfl dB iA gE ?_;dsimp only[List.set];refine aW 0 1 ?_;refine bT 0 (tB l.2 (nX p.2).2) (fun w1 F1 t h1 h2 h3=>aLv h1 h2) ?_;refine aJ 0 1 ?_;refine Rj 0 i rfl dB iA gE (p':=(p.1,(nX p.2).2)) ?_;dsimp only[List.set];refine aA ?_;exact mF rfl rfl fun w1 t=>⟨_,rfl,trivial,t.turns hF (by simp) (i:=0) rfl⟩
end
end
section
def gZ(m t p k:Int):Int×Int:=
 if(fV 0 0 8 m).2≠0 then(0,(fV 0 0 8 m).2)
 else if(fV (fV 0 0 8 m).1 8 2 t).2≠0 then(0,(fV (fV 0 0 8 m).1 8 2 t).2)
 else if(fV (fV (fV 0 0 8 m).1 8 2 t).1 10 8 p).2≠0 then(0,(fV (fV (fV 0 0 8 m).1 8 2 t).1 10 8 p).2)
 else if(fV (fV (fV (fV 0 0 8 m).1 8 2 t).1 10 8 p).1 18 10 k).2≠0 then(0,(fV (fV (fV (fV 0 0 8 m).1 8 2 t).1 10 8 p).1 18 10 k).2)
 else((fV (fV (fV (fV 0 0 8 m).1 8 2 t).1 10 8 p).1 18 10 k).1,0)
def Lo(m t p k:Int):List Value:=[iv m,iv t,iv p,iv k]
def Kf(w:Int):List Value:=if cN w 28 4≠0 then Lo 0 0 0 0 else Lo (cN w 0 8) (cN w 8 2) (cN w 10 8) (cN w 18 10)
def Cj(w:Int):Int:=if cN w 28 4≠0 then 2 else 0
theorem Hj(l:List Int):∀u∈dV l,u.oneCell'=true:=by
 intro u hu;simp only[dV,List.mem_map] at hu;obtain⟨_,_,rfl⟩:=hu;rfl
def aBd(l:List Int)(v:Value)(w w':World):Prop:=∃A c,v=.slice A l.length c∧aI (fresh w w') 1 A l.length (dV l)
theorem aFv(m t p k:Int)(w:World):
  Cz 51 #[.agg #[iv m,iv t,iv p,iv k]] w (Rt (.tuple #[.int .u32 (gZ m t p k).1,iv (gZ m t p k).2]) w):=by
 refine aO func51 ntmps51 ?_;refine aB ?_;refine bO fun g1=>?_;refine aB ?_;refine dF (fun w1 st=>Zi 0 0 8 m w1 (by unfold okF;omega)) ?_;refine aB ?_;refine aG rfl (fun h1=>?_) (fun h1=>?_)
 ·
  refine aB ?_;refine fS rfl rfl rfl fun w1 st=>⟨by rw[gZ,if_pos h1];rfl,st.below (by simp)⟩
 ·
  refine aB ?_;refine dF (fun w1 st=>Zi (fV 0 0 8 m).1 8 2 t w1 (by unfold okF;omega)) ?_;refine aB ?_;refine aG rfl (fun h2=>?_) (fun h2=>?_)
  ·
   refine aB ?_;refine fS rfl rfl rfl fun w1 st=>⟨by rw[gZ,if_neg h1,if_pos h2];rfl,st.below (by simp)⟩
  ·
   refine aB ?_;refine dF (fun w1 st=>Zi (fV (fV 0 0 8 m).1 8 2 t).1 10 8 p w1 (by unfold okF;omega)) ?_;refine aB ?_;refine aG rfl (fun h3=>?_) (fun h3=>?_)
   ·
    refine aB ?_;refine fS rfl rfl rfl fun w1 st=>⟨by rw[gZ,if_neg h1,if_neg h2,if_pos h3];rfl,st.below (by simp)⟩
   ·
    refine aB ?_;refine dF (fun w1 st=>Zi (fV (fV (fV 0 0 8 m).1 8 2 t).1 10 8 p).1 18 10 k w1 (by unfold okF;omega)) ?_;refine aB ?_;refine aG rfl (fun h4=>?_) (fun h4=>?_)
    ·
     refine aB ?_;refine fS rfl rfl rfl fun w1 st=>⟨by rw[gZ,if_neg h1,if_neg h2,if_neg h3,if_pos h4];rfl,st.below (by simp)⟩
    ·
     refine aB ?_;refine fS rfl rfl rfl fun w1 st=>⟨by rw[gZ,if_neg h1,if_neg h2,if_neg h3,if_neg h4];rfl,st.below (by simp)⟩
theorem aE9(w0:Int)(w:World):
  Cz 78 #[.int .u32 w0] w (Rt (.tuple #[.agg (Kf w0).toArray,iv (Cj w0)]) w):=by
 refine aO func78 ntmps78 ?_;refine aA ?_;refine bY fun g1=>?_;refine aA ?_;refine dF (fun w1 st=>Tt w0 28 4 w1 (by unfold okF;omega)) ?_;refine aA ?_;refine aG rfl (fun h=>?_) (fun h=>?_)
 ·
  refine aA ?_;refine kd (iG rfl) ?_;refine rN rfl rfl ?_;simp only[fR,Value.cells,List.set,List.take,List.drop,List.nil_append,List.append_nil,List.length_cons,List.length_nil,List.cons_append,Nat.reduceAdd];refine aA ?_;refine yY rfl (n:=4) (vs:=Lo 0 0 0 0) (by kernel_rfl) rfl rfl (aM.whole 0 rfl) rfl fun w1 st=>⟨by rw[Kf,Cj,if_pos h,if_pos h],st.below (by simp)⟩
 ·
  refine aA ?_;refine dF (fun w1 st=>Tt w0 0 8 w1 (by unfold okF;omega)) ?_;refine aA ?_;refine dF (fun w1 st=>Tt w0 8 2 w1 (by unfold okF;omega)) ?_;refine aA ?_;refine dF (fun w1 st=>Tt w0 10 8 w1 (by unfold okF;omega)) ?_;refine aA ?_;refine dF (fun w1 st=>Tt w0 18 10 w1 (by unfold okF;omega)) ?_;refine kd (iG rfl) ?_;refine rN rfl rfl ?_;simp only[fR,Value.cells,List.set,List.take,List.drop,List.nil_append,List.append_nil,List.length_cons,List.length_nil,List.cons_append,Nat.reduceAdd];refine aA ?_;refine yY rfl (n:=4) (vs:=Lo (cN w0 0 8) (cN w0 8 2) (cN w0 10 8) (cN w0 18 10)) (by kernel_rfl) rfl rfl (aM.whole 0 rfl) rfl fun w1 st=>⟨by rw[Kf,Cj,if_neg h,if_neg h],st.below (by simp)⟩
theorem aKV(w0:Int)(A:Option Addr)(n c:Nat)(zs:List Int)(w:World)(hs:aI (all w) 1 A n (dV zs))(hn:n=zs.length)(hn2:n≤1000000):Cz 52 #[.int .u32 w0,.slice A n c] w (fun y w'=>(∃x,y=.returned x∧aBd (w0::zs) x w w')∧Below w.heap.size w w'):=by
 refine aO func52 ntmps52 ?_;refine aB ?_;refine aBn 1 4 (el:=37) (c:=n+1) (k0:=1) (oN:=.i64) (by kernel_rfl) (by kernel_rfl) rfl (by rw[Int.natCast_add];rfl) (by omega) (by omega) (by decide) fun g1=>?_;refine aB ?_;refine eH fun g2=>?_;refine gY 1 1 4 1 (n':=1) (el:=37) (by kernel_rfl) (by kernel_rfl) (by decide) rfl rfl rfl (lV 0 rfl rfl) (by simp[Value.oneCell']) rfl (by omega) (by omega) (by decide) fun A1 c1=>?_;dsimp only[List.set];refine aB ?_;refine gY 1 1 4 n (n':=n+1) (el:=37) (by kernel_rfl) (by kernel_rfl) (by decide) rfl rfl rfl (rU (by simp) hs) (Hj _) (by omega) (by omega) (by omega) (by decide) fun A2 c2=>?_;dsimp only[List.set];refine aB ?_;refine dG [] [1] [] (by simp) rfl (by decide) (by decide) fun q hq _ hfr=>?_;obtain⟨F2,wH,vM⟩:=hq 1 _ (by simp) rfl;obtain⟨Am,cm,hBm,dS⟩:=zG (Y:=q.Z) wH vM;cases hBm;subst hn;refine mF rfl rfl fun w1 st=>⟨⟨_,rfl,A2,c2,rfl,?_⟩,st.below (by simp)⟩
 exact aI.le dS (st.mQ (by simp) (hfr (by simp) (by simp)))
def aBl(l:List Int)(v:Value)(w w':World):Prop:=∃A c,v=.tuple #[.slice A l.length c,iv 0]∧aI (fresh w w') 1 A l.length (dV l)
theorem aPJ(m t p k:Int)(A:Option Addr)(n c:Nat)(zs:List Int)(w:World)(hs:aI (all w) 1 A n (dV zs))(hn:n=zs.length)(hn2:n≤1000000)(hok:(gZ m t p k).2=0):Cz 24 #[.agg #[iv m,iv t,iv p,iv k],.slice A n c] w (fun y w'=>(∃x,y=.returned x∧aBl ((gZ m t p k).1::zs) x w w')∧Below w.heap.size w w'):=by
 refine aO func24 ntmps24 ?_;refine aB ?_;refine bO fun g1=>?_;refine aB ?_;refine dF (fun w1 st=>aFv m t p k w1) ?_;refine aB ?_;refine aG rfl (fun h=>?_) (fun h=>?_)
 ·
  refine aB ?_;exact absurd hok h
 ·
  refine aB ?_;refine kA [] (aBd ((gZ m t p k).1::zs)) (fun w1 st=>aKV (gZ m t p k).1 A n c zs w1 (hs.le (st.le (by simp))) hn hn2) ?_;rintro _ w1 q1 ⟨A1,c1,rfl,h1⟩ hf _ sK
  have sK:=sK (by simp)
  have h1:=h1.le hf
  clear hf;refine aB ?_;refine fS rfl rfl rfl fun w1 st=>⟨⟨_,rfl,A1,c1,rfl,aI.le h1 (st.mQ (by simp) sK)⟩,st.below (by simp)⟩
theorem aJn(pr m id v k:Int)(w:World)(hok:(gZ m 0 pr k).2=0):Cz 170 #[.agg #[iv pr,iv m,.int .u32 id,.int .u32 v],iv k] w (fun y w'=>(∃x,y=.returned x∧aBl [(gZ m 0 pr k).1,id,v] x w w')∧Below w.heap.size w w'):=by
 refine aO func170 ntmps170 ?_;refine aB ?_;refine bO fun g1=>?_;refine aB ?_;refine eH fun g2=>?_;refine kA [] (aBl ((gZ m 0 pr k).1::[id,v])) (fun w1 st=>aPJ m 0 pr k (some ⟨g2,0,none⟩) 2 2 [id,v] w1 (st.uR (i:=0) rfl rfl) rfl (by omega) hok) ?_;rintro _ w1 q1 ⟨A1,c1,rfl,h1⟩ hf _ sK
 have sK:=sK (by simp)
 have h1:=h1.le hf
 clear hf;refine aB ?_;refine fS rfl rfl rfl fun w1 st=>⟨⟨_,rfl,A1,c1,rfl,aI.le h1 (st.mQ (by simp) sK)⟩,st.below (by simp)⟩
end
section
def aBe(l:List Int)(v:Value)(hs:List HP)(_:Piece):Prop:=∃A c,v=.slice A l.length c∧hs=[HP.own 37 1 (.slice A l.length c) l.length (dV l)]
theorem aKX(w0:Int)(A:Option Addr)(n c:Nat)(zs:List Int)(w:World)(hs:aI (all w) 1 A n (dV zs))(hn:n=zs.length)(hn2:n≤1000000):Cz 52 #[.int .u32 w0,.slice A n c] w (fun y w'=>(∃v hs q,y=.returned v∧q.w=w'∧aBe (w0::zs) v hs q∧fZ w hs q)∧Below w.heap.size w w'):=by
 refine aO func52 ntmps52 ?_;refine aB ?_;refine aBn 1 4 (el:=37) (c:=n+1) (k0:=1) (oN:=.i64) (by kernel_rfl) (by kernel_rfl) rfl (by rw[Int.natCast_add];rfl) (by omega) (by omega) (by decide) fun g1=>?_;refine aB ?_;refine eH fun g2=>?_;refine gY 1 1 4 1 (n':=1) (el:=37) (by kernel_rfl) (by kernel_rfl) (by decide) rfl rfl rfl (lV 0 rfl rfl) (by simp[Value.oneCell']) rfl (by omega) (by omega) (by decide) fun A1 c1=>?_;dsimp only[List.set];refine aB ?_;refine gY 1 1 4 n (n':=n+1) (el:=37) (by kernel_rfl) (by kernel_rfl) (by decide) rfl rfl rfl (rU (by simp) hs) (Hj _) (by omega) (by omega) (by omega) (by decide) fun A2 c2=>?_;dsimp only[List.set];refine aB ?_;subst hn;refine aT [1] rfl (by decide) (fun _ h=>h) ?_;refine dG [] [] [0] (by simp) rfl (by decide) (by decide) fun q _ _ hfr=>?_;exact aP (h:=fun w1 t=>⟨_,_,⟨w1,q.Z⟩,rfl,rfl,⟨A2,c2,rfl,rfl⟩,t.newR (by simp) (by simp) (hfr (by simp) (by simp))⟩)
theorem aQO(w0 st st':Int)(hst:IntKind.u32.wrap st=st')(A:Option Addr)(n c:Nat)(zs:List Int)(w:World)(hs:aI (all w) 1 A n (dV zs))(hn:n=zs.length)(hn2:n≤1000):
  Cz 145 #[.int .u32 w0,.int .i32 st,.slice A n c] w (fun y w'=>(∃v hs q,y=.returned v∧q.w=w'∧aBe (w0::st'::zs) v hs q∧fZ w hs q)∧Below w.heap.size w w'):=by
 subst hn;refine aO func145 ntmps145 ?_;refine aA ?_;refine Ce (ds:=.int .i32) (by kernel_rfl) (by kernel_rfl) rfl hst (by decide) ?_;refine eH fun g1=>?_;refine eM (aBe [w0,st']) (fun w1 t=>aKX w0 _ 1 1 [st'] w1 (t.uR (i:=0) rfl rfl) rfl (by omega)) ?_;rintro _ _ q1 ⟨A1,c1,rfl,rfl⟩ _;dsimp only[List.cons_append,List.nil_append];refine aA ?_;refine gY 0 1 4 zs.length (n':=zs.length+2) (el:=37) (by kernel_rfl) (by kernel_rfl) (by decide) rfl rfl rfl (rU (by simp) hs) (Hj _) (by simp;omega) (by omega) (by omega) (by decide) fun A2 c2=>?_;dsimp only[List.set];refine aA ?_;refine aT [0] rfl (by decide) (R':=[all w]) (by simp) ?_;refine dG [] [] [0] (by simp) rfl (by decide) (by decide) fun q _ _ hfr=>?_;exact aP (h:=fun w1 t=>⟨_,_,⟨w1,q.Z⟩,rfl,rfl,⟨A2,c2,rfl,rfl⟩,t.newR (by simp) (by simp) (hfr (by simp) (by simp))⟩)
theorem Kw(i:Int)(w:World):Cz 97 #[iv i] w (Rt (.bool (bZ 2 i)) w):=by
 refine aO func97 ntmps97 ?_;refine aA ?_;refine cG (t:=5) rfl (fun h=>?_) (fun h=>?_)
 ·refine aA ?_;refine iS (by simp) ?_;unfold bZ
  congr 1
  simp;omega
 ·refine aA ?_;refine iS (by simp) ?_
  have:bZ 2 i=false:=decide_eq_false (by omega)
  rw[this]
def Hw(p:Int):Int:=if p=48 then 0 else if p=49 then 1 else if p=116 then 2 else 3
theorem aOu(p:Int)(w:World):Cz 183 #[.int .u8 p] w (Rt (.int .u32 (Hw p)) w):=by
 refine aO func183 ntmps183 ?_;refine aA ?_;refine aG rfl (fun h=>?_) (fun h=>?_)
 ·refine aA ?_;exact dH (by rw[Hw,if_pos h])
 ·refine aA ?_;refine aG rfl (fun h1=>?_) (fun h1=>?_)
  ·refine aA ?_;exact dH (by rw[Hw,if_neg h,if_pos h1])
  ·refine aA ?_;refine aG rfl (fun h2=>?_) (fun h2=>?_)
   ·refine aA ?_;exact dH (by rw[Hw,if_neg h,if_neg h1,if_pos h2])
   ·refine aA ?_;exact dH (by rw[Hw,if_neg h,if_neg h1,if_neg h2])
end
section
def sY(p:Piece)(x y:dZ)(v:Value):Prop:=∃A1 k1 A2 k2 A3 k3 B1 m1 B2 m2 B3 m3,v=.agg #[.slice A1 x.d.length k1,.slice A2 x.c.length k2,.slice A3 x.l.length k3,.slice B1 y.d.length m1,.slice B2 y.c.length m2,.slice B3 y.l.length m3]∧
 aI p 1 A1 x.d.length (bG x.d)∧aI p 1 A2 x.c.length (bG x.c)∧aI p 1 A3 x.l.length (bG x.l)∧aI p 1 B1 y.d.length (bG y.d)∧aI p 1 B2 y.c.length (bG y.c)∧aI p 1 B3 y.l.length (bG y.l)
def Ms(s:aC)(p:Piece):Nat→List Value→Prop
 | 0,cs=>cs=[.slice none 0 0,.slice none 0 0,.slice none 0 0,.slice none 0 0,.slice none 0 0,.slice none 0 0]
 | 1,cs=>∃a b c,cs=[a,b,c,.slice none 0 0,.slice none 0 0,.slice none 0 0]∧zE p (jJ s) (.agg #[a,b,c])
 | _,cs=>∃a b c a' b' c',cs=[a,b,c,a',b',c']∧zE p (jJ s) (.agg #[a,b,c])∧zE p (jJ s) (.agg #[a',b',c'])
theorem Ms.len{s:aC}{p:Piece}:∀{i:Nat} {cs:List Value},Ms s p i cs→cs.length=6
 | 0,_,h=>by rw[show _=_ from h];rfl
 | 1,_,⟨_,_,_,h,_⟩=>by rw[h];rfl
 | _+2,_,⟨_,_,_,_,_,_,h,_⟩=>by rw[h];rfl
theorem Ms.next{s:aC}{p q:Piece}(hl:p.Le q){a b c:Value}(hw:zE q (jJ s) (.agg #[a,b,c])){i:Nat}{cs:List Value}(hi:i < 2)(h:Ms s p i cs):Ms s q (i+1) (fR cs (i*3) [a,b,c]):=by
 obtain rfl | rfl:i=0∨i=1:=by omega
 ·have h0:cs=[sn,sn,sn,sn,sn,sn]:=h
  subst h0;exact⟨a,b,c,rfl,hw⟩
 ·obtain⟨a1,b1,c1,h0,h1⟩:=h;subst h0;exact⟨a1,b1,c1,a,b,c,rfl,zE.le h1 hl,hw⟩
theorem aJY(s:aC)(A1 A2 A3 A4:Option Addr)(k1 k2 k3 k4:Nat)(w:World)(hm:s.wN):
  Cz 14 #[.agg #[.slice A1 s.aF.length k1,.slice A2 s.domains.length k2,.slice A3 s.aY.length k3,.slice A4 s.aD.length k4]] w (Rp (fun v w w'=>sY (fresh w w') (jJ s) (jJ s) v) w):=by
 have hn9:=hm.nc
 have tW:=hm.nd
 have sI:=hm.nr
 refine aO func14 ntmps14 ?_;refine aB ?_;refine bO fun g1=>?_;refine bY fun g2=>?_;refine aB ?_;refine bY fun g3=>?_;refine aB ?_;refine bN [(5,iv 0),(3,pt g3),(2,pt g2),(1,pt g1)] ?_;refine yZ ⟨w,fun _=>False⟩ (by simp) (fun _ h=>h.elim) ?_;refine aB ?_;refine eV (fun m e R H=>∃(i:Nat) (cs:List Value) (qs:Piece),i≤2∧m=2 - i∧Ms s qs i cs∧qM w qs∧e=[(5,iv i),(3,pt g3),(2,pt g2),(1,pt g1)]∧R=[qs,all w]∧H=[HP.aE g3 58 cs,HP.aE g2 58 [sn,sn,sn,sn,sn,sn],HP.aE g1 30 [.slice A1 s.aF.length k1,.slice A2 s.domains.length k2,.slice A3 s.aY.length k3,.slice A4 s.aD.length k4]]) 2 ⟨0,_,⟨w,fun _=>False⟩,by omega,rfl,rfl,(fun _ h=>h.elim),rfl,rfl,rfl⟩ fun m e R H hI=>?_;obtain⟨i,cs,qs,hi2,rfl,hcs,aGs,rfl,rfl,rfl⟩:=hI;refine aB ?_;refine aG rfl (fun h=>?_) (fun h=>?_)
 ·
  refine nS ?_;refine eK ?_;refine dX ?_;refine xM ?_;refine dX ?_;refine fT ?_;refine dP rfl (by decide) ?_;refine jL rfl (by decide) ?_;refine fB ?_;refine qI 15 (by kernel_rfl) (by kernel_rfl) ?_;refine fX 0 rfl rfl rfl (lP rfl) ?_;refine fX 1 rfl rfl rfl (Dt (off:=1) (by kernel_rfl) rfl) ?_;refine fX 2 rfl rfl rfl (Jc rfl) ?_;refine fX 3 rfl rfl rfl (Mf (el:=88) (by kernel_rfl) rfl) ?_;refine fX 5 rfl rfl rfl (Dt (off:=0) (by kernel_rfl) rfl) ?_;refine fX 6 rfl rfl rfl (Jc rfl) ?_;refine fX 7 rfl rfl rfl (Mf (el:=86) (by kernel_rfl) rfl) ?_;refine fX 9 rfl rfl rfl (Dt (off:=2) (by kernel_rfl) rfl) ?_;refine fX 10 rfl rfl rfl (Jc rfl) ?_;refine fX 11 rfl rfl rfl (Mf (el:=90) (by kernel_rfl) rfl) ?_;refine fX 14 rfl rfl rfl (Dt (off:=0) (by kernel_rfl) rfl) ?_;refine aIi (fuel:=3) [4,8,12] [[4,8,12]] (fun i=>match i with | 4=>⟨12,4,List.replicate s.domains.length (.bool false),fun g=>.slice (some ⟨g,0,none⟩) s.domains.length s.domains.length⟩ | 8=>⟨16,4,List.replicate s.aF.length (.bool false),fun g=>.slice (some ⟨g,0,none⟩) s.aF.length s.aF.length⟩ | _=>⟨20,4,List.replicate s.aY.length (.bool false),fun g=>.slice (some ⟨g,0,none⟩) s.aY.length s.aY.length⟩) (fun i hi=>?_) (by show[12,16,20].Nodup;decide) (by kernel_rfl) (fun _ h=>h) (fun sub hsub hex g=>?_)
  ·simp only[List.mem_cons,List.not_mem_nil,or_false] at hi;rcases hi with rfl | rfl | rfl
   ·exact Eg.of rfl rfl rfl (Ol 1 (el:=4) (z:=.bool false) (by kernel_rfl) (by kernel_rfl) rfl rfl rfl (by omega) (by omega)) (Nat.le_of_ble_eq_true rfl) rfl
   ·exact Eg.of rfl rfl rfl (Ol 1 (el:=4) (z:=.bool false) (by kernel_rfl) (by kernel_rfl) rfl rfl rfl (by omega) (by omega)) (Nat.le_of_ble_eq_true rfl) rfl
   ·exact Eg.of rfl rfl rfl (Ol 1 (el:=4) (z:=.bool false) (by kernel_rfl) (by kernel_rfl) rfl rfl rfl (by omega) (by omega)) (Nat.le_of_ble_eq_true rfl) rfl
  have iR:sub=[4,8,12]:=by simpa using hex
  have er:∀n:Nat,List.replicate n (Value.bool false)=bG (List.replicate n false):=fun n=>by simp[bG]
  have hi:i < 2:=by have h':(i:Int) < 2:=h;omega
  have hlen:=hcs.len
  subst iR;dsimp only[qX,vA,lB,List.map,List.foldr,List.cons_append,List.nil_append,List.length_cons,List.length_nil,Nat.reduceAdd,Nat.reduceSub];refine fH 13 rfl rfl rfl (by decide) (kR (zs:=[sn,sn,sn]) (L:=[(0,1),(1,1),(2,1)]) (gX (by kernel_rfl)) (by kernel_rfl) rfl (by simp[eZ,gB,Value.cells];rfl)) (by kernel_rfl) (fun _ _ _ h=>h) (fun _ h=>h.tail.tail.tail) ?_;refine cK 15 ?_;refine aEy i (i*3) (el:=55) (sz:=3) (by kernel_rfl) (by kernel_rfl) rfl rfl rfl hi (by omega) (by decide) ?_;refine eS ?_;refine cK 16 ?_;refine pW 3 rfl rfl rfl (by kernel_rfl) (by simp[Value.cells,Value.oneCell']) (by simp[Value.cells];omega) ?_;dsimp only[List.set];rw[show(Value.agg [.slice (some ⟨g 4,0,none⟩) s.domains.length s.domains.length,.slice (some ⟨g 8,0,none⟩) s.aF.length s.aF.length,.slice (some ⟨g 12,0,none⟩) s.aY.length s.aY.length].toArray).cells.toList=[.slice (some ⟨g 4,0,none⟩) s.domains.length s.domains.length,.slice (some ⟨g 8,0,none⟩) s.aF.length s.aF.length,.slice (some ⟨g 12,0,none⟩) s.aY.length s.aY.length] from rfl];refine eS ?_;refine kL ?_;refine eK ?_;refine fT ?_;refine Ei rfl rfl (iW (by omega)) (by decide) ?_;refine dP rfl (by decide) ?_;refine fB ?_;refine dG [qs] [0,1,2] [3,4,5] (by simp) rfl (by decide) (by decide) fun qn Pb hle hfr=>?_
  have hfn:=hfr (by simp) (fun p hp=>by simp only[List.mem_cons,List.not_mem_nil,or_false] at hp;subst hp;exact aGs)
  have b1:aI qn 1 (some ⟨g 4,0,none⟩) (s.domains.length) (List.replicate (s.domains.length) (Value.bool false)):=qL (n:=s.domains.length) (sz:=1) (c:=0) (Pb 0 _ (by simp) rfl).choose_spec.1 (Pb 0 _ (by simp) rfl).choose_spec.2 (by simp)
  have b2:aI qn 1 (some ⟨g 8,0,none⟩) (s.aF.length) (List.replicate (s.aF.length) (Value.bool false)):=qL (n:=s.aF.length) (sz:=1) (c:=0) (Pb 1 _ (by simp) rfl).choose_spec.1 (Pb 1 _ (by simp) rfl).choose_spec.2 (by simp)
  have b3:aI qn 1 (some ⟨g 12,0,none⟩) (s.aY.length) (List.replicate (s.aY.length) (Value.bool false)):=qL (n:=s.aY.length) (sz:=1) (c:=0) (Pb 2 _ (by simp) rfl).choose_spec.1 (Pb 2 _ (by simp) rfl).choose_spec.2 (by simp)
  rw[er] at b1 b2 b3
  have hww:zE qn (jJ s) (.agg #[.slice (some ⟨g 4,0,none⟩) s.domains.length s.domains.length,.slice (some ⟨g 8,0,none⟩) s.aF.length s.aF.length,.slice (some ⟨g 12,0,none⟩) s.aY.length s.aY.length]):=by
   unfold zE jJ;simp only[List.length_replicate];exact⟨_,_,_,_,_,_,rfl,b1,b2,b3⟩
  refine uI (R':=[qn,all w]) (by simp) ?_;exact eR (2 - (i+1)) ⟨i+1,_,qn,by omega,rfl,Ms.next (hle qs (by simp)) hww hi hcs,hfn,rfl,rfl,rfl⟩
 ·
  refine aD9 ?_;refine eK ?_;refine dX ?_
  have hie:i=2:=by have h':¬(i:Int) < 2:=h;omega
  subst hie;obtain⟨a,b,c,a',b',c',rfl,hw1,hw2⟩:=hcs;obtain⟨D1,d1,D2,d2,D3,d3,e1,x1,x2,x3⟩:=hw1;obtain⟨F1,f1,F2,f2,F3,f3,e2,y1,y2,y3⟩:=hw2;cases e1;cases e2;refine fT ?_;refine aIZ 6 rfl ?_;refine rN rfl rfl ?_;simp only[fR,Value.cells,List.set,List.take,List.drop,List.nil_append,List.append_nil,List.length_cons,List.length_nil,List.cons_append,Nat.reduceAdd];refine aB ?_
  exact Gn rfl (by kernel_rfl) rfl rfl (aM.whole 1 rfl) fun w1 st=>⟨⟨_,rfl,by
   have hl:=st.mQ (by simp) aGs
   exact⟨_,_,_,_,_,_,_,_,_,_,_,_,rfl,x1.le hl,x2.le hl,x3.le hl,y1.le hl,y2.le hl,y3.le hl⟩⟩,st.below (by simp)⟩
end
section
def qR(k:Int):Prop:=k=117∨k=99∨k=114
instance(k:Int):Decidable (qR k):=by unfold qR;infer_instance
def Aj(s:aC)(p:Int):Nat:=if p=17 then s.domains.length else if p=20 then s.aF.length else if p=22 then s.aY.length else 0
def gD(k:Int)(v0 v1 v2:Value):Value:=if k=117∨k=100∨k=107 then v0 else if k=99∨k=111 then v1 else if k=114∨k=97 then v2 else sn
def Ig(k:Int)(x:dZ):List Bool:=if k=117∨k=100∨k=107 then x.d else if k=99∨k=111 then x.c else if k=114∨k=97 then x.l else[]
def tJ(x:dZ)(k id:Int):Bool:=decide (0≤id)&&hasB (Ig k x) id.toNat
theorem fK.thn{w w':World}{g o:Nat}{v:Value}(h:fK w g o v)(hb:Below w.heap.size w w'):fK w' g o v:=⟨Nat.lt_of_lt_of_le h.1 hb.size,(hb.cell (p:=⟨g,o,none⟩) h.1).trans h.2⟩
def Xq(w:World)(g o:Nat)(x:dZ):Prop:=∃A1 k1 A2 k2 A3 k3,fK w g o (.slice A1 x.d.length k1)∧fK w g (o+1) (.slice A2 x.c.length k2)∧fK w g (o+2) (.slice A3 x.l.length k3)∧
 aI (all w) 1 A1 x.d.length (bG x.d)∧aI (all w) 1 A2 x.c.length (bG x.c)∧aI (all w) 1 A3 x.l.length (bG x.l)
theorem aMR{w:World}{x:dZ}{A1 A2 A3:Option Addr}{k1 k2 k3:Nat}(h1:aI (all w) 1 A1 x.d.length (bG x.d))(h2:aI (all w) 1 A2 x.c.length (bG x.c))(h3:aI (all w) 1 A3 x.l.length (bG x.l))(k:Int):
  ∃A c,gD k (.slice A1 x.d.length k1) (.slice A2 x.c.length k2) (.slice A3 x.l.length k3)=.slice A (Ig k x).length c∧aI (all w) 1 A (Ig k x).length (bG (Ig k x)):=by
 unfold gD Ig;split
 ·exact⟨_,_,rfl,h1⟩
 ·split
  ·exact⟨_,_,rfl,h2⟩
  ·split
   ·exact⟨_,_,rfl,h3⟩
   ·exact⟨_,_,rfl,aI.nil _ _⟩
theorem aBR(k:Int)(w:World):
  Cz 30 #[.int .u8 k] w (Rt (.bool (decide (qR k))) w):=by
 refine aO func30 ntmps30 ?_;refine aB ?_
 (first | refine cG (t:=5) rfl (fun hg=>?_) (fun hg=>?_) | refine pX (t:=5) rfl (fun hg=>?_) (fun hg=>?_))
 ·
  refine aB ?_;exact aP (h:=fun _ _=>by simp_all [qR])
 ·
  refine aB ?_
  (first | refine cG (t:=9) rfl (fun hg=>?_) (fun hg=>?_) | refine pX (t:=9) rfl (fun hg=>?_) (fun hg=>?_))
  ·
   refine aB ?_;exact aP (h:=fun _ _=>by simp_all [qR])
  ·
   refine aB ?_;exact aP (h:=fun _ _=>by simp_all [qR])
theorem aMg(s:aC)(A1 A2 A3 A4:Option Addr)(k1 k2 k3 k4:Nat)(p:Int)(w:World):
  Cz 80 #[.agg #[.slice A1 s.aF.length k1,.slice A2 s.domains.length k2,.slice A3 s.aY.length k3,.slice A4 s.aD.length k4],iv p] w (Rt (iv (Aj s p)) w):=by
 refine aO func80 ntmps80 ?_;refine aB ?_;refine bO fun g1=>?_;refine aB ?_;refine aG rfl (fun h=>?_) (fun h=>?_)
 ·
  refine aB ?_;exact aP (h:=fun _ _=>by simp_all [Aj])
 ·
  refine aB ?_;refine aG rfl (fun h=>?_) (fun h=>?_)
  ·
   refine aB ?_;exact aP (h:=fun _ _=>by simp_all [Aj])
  ·
   refine aB ?_;refine aG rfl (fun h=>?_) (fun h=>?_)
   ·
    refine aB ?_;exact aP (h:=fun _ _=>by simp_all [Aj])
   ·
    refine aB ?_;exact aP (h:=fun _ _=>by simp_all [Aj])
theorem aCk(g o:Nat)(k:Int)(v0 v1 v2:Value)(w:World)(h0:fK w g o v0)(h1:fK w g (o+1) v1)(h2:fK w g (o+2) v2):
  Cz 82 #[.pointer (some ⟨g,o,none⟩),.int .u8 k] w (Rt (gD k v0 v1 v2) w):=by
 refine aO func82 ntmps82 ?_;refine aB ?_;refine aG rfl (fun h=>?_) (fun h=>?_)
 ·
  refine aB ?_;refine aG rfl (fun h=>?_) (fun h=>?_)
  ·
   refine aB ?_;exact aP (h:=fun _ _=>by simp_all [gD])
  ·
   refine aB ?_;refine aG rfl (fun h=>?_) (fun h=>?_)
   ·
    refine aB ?_;refine aG rfl (fun h=>?_) (fun h=>?_)
    ·
     refine aB ?_;exact aP (h:=fun _ _=>by simp_all [gD])
    ·
     refine aB ?_;refine aG rfl (fun h=>?_) (fun h=>?_)
     ·
      refine aB ?_;refine aG rfl (fun h=>?_) (fun h=>?_)
      ·
       refine aB ?_;exact aP (h:=fun _ _=>by simp_all [gD])
      ·
       refine aB ?_;exact aP (h:=fun _ _=>by simp_all [gD])
     ·
      refine aB ?_;refine aG rfl (fun h=>?_) (fun h=>?_)
      ·
       refine aB ?_;exact aP (h:=fun _ _=>by simp_all [gD])
      ·
       refine aB ?_;exact aP (h:=fun _ _=>by simp_all [gD])
   ·
    refine aB ?_;refine aG rfl (fun h=>?_) (fun h=>?_)
    ·
     refine aB ?_;exact aP (h:=fun _ _=>by simp_all [gD])
    ·
     refine aB ?_;refine aG rfl (fun h=>?_) (fun h=>?_)
     ·
      refine aB ?_;refine aG rfl (fun h=>?_) (fun h=>?_)
      ·
       refine aB ?_;exact aP (h:=fun _ _=>by simp_all [gD])
      ·
       refine aB ?_;exact aP (h:=fun _ _=>by simp_all [gD])
     ·
      refine aB ?_;refine aG rfl (fun h=>?_) (fun h=>?_)
      ·
       refine aB ?_;exact aP (h:=fun _ _=>by simp_all [gD])
      ·
       refine aB ?_;exact aP (h:=fun _ _=>by simp_all [gD])
 ·
  refine aB ?_;refine aG rfl (fun h=>?_) (fun h=>?_)
  ·
   refine aB ?_;refine aG rfl (fun h=>?_) (fun h=>?_)
   ·
    refine aB ?_;exact aP (h:=fun _ _=>by simp_all [gD])
   ·
    refine aB ?_;refine aG rfl (fun h=>?_) (fun h=>?_)
    ·
     refine aB ?_;refine aG rfl (fun h=>?_) (fun h=>?_)
     ·
      refine aB ?_;exact aP (h:=fun _ _=>by simp_all [gD])
     ·
      refine aB ?_;refine aG rfl (fun h=>?_) (fun h=>?_)
      ·
       refine aB ?_;refine aG rfl (fun h=>?_) (fun h=>?_)
       ·
        refine aB ?_;exact aP (h:=fun _ _=>by simp_all [gD])
       ·
        refine aB ?_;exact aP (h:=fun _ _=>by simp_all [gD])
      ·
       refine aB ?_;refine aG rfl (fun h=>?_) (fun h=>?_)
       ·
        refine aB ?_;exact aP (h:=fun _ _=>by simp_all [gD])
       ·
        refine aB ?_;exact aP (h:=fun _ _=>by simp_all [gD])
    ·
     refine aB ?_;refine aG rfl (fun h=>?_) (fun h=>?_)
     ·
      refine aB ?_;exact aP (h:=fun _ _=>by simp_all [gD])
     ·
      refine aB ?_;refine aG rfl (fun h=>?_) (fun h=>?_)
      ·
       refine aB ?_;refine aG rfl (fun h=>?_) (fun h=>?_)
       ·
        refine aB ?_;exact aP (h:=fun _ _=>by simp_all [gD])
       ·
        refine aB ?_;exact aP (h:=fun _ _=>by simp_all [gD])
      ·
       refine aB ?_;refine aG rfl (fun h=>?_) (fun h=>?_)
       ·
        refine aB ?_;exact aP (h:=fun _ _=>by simp_all [gD])
       ·
        refine aB ?_;exact aP (h:=fun _ _=>by simp_all [gD])
  ·
   refine aB ?_;refine aG rfl (fun h=>?_) (fun h=>?_)
   ·
    refine aB ?_;exact aP (h:=fun _ _=>by simp_all [gD])
   ·
    refine aB ?_;refine aG rfl (fun h=>?_) (fun h=>?_)
    ·
     refine aB ?_;refine aG rfl (fun h=>?_) (fun h=>?_)
     ·
      refine aB ?_;exact aP (h:=fun _ _=>by simp_all [gD])
     ·
      refine aB ?_;refine aG rfl (fun h=>?_) (fun h=>?_)
      ·
       refine aB ?_;refine aG rfl (fun h=>?_) (fun h=>?_)
       ·
        refine aB ?_;exact aP (h:=fun _ _=>by simp_all [gD])
       ·
        refine aB ?_;exact aP (h:=fun _ _=>by simp_all [gD])
      ·
       refine aB ?_;refine aG rfl (fun h=>?_) (fun h=>?_)
       ·
        refine aB ?_;exact aP (h:=fun _ _=>by simp_all [gD])
       ·
        refine aB ?_;exact aP (h:=fun _ _=>by simp_all [gD])
    ·
     refine aB ?_;refine aG rfl (fun h=>?_) (fun h=>?_)
     ·
      refine aB ?_;exact aP (h:=fun _ _=>by simp_all [gD])
     ·
      refine aB ?_;refine aG rfl (fun h=>?_) (fun h=>?_)
      ·
       refine aB ?_;refine aG rfl (fun h=>?_) (fun h=>?_)
       ·
        refine aB ?_;exact aP (h:=fun _ _=>by simp_all [gD])
       ·
        refine aB ?_;exact aP (h:=fun _ _=>by simp_all [gD])
      ·
       refine aB ?_;refine aG rfl (fun h=>?_) (fun h=>?_)
       ·
        refine aB ?_;exact aP (h:=fun _ _=>by simp_all [gD])
       ·
        refine aB ?_;exact aP (h:=fun _ _=>by simp_all [gD])
theorem aBu(g ag:Nat)(x:dZ)(k id:Int)(w:World)(hag:ag < 2)(hM:Xq w g (ag*3) x):
  Cz 29 #[pt g,iv (ag:Int),.int .u8 k,iv id] w (Rt (.bool (tJ x k id)) w):=by
 obtain⟨A1,k1,A2,k2,A3,k3,h1,h2,h3,s1,s2,s3⟩:=hM;obtain⟨A,c,hL,hS⟩:=aMR (k1:=k1) (k2:=k2) (k3:=k3) s1 s2 s3 k;refine aO func29 ntmps29 ?_;refine aA ?_;refine aEy (ag) (ag*3) (n:=2) (el:=55) (sz:=3) (by kernel_rfl) (by kernel_rfl) rfl rfl (by omega) (by omega) (by omega) (by decide) ?_;refine aB ?_;refine dF (fun w1 st=>aCk g (ag*3) k _ _ _ w1 (h1.thn (st.below (by simp))) (h2.thn (st.below (by simp))) (h3.thn (st.below (by simp)))) ?_;rw[hL];refine aB ?_
 (first | refine cG (t:=19) rfl (fun hg=>?_) (fun hg=>?_) | refine pX (t:=19) rfl (fun hg=>?_) (fun hg=>?_))
 ·
  refine aB ?_
  (first | refine cG (t:=25) rfl (fun hg=>?_) (fun hg=>?_) | refine pX (t:=25) rfl (fun hg=>?_) (fun hg=>?_))
  ·
   obtain⟨i,rfl⟩:∃i:Nat,id=(i:Int):=⟨id.toNat,by omega⟩
   have hil:i < (Ig k x).length:=by omega
   obtain⟨b,off,rfl,hz,hc⟩:=hS.2 (by omega);obtain⟨v,hv⟩:∃v,(Ig k x)[i]? =some v:=⟨_,List.getElem?_eq_getElem hil⟩
   refine jB rfl rfl ?_;refine dP rfl (by decide) ?_;refine jB rfl rfl ?_;refine dP rfl (by decide) ?_;refine jB rfl rfl ?_;refine kd (dat (i) (off+i)) ?_;refine jB rfl rfl ?_;refine kX (by kernel_rfl) rfl (Rd.ro (p:=all w) (by simp) hz (hc i _ (aH5 hv))) (by decide) ?_
   (first | refine rP rfl rfl (by decide) ?_ | refine rQ rfl rfl (by decide) ?_)
   refine jL rfl (by decide) ?_;refine fB ?_;refine Ra ?_;refine eK ?_;exact aP (h:=fun _ _=>by simp[tJ,hasB,hv])
  ·
   refine aB ?_
   have hn:hasB (Ig k x) id.toNat=false:=by rw[hasB,List.getElem?_eq_none (by omega)];rfl
   exact aP (h:=fun _ _=>by simp[tJ,hn])
 ·
  refine aB ?_
  have hn:decide (0≤id)=false:=by simp;omega
  exact aP (h:=fun _ _=>by simp[tJ,hn])
end
section
def StM(w:World)(g:Nat)(x y:dZ):Prop:=∀i,i < 2→Xq w g (i*3) (if i=0 then x else y)
def tI(x y:dZ)(k id:Int):Bool:=tJ x k id||tJ y k id
theorem Xq.thn{w w':World}{g o:Nat}{x:dZ}(h:Xq w g o x)(hb:Below w.heap.size w w'):Xq w' g o x:=by
 obtain⟨A1,k1,A2,k2,A3,k3,h1,h2,h3,s1,s2,s3⟩:=h
 have hl:(all w).Le (all w'):=fun b hb'=>⟨Nat.lt_of_lt_of_le hb' hb.size,hb.block b hb'⟩
 exact⟨A1,k1,A2,k2,A3,k3,h1.thn hb,h2.thn hb,h3.thn hb,s1.le hl,s2.le hl,s3.le hl⟩
theorem aBv(g:Nat)(x y:dZ)(k id:Int)(w:World)(hM:StM w g x y):
  Cz 31 #[pt g,.int .u8 k,iv id] w (Rt (.bool (tI x y k id)) w):=by
 refine aO func31 ntmps31 ?_;refine aB ?_;refine bN [(8,iv 0),(2,iv id),(1,.int .u8 k),(0,pt g)] ?_;refine aB ?_;refine eV (fun m e R H=>∃(i:Nat),i≤2∧m=2 - i∧(∀j,j < i→tJ (if j=0 then x else y) k id=false)∧e=[(8,iv i),(2,iv id),(1,.int .u8 k),(0,pt g)]∧R=[all w]∧H=[]) 2 ⟨0,by omega,rfl,(fun j hj=>absurd hj (Nat.not_lt_zero j)),rfl,rfl,rfl⟩ fun m e R H hI=>?_;obtain⟨i,hi,rfl,hno,rfl,rfl,rfl⟩:=hI;refine aB ?_;refine aG rfl (fun h=>?_) (fun h=>?_)
 ·
  refine aB ?_
  have hi2:i < 2:=by have h':(i:Int) < 2:=h;omega
  refine dF (fun w1 st=>aBu g i (if i=0 then x else y) k id w1 hi2 ((hM i hi2).thn (st.below (by simp)))) ?_;refine aB ?_;refine oX rfl (fun hw=>?_) (fun hw=>?_)
  ·
   refine aB ?_
   have hr:tI x y k id=true:=by
    unfold tI;rcases(by omega:i=0∨i=1) with rfl | rfl
    ·simp at hw;simp[hw]
    ·simp at hw;simp[hw]
   exact aP (h:=fun _ _=>by rw[hr])
  ·
   refine aB ?_
   exact eR (2 - (i+1)) ⟨i+1,by omega,rfl,(fun j hj=>by
    rcases Nat.lt_or_ge j i with h1 | h1
    ·exact hno j h1
    ·obtain rfl:j=i:=by omega
     exact hw),rfl,rfl,rfl⟩
 ·
  refine aB ?_
  have hi2:i=2:=by have h':¬(i:Int) < 2:=h;omega
  subst hi2
  have e0:=hno 0 (by omega)
  have e1:=hno 1 (by omega)
  have hr:tI x y k id=false:=by
   unfold tI;simp at e0 e1;simp[e0,e1]
  exact aP (h:=fun _ _=>by rw[hr])
theorem aJQ(k:Int)(A:Option Addr)(n c:Nat)(r m d l:Int)(w:World):
  Cz 81 #[.agg #[.int .u8 k,.slice A n c,.int .u64 r,iv m,iv d,iv l]] w (Rt (.bool (decide (k=112∨k=103))) w):=by
 refine aO func81 ntmps81 ?_;refine aB ?_;refine bO fun g1=>?_;refine aB ?_
 (first | refine cG (t:=6) rfl (fun hg=>?_) (fun hg=>?_) | refine pX (t:=6) rfl (fun hg=>?_) (fun hg=>?_))
 ·
  refine aB ?_;exact aP (h:=fun _ _=>by simp_all)
 ·
  refine aB ?_;exact aP (h:=fun _ _=>by simp_all)
end
section
def kP(p:Int×Int):Value:=.agg #[.int .i64 p.1,.int .i64 p.2]
def Jt(w:World)(r:Nat)(l:List ((Int×Int)×Value)):Prop:=∃es clock,w.heap[r]? =some (.map es clock)∧es.toList.map (fun x=>(x.key,x.val))=l.map fun p=>(kP p.1,p.2)
def kN(l:List ((Int×Int)×Value))(k:Int×Int):Option Value:=(l.find? fun p=>decide (p.1=k)).map (·.2)
theorem Kt(a:Int×Int)(b:Value)(l:List ((Int×Int)×Value))(k:Int×Int):kN ((a,b)::l) k=if a=k then some b else kN l k:=by
 unfold kN;rw[List.find?_cons]
 by_cases h:a=k<;>simp[h]
section
variable{P:Program}{w:World}{kt:TypeId}
theorem aOE(hfl:∀a b c d:Int,Ma P kt [.int .i64 a,.int .i64 b] [.int .i64 c,.int .i64 d]=true)(p q:Int×Int):(Op.equal kt (kP p) (kP q)).run P w=.ok (decide (q=p)) w:=by
 obtain⟨h,_⟩:=aEU (P:=P) (w:=w) (hfl p.1 p.2 q.1 q.2);rw[show kP p=.agg [Value.int .i64 p.1,.int .i64 p.2].toArray from rfl,show kP q=.agg [Value.int .i64 q.1,.int .i64 q.2].toArray from rfl,h]
 congr 1
 obtain⟨a,b⟩:=p;obtain⟨c,d⟩:=q;simp only[Iw,Vy,Prod.mk.injEq]
 by_cases h1:a=c
 ·subst h1
  by_cases h2:b=d
  ·subst h2;simp
  ·have h3:¬d=b:=fun e=>h2 e.symm
   simp[h2,h3]
 ·have h3:¬c=a:=fun e=>h1 e.symm
  simp[h1,h3]
theorem aH9(hfl:∀a b c d:Int,Ma P kt [.int .i64 a,.int .i64 b] [.int .i64 c,.int .i64 d]=true)(k:Int×Int):∀(es:List MapEntry) (l:List ((Int×Int)×Value)) (i:Nat),es.map (fun x=>(x.key,x.val))=l.map (fun p=>(kP p.1,p.2))→
  ∃q,(Instr.findAsking kt (kP k) es i).run P w=.ok q w∧q.map (·.2)=kN l k
 | [],l,i,h=>by
  cases l with
  | nil=>exact⟨none,by simp[Instr.findAsking],rfl⟩
  | cons _ _=>cases h
 | e :: es, l, i, h => by
  cases l with
  | nil=>cases h
  | cons p l =>
   simp only[List.map_cons,List.cons.injEq,Prod.mk.injEq] at h;obtain⟨⟨h1,h2⟩,h3⟩:=h;obtain⟨q,Fi,uZ⟩:=aH9 hfl k es l (i+1) h3;obtain⟨a,b⟩:=p
   have he:=aOE (w:=w) hfl k a
   rw[←h1] at he
   by_cases hk:a=k
   ·refine⟨some (i,e.val),?_,?_⟩
    ·unfold Instr.findAsking;simp[Sem.run_bind,he,hk]
    ·rw[Kt,if_pos hk];simp[h2]
   ·refine⟨q,?_,?_⟩
    ·unfold Instr.findAsking;simp[Sem.run_bind,he,hk,Fi]
    ·rw[Kt,if_neg hk];exact uZ
theorem aHz{f0 f1:Field}{k0 k1:IntKind}(hk:P.underlying kt=some (.struct #[f0,f1]))(h0:P.underlying f0.type=some (.int k0))(h1:P.underlying f1.type=some (.int k1))(o0:f0.offset=0)(o1:f1.offset=1)(p:Int×Int)(b:Bool):(Instr.checkKey b 10000 kt (kP p)).run P w=.ok () w:=by
 have e0:=Yx (P:=P) (w:=w) (cs:=#[.int .i64 p.1,.int .i64 p.2]) (i:=0) (v:=.int .i64 p.1) h0 (.inl ⟨_,rfl⟩) rfl
 have e1:=Yx (P:=P) (w:=w) (cs:=#[.int .i64 p.1,.int .i64 p.2]) (i:=1) (v:=.int .i64 p.2) h1 (.inl ⟨_,rfl⟩) rfl
 have c0:(Instr.checkKey b 9999 f0.type (.int .i64 p.1)).run P w=.ok () w:=by
  unfold Instr.checkKey;simp[Sem.run_bind,run_underlying h0]
 have c1:(Instr.checkKey b 9999 f1.type (.int .i64 p.2)).run P w=.ok () w:=by
  unfold Instr.checkKey;simp[Sem.run_bind,run_underlying h1]
 unfold Instr.checkKey kP
 by_cases n0:f0.name= "_" <;>by_cases n1:f1.name= "_" <;>simp[Sem.run_bind,run_underlying hk,n0,n1,o0,o1,e0,e1,c0,c1]
end
structure Bx(P:Program)(kt:TypeId):Prop where
 st:∃f0 f1 k0 k1,P.underlying kt=some (.struct #[f0,f1])∧P.underlying f0.type=some (.int k0)∧P.underlying f1.type=some (.int k1)∧f0.offset=0∧f1.offset=1
 fl:∀a b c d:Int,Ma P kt [.int .i64 a,.int .i64 b] [.int .i64 c,.int .i64 d]=true
theorem Bx.of{P:Program}{kt:TypeId}{f0 f1:Field}{k0 k1:IntKind}(h:P.underlying kt=some (.struct #[f0,f1]))(h0:P.underlying f0.type=some (.int k0))(h1:P.underlying f1.type=some (.int k1))(o0:f0.offset=0)(o1:f1.offset=1)(fl:∀a b c d:Int,Ma P kt [.int .i64 a,.int .i64 b] [.int .i64 c,.int .i64 d]=true):Bx P kt:=⟨⟨f0,f1,k0,k1,h,h0,h1,o0,o1⟩,fl⟩
section
variable{P:Program}{w:World}{t kt et:TypeId}{r:Nat}{l:List ((Int×Int)×Value)}
theorem aGK(hk:Bx P kt)(k:Int×Int)(es:List MapEntry)(h:es.map (fun x=>(x.key,x.val))=l.map (fun p=>(kP p.1,p.2))):∃q,(Instr.findKey kt (kP k) es).run P w=.ok q w∧q.map (·.2)=kN l k:=by
 obtain⟨f0,f1,k0,k1,hu,_⟩:=hk.st;obtain⟨q,h1,h2⟩:=aH9 (w:=w) hk.fl k es l 0 h;cases es with
 | nil=>
  cases l with
  | cons _ _=>cases h
  | nil=>exact⟨none,by simp[Instr.findKey,Sem.run_bind,run_underlying hu,Instr.findNow],rfl⟩
 | cons e es =>
  refine⟨q,?_,h2⟩;unfold Instr.findKey
  have:Instr.findNow (.struct #[f0,f1]) (kP k) (e::es) 0=none:=by
   unfold Instr.findNow Instr.sameNow;rfl
  simp[Sem.run_bind,run_underlying hu,this,h1]
theorem aKz{z:Value}(ht:P.underlying t=some (.map kt et))(hk:Bx P kt)(hz:∀w,(zeroValue et).run P w=.ok z w)(h:Jt w r l)(k:Int×Int)(ok:Bool):
  (Instr.lookup t (.map (some r)) (kP k) ok).run P w=.ok (if ok then .tuple #[(kN l k).getD z,.bool (kN l k).isSome] else(kN l k).getD z) w:=by
 obtain⟨es,c,h1,h2⟩:=h;obtain⟨q,hf,uZ⟩:=aGK (w:=w) hk k es.toList h2;obtain⟨f0,f1,k0,k1,hu,u0,u1,o0,o1⟩:=hk.st
 have hc:=fun b=>aHz (w:=w) hu u0 u1 o0 o1 k b
 unfold Instr.lookup;rw[←uZ];cases q with
 | none=>cases ok<;>simp[Sem.run_bind,run_underlying ht,run_getObj_map h1,hc,hf,hz]
 | some x=>obtain⟨j,v⟩:=x;cases ok<;>simp[Sem.run_bind,run_underlying ht,run_getObj_map h1,hc,hf]
theorem aK1(ht:P.underlying t=some (.map kt et))(hk:Bx P kt)(h:Jt w r l)(k:Int×Int)(v:Value)(hno:kN l k=none):
  ∃es c,(Instr.mapUpdate t (.map (some r)) (kP k) v).run P w=.ok () {w with heap:=w.heap.setIfInBounds r (.map es c)}∧es.toList.map (fun x=>(x.key,x.val))=(l++[(k,v)]).map fun p=>(kP p.1,p.2):=by
 obtain⟨es,c,h1,h2⟩:=h;obtain⟨q,hf,uZ⟩:=aGK (w:=w) hk k es.toList h2;obtain⟨f0,f1,k0,k1,hu,u0,u1,o0,o1⟩:=hk.st
 have hc:=fun b=>aHz (w:=w) hu u0 u1 o0 o1 k b
 have lF:∀o,(setObj r o).run P w=.ok () {w with heap:=w.heap.setIfInBounds r o}:=fun o=>by simp[setObj,Sem.run,h1]
 rw[hno] at uZ;obtain rfl:q=none:=by cases q with | none=>rfl | some x=>cases uZ
 refine⟨es.push {key:=kP k,val:=v,born:=c},c+1,?_,?_⟩
 ·unfold Instr.mapUpdate;simp[Sem.run_bind,run_underlying ht,run_getObj_map h1,hc,hf,lF]
 ·rw[Array.toList_push,List.map_append,h2];simp
end
def HP.tP(r:Nat)(l:List ((Int×Int)×Value)):HP:=⟨fun F w=>F r∧Jt w r l,fun F w w' h hk=>⟨h.1,by
 obtain⟨es,c,h1,h2⟩:=h.2
 exact⟨es,c,(hk r h.1).trans h1,h2⟩⟩⟩
theorem Jt.lt{w:World}{r:Nat}{l:List ((Int×Int)×Value)}(h:Jt w r l):r < w.heap.size:=by
 obtain⟨es,c,h1,_⟩:=h;rcases Nat.lt_or_ge r w.heap.size with h | h
 ·exact h
 ·rw[Array.getElem?_eq_none h] at h1;cases h1
section
variable{P:Program}{N:cE}{w0 w:World}{e:Env}{R:List Piece}{H:List HP}{Q:Exit→Act→World→Prop}{ops:Array Oper}{rest:List Oper}
variable{d:Nat}{ty:TypeId}{pos:String}{aH:Array Edge}
theorem St.tP(st:St w0 R H w){i r:Nat}{l:List ((Int×Int)×Value)}(hi:H[i]? =some (HP.tP r l)):Jt w r l:=(st.sat hi).choose_spec.2
theorem aIU{t:TypeId}(hd:d < N.n)(k:∀g,XK N w0 (wpList P ops Q rest) ((d,.map (some g))::e) R (HP.tP g []::H)):XK N w0 (wpList P ops Q (⟨some d,.makeMap t none,ty,pos,aH,none⟩::rest)) e R H:=
 rO rfl fun a w hr st=>⟨.map (some w.heap.size),w.alloc (.map #[] 0),by simp[execOp,Instr.makeMap],k w.heap.size _ _ (hr.put hd _) (st.new (Qx w _) ⟨⟨Nat.le_refl _,by simp⟩,#[],0,heap_alloc_new w _,rfl⟩)⟩
theorem aIY{x y:Operand}{t kt et:TypeId}{z:Value}{r:Nat}{l:List ((Int×Int)×Value)}{k:Int×Int}(ok:Bool)(ht:P.underlying t=some (.map kt et))(hk:Bx P kt)(hz:(P.info? et).bind (·.zero)=some z)
  (hx:e.ev x=some (.map (some r))) (hy:e.ev y=some (kP k)) (hm:∀w,St w0 R H w→Jt w r l) (hd:d < N.n)
  (kk:XK N w0 (wpList P ops Q rest) ((d,if ok then .tuple #[(kN l k).getD z,.bool (kN l k).isSome] else(kN l k).getD z)::e) R H):XK N w0 (wpList P ops Q (⟨some d,.lookup t x y ok,ty,pos,aH,none⟩::rest)) e R H:=
 rO rfl fun a w hr st=>⟨_,w,by simp only[execOp,hr.ev hx,hr.ev hy,Sem.run_bind,aKz ht hk (zeroV hz) (hm w st),Result.andThen_ok,Sem.run_pure],kk _ _ (hr.put hd _) st⟩
theorem aBo{x y:Operand}{t kt et:TypeId}{z v:Value}{r:Nat}{l:List ((Int×Int)×Value)}{k:Int×Int}{b:Bool}(ht:P.underlying t=some (.map kt et))(hk:Bx P kt)(hz:(P.info? et).bind (·.zero)=some z)
  (hx:e.ev x=some (.map (some r))) (hy:e.ev y=some (kP k)) (hm:∀w,St w0 R H w→Jt w r l) (hv:(kN l k).getD z=v) (hb:(kN l k).isSome=b) (hd:d < N.n)
  (kk:XK N w0 (wpList P ops Q rest) ((d,.tuple #[v,.bool b])::e) R H):XK N w0 (wpList P ops Q (⟨some d,.lookup t x y true,ty,pos,aH,none⟩::rest)) e R H:=
 aIY true ht hk hz hx hy hm hd (by subst hv;subst hb;exact kk)
theorem aJb(i:Nat){x y u:Operand}{t kt et:TypeId}{r:Nat}{l:List ((Int×Int)×Value)}{k:Int×Int}{v:Value}(ht:P.underlying t=some (.map kt et))(hk:Bx P kt)(hi:H[i]? =some (HP.tP r l))(hno:kN l k=none)
  (hx:e.ev x=some (.map (some r))) (hy:e.ev y=some (kP k)) (hu:e.ev u=some v) (kk:XK N w0 (wpList P ops Q rest) e R (H.set i (HP.tP r (l++[(k,v)])))):XK N w0 (wpList P ops Q (⟨none,.insert t x y u,ty,pos,aH,none⟩::rest)) e R H:=
 aBm rfl rfl fun a w hr st=>by
  have hm:=st.tP hi
  have hlt:=hm.lt
  obtain⟨es,c,hrun,hl⟩:=aK1 (P:=P) ht hk hm k v hno;refine⟨{w with heap:=w.heap.setIfInBounds r (.map es c)},by simp only[execOp,hr.ev hx,hr.ev hy,hr.ev hu,Sem.run_bind,hrun,Result.andThen_ok,Sem.run_pure],kk _ _ hr ?_⟩;refine st.vW hi (by simp) rfl rfl rfl fun F hF hb=>⟨F,⟨hF.1,es,c,by simp[Array.getElem?_setIfInBounds,hlt],hl⟩,fun b h=>⟨.inl h,by simpa using hb b h⟩,fun b hb hnb=>?_⟩
  rw[Array.getElem?_setIfInBounds];split
  ·rename_i he;exact absurd (he▸hF.1) hnb
  ·rfl
end
end
section
theorem aFJ:∀(sub:List Nat) (l:Array Bool),(lB sub l).size=l.size
 | [],l=>rfl
 | i::sub,l=>by
  show((lB sub l).setIfInBounds i true).size=_
  rw[Array.size_setIfInBounds,aFJ sub l]
theorem aCg:∀(sub:List Nat) (l:Array Bool) (i:Nat) (b:Bool),i∈sub→i < l.size→(lB sub l).getD i b=true
 | j :: sub, l, i, b, h, hi => by
  show((lB sub l).setIfInBounds j true).getD i b=true
  by_cases e:j=i
  ·subst e
   have:j < (lB sub l).size:=by rw[aFJ];exact hi
   simp[this]
  ·rw[getD_set_ne b e];rcases List.mem_cons.1 h with h | h
   ·exact absurd h.symm e
   ·exact aCg sub l i b h hi
theorem Ua:∀(sub:List Nat) (l:Array Bool) (i:Nat) (b:Bool),i∉sub→(lB sub l).getD i b=l.getD i b
 | [],l,i,b,_=>rfl
 | j::sub,l,i,b,h=>by
  show((lB sub l).setIfInBounds j true).getD i b=_
  have e:j≠i:=fun e=>h (by simp[e])
  rw[getD_set_ne b e];exact Ua sub l i b fun h2=>h (by simp[h2])
theorem aME{sub:List Nat}{l:Array Bool}{i:Nat}(h:l.getD i false=true):(lB sub l).getD i false=true:=by
 by_cases hi:i∈sub
 ·refine aCg sub l i false hi ?_;rcases Nat.lt_or_ge i l.size with h1 | h1
  ·exact h1
  ·simp[Array.getElem?_eq_none h1] at h
 ·rw[Ua sub l i false hi];exact h
def aCr(ops:Array Oper)(I:List Nat)(listed:Array Bool):Bool:=
 I.all (fun i=>decide (i < listed.size)&& !(listed.getD i true)&&match ops[i]? with
  | some o=>o.after.toList.all fun x=> !(Region.binds .any x)||listed.getD x.on false
  | none=>false)&&
 (List.range ops.size).all fun j=>I.contains j||listed.getD j true||match ops[j]? with
  | some o=>I.all fun i=>o.after.toList.any fun x=>Region.binds .any x&&x.on==i
  | none=>true
theorem aLl{ops:Array Oper}{I sub:List Nat}{listed:Array Bool}(hB:aCr ops I listed=true)(hsub:∀i∈sub,i∈I){i0:Nat}(nI:i0∈I)(hn0:i0∉sub):
  Region.ready .any ops (lB sub listed)≠[]∧∀j∈Region.ready .any ops (lB sub listed),j∈I∧j∉sub:=by
 unfold aCr at hB;rw[Bool.and_eq_true,List.all_eq_true,List.all_eq_true] at hB;obtain⟨hA,hC⟩:=hB
 have h0:=hA i0 nI
 simp only[Bool.and_eq_true,decide_eq_true_eq,Bool.not_eq_true'] at h0;obtain⟨⟨h1,h2⟩,h3⟩:=h0;constructor
 ·cases ho:ops[i0]? with
  | none=>rw[ho] at h3;cases h3
  | some o =>
   rw[ho] at h3;simp only[List.all_eq_true] at h3
   have:i0∈Region.ready .any ops (lB sub listed):=mem_ready.2 ⟨by rw[Ua _ _ _ _ hn0];exact h2,o,ho,fun x hx hb=>by
    have:=h3 x (by simpa using hx)
    rw[hb] at this
    exact aME (by simpa using this)⟩
   intro he;rw[he] at this;cases this
 ·intro j hj;obtain⟨g1,o,ho,g2⟩:=mem_ready.1 hj
  have hjn:j∉sub:=fun h=>by
   have pP:=hA j (hsub j h)
   simp only[Bool.and_eq_true,decide_eq_true_eq] at pP;rw[aCg sub listed j true h pP.1.1] at g1;cases g1
  refine⟨?_,hjn⟩;rw[Ua _ _ _ _ hjn] at g1
  have hlt:j < ops.size:=(Array.getElem?_eq_some_iff.1 ho).1
  have hc:=hC j (List.mem_range.2 hlt)
  rw[g1,ho] at hc;simp only[Bool.or_false,Bool.or_eq_true] at hc;rcases hc with hc | hc
  ·simpa using hc
  ·exfalso;rw[List.all_eq_true] at hc
   have:=hc i0 nI
   rw[List.any_eq_true] at this;obtain⟨x,hx,hb⟩:=this;simp only[Bool.and_eq_true,beq_iff_eq] at hb
   have:=g2 x (by simpa using hx) hb.1
   rw[hb.2,Ua _ _ _ _ hn0] at this
   have h4:listed.getD i0 true=listed.getD i0 false:=by simp[h1]
   rw[h4,this] at h2;cases h2
theorem aFu{I sub:List Nat}(hI:I.Nodup)(hn:sub.Nodup)(hin:∀i∈sub,i∈I):(I.filter fun i=>sub.contains i).Perm sub:=by
 rw[List.perm_iff_count];intro a;rw[(hI.sublist List.filter_sublist).count,hn.count]
 by_cases ha:a∈sub
 ·rw[if_pos ha,if_pos (by simp[ha,hin a ha])]
 ·rw[if_neg ha,if_neg (by simp[ha])]
theorem aM3{l1 l2:List ((Int×Int)×Value)}(h:l1.Perm l2)(hn:(l1.map (·.1)).Nodup)(k:Int×Int):kN l1 k=kN l2 k:=by
 induction h with
 | nil=>rfl
 | cons x _ ih=>
  obtain⟨a,b⟩:=x;rw[Kt,Kt,ih (List.nodup_cons.1 hn).2]
 | swap x y s =>
  obtain⟨a,b⟩:=x;obtain⟨c,d⟩:=y
  have hne:c≠a:=fun e=>(List.nodup_cons.1 hn).1 (by rw[e];simp)
  simp only[Kt]
  by_cases h1:a=k
  ·have:c≠k:=fun e=>hne (e.trans h1.symm)
   simp[h1,this]
  ·simp[h1]
 | trans h1 h2 i1 i2=>exact(i1 hn).trans (i2 ((h1.map _).nodup_iff.1 hn))
theorem aM4{l:List ((Int×Int)×Value)}{k:Int×Int}(h:k∉l.map (·.1)):kN l k=none:=by
 induction l with
 | nil=>rfl
 | cons x l ih=>
  obtain⟨a,b⟩:=x;rw[List.map_cons,List.mem_cons,not_or] at h;rw[Kt,if_neg (fun e=>h.1 e.symm)];exact ih h.2
section
variable{P:Program}{N:cE}{w0 w:World}{e:Env}{R R0:List Piece}{H H0:List HP}{Q:Exit→Act→World→Prop}{ops:Array Oper}{m fuel:Nat}{listed:Array Bool}
def Lays(P:Program)(ops:Array Oper)(e:Env)(r:Nat)(i:Nat)(p:(Int×Int)×Value):Prop:=∃x y u ty pos aH t kt et,ops[i]? =some ⟨none,.insert t x y u,ty,pos,aH,none⟩∧P.underlying t=some (.map kt et)∧Bx P kt∧e.ev x=some (.map (some r))∧e.ev y=some (kP p.1)∧e.ev u=some p.2
theorem aRY(I:List Nat)(Md:Nat→(Int×Int)×Value)(r:Nat)(hI:I.Nodup)(hop:∀i∈I,Lays P ops e r i (Md i))(hkeys:(I.map fun i=>(Md i).1).Nodup)(hB:aCr ops I listed=true)
  (hS:∀l w,St w0 R (HP.tP r l::H) w→St w0 R0 H0 w)
  (k:∀sub:List Nat,sub.Perm I→XA P N w0 ops Q R0 H0 m fuel (lB sub listed) e R (HP.tP r (sub.reverse.map Md)::H)):XA P N w0 ops Q R0 H0 m (fuel+I.length) listed e R (HP.tP r []::H):=by
 have key : ∀ (n : Nat) (sub : List Nat), sub.Nodup → (∀ i ∈ sub, i ∈ I) → sub.length + n = I.length → XA P N w0 ops Q R0 H0 m (fuel + n) (lB sub listed) e R (HP.tP r (sub.reverse.map Md) :: H) := by
  intro n
  induction n with
  | zero=>
   intro sub hn hin hl
   have hp:=aFu hI hn hin
   have hf:(I.filter fun i=>sub.contains i)=I:=List.filter_sublist.eq_of_length (by have:=hp.length_eq;omega)
   rw[hf] at hp;exact k sub hp.symm
  | succ n ih =>
   intro sub hn hin hl
   obtain⟨i0,nI,hn0⟩:∃i,i∈I∧i∉sub:=Classical.byContradiction fun hno=>by
    have hp:=aFu hI hn hin
    have hf:(I.filter fun i=>sub.contains i)=I:=List.filter_eq_self.2 fun i hi=>by
     rcases Classical.em (i∈sub) with h | h
     ·simpa using h
     ·exact absurd ⟨i,hi,h⟩ hno
    rw[hf] at hp
    have:=hp.length_eq
    omega
   obtain⟨r1,r2⟩:=aLl hB hin nI hn0;intro up a w cS st;refine⟨fun h=>absurd h r1,fun i hi=>?_⟩;obtain⟨hiI,Ux⟩:=r2 i hi;obtain⟨x,y,u,ty,pos,aH,t,kt,et,ho,ht,hk,hx,hy,hu⟩:=hop i hiI
   have hno:kN (sub.reverse.map Md) (Md i).1=none:=aM4 fun hm=>by
    simp only[List.map_map,List.mem_map,List.mem_reverse,Function.comp] at hm;obtain⟨j,hj,he⟩:=hm
    have hji:j≠i:=fun e=>Ux (e▸hj)
    exact hji (Classical.byContradiction fun hne=>by
     have h1:=List.pairwise_map.1 hkeys
     exact absurd he (by
      obtain⟨a,ha⟩:=List.getElem?_of_mem (hin j hj);obtain⟨b,hb⟩:=List.getElem?_of_mem hiI
      have hal:=(List.getElem?_eq_some_iff.1 ha).1
      have hbl:=(List.getElem?_eq_some_iff.1 hb).1
      have hav:=(List.getElem?_eq_some_iff.1 ha).2
      have Vo:=(List.getElem?_eq_some_iff.1 hb).2
      have h2:=List.pairwise_iff_getElem.1 h1
      rcases Nat.lt_trichotomy a b with h | h | h
      ·have:=h2 a b hal hbl h;rw[hav,Vo] at this;exact this
      ·subst h;exact absurd (hav.symm.trans Vo) hji
      ·have:=h2 b a hbl hal h;rw[hav,Vo] at this;exact fun e=>this e.symm))
   refine Cf ho (fun a w h=>⟨h.1,h.2 (up.kZ hi)⟩) (K:=rG P w0 ops Q R0 H0 m (fuel+n) (lB sub listed) i) ?_
   have:=aJb (P:=P) (N:=N) (w0:=w0) (R:=R) (H:=HP.tP r (sub.reverse.map Md)::H) (Q:=Exit.then (rG P w0 ops Q R0 H0 m (fuel+n) (lB sub listed) i) Q) (ops:=ops) (rest:=[]) (ty:=ty) (pos:=pos) (aH:=aH) 0 ht hk rfl hno hx hy hu
    (gT (gO (kM (hS _) (by
     have:=ih (i::sub) (List.nodup_cons.2 ⟨Ux,hn⟩) (fun j hj=>by
      rcases List.mem_cons.1 hj with rfl | hj
      ·exact hiI
      ·exact hin j hj) (by simp only[List.length_cons];omega)
     rw[List.reverse_cons,List.map_append] at this
     exact this))))
   exact this a w cS st
 exact key I.length [] List.nodup_nil (fun _ h=>by cases h) (by simp)
end
end
section
theorem aGM(L:List (Nat×Nat))(place:Nat→Option (Nat×Nat))(hp:∀i x,L[i]? =some x→place i=some x):∀(ps:List (Nat×Value)) (cs cs':List Value),eZ L cs ps=some cs'→Instr.fill place cs.toArray ps=some cs'.toArray
 | [],cs,cs',h=>by cases h;rfl
 | (i, v) :: rest, cs, cs', h => by
  unfold eZ at h;unfold Instr.fill;split at h
  ·rename_i off sz hL
   rw[hp _ _ hL];split at h
   ·rename_i hc
    have e1:(decide (v.cells.size≠sz)||decide (off+v.cells.size>cs.toArray.size))=false:=by simp;omega
    simp only[e1,Bool.false_eq_true,if_false]
    have:=aB9 v.cells.toList cs off 0
    rw[show v.cells.zipIdx.foldl (fun cs (c,j)=>cs.setIfInBounds (off+j) c) cs.toArray=(gB cs off v.cells.toList).toArray by
     rw[←Array.foldl_toList,Array.toList_zipIdx];exact this]
    exact aGM L place hp rest _ cs' h
   ·cases h
  ·cases h
section
variable{P:Program}{N:cE}{w0:World}{e:Env}{R:List Piece}{H:List HP}{d:Nat}{ty:TypeId}{pos:String}{aH:Array Edge}
theorem aDd{t el:TypeId}{n sz:Nat}{ps:List (Nat×Operand)}{vs:List (Nat×Value)}{zs cs:List Value}(hz:Cd P t zs)(ht:P.underlying t=some (.array n el))(hsz:(P.info? el).map (·.size)=some sz)(hp:e.parts ps=some vs)(hf:eZ ((List.range n).map fun i=>(i*sz,sz)) zs vs=some cs):bR P N w0 e R H ⟨some d,.build t ps.toArray,ty,pos,aH,none⟩ (.agg cs.toArray):=
 gN (fun a w hr => by
  have:=hr.parts hp
  obtain⟨i,z,hi,Cw,rfl⟩:=hz;obtain⟨j,hj,rfl⟩:=Option.map_eq_some_iff.1 hsz
  have hfl:=aGM _ (fun i=>some (i*j.size,j.size)) (fun i x hx=>by
   rw[List.getElem?_map] at hx;obtain⟨q,hq,rfl⟩:=Option.map_eq_some_iff.1 hx
   have hlt:i < n:=by
    rcases Nat.lt_or_ge i n with h | h
    ·exact h
    ·rw[List.getElem?_eq_none (by simpa using h)] at hq;cases hq
   rw[List.getElem?_range hlt] at hq;cases hq
   rfl) vs z.cells.toList cs hf
  simp at hfl;simp only[execOp,List.map_toArray,this]
  simp[Instr.build,zeroValue,typeInfo,sizeOf,hi,hj,Cw,run_underlying ht,hfl])
end
def qE(n m a b c:Int):Value:=.agg #[iv n,iv m,.int .u8 a,.int .u8 b,.int .u8 c]
theorem Zr:Bx Tryz.prog 164:=Bx.of Tryz.underlying164 Tryz.underlying3 Tryz.underlying3 rfl rfl (fun _ _ _ _=>by kernel_rfl)
def yQ:Nat→(Int×Int)×Value
 | 3=>((16,0),qE 0 0 0 0 0) | 6=>((17,0),qE 0 0 0 0 0) | 9=>((20,0),qE 0 0 0 0 0) | 12=>((22,0),qE 0 0 0 0 0) | 15=>((16,1),qE 0 0 0 0 0)
 | 19=>((17,4),qE 2 3 100 117 107) | 22=>((17,5),qE 1 0 0 0 0) | 25=>((20,6),qE 1 0 0 0 0) | 29=>((20,7),qE 2 2 111 99 0) | _=>((22,4),qE 2 2 114 97 0)
def Lz:List Nat:=[3,6,9,12,15,19,22,25,29,33]
def aCP:List ((Int×Int)×Value):=Lz.map yQ
def aDY(v:Value)(hs:List HP)(_:Piece):Prop:=∃(g:Nat) (sub:List Nat),v=.map (some g)∧sub.Perm Lz∧hs=[HP.tP g (sub.reverse.map yQ)]
theorem aGB(w:World):Cz 79 #[] w (fun y w'=>(∃v hs q,y=.returned v∧q.w=w'∧aDY v hs q∧fZ w hs q)∧Below w.heap.size w w'):=by
 refine aO func79 ntmps79 ?_;refine dX ?_;refine fT ?_;refine jL rfl (by decide) ?_;refine fB ?_;refine dX ?_;refine qI 34 (by kernel_rfl) (by kernel_rfl) ?_;refine fH 1 rfl rfl rfl (by decide) (kR (zs:=[iv 0,iv 0]) (L:=[(0,1),(1,1)]) (gX (by kernel_rfl)) (by kernel_rfl) rfl (by simp[eZ,gB,Value.cells];rfl)) (by kernel_rfl) (fun _ _ _ h=>h) (fun _ h=>h) ?_;refine fH 2 rfl rfl rfl (by decide) (kR (zs:=[iv 0,iv 0,.int .u8 0,.int .u8 0,.int .u8 0]) (L:=[(0,1),(1,1),(2,3)]) (gX (by kernel_rfl)) (by kernel_rfl) rfl (by simp[eZ,gB,Value.cells];rfl)) (by kernel_rfl) (fun _ _ _ h=>h) (fun _ h=>h) ?_;refine fH 4 rfl rfl rfl (by decide) (kR (zs:=[iv 0,iv 0]) (L:=[(0,1),(1,1)]) (gX (by kernel_rfl)) (by kernel_rfl) rfl (by simp[eZ,gB,Value.cells];rfl)) (by kernel_rfl) (fun _ _ _ h=>h) (fun _ h=>h) ?_;refine fH 5 rfl rfl rfl (by decide) (kR (zs:=[iv 0,iv 0,.int .u8 0,.int .u8 0,.int .u8 0]) (L:=[(0,1),(1,1),(2,3)]) (gX (by kernel_rfl)) (by kernel_rfl) rfl (by simp[eZ,gB,Value.cells];rfl)) (by kernel_rfl) (fun _ _ _ h=>h) (fun _ h=>h) ?_;refine fH 7 rfl rfl rfl (by decide) (kR (zs:=[iv 0,iv 0]) (L:=[(0,1),(1,1)]) (gX (by kernel_rfl)) (by kernel_rfl) rfl (by simp[eZ,gB,Value.cells];rfl)) (by kernel_rfl) (fun _ _ _ h=>h) (fun _ h=>h) ?_;refine fH 8 rfl rfl rfl (by decide) (kR (zs:=[iv 0,iv 0,.int .u8 0,.int .u8 0,.int .u8 0]) (L:=[(0,1),(1,1),(2,3)]) (gX (by kernel_rfl)) (by kernel_rfl) rfl (by simp[eZ,gB,Value.cells];rfl)) (by kernel_rfl) (fun _ _ _ h=>h) (fun _ h=>h) ?_;refine fH 10 rfl rfl rfl (by decide) (kR (zs:=[iv 0,iv 0]) (L:=[(0,1),(1,1)]) (gX (by kernel_rfl)) (by kernel_rfl) rfl (by simp[eZ,gB,Value.cells];rfl)) (by kernel_rfl) (fun _ _ _ h=>h) (fun _ h=>h) ?_;refine fH 11 rfl rfl rfl (by decide) (kR (zs:=[iv 0,iv 0,.int .u8 0,.int .u8 0,.int .u8 0]) (L:=[(0,1),(1,1),(2,3)]) (gX (by kernel_rfl)) (by kernel_rfl) rfl (by simp[eZ,gB,Value.cells];rfl)) (by kernel_rfl) (fun _ _ _ h=>h) (fun _ h=>h) ?_;refine fH 13 rfl rfl rfl (by decide) (kR (zs:=[iv 0,iv 0]) (L:=[(0,1),(1,1)]) (gX (by kernel_rfl)) (by kernel_rfl) rfl (by simp[eZ,gB,Value.cells];rfl)) (by kernel_rfl) (fun _ _ _ h=>h) (fun _ h=>h) ?_;refine fH 14 rfl rfl rfl (by decide) (kR (zs:=[iv 0,iv 0,.int .u8 0,.int .u8 0,.int .u8 0]) (L:=[(0,1),(1,1),(2,3)]) (gX (by kernel_rfl)) (by kernel_rfl) rfl (by simp[eZ,gB,Value.cells];rfl)) (by kernel_rfl) (fun _ _ _ h=>h) (fun _ h=>h) ?_;refine fH 16 rfl rfl rfl (by decide) (kR (zs:=[iv 0,iv 0]) (L:=[(0,1),(1,1)]) (gX (by kernel_rfl)) (by kernel_rfl) rfl (by simp[eZ,gB,Value.cells];rfl)) (by kernel_rfl) (fun _ _ _ h=>h) (fun _ h=>h) ?_;refine fH 17 rfl rfl rfl (by decide) (aDd (n:=3) (sz:=1) (el:=5) (zs:=[.int .u8 0,.int .u8 0,.int .u8 0]) (gX (by kernel_rfl)) (by kernel_rfl) (by kernel_rfl) rfl (by simp[eZ,gB,Value.cells,List.range_succ,List.set];rfl)) (by kernel_rfl) (fun _ _ _ h=>h) (fun _ h=>h) ?_;refine fH 18 rfl rfl rfl (by decide) (kR (zs:=[iv 0,iv 0,.int .u8 0,.int .u8 0,.int .u8 0]) (L:=[(0,1),(1,1),(2,3)]) (gX (by kernel_rfl)) (by kernel_rfl) rfl (by simp[eZ,gB,Value.cells];rfl)) (by kernel_rfl) (fun _ _ _ h=>h) (fun _ h=>h) ?_;refine fH 20 rfl rfl rfl (by decide) (kR (zs:=[iv 0,iv 0]) (L:=[(0,1),(1,1)]) (gX (by kernel_rfl)) (by kernel_rfl) rfl (by simp[eZ,gB,Value.cells];rfl)) (by kernel_rfl) (fun _ _ _ h=>h) (fun _ h=>h) ?_;refine fH 21 rfl rfl rfl (by decide) (kR (zs:=[iv 0,iv 0,.int .u8 0,.int .u8 0,.int .u8 0]) (L:=[(0,1),(1,1),(2,3)]) (gX (by kernel_rfl)) (by kernel_rfl) rfl (by simp[eZ,gB,Value.cells];rfl)) (by kernel_rfl) (fun _ _ _ h=>h) (fun _ h=>h) ?_;refine fH 23 rfl rfl rfl (by decide) (kR (zs:=[iv 0,iv 0]) (L:=[(0,1),(1,1)]) (gX (by kernel_rfl)) (by kernel_rfl) rfl (by simp[eZ,gB,Value.cells];rfl)) (by kernel_rfl) (fun _ _ _ h=>h) (fun _ h=>h) ?_;refine fH 24 rfl rfl rfl (by decide) (kR (zs:=[iv 0,iv 0,.int .u8 0,.int .u8 0,.int .u8 0]) (L:=[(0,1),(1,1),(2,3)]) (gX (by kernel_rfl)) (by kernel_rfl) rfl (by simp[eZ,gB,Value.cells];rfl)) (by kernel_rfl) (fun _ _ _ h=>h) (fun _ h=>h) ?_;refine fH 26 rfl rfl rfl (by decide) (kR (zs:=[iv 0,iv 0]) (L:=[(0,1),(1,1)]) (gX (by kernel_rfl)) (by kernel_rfl) rfl (by simp[eZ,gB,Value.cells];rfl)) (by kernel_rfl) (fun _ _ _ h=>h) (fun _ h=>h) ?_;refine fH 27 rfl rfl rfl (by decide) (aDd (n:=3) (sz:=1) (el:=5) (zs:=[.int .u8 0,.int .u8 0,.int .u8 0]) (gX (by kernel_rfl)) (by kernel_rfl) (by kernel_rfl) rfl (by simp[eZ,gB,Value.cells,List.range_succ,List.set];rfl)) (by kernel_rfl) (fun _ _ _ h=>h) (fun _ h=>h) ?_;refine fH 28 rfl rfl rfl (by decide) (kR (zs:=[iv 0,iv 0,.int .u8 0,.int .u8 0,.int .u8 0]) (L:=[(0,1),(1,1),(2,3)]) (gX (by kernel_rfl)) (by kernel_rfl) rfl (by simp[eZ,gB,Value.cells];rfl)) (by kernel_rfl) (fun _ _ _ h=>h) (fun _ h=>h) ?_;refine fH 30 rfl rfl rfl (by decide) (kR (zs:=[iv 0,iv 0]) (L:=[(0,1),(1,1)]) (gX (by kernel_rfl)) (by kernel_rfl) rfl (by simp[eZ,gB,Value.cells];rfl)) (by kernel_rfl) (fun _ _ _ h=>h) (fun _ h=>h) ?_;refine fH 31 rfl rfl rfl (by decide) (aDd (n:=3) (sz:=1) (el:=5) (zs:=[.int .u8 0,.int .u8 0,.int .u8 0]) (gX (by kernel_rfl)) (by kernel_rfl) (by kernel_rfl) rfl (by simp[eZ,gB,Value.cells,List.range_succ,List.set];rfl)) (by kernel_rfl) (fun _ _ _ h=>h) (fun _ h=>h) ?_;refine fH 32 rfl rfl rfl (by decide) (kR (zs:=[iv 0,iv 0,.int .u8 0,.int .u8 0,.int .u8 0]) (L:=[(0,1),(1,1),(2,3)]) (gX (by kernel_rfl)) (by kernel_rfl) rfl (by simp[eZ,gB,Value.cells];rfl)) (by kernel_rfl) (fun _ _ _ h=>h) (fun _ h=>h) ?_;refine cK 0 ?_;refine aIU (by decide) fun g1=>?_;refine mS ?_;refine aRY (fuel:=2) Lz yQ g1 (by decide) (fun i hi=>?_) (by decide) (by kernel_rfl) (fun l w1 h=>h.tail) (fun sub hsub=>?_)
 ·simp only[Lz,List.mem_cons,List.not_mem_nil,or_false] at hi;rcases hi with rfl | rfl | rfl | rfl | rfl | rfl | rfl | rfl | rfl | rfl
  all_goals exact⟨_,_,_,_,_,_,_,_,_,rfl,Tryz.underlying161,Zr,rfl,rfl,rfl⟩
 rw[Zw hsub];refine cK 34 ?_;refine dP rfl (by decide) ?_;refine eS ?_;refine cK 35 ?_;refine jL rfl (by decide) ?_;refine eS ?_;refine kL ?_;refine eK ?_;refine Ra ?_;refine eK ?_;refine dG [] [] [0] (by simp) rfl (by decide) (by decide) fun q _ _ hfr=>?_;exact aP (h:=fun w1 st=>⟨_,_,⟨w1,q.Z⟩,rfl,rfl,⟨g1,sub,rfl,hsub,rfl⟩,st.newR (by simp) (by simp) (hfr (by simp) (by simp))⟩)
end
section
def eI(w:Int):Int:=if cN w 28 4≠0 then 0 else cN w 0 8
def Pq(w:Int):Int:=if cN w 28 4≠0 then 0 else cN w 8 2
def dW(w:Int):Int:=if cN w 28 4≠0 then 0 else cN w 10 8
def aAs(w:Int):Int:=if cN w 28 4≠0 then 0 else cN w 18 10
theorem aJB(w:Int):Kf w=Lo (eI w) (Pq w) (dW w) (aAs w):=by
 unfold Kf eI Pq dW aAs;split<;>rfl
structure mT where
 n:Int
 m:Int
 a:Int
 b:Int
 c:Int
def mT.v(f:mT):Value:=qE f.n f.m f.a f.b f.c
def mT.act(f:mT)(v:Int):Int:=if v=0 then f.a else if v=1 then f.b else f.c
def uA(p m:Int):Option mT:=
 if m=0 then(if p=16∨p=17∨p=20∨p=22 then some ⟨0,0,0,0,0⟩ else none)
 else if m=1 then(if p=16 then some ⟨0,0,0,0,0⟩ else none)
 else if m=4 then(if p=17 then some ⟨2,3,100,117,107⟩ else if p=22 then some ⟨2,2,114,97,0⟩ else none)
 else if m=5 then(if p=17 then some ⟨1,0,0,0,0⟩ else none)
 else if m=6 then(if p=20 then some ⟨1,0,0,0,0⟩ else none)
 else if m=7 then(if p=20 then some ⟨2,2,111,99,0⟩ else none)
 else none
theorem aOl(p m:Int):kN aCP (p,m)=(uA p m).map mT.v:=by
 unfold aCP Lz uA;simp only[List.map_cons,List.map_nil,yQ,Kt,Prod.mk.injEq]
 by_cases h0:m=0
 ·subst h0
  by_cases vD:p=16
  ·subst vD;simp[mT.v]
  ·by_cases Bh:p=17
   ·subst Bh;simp[mT.v]
   ·by_cases wY:p=20
    ·subst wY;simp[mT.v]
    ·by_cases Lw:p=22
     ·subst Lw;simp[mT.v]
     ·simp[vD,Bh,wY,Lw,kN,Ne.symm vD,Ne.symm Bh,Ne.symm wY,Ne.symm Lw]
 ·by_cases h1:m=1
  ·subst h1
   by_cases vD:p=16
   ·subst vD;simp[mT.v]
   ·simp[vD,Ne.symm vD,kN]
  ·by_cases h4:m=4
   ·subst h4
    by_cases Bh:p=17
    ·subst Bh;simp[mT.v]
    ·by_cases Lw:p=22
     ·subst Lw;simp[mT.v]
     ·simp[Bh,Lw,Ne.symm Bh,Ne.symm Lw,kN]
   ·by_cases h5:m=5
    ·subst h5
     by_cases Bh:p=17
     ·subst Bh;simp[mT.v]
     ·simp[Bh,Ne.symm Bh,kN]
    ·by_cases h6:m=6
     ·subst h6
      by_cases wY:p=20
      ·subst wY;simp[mT.v]
      ·simp[wY,Ne.symm wY,kN]
     ·by_cases h7:m=7
      ·subst h7
       by_cases wY:p=20
       ·subst wY;simp[mT.v]
       ·simp[wY,Ne.symm wY,kN]
      ·simp[h0,h1,h4,h5,h6,h7,Ne.symm h0,Ne.symm h1,Ne.symm h4,Ne.symm h5,Ne.symm h6,Ne.symm h7,kN]
def eF(p m:Int):mT:=(uA p m).getD ⟨0,0,0,0,0⟩
theorem aOk{sub:List Nat}(h:sub.Perm Lz)(p m:Int):kN (sub.reverse.map yQ) (p,m)=(uA p m).map mT.v:=by
 rw[←aOl]
 have hp:(sub.reverse.map yQ).Perm aCP:=((List.reverse_perm sub).trans h).map yQ
 refine aM3 hp ?_ _;exact((hp.map (·.1)).nodup_iff).2 (by decide)
theorem Pu{sub:List Nat}(h:sub.Perm Lz)(p m:Int):(kN (sub.reverse.map yQ) (p,m)).getD (qE 0 0 0 0 0)=(eF p m).v∧(kN (sub.reverse.map yQ) (p,m)).isSome=(uA p m).isSome:=by
 rw[aOk h];unfold eF;cases uA p m<;>exact⟨rfl,rfl⟩
theorem aG9(p m : Int) : ((eF p m).n = 0 ∨ (eF p m).n = 1 ∨ (eF p m).n = 2) ∧ 0 ≤ (eF p m).m ∧ (eF p m).m ≤ 3 ∧ (∀ v, 0 ≤ v → v < (eF p m).m → (eF p m).act v = 107 → p = 17) ∧
  ((eF p m).m≠0→p=17∨p=20∨p=22):=by
 unfold eF uA
 by_cases h0:m=0
 ·by_cases h:p=16∨p=17∨p=20∨p=22<;>simp[h0,h]<;>omega
 ·by_cases h1:m=1
  ·by_cases h:p=16<;>simp[h1,h]<;>omega
  ·by_cases h4:m=4
   ·by_cases h:p=17
    ·simp[h4,h]
    ·by_cases h':p=22
     ·subst h4 h';simp only[mT.act];refine⟨by simp,by simp,by simp,fun v h1 h2 h3=>?_,by simp⟩;simp at h2 h3;split at h3
      ·omega
      ·split at h3<;>omega
     ·simp[h4,h,h'];omega
   ·by_cases h5:m=5
    ·by_cases h:p=17<;>simp[h5,h]<;>omega
    ·by_cases h6:m=6
     ·by_cases h:p=20<;>simp[h6,h]<;>omega
     ·by_cases h7:m=7
      ·by_cases h:p=20
       ·subst h7 h;simp only[mT.act];refine⟨by simp,by simp,by simp,fun v h1 h2 h3=>?_,by simp⟩;simp at h2 h3;split at h3
        ·omega
        ·split at h3<;>omega
       ·simp[h7,h];omega
      ·simp[h0,h1,h4,h5,h6,h7];omega
def Ti(s:aC)(k:Nat):Bool:=(s.domains[k]?).any (·.ret)
def kindOf(s:aC)(k:Nat):Int:=((s.aF[k]?).map (·.kind)).getD 0
def Ys(s:aC)(k:Nat):Prop:=kindOf s k=112∨kindOf s k=103
instance(s:aC)(k:Nat):Decidable (Ys s k):=inferInstanceAs (Decidable (_∨_))
def Ob(s:aC)(p k:Int)(id:Nat):Prop:=(k=107∧Ti s id=false)∨(p=20∧¬Ys s id)
instance(s:aC)(p k:Int)(id:Nat):Decidable (Ob s p k id):=inferInstanceAs (Decidable (_∨_))
def Gi(s:aC)(p:Int)(f:mT)(id v:Int):Int×Int×Int:=
 if(Aj s p:Int)≤id then(-4,0,0) else if f.m=0 then(0,0,0) else if f.m≤v then(-2,0,0) else if Ob s p (f.act v) id.toNat then(-2,0,0) else(0,f.act v,id)
def fE(s:aC)(l:List Int):Int×Int×Int:=
 match l with
 | []=>(-10,0,0)
 | w::r=>
  if Cj w≠0∨Pq w≠0 then(-10,0,0)
  else if(uA (dW w) (eI w)).isSome=false then(-1,0,0)
  else if(r.length:Int)≠(eF (dW w) (eI w)).n then(-10,0,0)
  else if(eF (dW w) (eI w)).n=0 then(0,0,0)
  else Gi s (dW w) (eF (dW w) (eI w)) (r.getD 0 0) (r.getD ((eF (dW w) (eI w)).n.toNat - 1) 0)
def aDw(a:Int×Int×Int):Value:=.tuple #[.int .i32 a.1,.agg #[.int .u8 a.2.1,iv a.2.2]]
def nB(l:List Int):Prop:=∀x∈l,0≤x∧x < 4294967296
theorem aI.u32{w:World}{A:Option Addr}{n:Nat}{l:List Int}(h:aI (all w) 1 A n (dV l))(hn:0 < n):∃b off,A=some ⟨b,off,none⟩∧∀(i:Nat) (x:Int),l[i]? =some x→fK w b (off+i) (.int .u32 x):=by
 obtain⟨b,off,hA,hb,hc⟩:=h.2 hn;refine⟨b,off,hA,fun i x hx=>⟨hb,hc i _ ?_⟩⟩;simp only[dV,List.getElem?_map,hx,Option.map_some]
section
variable{P:Program}{N:mT}{w0:World}{e:Env}{R:List Piece}{H:List HP}
theorem aRx{nn:Nat}{fn:Func}{Post:Ending→World→Prop}{t u n b:Nat}{s:TypeId}{vs:List Value}{v':Value}(hr:fn.results=#[.tmp u,.cell t s])(hs:Co P s n=true)(hn:vs.length=n)(ht:e.get t=some (pt b))(hrd:aM w0 R H b 0 vs)(hu:e.get u=some v')(h:∀w,St w0 R H w→Post (.returned (.tuple #[v',.agg vs.toArray])) w):XK ⟨nn,[]⟩ w0 (bodyPost P fn Post .ret) e R H:=fun a w cS st=>by
 have hl:=Te (P:=P) hs hn (hrd w st)
 refine bodyPost_ret (v:=.tuple #[v',.agg vs.toArray]) ?_ cS.defers (h w st)
 have ha:=cS.get t _ ht
 have hb:=cS.get u _ hu
 simp only[Instr.loadAt,Instr.sureAddr,Sem.run_bind,Sem.run_pure,Result.andThen_ok] at hl;simp only[results,hr];simp[ha,hb,asAddr,hl]
end
end
section
theorem aMh(s:aC)(A1 A2 A3 A4:Option Addr)(n1 k1 n2 k2 n3 k3 n4 k4:Nat)(p:Int){w0:World}(w:World)(hS:iD w0 s A1 n1 A2 n2 A3 n3 A4 n4):Cz 80 #[.agg #[.slice A1 n1 k1,.slice A2 n2 k2,.slice A3 n3 k3,.slice A4 n4 k4],iv p] w (Rt (iv (Aj s p)) w):=by
 obtain⟨h1,h2,h3,h4⟩:=And.intro hS.qT (And.intro hS.qS (And.intro hS.tQ hS.sE));subst h1 h2 h3 h4;exact aMg s A1 A2 A3 A4 k1 k2 k3 k4 p w
theorem nT{nn:Nat}{w:World}{e:Env}{R:List Piece}{H:List HP}{fn:Func}{t u n b:Nat}{s:TypeId}{vs:List Value}{v v':Value}(hv:v=.tuple #[v',.agg vs.toArray])(hr:fn.results=#[.tmp u,.cell t s]:=by rfl)(hs:Co Tryz.prog s n=true:=by kernel_rfl)(ht:e.get t=some (pt b):=by rfl)(hrd:aM w R H b 0 vs:=by first | exact aM.whole 0 rfl | exact aM.whole 1 rfl | exact aM.whole 2 rfl | exact aM.whole 3 rfl)(hn:vs.length=n:=by rfl)(hu:e.get u=some v':=by rfl)(hR:all w∈R:=by simp):XK ⟨nn,[]⟩ w (bodyPost Tryz.prog fn (Rt v w) .ret) e R H:=
 aRx hr hs hn ht hrd hu fun w9 st=>⟨by rw[hv],st.below hR⟩
theorem aLo(s:aC)(A1 A2 A3 A4:Option Addr)(n1 k1 n2 k2 n3 k3 n4 k4:Nat)(A:Option Addr)(n c:Nat)(l:List Int)(w:World)(hS:iD w s A1 n1 A2 n2 A3 n3 A4 n4)(hl:aI (all w) 1 A n (dV l))(hn:n=l.length)(hn2:n≤1000000)(hu:nB l):
  Cz 28 #[.agg #[.slice A1 n1 k1,.slice A2 n2 k2,.slice A3 n3 k3,.slice A4 n4 k4],.slice A n c] w (Rt (aDw (fE s l)) w):=by
 refine aO func28 ntmps28 ?_;refine aB ?_;refine bO fun g1=>?_;refine aB ?_;refine bY fun g2=>?_;refine aB ?_;refine aG rfl (fun h=>?_) (fun h=>?_)
 ·obtain rfl:l=[]:=List.eq_nil_of_length_eq_zero (by omega);refine aB ?_
  (refine nT ?_;rfl)
 obtain⟨b,off,rfl,hcell⟩:=hl.u32 (by omega)
 obtain⟨w1,r,rfl⟩:∃x r,l=x::r:=by
  cases l with
  | nil=>exact absurd (by simpa using hn) (show ¬n=0 by omega)
  | cons x r=>exact⟨x,r,rfl⟩
 have hw1:=hcell 0 w1 rfl
 have hlen:n=r.length+1:=by simpa using hn
 refine aB ?_;refine aS (v:=.tuple #[.agg #[iv (eI w1),iv (Pq w1),iv (dW w1),iv (aAs w1)],iv (Cj w1)]) (fun w2 st=>(aE9 w1 w2).mono fun x w3 hx=>aDQ hx (by rw[aJB];rfl)) ?_;refine aB ?_;refine bY fun g3=>?_;refine aB ?_;refine cG (t:=26) rfl (fun hg=>?_) (fun hg=>?_)
 ·refine aB ?_
  (refine nT ?_;rw[fE,if_pos (.inl hg)];rfl)
 refine aB ?_;refine aG rfl (fun h4=>?_) (fun h5=>?_)
 ·refine aB ?_
  (refine nT ?_;rw[fE,if_pos (.inr h4)];rfl)
 have h4:¬(Cj w1≠0∨Pq w1≠0):=fun hh=>hh.elim hg h5
 refine nS ?_;refine eK ?_;refine Gr (α:=Nat) (fun g4=>[(9,.bool (uA (dW w1) (eI w1)).isSome),(8,pt g4),(7,iv (Cj w1)),(6,pt g3),(5,pt g2),(2,pt g1),(1,.slice (some ⟨b,off,none⟩) n c)]) (fun g4=>[HP.aE g4 159 [iv (eF (dW w1) (eI w1)).n,iv (eF (dW w1) (eI w1)).m,.int .u8 (eF (dW w1) (eI w1)).a,.int .u8 (eF (dW w1) (eI w1)).b,.int .u8 (eF (dW w1) (eI w1)).c],HP.aE g3 83 [iv (eI w1),iv (Pq w1),iv (dW w1),iv (aAs w1)],HP.aE g2 50 [.int .u8 0,iv 0],HP.aE g1 30 [.slice A1 n1 k1,.slice A2 n2 k2,.slice A3 n3 k3,.slice A4 n4 k4]]) (fun _=>True) ?_ fun g4 _=>?_
 ·skip
  refine qI 12 (by kernel_rfl) (by kernel_rfl) ?_;refine fX 1 rfl rfl rfl (Dt (off:=2) (by kernel_rfl) rfl) ?_;refine fX 2 rfl rfl rfl (Jc rfl) ?_;refine fX 3 rfl rfl rfl (Dt (off:=0) (by kernel_rfl) rfl) ?_;refine fX 4 rfl rfl rfl (Jc rfl) ?_;refine fX 5 rfl rfl rfl (kR (zs:=[iv 0,iv 0]) (L:=[(0,1),(1,1)]) (gX (by kernel_rfl)) (by kernel_rfl) rfl (by simp[eZ,gB,Value.cells];rfl)) ?_;refine Jq 0 10 rfl rfl (by kernel_rfl) ?_ ?_
  ·refine eM aDY (fun w2 _=>aGB w2) ?_;rintro _ _ q1 ⟨gm,sub,rfl,hsub,rfl⟩ _;simp only[List.cons_append,List.nil_append];refine gT ?_;refine gO ?_;refine kM (fun _ h=>h.bE.tail) ?_;refine Jq 6 10 rfl rfl (by kernel_rfl) ?_ ?_
   ·refine aBo (v:=.agg #[iv (eF (dW w1) (eI w1)).n,iv (eF (dW w1) (eI w1)).m,.int .u8 (eF (dW w1) (eI w1)).a,.int .u8 (eF (dW w1) (eI w1)).b,.int .u8 (eF (dW w1) (eI w1)).c]) (et:=159) (l:=sub.reverse.map yQ) Tryz.underlying161 Zr (z:=qE 0 0 0 0 0) (by kernel_rfl) rfl (k:=(dW w1,eI w1)) rfl (fun w2 st=>st.tP (i:=0) rfl) (Pu hsub _ _).1 (Pu hsub _ _).2 (by decide) ?_;refine gT ?_;refine gO ?_;refine kM (fun _ h=>h.bE.tail) ?_;refine fH 7 rfl rfl rfl (by decide) (lP rfl) (by kernel_rfl) (fun _ _ _ h=>h) (fun _ h=>h.bE.tail) ?_;refine fH 8 rfl rfl rfl (by decide) (Bo rfl rfl) (by kernel_rfl) (fun _ _ _ h=>h) (fun _ h=>h.bE.tail) ?_;refine fH 9 rfl rfl rfl (by decide) (Bo rfl rfl) (by kernel_rfl) (fun _ _ _ h=>h) (fun _ h=>h.bE.tail) ?_;refine cK 10 ?_;refine bY fun g4=>?_;refine gT ?_;refine gO ?_;refine kM (fun _ h=>h.bE.tail.tail) ?_;refine cK 11 ?_;refine rN rfl rfl ?_;simp only[fR,Value.cells,List.set,List.take,List.drop,List.nil_append,List.append_nil,List.length_cons,List.length_nil,List.cons_append,Nat.reduceAdd];refine gT ?_;refine gO ?_;refine kM (fun _ h=>h.bE.tail.tail) ?_;refine cK 12 ?_;refine jL rfl (by decide) ?_;refine eS ?_;refine kL ?_;refine eK ?_;exact dJ g4
   ·refine bY fun g4=>?_;refine gT ?_;refine gO ?_;refine kM (fun _ h=>h.bE.tail.tail) ?_;refine cK 6 ?_;refine aBo (v:=.agg #[iv (eF (dW w1) (eI w1)).n,iv (eF (dW w1) (eI w1)).m,.int .u8 (eF (dW w1) (eI w1)).a,.int .u8 (eF (dW w1) (eI w1)).b,.int .u8 (eF (dW w1) (eI w1)).c]) (et:=159) (l:=sub.reverse.map yQ) Tryz.underlying161 Zr (z:=qE 0 0 0 0 0) (by kernel_rfl) rfl (k:=(dW w1,eI w1)) rfl (fun w2 st=>st.tP (i:=1) rfl) (Pu hsub _ _).1 (Pu hsub _ _).2 (by decide) ?_;refine gT ?_;refine gO ?_;refine kM (fun _ h=>h.bE.tail.tail) ?_;refine fH 7 rfl rfl rfl (by decide) (lP rfl) (by kernel_rfl) (fun _ _ _ h=>h) (fun _ h=>h.bE.tail.tail) ?_;refine fH 8 rfl rfl rfl (by decide) (Bo rfl rfl) (by kernel_rfl) (fun _ _ _ h=>h) (fun _ h=>h.bE.tail.tail) ?_;refine fH 9 rfl rfl rfl (by decide) (Bo rfl rfl) (by kernel_rfl) (fun _ _ _ h=>h) (fun _ h=>h.bE.tail.tail) ?_;refine cK 11 ?_;refine rN rfl rfl ?_;simp only[fR,Value.cells,List.set,List.take,List.drop,List.nil_append,List.append_nil,List.length_cons,List.length_nil,List.cons_append,Nat.reduceAdd];refine gT ?_;refine gO ?_;refine kM (fun _ h=>h.bE.tail.tail) ?_;refine cK 12 ?_;refine jL rfl (by decide) ?_;refine eS ?_;refine kL ?_;refine eK ?_;exact dJ g4
  ·refine bY fun g4=>?_;refine gT ?_;refine gO ?_;refine kM (fun _ h=>h.tail) ?_;refine cK 0 ?_;refine eM aDY (fun w2 _=>aGB w2) ?_;rintro _ _ q1 ⟨gm,sub,rfl,hsub,rfl⟩ _;simp only[List.cons_append,List.nil_append];refine gT ?_;refine gO ?_;refine kM (fun _ h=>h.bE.tail.tail) ?_;refine cK 6 ?_;refine aBo (v:=.agg #[iv (eF (dW w1) (eI w1)).n,iv (eF (dW w1) (eI w1)).m,.int .u8 (eF (dW w1) (eI w1)).a,.int .u8 (eF (dW w1) (eI w1)).b,.int .u8 (eF (dW w1) (eI w1)).c]) (et:=159) (l:=sub.reverse.map yQ) Tryz.underlying161 Zr (z:=qE 0 0 0 0 0) (by kernel_rfl) rfl (k:=(dW w1,eI w1)) rfl (fun w2 st=>st.tP (i:=0) rfl) (Pu hsub _ _).1 (Pu hsub _ _).2 (by decide) ?_;refine gT ?_;refine gO ?_;refine kM (fun _ h=>h.bE.tail.tail) ?_;refine fH 7 rfl rfl rfl (by decide) (lP rfl) (by kernel_rfl) (fun _ _ _ h=>h) (fun _ h=>h.bE.tail.tail) ?_;refine fH 8 rfl rfl rfl (by decide) (Bo rfl rfl) (by kernel_rfl) (fun _ _ _ h=>h) (fun _ h=>h.bE.tail.tail) ?_;refine fH 9 rfl rfl rfl (by decide) (Bo rfl rfl) (by kernel_rfl) (fun _ _ _ h=>h) (fun _ h=>h.bE.tail.tail) ?_;refine cK 11 ?_;refine rN rfl rfl ?_;simp only[fR,Value.cells,List.set,List.take,List.drop,List.nil_append,List.append_nil,List.length_cons,List.length_nil,List.cons_append,Nat.reduceAdd];refine gT ?_;refine gO ?_;refine kM (fun _ h=>h.bE.tail.tail) ?_;refine cK 12 ?_;refine jL rfl (by decide) ?_;refine eS ?_;refine kL ?_;refine eK ?_;exact dJ g4
 obtain⟨sK,Ir,hF3,hF4,hF5⟩:=aG9 (dW w1) (eI w1);refine aB ?_;cases h7:(uA (dW w1) (eI w1)).isSome
 ·refine aB ?_
  (refine nT ?_;rw[fE,if_neg h4,if_pos h7];rfl)
 have h7':¬(uA (dW w1) (eI w1)).isSome=false:=by rw[h7];simp
 refine aB ?_;refine aG rfl (fun h9=>?_) (fun h9=>?_)
 ·refine aB ?_
  (refine nT ?_;rw[fE,if_neg h4,if_neg h7',if_pos (by omega)];rfl)
 have h9':¬(r.length:Int)≠(eF (dW w1) (eI w1)).n:=by omega
 refine aB ?_;refine aG rfl (fun h11=>?_) (fun h11=>?_)
 ·refine aB ?_
  (refine nT ?_;rw[fE,if_neg h4,if_neg h7',if_neg h9',if_pos h11];rfl)
 obtain⟨id,hid⟩:∃x,r[0]? =some x:=⟨r[0]'(by omega),List.getElem?_eq_getElem _⟩
 obtain⟨v,hv⟩:∃x,r[(eF (dW w1) (eI w1)).n.toNat - 1]? =some x:=⟨r[(eF (dW w1) (eI w1)).n.toNat - 1]'(by omega),List.getElem?_eq_getElem _⟩
 have aNx:r.getD 0 0=id:=by rw[List.getD_eq_getElem?_getD,hid];rfl
 have hv':r.getD ((eF (dW w1) (eI w1)).n.toNat - 1) 0=v:=by rw[List.getD_eq_getElem?_getD,hv];rfl
 have aS7:=hu id (List.mem_cons_of_mem _ (List.mem_of_getElem? hid))
 have Vo:=hu v (List.mem_cons_of_mem _ (List.mem_of_getElem? hv))
 have aS6:=hcell 1 id (by simpa using hid)
 have Vm:=hcell (eF (dW w1) (eI w1)).n.toNat v (by
  obtain⟨t,ht⟩:∃t,(eF (dW w1) (eI w1)).n.toNat=t+1:=⟨(eF (dW w1) (eI w1)).n.toNat - 1,by omega⟩
  rw[ht] at hv⊢;simpa using hv)
 have hread:fE s (w1::r)=Gi s (dW w1) (eF (dW w1) (eI w1)) id v:=by rw[fE,if_neg h4,if_neg h7',if_neg h9',if_neg h11,aNx,hv']
 refine aB ?_;refine aS (fun w2 st=>aMh s A1 A2 A3 A4 n1 k1 n2 k2 n3 k3 n4 k4 (dW w1) w2 hS) ?_;refine aB ?_;refine aG rfl (fun yP=>?_) (fun yP=>?_)
 ·refine aB ?_
  (refine nT ?_;rw[hread,Gi,if_pos yP];rfl)
 refine aB ?_;refine aG rfl (fun vD=>?_) (fun vD=>?_)
 ·refine aB ?_
  (refine nT ?_;rw[hread,Gi,if_neg yP,if_pos vD];rfl)
 refine aB ?_;refine aG rfl (fun Vs=>?_) (fun Vs=>?_)
 ·refine aB ?_
  (refine nT ?_;rw[hread,Gi,if_neg yP,if_neg vD,if_pos Vs];rfl)
 have hact:([iv (eF (dW w1) (eI w1)).n,iv (eF (dW w1) (eI w1)).m,.int .u8 (eF (dW w1) (eI w1)).a,.int .u8 (eF (dW w1) (eI w1)).b,.int .u8 (eF (dW w1) (eI w1)).c]:List Value)[2+v.toNat]? =some (.int .u8 ((eF (dW w1) (eI w1)).act v)):=by
  unfold mT.act;rcases(by omega:v=0∨v=1∨v=2) with rfl | rfl | rfl<;>rfl
 have aNq:=hF4 v Vo.1 (by omega)
 generalize hk:(eF (dW w1) (eI w1)).act v=k at *;refine aB ?_;refine kd (bH rfl (Rd.aE 0 rfl hact)) ?_;refine aB ?_;refine bY fun g5=>?_;refine lO 0 rfl ?_;dsimp only[List.set];refine fB ?_;refine Gr (α:=Unit) (fun _=>[(12,pt g5),(5,pt g2)]) (fun _=>[HP.aE g5 50 [.int .u8 k,iv id],HP.aE g2 50 [.int .u8 0,iv 0]]) (fun _=>¬Ob s (dW w1) k id.toNat) ?_ fun _ nH=>?_
 ·refine aB ?_;refine cG (t:=91) rfl (fun hg=>?_) (fun hg=>?_)
  ·have hp:=aNq hg
   obtain⟨dm,sJ⟩:∃d,s.domains[id.toNat]? =some d:=⟨s.domains[id.toNat]'(by rw[hp] at yP;simp only[Aj,if_true] at yP;omega),List.getElem?_eq_getElem _⟩
   obtain⟨bD,oD,rD,rfl,_,rfl,hRD⟩:=hS.dom.row sJ
   have aAj:Ti s id.toNat=dm.ret:=by rw[Ti,sJ];rfl
   have hlD:=hS.qS
   have aSy:=(List.getElem?_eq_some_iff.1 sJ).1
   have Lr:=hRD.at_ (j:=2) rfl
   cases hr:dm.ret
   all_goals
    rw[hr] at Lr aAj;refine aB ?_
   ·(refine nT ?_;rw[hread,Gi,if_neg yP,if_neg vD,if_neg Vs,hk,if_pos (.inl ⟨hg,aAj⟩)];rfl)
   ·refine cG (t:=104) rfl (fun wY=>by omega) (fun wY=>?_);refine aB ?_;exact dJ () (hg:=fun h=>by simp_all [Ob])
  ·refine aB ?_;refine cG (t:=104) rfl (fun hp=>?_) (fun hp=>?_)
   ·obtain⟨ck,Bc⟩:∃d,s.aF[id.toNat]? =some d:=⟨s.aF[id.toNat]'(by rw[hp] at yP;simp only[Aj,if_true] at yP;simp at yP;omega),List.getElem?_eq_getElem _⟩
    obtain⟨bC,oC,rC,rfl,_,⟨cA,cn,aSC,rfl,_⟩,hC⟩:=hS.uE.row Bc
    have aNv:kindOf s id.toNat=ck.kind:=by rw[kindOf,Bc];rfl
    have hlC:=hS.qT
    have aSz:=(List.getElem?_eq_some_iff.1 Bc).1
    refine aB ?_;refine aS (fun w2 st=>aJQ ck.kind _ _ _ _ _ _ _ w2) ?_
    by_cases wR:ck.kind=112∨ck.kind=103
    ·rw[decide_eq_true wR];refine aB ?_;exact dJ () (hg:=fun h=>by simp_all [Ob,Ys])
    ·rw[decide_eq_false wR];refine aB ?_
     (refine nT ?_;rw[hread,Gi,if_neg yP,if_neg vD,if_neg Vs,hk,if_pos (.inr ⟨hp,fun hc=>wR (by rw[←aNv];exact hc)⟩)];rfl)
   ·refine aB ?_;exact dJ () (hg:=fun h=>by simp_all [Ob])
 refine aB ?_;refine Xm [2] ?_;refine aB ?_
 (refine nT ?_;rw[hread,Gi,if_neg yP,if_neg vD,if_neg Vs,hk,if_neg nH];rfl)
end
section
def Gz(l:List Nat)(v:Value)(w w':World):Prop:=∃A c,v=.slice A l.length c∧aI (fresh w w') 1 A l.length (aN (dR l))
theorem aMm{l:List Nat}{k i:Nat}(h:l[k]? =some i):(aN (dR l))[k]? =some (iv (i:Int)):=by simp[aN,dR,h]
theorem aA7(q : Piece)(s : aC)(A1 A2 A3 A4 : Option Addr)(n1 k1 n2 k2 n3 k3 n4 k4 : Nat)(c : Nat)(w : World)(nA : qK q s A1 n1 A2 n2 A3 n3 A4 n4)(hm : s.wN)(hq : q.Le (all w))(hc : c < s.aF.length) :
    Cz 84 #[.agg #[.slice A1 n1 k1,.slice A2 n2 k2,.slice A3 n3 k3,.slice A4 n4 k4],iv (c:Int)] w (Rp (Gz (mE s c)) w):=by
  obtain⟨rfl,rfl,rfl,rfl⟩:=nA.len;refine aO func84 ntmps84 ?_;refine yZ q (by simp) hq ?_;refine aB ?_;refine bO fun g1=>?_;refine aB ?_;refine lI 3 1 ?_;refine bN [(1,iv (c:Int)),(5,sn),(2,pt g1)] ?_;refine aB ?_;refine eV (fun m e R H=>∃(cur:Nat) (l:List Nat) (A:Option Addr) (k:Nat),cur < s.aF.length∧l.length≤s.aF.length∧m=s.aF.length - l.length∧mE s c=l++sN s (s.aF.length - l.length) cur∧e=[(1,iv (cur:Int)),(5,.slice A l.length k),(2,pt g1)]∧R=[q,all w]∧H=[HP.own 3 1 (.slice A l.length k) l.length (aN (dR l)),HP.aE g1 30 [.slice A1 s.aF.length k1,.slice A2 s.domains.length k2,.slice A3 s.aY.length k3,.slice A4 s.aD.length k4]]) s.aF.length ⟨c,[],none,0,hc,by simp,rfl,rfl,rfl,rfl,rfl⟩ fun m e R H hI=>?_;obtain⟨cur,l,A,k,aNI,nO,rfl,oP,rfl,rfl,rfl⟩:=hI;refine dX ?_;refine aDA 22 (l.length < s.aF.length) ?_ ?_
  · skip
    refine fT ?_;refine dP rfl (by decide) ?_;refine aJd rfl rfl (by decide) ?_;refine dP rfl (by decide) ?_;refine cG (t:=8) rfl (fun hg=>?_) (fun hg=>?_)
    ·
      refine jB rfl rfl ?_;refine dP rfl (by decide) ?_;refine jB rfl rfl ?_;refine xX (off:=0) (by kernel_rfl) rfl (by decide) ?_;refine jB rfl rfl ?_;refine Nh rfl ?_;refine jB rfl rfl ?_;refine Jz (el:=86) (by kernel_rfl) rfl (by decide) ?_;refine jB rfl rfl ?_;refine Yi rfl rfl (by decide) ?_
      (first | refine rP rfl rfl (by decide) ?_ | refine rQ rfl rfl (by decide) ?_)
      refine dP rfl (by decide) ?_;refine cG (t:=15) rfl (fun hg=>?_) (fun hg=>?_)
      ·
        refine jB rfl rfl ?_;refine dP rfl (by decide) ?_;refine jB rfl rfl ?_;refine Jz (el:=3) (by kernel_rfl) rfl (by decide) ?_;refine jB rfl rfl ?_;refine xX (off:=0) (by kernel_rfl) rfl (by decide) ?_;refine jB rfl rfl ?_;refine Nh rfl ?_;refine jB rfl rfl ?_;refine Jz (el:=86) (by kernel_rfl) rfl (by decide) ?_;refine jB rfl rfl ?_;refine Yi rfl rfl (by decide) ?_
        (first | refine rP rfl rfl (by decide) ?_ | refine rQ rfl rfl (by decide) ?_)
        refine fB ?_;exact aAT (by repeat (first | exact trivial | refine⟨rfl,?_⟩)) (aAt rfl (by omega))
      ·
        refine jK rfl rfl rfl (by decide) ?_;refine jK rfl rfl rfl (by decide) ?_;refine jK rfl rfl rfl (by decide) ?_;refine jK rfl rfl rfl (by decide) ?_;refine jK rfl rfl rfl (by decide) ?_;refine jK rfl rfl rfl (by decide) ?_
        (first | refine rP rfl rfl (by decide) ?_ | refine rQ rfl rfl (by decide) ?_)
        refine fB ?_;exact aAT (by repeat (first | exact trivial | refine⟨rfl,?_⟩)) (aCN rfl (by omega))
    ·
      refine jK rfl rfl rfl (by decide) ?_;refine jK rfl rfl rfl (by decide) ?_;refine jK rfl rfl rfl (by decide) ?_;refine jK rfl rfl rfl (by decide) ?_;refine jK rfl rfl rfl (by decide) ?_
      (first | refine rP rfl rfl (by decide) ?_ | refine rQ rfl rfl (by decide) ?_)
      refine dP rfl (by decide) ?_;refine jK rfl rfl rfl (by decide) ?_;refine jK rfl rfl rfl (by decide) ?_;refine jK rfl rfl rfl (by decide) ?_;refine jK rfl rfl rfl (by decide) ?_;refine jK rfl rfl rfl (by decide) ?_;refine jK rfl rfl rfl (by decide) ?_
      (first | refine rP rfl rfl (by decide) ?_ | refine rQ rfl rfl (by decide) ?_)
      refine fB ?_;exact aAT (by repeat (first | exact trivial | refine⟨rfl,?_⟩)) (aCN rfl (by omega))
  refine aG rfl (fun h=>?_) (fun h=>?_)
  ·
    refine aB ?_
    have hlt:l.length < s.aF.length:=h
    obtain⟨x,hx⟩:∃x,s.aF[cur]? =some x:=⟨_,List.getElem?_eq_getElem aNI⟩
    obtain⟨k0,hk0⟩:∃k0,s.aF.length - l.length=k0+1:=⟨s.aF.length - l.length - 1,by omega⟩
    rw[hk0,aQs hx] at oP
    have hn9:=hm.nc
    have hfit:=(hm.aF cur x hx).1
    refine aB ?_;refine eH fun g2=>?_;refine gY 1 1 8 1 (n':=l.length+1) (el:=3) (by kernel_rfl) (by kernel_rfl) (by decide) rfl rfl rfl (lV 0 rfl rfl) (by simp[Value.oneCell']) rfl (by omega) (by omega) (by decide) fun A' k'=>?_;dsimp only[List.set];rw[show aN (dR l)++[Value.int .i64 (cur:Int)]=aN (dR (l++[cur])) by simp[aN,dR]];refine aT [1,2] rfl (by decide) (R':=[q,all w]) (by simp) ?_;refine jL rfl (by decide) ?_;refine fB ?_;refine dX ?_;refine dX ?_;obtain⟨bC,oC,rC,rfl,hzC,_,hR,hcC⟩:=nA.uE.uT hx;obtain⟨As,ns,ks,rfl,rfl,Uj⟩:=hR;refine fT ?_;refine xX (off:=0) (by kernel_rfl) rfl (by decide) ?_;refine Nh rfl ?_;refine dP rfl (by decide) ?_;refine kd (dat (cur) (oC+cur*6)) ?_;refine xX (off:=1) (by kernel_rfl) rfl (by decide) ?_;refine kX (by kernel_rfl) rfl (Rd.ro (p:=q) (by simp) hzC (hcC 1 _ rfl)) (by decide) ?_;refine Jz (el:=3) (by kernel_rfl) rfl (by decide) ?_;refine aEt rfl rfl (by decide) ?_;refine fB ?_;refine aG rfl (fun h0=>?_) (fun h0=>?_)
    ·
      refine aB ?_
      have hs0:x.src=[]:=List.eq_nil_of_length_eq_zero (by have:((x.src.length:Nat):Int)=0:=h0;omega)
      rw[hs0] at oP
      have vB:(l++[cur])=mE s c:=oP.symm
      refine dG [] [0] [] (by simp) rfl (by decide) (by decide) fun qf Uq _ hfr=>?_;obtain⟨Ff,sf,zf⟩:=Uq 0 _ (by simp) rfl;obtain⟨Av,cv,hv,tS⟩:=zG (Y:=qf.Z) sf zf
      exact mF rfl rfl fun w1 st=>⟨⟨_,rfl,by
        rw[←vB];unfold Gz;rw[hv]
        exact⟨Av,cv,by simp,by simpa using aI.le tS (st.mQ (by simp) (hfr (by simp) (by simp)))⟩⟩,st.below (by simp)⟩
    ·
      refine nS ?_;refine eK ?_
      obtain⟨f,fs,hs0⟩:∃f fs,x.src=f::fs:=by
        cases hs0:x.src with
        | nil=>exact absurd (by rw[hs0];rfl) h0
        | cons f fs=>exact⟨f,fs,rfl⟩
      have hf:=hfit f (by rw[hs0];simp)
      obtain⟨f',rfl⟩:∃f':Nat,f=(f':Int):=⟨f.toNat,by omega⟩
      rw[hs0] at oP;obtain⟨bS,oS,rfl,hzS,hcS⟩:=Uj.2 (by rw[hs0];simp);refine fT ?_;refine xX (off:=0) (by kernel_rfl) rfl (by decide) ?_;refine Nh rfl ?_;refine dP rfl (by decide) ?_;refine kd (dat (cur) (oC+cur*6)) ?_;refine xX (off:=1) (by kernel_rfl) rfl (by decide) ?_;refine kX (by kernel_rfl) rfl (Rd.ro (p:=q) (by simp) hzC (hcC 1 _ rfl)) (by decide) ?_;refine aJg 0 oS (el:=3) (sz:=1) (by kernel_rfl) (by kernel_rfl) rfl rfl rfl (by rw[hs0];simp) (by omega) (by decide) ?_;refine kX (by kernel_rfl) rfl (Rd.ro (p:=q) (by simp) hzS (hcS 0 _ (by rw[hs0];rfl))) (by decide) ?_;refine aB ?_;exact bN [(1,iv (f':Int)),(5,.slice A' (l.length+1) k'),(2,pt g1)] (gP (s.aF.length - (l.length+1)) (by omega) ⟨f',l++[cur],A',k',by omega,by simp;omega,by simp,by rw[oP];simp[show s.aF.length - (l.length+1)=k0 by omega],by simp,rfl,by simp⟩)
  ·
    refine aB ?_
    have hge:¬l.length < s.aF.length:=h
    rw[show s.aF.length - l.length=0 by omega] at oP
    have vB:l=mE s c:=by rw[oP];simp[sN]
    refine dG [] [0] [] (by simp) rfl (by decide) (by decide) fun qf Uq _ hfr=>?_;obtain⟨Ff,sf,zf⟩:=Uq 0 _ (by simp) rfl;obtain⟨Av,cv,hv,tS⟩:=zG (Y:=qf.Z) sf zf
    exact mF rfl rfl fun w1 st=>⟨⟨_,rfl,by
      rw[←vB];unfold Gz;rw[hv]
      exact⟨Av,cv,rfl,aI.le tS (st.mQ (by simp) (hfr (by simp) (by simp)))⟩⟩,st.below (by simp)⟩
 in
end
section
def Kx(l:List Int)(x:Int):Int:=if x∈l then(l.idxOf x:Int) else -1
theorem aNd{l:List Int}{x:Int}{i:Nat}(hno:∀j y,j < i→l[j]? =some y→y≠x)(h:l[i]? =some x):Kx l x=i:=by
 have hm:x∈l:=List.mem_of_getElem? h
 rw[Kx,if_pos hm]
 have h2:l.idxOf x=i:=by
  induction l generalizing i with
  | nil=>simp at h
  | cons a r ih =>
   cases i with
   | zero=>simp at h;subst h;simp
   | succ i=>
    have ha:a≠x:=hno 0 a (by omega) rfl
    simp at h
    have hmr:x∈r:=List.mem_of_getElem? h
    have hi:=ih (fun j y hj hy=>hno (j+1) y (by omega) (by simpa using hy)) h hmr
    have hb:(a==x)=false:=by simpa using ha
    rw[List.idxOf_cons,hb];simp[hi]
 rw[h2]
theorem aNb{l:List Int}{x:Int}(hno:∀(j:Nat) (y:Int),l[j]? =some y→y≠x):Kx l x= -1:=by
 rw[Kx,if_neg];intro hm;obtain⟨j,hj⟩:=List.getElem?_of_mem hm;exact hno j x hj rfl
theorem aNc(l:List Int)(x:Int):decide (0≤Kx l x)=decide (x∈l):=by
 unfold Kx
 by_cases h:x∈l<;>simp[h]
def yV(s:aC)(c id:Int):Bool:=decide (id∈dR (mE s c.toNat))
def Ap(s:aC)(k id:Int)(d:cH):Bool:=
 if k=100∨k=107 then decide (d.domain=id) else if k=111 then yV s d.clock id else if k=97 then decide (d.reset=id) else false
def Gg(s:aC)(wt:List Int)(k id:Int)(i:Nat):Bool:=decide (0 < (wt[i]?).getD 0)&&((s.aD[i]?).any fun d=>Ap s k id d)
def Mj(s:aC)(wt:List Int)(k id:Int):Bool:=(List.range s.aD.length).any (Gg s wt k id)
theorem aAA{s:aC}{wt:List Int}{k id:Int}{i:Nat}(hi:i < s.aD.length)(h:Gg s wt k id i=true):Mj s wt k id=true:=by
 rw[Mj,List.any_eq_true];exact⟨i,List.mem_range.2 hi,h⟩
theorem aQ2{s:aC}{wt:List Int}{k id:Int}(h:∀i,i < s.aD.length→Gg s wt k id i=false):Mj s wt k id=false:=by
 rw[Mj,List.any_eq_false];intro i hi;simp[h i (List.mem_range.1 hi)]
def Fo(s:aC)(x y:dZ)(k id:Int)(i:Nat):Bool:=
 if k=100∨k=107 then((s.domains[i]?).any fun d=>decide (d.above=id))&&tI x y k i
 else decide ((i:Int)≠id)&&(tI x y k i&&yV s i id)
def Iq(s:aC)(k:Int):Nat:=if k=100∨k=107 then s.domains.length else if k=111 then s.aF.length else 0
def Po(s:aC)(x y:dZ)(k id:Int):Bool:=(List.range (Iq s k)).any (Fo s x y k id)
theorem aG4{s:aC}{x y:dZ}{k id:Int}{i:Nat}(hi:i < Iq s k)(h:Fo s x y k id i=true):Po s x y k id=true:=by
 rw[Po,List.any_eq_true];exact⟨i,List.mem_range.2 hi,h⟩
theorem aCE{s:aC}{x y:dZ}{k id:Int}(h:∀i,i < Iq s k→Fo s x y k id i=false):Po s x y k id=false:=by
 rw[Po,List.any_eq_false];intro i hi;simp[h i (List.mem_range.1 hi)]
def Qm(s:aC)(x y:dZ)(ag:Nat)(k id:Int):Bool:=tJ (if ag=0 then y else x) k id||Po s x y k id
def nZ(s:aC)(x y:dZ)(wt:List Int)(ag:Nat)(l:List Int):Int×Int×Int:=
 if(fE s l).1≠0∨(fE s l).2.1=0∨tJ (if ag=0 then x else y) (fE s l).2.1 (fE s l).2.2=decide (qR (fE s l).2.1) then((fE s l).1,0,0)
 else if qR (fE s l).2.1 then
  (if(fE s l).2.1=117∧(s.domains[(fE s l).2.2.toNat]?).any (fun d=>decide (d.above≠ -1)&& !tI x y 117 d.above)=true then(-3,0,0) else(0,(fE s l).2))
 else if Qm s x y ag (fE s l).2.1 (fE s l).2.2 then(-3,0,0)
 else if Mj s wt (fE s l).2.1 (fE s l).2.2 then(-6,0,0)
 else(0,(fE s l).2)
def Oq(k:Int):Int:=if k=117∨k=100∨k=107 then 17 else if k=99∨k=111 then 20 else 22
def Ud(k:Int):Prop:=k=117∨k=100∨k=107∨k=99∨k=111∨k=114∨k=97
theorem aOm(p m:Int)(v:Int)(h0:0≤v)(hv:v < (eF p m).m):Oq ((eF p m).act v)=p∧Ud ((eF p m).act v):=by
 have h1:∀f:mT,uA p m=some f→v < f.m→Oq (f.act v)=p∧Ud (f.act v):=by
  intro f hf hv;unfold uA at hf
  have hv3:f.m≤3:=by
   have:=(aG9 p m).2.2.1
   unfold eF uA at this;rw[hf] at this;exact this
  rcases(by omega:v=0∨v=1∨v=2) with rfl | rfl | rfl<;>
  ·repeat' split at hf
   all_goals first
    | (cases hf;done)
    | (cases hf;simp at hv;done)
    | (cases hf;simp_all [Oq,Ud,mT.act])
 unfold eF at hv⊢;cases h:uA p m with
 | none=>rw[h] at hv;simp at hv;omega
 | some f=>rw[h] at hv;exact h1 f h hv
theorem aFn{s : aC}{l : List Int}(hu : nB l) : ((fE s l).2.1 = 0 ∧ (fE s l).2.2 = 0) ∨ ((fE s l).1 = 0 ∧ Ud (fE s l).2.1 ∧ 0 ≤ (fE s l).2.2 ∧ (fE s l).2.2 < (Aj s (Oq (fE s l).2.1) : Int) ∧
  ((fE s l).2.1=107→Ti s (fE s l).2.2.toNat=true)∧(Oq (fE s l).2.1=20→Ys s (fE s l).2.2.toNat)):=by
 unfold fE;split
 ·exact .inl ⟨rfl,rfl⟩
 ·rename_i w r
  split
  ·exact .inl ⟨rfl,rfl⟩
  ·split
   ·exact .inl ⟨rfl,rfl⟩
   ·split
    ·exact .inl ⟨rfl,rfl⟩
    ·split
     ·exact .inl ⟨rfl,rfl⟩
     ·have hd : ∀ i, 0 ≤ r.getD i 0 := fun i => by
       rw[List.getD_eq_getElem?_getD];cases hi:r[i]? with
       | none=>exact Int.le_refl _
       | some x=>exact(hu x (List.mem_cons_of_mem _ (List.mem_of_getElem? hi))).1
      have hid:=hd 0
      have hv:=hd ((eF (dW w) (eI w)).n.toNat - 1)
      generalize r.getD 0 0=id at *;generalize r.getD ((eF (dW w) (eI w)).n.toNat - 1) 0=v at *;unfold Gi;split
      ·exact .inl ⟨rfl,rfl⟩
      ·split
       ·exact .inl ⟨rfl,rfl⟩
       ·split
        ·exact .inl ⟨rfl,rfl⟩
        ·split
         ·exact .inl ⟨rfl,rfl⟩
         ·rename_i h1 h2 h3 h4
          obtain⟨a1,a2⟩:=aOm (dW w) (eI w) v hv (by omega);refine .inr ⟨rfl,a2,hid,by dsimp only;rw[a1];omega,fun h5=>?_,fun h5=>?_⟩
          ·dsimp only at h5⊢;cases hr:Ti s id.toNat with
           | true=>rfl
           | false=>exact absurd (.inl ⟨h5,hr⟩) h4
          ·dsimp only at h5⊢;rw[a1] at h5;exact Decidable.byContradiction fun hs=>h4 (.inr ⟨h5,hs⟩)
theorem aI.int{w:World}{A:Option Addr}{n:Nat}{l:List Int}(h:aI (all w) 1 A n (aN l))(hn:0 < n):∃b off,A=some ⟨b,off,none⟩∧∀(i:Nat) (x:Int),l[i]? =some x→fK w b (off+i) (iv x):=by
 obtain⟨b,off,hA,hb,hc⟩:=h.2 hn;refine⟨b,off,hA,fun i x hx=>⟨hb,hc i _ ?_⟩⟩;simp only[aN,List.getElem?_map,hx,Option.map_some]
end
section
section
variable{N:cE}{w0:World}{e e':Env}{R R' R0:List Piece}{H H' H0:List HP}{fuel:Nat}{listed:Array Bool}{Q:Exit→Act→World→Prop}
def Ye(ops:Array Oper):List Nat:=(List.range ops.size).filter fun i=>match ops[i]? with
 | some o=>Zf o.op||(o.guard.isSome&&aEG o.op)
 | none=>false
theorem aIc{id:Nat}{l:List Oper}(k:XB Tryz.prog N w0 l.toArray Q R H (Ye l.toArray) fuel listed e' R' H')(hk:XB Tryz.prog N w0 l.toArray Q R H (Ye l.toArray) fuel listed e' R' H'→XL 0 N w0 l.toArray Q R H (Ye l.toArray) l.length (Array.replicate l.length false) e R H:=by
  intro h
  repeat (first | refine Xg ?_ | refine Xf ?_ | refine Xd ?_ | refine Xe ?_ | refine aAK ?_ | refine Xc ?_ | refine Xh ?_)
  exact h)(hm:Tryz.prog.follows .mixedOrders=true:=by kernel_rfl)(hs:Region.noSelect l.toArray=true:=by kernel_rfl):XK N w0 ((Code.region id l.toArray true).wp Tryz.prog Q) e R H:=iZ (Ye l.toArray) (hk k) hm hs
theorem aDH{ops:Array Oper}{Z:List Nat}{p:Prop}[Decidable p](t:Nat)(ht:e.get t=some (.bool (decide p)))(h1:p→XB Tryz.prog N w0 ops Q R0 H0 Z fuel listed ((t,.bool true)::e) R H)(h2:¬p→XB Tryz.prog N w0 ops Q R0 H0 Z fuel listed ((t,.bool false)::e) R H):XB Tryz.prog N w0 ops Q R0 H0 Z fuel listed e R H:=by
 intro up a w hr st
 by_cases hp:p
 ·rw[decide_eq_true hp] at ht;exact h1 hp up a w (hr.as ht) st
 ·rw[decide_eq_false hp] at ht;exact h2 hp up a w (hr.as ht) st
theorem Gv{ops:Array Oper}{Z:List Nat}{d j t:Nat}{op:Op}{ty:TypeId}{pos:String}{aH:Array Edge}{want b:Bool}(i:Nat)(k:XB Tryz.prog N w0 ops Q R0 H0 Z fuel (listed.setIfInBounds i true) ((d,undef)::e) R H)(hr:Region.ready .any ops listed=[i]:=by decide+kernel)(hi:ops[i]? =some ⟨some d,op,ty,pos,aH,some (j,want)⟩:=by rfl)(hj:(ops[j]?).bind (·.dst)=some t:=by rfl)(ht:e.get t=some (.bool b):=by rfl)(hb:b= !want:=by rfl)(hd:d < N.n:=by decide)(hS:∀w,St w0 R H w→St w0 R0 H0 w:=by exact fun _ h=>h):XB Tryz.prog N w0 ops Q R0 H0 Z (fuel+1) listed e R H:=
 aL i (jK hj ht hb hd (bB k hS)) hr hi
theorem aHY{P:Program}{c:Code}(E:Nat→Env)(n:Nat)(hr:∀i,i≤n→XK N w0 (c.wp P (Exit.then (LpK (α:=Unit) N w0 n (fun i _=>E i) R (fun _ _=>H) (fun _ _=>True) i) Q)) (E i) R H)(hE:(E 0).Sub e:=by repeat (first | exact trivial | refine⟨rfl,?_⟩))(hC:kU [] H H:=by exact Ro):XK N w0 ((Code.loop c).wp P Q) e R H:=
 oB (α:=Unit) (fun i _=>E i) (fun _ _=>H) (fun _ _=>True) n () trivial (fun i _ hi _=>hr i hi) hE hC
end
end
section
theorem aNa(A:Option Addr)(n c:Nat)(l:List Int)(x:Int)(w:World)(hs:aI (all w) 1 A n (aN l))(hn:n=l.length)(hn2:n≤1000000):
  Cz 130 #[.slice A n c,iv x] w (Rt (iv (Kx l x)) w):=by
 refine aO func130 ntmps130 ?_;refine aB ?_;refine bN [(8,iv 0),(7,iv n),(1,iv x),(0,.slice A n c)] ?_;refine aB ?_;refine eV (fun m e R H=>∃(i:Nat),i≤n∧m=n - i∧(∀(j:Nat) (y:Int),j < i→l[j]? =some y→y≠x)∧e=[(8,iv i),(7,iv n),(1,iv x),(0,.slice A n c)]∧R=[all w]∧H=[]) n ⟨0,by omega,rfl,(fun j y hj=>absurd hj (Nat.not_lt_zero j)),rfl,rfl,rfl⟩ fun m e R H hI=>?_;obtain⟨i,hi,rfl,hno,rfl,rfl,rfl⟩:=hI;refine aB ?_;refine aG rfl (fun h=>?_) (fun h=>?_)
 ·
  refine aB ?_
  have hil:i < n:=by have h':(i:Int) < (n:Int):=h;omega
  obtain⟨y,hy⟩:∃y,l[i]? =some y:=⟨l[i]'(by omega),List.getElem?_eq_getElem _⟩
  obtain⟨b,off,rfl,hc⟩:=hs.int (by omega)
  have hcy:=hc i y hy
  refine aB ?_;refine aG rfl (fun h2=>?_) (fun h2=>?_)
  ·
   refine aB ?_;exact aP (h:=fun _ _=>by rw[aNd (i:=i) hno (h2▸hy)])
  ·
   refine aB ?_
   exact eR (n - (i+1)) ⟨i+1,by omega,rfl,(fun j y' hj hy'=>by
    rcases Nat.lt_or_ge j i with h1 | h1
    ·exact hno j y' h1 hy'
    ·have hji:j=i:=by omega
     subst hji;rw[hy] at hy';cases hy'
     exact fun h=>h2 h.symm),rfl,rfl,rfl⟩
 ·
  refine aB ?_
  have hin:i=n:=by have h':¬(i:Int) < (n:Int):=h;omega
  subst hin;exact aP (h:=fun _ _=>by rw[aNb (fun j y hy=>hno j y (by have:=(List.getElem?_eq_some_iff.1 hy).1;omega) hy)])
theorem aHq(A:Option Addr)(n c:Nat)(l:List Int)(x:Int)(w:World)(hs:aI (all w) 1 A n (aN l))(hn:n=l.length)(hn2:n≤1000000):
  Cz 83 #[.slice A n c,iv x] w (Rt (.bool (decide (x∈l))) w):=by
 refine aO func83 ntmps83 ?_;refine aB ?_;refine dF (fun w1 st=>aNa A n c l x w1 (hs.le (st.le (by simp))) hn hn2) ?_;refine aB ?_;exact aP (h:=fun _ _=>by rw[←aNc])
theorem aQ1(q:Piece)(s:aC)(A1 A2 A3 A4:Option Addr)(n1 k1 n2 k2 n3 k3 n4 k4:Nat)(Aw:Option Addr)(nw cw:Nat)(wt:List Int)(k id:Int)(w:World)(nA:qK q s A1 n1 A2 n2 A3 n3 A4 n4)(hm:s.wN)(hq:q.Le (all w))(hw:aI (all w) 1 Aw nw (aN wt))(hnw:nw=wt.length):
  Cz 33 #[.agg #[.slice A1 n1 k1,.slice A2 n2 k2,.slice A3 n3 k3,.slice A4 n4 k4],.slice Aw nw cw,.agg #[.int .u8 k,iv id]] w (Rt (.bool (Mj s wt k id)) w):=by
 obtain⟨rfl,rfl,rfl,rfl⟩:=nA.len;refine aO func33 ntmps33 ?_;refine yZ q (by simp) hq ?_;refine aB ?_;refine bO fun g1=>?_;refine aB ?_;refine bO fun g2=>?_;refine aB ?_;refine oF (α:=Unit) (fun _=>[]) (fun _=>[]) (fun _=>∀j,j < s.aD.length→Gg s wt k id j=false) ?_ fun _ hno=>?_
 ·refine oB (α:=Unit) (fun i _=>[(12,iv i),(11,iv s.aD.length),(10,.slice A4 s.aD.length k4),(5,pt g2),(3,pt g1),(1,.slice Aw nw cw)]) (fun _ _=>[HP.aE g2 50 [.int .u8 k,iv id],HP.aE g1 30 [.slice A1 s.aF.length k1,.slice A2 s.domains.length k2,.slice A3 s.aY.length k3,.slice A4 s.aD.length k4]]) (fun i _=>∀j,j < i→Gg s wt k id j=false) s.aD.length () (fun j hj=>absurd hj (Nat.not_lt_zero j)) fun i _ hi hno=>?_
  have Lm:Gg s wt k id i=false→∀j,j < i+1→Gg s wt k id j=false:=fun h j hj=>by
   rcases(by omega:j < i∨j=i) with hj | rfl
   ·exact hno j hj
   ·exact h
  have hnc:=hm.nc
  have hnd:=hm.nd
  have qW:=hm.nv
  refine aB ?_;refine aG rfl (fun h=>?_) (fun h=>?_)
  ·have hil:i < s.aD.length:=by omega
   obtain⟨d,hd⟩:=get_some hil;obtain⟨hx1,Ey,hx3,hx4,hx5,hx6,_⟩:=hm.aD i d hd;obtain⟨bV,oV,rV,rfl,hzV,_,hR,Vn⟩:=nA.dev.uT hd;obtain⟨Ar,nr,kr,An,nn,kn,rfl,_⟩:=hR;obtain⟨xc,hxc⟩:∃xc:Nat,d.clock=(xc:Int):=⟨d.clock.toNat,by omega⟩
   rw[hxc] at Vn
   have hk:=dQ.le hzV Vn hq
   have wX:Gg s wt k id i=(decide (0 < (wt[i]?).getD 0)&&Ap s k id d):=by rw[Gg,hd];rfl
   refine aB ?_;refine bY fun g3=>?_;refine aB ?_;refine cG (t:=21) rfl (fun h2=>?_) (fun h2=>?_)
   ·refine aB ?_;exact jV () (hg:=Lm (by rw[wX,List.getElem?_eq_none (by omega)];rfl))
   obtain⟨y,hy⟩:=get_some (l:=wt) (i:=i) (by omega);obtain⟨bW,oW,rfl,hcW⟩:=hw.int (by omega)
   have hcy:=hcW i y hy
   rw[hy] at wX;refine aB ?_;refine aG rfl (fun h3=>?_) (fun h3=>?_)
   ·refine aB ?_;exact jV () (hg:=Lm (by rw[wX,decide_eq_false (by simpa using h3)];rfl))
   rw[decide_eq_true (show 0 < (some y).getD 0 by simpa using h3)] at wX;refine aB ?_;refine cG (t:=30) rfl (fun hA=>?_) (fun hA=>?_)
   ·refine aB ?_;refine aG rfl (fun h4=>?_) (fun h4=>?_)
    ·refine aB ?_;exact dH (by rw[aAA hil (by rw[wX];unfold Ap yV;simp_all)])
    ·refine aB ?_;exact jV () (hg:=Lm (by rw[wX];unfold Ap yV;simp_all))
   refine aB ?_;refine cG (t:=30) rfl (fun hB=>?_) (fun hB=>?_)
   ·refine aB ?_;refine aG rfl (fun h4=>?_) (fun h4=>?_)
    ·refine aB ?_;exact dH (by rw[aAA hil (by rw[wX];unfold Ap yV;simp_all)])
    ·refine aB ?_;exact jV () (hg:=Lm (by rw[wX];unfold Ap yV;simp_all))
   refine aB ?_;refine cG (t:=38) rfl (fun hC=>?_) (fun hC=>?_)
   ·refine aB ?_;refine rE ?_;refine aL 3 ?_;refine kA [q] (Gz (mE s xc)) (fun w2 st=>aA7 q s _ _ _ _ _ k1 _ k2 _ k3 _ k4 xc w2 nA hm (st.le (by simp)) (by omega)) ?_;rintro _ w2 q1 ⟨Ac,cc,rfl,oP⟩ hf hle _
    have oP:=oP.le hf
    have aNK:=aA8 s s.aF.length xc
    refine bB ?_ (hS:=fun _ h=>h.bE);refine aL 6 ?_;refine aS (fun w3 st=>aHq Ac _ cc (dR (mE s xc)) id w3 (oP.le (st.le (by simp))) (by simp[dR]) (by unfold mE;omega)) ?_;refine cI ?_;refine dY ?_;refine aB ?_;refine aG rfl (fun h4=>?_) (fun h4=>?_)
    ·refine aB ?_;exact dH (by rw[aAA hil (by rw[wX];unfold Ap yV;simp_all)])
    ·refine aB ?_;exact jV () (hg:=Lm (by rw[wX];unfold Ap yV;simp_all))
   refine aB ?_;refine cG (t:=47) rfl (fun hD=>?_) (fun hD=>?_)
   ·refine aB ?_;refine aG rfl (fun h4=>?_) (fun h4=>?_)
    ·refine aB ?_;exact dH (by rw[aAA hil (by rw[wX];unfold Ap yV;simp_all)])
    ·refine aB ?_;exact jV () (hg:=Lm (by rw[wX];unfold Ap yV;simp_all))
   refine aB ?_;exact jV () (hg:=Lm (by rw[wX];unfold Ap yV;simp_all))
  ·refine aB ?_;exact dJ () (hg:=fun j hj=>hno j (by omega))
 ·refine aB ?_;exact dH (by rw[aQ2 hno])
theorem sY.box{q:Piece}{x y:dZ}{A1 A2 A3 B1 B2 B3:Option Addr}{n1 k1 n2 k2 n3 k3 m1 l1 m2 l2 m3 l3:Nat}{w:World}{g:Nat}
  (hx:sY q x y (.agg #[.slice A1 n1 k1,.slice A2 n2 k2,.slice A3 n3 k3,.slice B1 m1 l1,.slice B2 m2 l2,.slice B3 m3 l3])) (hq:q.Le (all w)) (hg:dQ w g 0 [.slice A1 n1 k1,.slice A2 n2 k2,.slice A3 n3 k3,.slice B1 m1 l1,.slice B2 m2 l2,.slice B3 m3 l3]):StM w g x y:=by
 obtain⟨C1,j1,C2,j2,C3,j3,D1,i1,D2,i2,D3,i3,he,s1,s2,s3,s4,s5,s6⟩:=hx;simp only[Value.agg.injEq,Array.mk.injEq,List.cons.injEq,Value.slice.injEq] at he;obtain⟨⟨rfl,rfl,rfl⟩,⟨rfl,rfl,rfl⟩,⟨rfl,rfl,rfl⟩,⟨rfl,rfl,rfl⟩,⟨rfl,rfl,rfl⟩,⟨rfl,rfl,rfl⟩,_⟩:=he;intro i hi;rcases(by omega:i=0∨i=1) with rfl | rfl
 ·exact⟨A1,k1,A2,k2,A3,k3,by simpa using hg.at_ (j:=0) rfl,by simpa using hg.at_ (j:=1) rfl,by simpa using hg.at_ (j:=2) rfl,s1.le hq,s2.le hq,s3.le hq⟩
 ·exact⟨B1,l1,B2,l2,B3,l3,by simpa using hg.at_ (j:=3) rfl,by simpa using hg.at_ (j:=4) rfl,by simpa using hg.at_ (j:=5) rfl,s4.le hq,s5.le hq,s6.le hq⟩
theorem aP6(q qx:Piece)(s:aC)(A1 A2 A3 A4:Option Addr)(n1 k1 n2 k2 n3 k3 n4 k4:Nat)(X1 X2 X3 Y1 Y2 Y3:Option Addr)(zP vT zO vS zN vR zM vP zL vO zK vN:Nat)(x y:dZ)(ag:Nat)(k id:Int)(w:World)(nA:qK q s A1 n1 A2 n2 A3 n3 A4 n4)(hm:s.wN)(hq:q.Le (all w))(Lu:sY qx x y (.agg #[.slice X1 zP vT,.slice X2 zO vS,.slice X3 zN vR,.slice Y1 zM vP,.slice Y2 zL vO,.slice Y3 zK vN]))(Fh:qx.Le (all w))(hag:ag < 2):
  Cz 32 #[.agg #[.slice A1 n1 k1,.slice A2 n2 k2,.slice A3 n3 k3,.slice A4 n4 k4],.agg #[.slice X1 zP vT,.slice X2 zO vS,.slice X3 zN vR,.slice Y1 zM vP,.slice Y2 zL vO,.slice Y3 zK vN],iv (ag:Int),.agg #[.int .u8 k,iv id]] w (Rt (.bool (Qm s x y ag k id)) w):=by
 obtain⟨rfl,rfl,rfl,rfl⟩:=nA.len
 have hnc:=hm.nc
 have hnd:=hm.nd
 have nx:∀{i:Nat} {p:Nat→Prop},(∀j,j < i→p j)→p i→∀j,j < i+1→p j:=fun {i p} h1 h2 j hj=>by
  rcases(by omega:j < i∨j=i) with hj | rfl
  ·exact h1 j hj
  ·exact h2
 refine aO func32 ntmps32 ?_;refine yZ qx (by simp) Fh ?_;refine yZ q (by simp) hq ?_;refine aB ?_;refine bO fun g1=>?_;refine aB ?_;refine bO fun g2=>?_;refine aB ?_;refine bO fun g3=>?_;refine aB ?_;refine oF (α:=Unit) (fun _=>[(7,pt g3),(5,pt g2),(4,pt g1)]) (fun _=>[HP.aE g3 50 [.int .u8 k,iv id],HP.aE g2 58 [.slice X1 zP vT,.slice X2 zO vS,.slice X3 zN vR,.slice Y1 zM vP,.slice Y2 zL vO,.slice Y3 zK vN],HP.aE g1 30 [.slice A1 s.aF.length k1,.slice A2 s.domains.length k2,.slice A3 s.aY.length k3,.slice A4 s.aD.length k4]]) (fun _=>tJ (if ag=0 then y else x) k id=false) ?_ fun _ aC2=>?_
 ·refine oB (α:=Unit) (fun i _=>[(13,iv i),(7,pt g3),(5,pt g2),(4,pt g1),(2,iv (ag:Int))]) (fun _ _=>[HP.aE g3 50 [.int .u8 k,iv id],HP.aE g2 58 [.slice X1 zP vT,.slice X2 zO vS,.slice X3 zN vR,.slice Y1 zM vP,.slice Y2 zL vO,.slice Y3 zK vN],HP.aE g1 30 [.slice A1 s.aF.length k1,.slice A2 s.domains.length k2,.slice A3 s.aY.length k3,.slice A4 s.aD.length k4]]) (fun i _=>∀j:Nat,j < i→¬(j:Int)=ag→tJ (if j=0 then x else y) k id=false) 2 () (fun j hj=>absurd hj (Nat.not_lt_zero j)) fun i _ hi hno=>?_;refine aB ?_;refine aG rfl (fun h=>?_) (fun h=>?_)
  ·have hi2:i < 2:=by omega
   refine aB ?_;refine cG (t:=19) rfl (fun h1=>?_) (fun h1=>?_)
   ·refine aB ?_;refine aS (fun w1 st=>aBu g2 i (if i=0 then x else y) k id w1 hi2 (sY.box Lu (st.le (by simp)) (st.box (i:=1) rfl) i hi2)) ?_;cases hb:tJ (if i=0 then x else y) k id
    ·refine aB ?_;exact jV () (hg:=nx hno fun _=>hb)
    ·refine aB ?_;refine iS (by simp) ?_
     have aC2:tJ (if ag=0 then y else x) k id=true:=by
      rcases(by omega:(i=0∧ag=1)∨(i=1∧ag=0)) with⟨rfl,rfl⟩ | ⟨rfl,rfl⟩<;>simpa using hb
     rw[Qm,aC2];rfl
   ·refine aB ?_;exact jV () (hg:=nx hno fun hc=>absurd hc h1)
  ·obtain rfl:i=2:=by omega
   refine aB ?_;refine dJ () (hg:=?_);rcases(by omega:ag=0∨ag=1) with rfl | rfl
   ·simpa using hno 1 (by omega) (by omega)
   ·simpa using hno 0 (by omega) (by omega)
 have Vk:Qm s x y ag k id=Po s x y k id:=by rw[Qm,aC2,Bool.false_or]
 refine dX ?_;refine dX ?_;refine fT ?_;refine bF ?_;refine bF ?_;refine fB ?_;refine xM ?_;refine Gr (α:=Bool) (fun b=>[(30,.bool b),(29,.int .u8 k),(7,pt g3),(5,pt g2),(4,pt g1)]) (fun _=>[HP.aE g3 50 [.int .u8 k,iv id],HP.aE g2 58 [.slice X1 zP vT,.slice X2 zO vS,.slice X3 zN vR,.slice Y1 zM vP,.slice Y2 zL vO,.slice Y3 zK vN],HP.aE g1 30 [.slice A1 s.aF.length k1,.slice A2 s.domains.length k2,.slice A3 s.aY.length k3,.slice A4 s.aD.length k4]]) (fun b=>b=true↔k=100∨k=107) ?_ fun b hb=>?_
 ·refine aB ?_;refine cG (t:=30) rfl (fun hA=>?_) (fun hA=>?_)
  ·refine aB ?_;exact dJ true (hg:=by simp[hA])
  ·refine aB ?_;refine cG (t:=30) rfl (fun hB=>?_) (fun hB=>?_)
   ·exact dJ true (hg:=by simp[hB])
   ·exact dJ false (hg:=by simp[hA,hB])
 cases b
 ·have Pc:¬(k=100∨k=107):=fun hh=>by simpa using hb.2 hh
  refine aB ?_;refine cG (t:=53) rfl (fun hC=>?_) (fun hC=>?_)
  ·have Uz:Iq s k=s.aF.length:=by rw[Iq,if_neg Pc,if_pos hC]
   refine aB ?_;refine oB (α:=Unit) (fun i _=>[(58,iv i),(57,iv s.aF.length),(7,pt g3),(5,pt g2),(4,pt g1)]) (fun _ _=>[HP.aE g3 50 [.int .u8 k,iv id],HP.aE g2 58 [.slice X1 zP vT,.slice X2 zO vS,.slice X3 zN vR,.slice Y1 zM vP,.slice Y2 zL vO,.slice Y3 zK vN],HP.aE g1 30 [.slice A1 s.aF.length k1,.slice A2 s.domains.length k2,.slice A3 s.aY.length k3,.slice A4 s.aD.length k4]]) (fun i _=>∀j,j < i→Fo s x y k id j=false) s.aF.length () (fun j hj=>absurd hj (Nat.not_lt_zero j)) fun i _ hi hno=>?_;refine aB ?_;refine aG rfl (fun h=>?_) (fun h=>?_)
   ·have hil:i < s.aF.length:=by omega
    have eY:Fo s x y k id i=(decide ((i:Int)≠id)&&(tI x y k i&&decide (id∈dR (mE s i)))):=by rw[Fo,if_neg Pc,yV,Int.toNat_natCast]
    refine aB ?_;refine aIc ?_;refine aDH 65 rfl (fun h1=>?_) (fun h1=>?_)
    ·rw[decide_eq_true h1] at eY;refine qJ 5 ?_;refine aL 8 ?_;refine aB ?_;refine aS (fun w1 st=>aBv g2 x y k i w1 (sY.box Lu (st.le (by simp)) (st.box (i:=1) rfl))) ?_;cases hw:tI x y k i
     all_goals
      rw[hw] at eY;refine bB ?_;refine qJ 9 ?_
     ·refine Gv 13 ?_;refine qJ 14 ?_;refine Gv 16 ?_;refine qJ 17 ?_;refine dY ?_;refine aB ?_;exact jV () (hg:=nx hno (by rw[eY];rfl))
     ·refine aL 13 ?_;refine aB ?_;refine kA [q] (Gz (mE s i)) (fun w2 st=>aA7 q s _ _ _ _ _ k1 _ k2 _ k3 _ k4 i w2 nA hm (st.le (by simp)) (by omega)) ?_;rintro _ w2 q1 ⟨Ac,cc,rfl,oP⟩ hf hle _
      have oP:=oP.le hf
      have aNK:=aA8 s s.aF.length i
      refine bB ?_ (hS:=fun _ h=>h.bE);refine aL 16 ?_;refine aB ?_;refine aS (fun w3 st=>aHq Ac _ cc (dR (mE s i)) id w3 (oP.le (st.le (by simp))) (by simp[dR]) (by unfold mE;omega)) ?_;refine bB ?_ (hS:=fun _ h=>h.bE);refine mG 17 ?_;refine dY ?_;refine aB ?_;refine aG rfl (fun h4=>?_) (fun h4=>?_)
      ·refine aB ?_;exact dH (by rw[Vk,aG4 (by rw[Uz];exact hil) (by rw[eY,decide_eq_true h4];rfl)])
      ·refine aB ?_;exact jV () (hg:=nx hno (by rw[eY,decide_eq_false h4];rfl))
    ·refine qJ 5 ?_;refine Gv 8 ?_;refine qJ 9 ?_;refine Gv 13 ?_;refine qJ 14 ?_;refine Gv 16 ?_;refine qJ 17 ?_;refine dY ?_;refine aB ?_;exact jV () (hg:=nx hno (by rw[eY,decide_eq_false h1];rfl))
   ·refine aB ?_;exact dH (by rw[Vk,aCE (by rw[Uz];exact fun j hj=>hno j (by omega))])
  ·refine aB ?_;exact dH (by rw[Vk,aCE (by rw[Iq,if_neg Pc,if_neg hC];exact fun j hj=>absurd hj (Nat.not_lt_zero j))])
 ·have Pc:k=100∨k=107:=hb.1 rfl
  have Uz:Iq s k=s.domains.length:=by rw[Iq,if_pos Pc]
  refine aB ?_;refine oB (α:=Unit) (fun i _=>[(36,iv i),(35,iv s.domains.length),(34,.slice A2 s.domains.length k2),(7,pt g3),(5,pt g2),(4,pt g1)]) (fun _ _=>[HP.aE g3 50 [.int .u8 k,iv id],HP.aE g2 58 [.slice X1 zP vT,.slice X2 zO vS,.slice X3 zN vR,.slice Y1 zM vP,.slice Y2 zL vO,.slice Y3 zK vN],HP.aE g1 30 [.slice A1 s.aF.length k1,.slice A2 s.domains.length k2,.slice A3 s.aY.length k3,.slice A4 s.aD.length k4]]) (fun i _=>∀j,j < i→Fo s x y k id j=false) s.domains.length () (fun j hj=>absurd hj (Nat.not_lt_zero j)) fun i _ hi hno=>?_;refine aB ?_;refine aG rfl (fun h=>?_) (fun h=>?_)
  ·have hil:i < s.domains.length:=by omega
   obtain⟨d,hd⟩:=get_some hil;obtain⟨bD,oD,rD,rfl,Ue,_,rfl,Lr⟩:=nA.dom.uT hd
   have hk:=dQ.le Ue Lr hq
   have eY:Fo s x y k id i=(decide (d.above=id)&&tI x y k i):=by rw[Fo,if_pos Pc,hd];rfl
   refine aB ?_;refine bY fun g4=>?_;refine aB ?_;refine cG (t:=46) rfl (fun h1=>?_) (fun h1=>?_)
   ·rw[decide_eq_true h1] at eY;refine aB ?_;refine aS (fun w1 st=>aBv g2 x y k i w1 (sY.box Lu (st.le (by simp)) (st.box (i:=2) rfl))) ?_;cases hw:tI x y k i
    all_goals
     rw[hw] at eY;refine aB ?_
    ·exact jV () (hg:=nx hno eY)
    ·exact dH (by rw[Vk,aG4 (by rw[Uz];exact hil) eY])
   ·refine aB ?_;exact jV () (hg:=nx hno (by rw[eY,decide_eq_false h1];rfl))
  ·refine aB ?_;exact dH (by rw[Vk,aCE (by rw[Uz];exact fun j hj=>hno j (by omega))])
end
section
theorem aPD(q qx:Piece)(s:aC)(A1 A2 A3 A4:Option Addr)(n1 k1 n2 k2 n3 k3 n4 k4:Nat)(X1 X2 X3 Y1 Y2 Y3:Option Addr)(zP vT zO vS zN vR zM vP zL vO zK vN:Nat)(x y:dZ)(Aw:Option Addr)(nw cw:Nat)(wt:List Int)(ag:Nat)(Al:Option Addr)(nl cl:Nat)(l:List Int)(w:World)(nA:qK q s A1 n1 A2 n2 A3 n3 A4 n4)(hm:s.wN)(hq:q.Le (all w))(Lu:sY qx x y (.agg #[.slice X1 zP vT,.slice X2 zO vS,.slice X3 zN vR,.slice Y1 zM vP,.slice Y2 zL vO,.slice Y3 zK vN]))(Fh:qx.Le (all w))(hw:aI (all w) 1 Aw nw (aN wt))(hnw:nw=wt.length)(hag:ag < 2)(hl:aI (all w) 1 Al nl (dV l))(fN:nl=l.length)(aGk:nl≤1000000)(hu:nB l):
  Cz 13 #[.agg #[.slice A1 n1 k1,.slice A2 n2 k2,.slice A3 n3 k3,.slice A4 n4 k4],.agg #[.slice X1 zP vT,.slice X2 zO vS,.slice X3 zN vR,.slice Y1 zM vP,.slice Y2 zL vO,.slice Y3 zK vN],.slice Aw nw cw,iv (ag:Int),.slice Al nl cl] w (Rt (aDw (nZ s x y wt ag l)) w):=by
 generalize hrd:fE s l=rd;obtain⟨st,k,id⟩:=rd;refine aO func13 ntmps13 ?_;refine yZ qx (by simp) Fh ?_;refine yZ q (by simp) hq ?_;refine aB ?_;refine bO fun g1=>?_;refine aB ?_;refine bO fun g2=>?_;refine aB ?_;refine bY fun g3=>?_;refine aB ?_;refine cG (t:=17) rfl (fun h=>absurd h (by omega)) (fun _=>?_);refine aB ?_;refine cG (t:=21) rfl (fun h=>absurd h (by omega)) (fun _=>?_);refine aB ?_;refine aS (v:=iv 0) (fun w1 st=>(aA5 s A1 A2 A3 A4 n1 k1 n2 k2 n3 k3 n4 k4 w1 (nA.W (st.le (by simp)) hm.small)).mono fun _ _ h=>aDQ h (by rw[hm.Qr])) ?_;refine aB ?_;refine aS (v:=.tuple #[.int .i32 st,.agg #[.int .u8 k,iv id]]) (fun w1 st=>(aLo s A1 A2 A3 A4 n1 k1 n2 k2 n3 k3 n4 k4 Al nl cl l w1 (nA.W (st.le (by simp)) hm.small) (hl.le (st.le (by simp))) fN aGk hu).mono fun _ _ h=>aDQ h (by rw[hrd];rfl)) ?_;refine aB ?_;refine bY fun g4=>?_;refine aB ?_;refine aIc ?_;refine aDH 35 rfl (fun h1=>?_) (fun h1=>?_)
 ·refine qJ 3 ?_;refine Gv 13 ?_;refine qJ 14 ?_;refine Gv 16 ?_;refine qJ 17 ?_;refine dY ?_;refine aB ?_
  (refine nT ?_;rw[nZ,hrd];dsimp only;rw[if_pos (.inl h1)];rfl)
 refine qJ 3 ?_;refine aDH 40 rfl (fun h2=>?_) (fun h2=>?_)
 ·refine qJ 8 ?_;refine Gv 13 ?_;refine qJ 14 ?_;refine Gv 16 ?_;refine qJ 17 ?_;refine dY ?_;refine aB ?_
  (refine nT ?_;rw[nZ,hrd];dsimp only;rw[if_pos (.inr (.inl h2))];rfl)
 refine qJ 8 ?_;refine aL 13 ?_;refine aB ?_;refine aS (fun w1 st=>aBu g2 ag (if ag=0 then x else y) k id w1 hag (sY.box Lu (st.le (by simp)) (st.box (i:=2) rfl) ag hag)) ?_;refine bB ?_;refine qJ 14 ?_;refine aL 16 ?_;refine aB ?_;refine aS (fun w1 st=>aBR k w1) ?_;refine bB ?_;refine qJ 17 ?_;refine dY ?_;refine aB ?_;refine oX rfl (fun h3=>?_) (fun h3=>?_)
 ·refine aB ?_
  (refine nT ?_;rw[nZ,hrd];dsimp only;rw[if_pos (.inr (.inr (by simpa using h3)))];rfl)
 have Lc:st=0:=by omega
 have h4:¬(st≠0∨k=0∨tJ (if ag=0 then x else y) k id=decide (qR k)):=fun hh=>by
  rcases hh with hh | hh | hh
  ·exact hh Lc
  ·exact h2 hh
  ·rw[hh] at h3;simp at h3
 refine aB ?_;refine aS (fun w1 st=>aBR k w1) ?_;refine aB ?_;refine aG rfl (fun h6=>?_) (fun h6=>?_)
 ·refine aB ?_;refine aG rfl (fun h7=>?_) (fun h7=>?_)
  ·subst h7
   have hok:=aFn (s:=s) hu
   rw[hrd] at hok
   have hid:=hok.resolve_left (fun hh=>by have:=hh.1;simp at this)
   have aS1:0≤id:=hid.2.2.1
   have aS0:id < (s.domains.length:Int):=hid.2.2.2.1
   obtain⟨d,hd⟩:=get_some (l:=s.domains) (i:=id.toNat) (by omega);obtain⟨rfl,rfl,rfl,rfl⟩:=nA.len;obtain⟨bD,oD,rD,rfl,Ue,_,rfl,Lr⟩:=nA.dom.uT hd
   have hk:=dQ.le Ue Lr hq
   have ha:=hk.at_ (j:=0) rfl
   have hab:(s.domains[id.toNat]?).any (fun d=>decide (d.above≠ -1)&& !tI x y 117 d.above)=(decide (d.above≠ -1)&& !tI x y 117 d.above):=by rw[hd];rfl
   refine aB ?_;refine cG (t:=69) rfl (fun h8=>?_) (fun h8=>?_)
   ·rw[decide_eq_true h8] at hab;refine aB ?_;refine aS (fun w1 st=>aBv g2 x y 117 d.above w1 (sY.box Lu (st.le (by simp)) (st.box (i:=2) rfl))) ?_;cases hw9:tI x y 117 d.above
    all_goals
     rw[hw9] at hab;refine aB ?_
    ·(refine nT ?_;rw[nZ,hrd];dsimp only;rw[if_neg h4,if_pos h6,if_pos ⟨rfl,hab⟩];rfl)
    ·refine Xm [2] ?_;refine aB ?_
     (refine nT ?_;rw[nZ,hrd];dsimp only;rw[if_neg h4,if_pos h6,if_neg (fun hh=>by have h':=hh.2;rw[hab] at h';cases h')];rfl)
   ·rw[decide_eq_false h8] at hab;refine aB ?_;refine Xm [2] ?_;refine aB ?_
    (refine nT ?_;rw[nZ,hrd];dsimp only;rw[if_neg h4,if_pos h6,if_neg (fun hh=>by have h':=hh.2;rw[hab] at h';cases h')];rfl)
  ·refine aB ?_;refine Xm [2] ?_;refine aB ?_
   (refine nT ?_;rw[nZ,hrd];dsimp only;rw[if_neg h4,if_pos h6,if_neg (fun hh=>h7 hh.1)];rfl)
 ·refine aB ?_;refine aS (fun w1 st=>aP6 q qx s A1 A2 A3 A4 n1 k1 n2 k2 n3 k3 n4 k4 X1 X2 X3 Y1 Y2 Y3 zP vT zO vS zN vR zM vP zL vO zK vN x y ag k id w1 nA hm (st.le (by simp)) Lu (st.le (by simp)) hag) ?_;cases hde:Qm s x y ag k id
  ·refine aB ?_;refine aS (fun w1 st=>aQ1 q s A1 A2 A3 A4 n1 k1 n2 k2 n3 k3 n4 k4 Aw nw cw wt k id w1 nA hm (st.le (by simp)) (hw.le (st.le (by simp))) hnw) ?_;cases hbu:Mj s wt k id
   ·refine aB ?_;refine Xm [2] ?_;refine aB ?_
    (refine nT ?_;rw[nZ,hrd];dsimp only;rw[if_neg h4,if_neg h6,hde,if_neg (by simp),hbu,if_neg (by simp)];rfl)
   ·refine aB ?_
    (refine nT ?_;rw[nZ,hrd];dsimp only;rw[if_neg h4,if_neg h6,hde,if_neg (by simp),hbu,if_pos rfl];rfl)
  ·refine aB ?_
   (refine nT ?_;rw[nZ,hrd];dsimp only;rw[if_neg h4,if_neg h6,hde,if_pos rfl];rfl)
end
section
def yF(l:List Bool)(id:Int)(b:Bool):List Bool:=if 0≤id∧id < (l.length:Int) then l.set id.toNat b else l
theorem aEQ{l:List Bool}{id:Int}(b:Bool)(h:¬(0≤id∧id < (l.length:Int))):yF l id b=l:=if_neg h
theorem Nt(l:List Bool)(id:Int)(b:Bool):(yF l id b).length=l.length:=by unfold yF;split<;>simp
def oL(x:dZ)(k id:Int):dZ:=
 if k=117∨k=100∨k=107 then⟨yF x.d id (decide (qR k)),x.c,x.l⟩
 else if k=99∨k=111 then⟨x.d,yF x.c id (decide (qR k)),x.l⟩
 else if k=114∨k=97 then⟨x.d,x.c,yF x.l id (decide (qR k))⟩ else x
def lH(x:dZ)(ag:Nat)(k id:Int):dZ:=if ag=0 then oL x k id else x
def lG(y:dZ)(ag:Nat)(k id:Int):dZ:=if ag=0 then y else oL y k id
theorem aQE{l:List Bool}{id:Int}(b:Bool)(h:0≤id∧id < (l.length:Int)):(bG l).set id.toNat (.bool b)=bG (yF l id b):=by
 rw[yF,if_pos h];simp[bG,List.map_set]
section
variable{N:cE}{w0 w:World}{e:Env}{R:List Piece}{H:List HP}{K:Act→World→Prop}
theorem St.aLE(st:St w0 R H w){i n c sz:Nat}{t:TypeId}{A:Option Addr}{xs:List Value}(hi:H[i]? =some (HP.own t sz (.slice A n c) n xs))(hn:0 < n):∃g,A=some ⟨g,0,none⟩:=by
 obtain⟨_,h2⟩:=st.own hi;rcases h2 with⟨h2,h3⟩ | ⟨g',cap,cur,hv,_⟩
 ·omega
 ·injection hv with h4 h5 h6
  exact⟨g',h4⟩
theorem aR1(i:Nat){n c sz:Nat}{t:TypeId}{A:Option Addr}{xs:List Value}(hi:H[i]? =some (HP.own t sz (.slice A n c) n xs))(h:n≤c→XK N w0 K e R H):XK N w0 K e R H:=fun a w hr st=>by
 obtain⟨_,h2⟩:=st.own hi;refine h ?_ a w hr st;rcases h2 with⟨_,h3⟩ | ⟨g',cap,cur,hv,_,_,h3,_⟩
 ·omega
 ·injection hv with h4 h5 h6
  omega
theorem aAQ(i:Nat){n c sz:Nat}{t:TypeId}{A:Option Addr}{xs:List Value}(hi:H[i]? =some (HP.own t sz (.slice A n c) n xs))(hn:0 < n)(h:(∃g,A=some ⟨g,0,none⟩)→XK N w0 K e R H):XK N w0 K e R H:=fun a w hr st=>h (st.aLE hi hn) a w hr st
end
end
section
structure fQ where
 a1:AC
 a2:AC
 a3:AC
 a4:AC
 x1:AC
 x2:AC
 x3:AC
 y1:AC
 y2:AC
 y3:AC
 b0:AC
 b1:AC
structure cJ where
 x:dZ
 y:dZ
 h0:Int
 h1:Int
 w0:List Int
 w1:List Int
 last:Int
 at_:Int
 kind:Int
 id:Int
def sL(s:aC):cJ:=⟨jJ s,jJ s,0,0,[],[],1,-1,0,0⟩
def wG(a:AC)(n:Nat):Value:=.slice a.1 n a.2
def jH(h:Nat)(L:fQ)(s:aC)(z:cJ):List Value:=[pt h,.slice L.a1.1 s.aF.length L.a1.2,.slice L.a2.1 s.domains.length L.a2.2,.slice L.a3.1 s.aY.length L.a3.2,.slice L.a4.1 s.aD.length L.a4.2,
 .slice L.x1.1 z.x.d.length L.x1.2,.slice L.x2.1 z.x.c.length L.x2.2,.slice L.x3.1 z.x.l.length L.x3.2,.slice L.y1.1 z.y.d.length L.y1.2,.slice L.y2.1 z.y.c.length L.y2.2,.slice L.y3.1 z.y.l.length L.y3.2,
 iv z.h0,.slice L.b0.1 z.w0.length L.b0.2,iv z.h1,.slice L.b1.1 z.w1.length L.b1.2,iv z.last,iv z.at_,.int .u8 z.kind,iv z.id]
def uL(L:fQ)(s:aC)(p:Piece):Prop:=qK p s L.a1.1 s.aF.length L.a2.1 s.domains.length L.a3.1 s.aY.length L.a4.1 s.aD.length
theorem uL.le{L:fQ}{s:aC}(p q:Piece)(hl:p.Le q)(h:uL L s p):uL L s q:=qK.le h hl
def oZ(L:fQ)(x y:dZ)(p:Piece):Prop:=aI p 1 L.x1.1 x.d.length (bG x.d)∧aI p 1 L.x2.1 x.c.length (bG x.c)∧aI p 1 L.x3.1 x.l.length (bG x.l)∧aI p 1 L.y1.1 y.d.length (bG y.d)∧aI p 1 L.y2.1 y.c.length (bG y.c)∧aI p 1 L.y3.1 y.l.length (bG y.l)
theorem oZ.le{L:fQ}{x y:dZ}(p q:Piece)(hl:p.Le q)(h:oZ L x y p):oZ L x y q:=⟨h.1.le hl,h.2.1.le hl,h.2.2.1.le hl,h.2.2.2.1.le hl,h.2.2.2.2.1.le hl,h.2.2.2.2.2.le hl⟩
def eB(a:AC)(l:List Int)(p:Piece):Prop:=aI p 1 a.1 l.length (dV l)
theorem eB.le{a:AC}{l:List Int}(p q:Piece)(hl:p.Le q)(h:eB a l p):eB a l q:=aI.le h hl
theorem sY.P{q:Piece}{x y:dZ}{v:Value}(h:sY q x y v):∃x1 x2 x3 y1 y2 y3:AC,v=.agg #[wG x1 x.d.length,wG x2 x.c.length,wG x3 x.l.length,wG y1 y.d.length,wG y2 y.c.length,wG y3 y.l.length]∧∀a1 a2 a3 a4 b0 b1:AC,oZ ⟨a1,a2,a3,a4,x1,x2,x3,y1,y2,y3,b0,b1⟩ x y q:=by
 obtain⟨A1,k1,A2,k2,A3,k3,B1,m1,B2,m2,B3,m3,e,a1,a2,a3,b1,b2,b3⟩:=h;exact⟨(A1,k1),(A2,k2),(A3,k3),(B1,m1),(B2,m2),(B3,m3),e,fun _ _ _ _ _ _=>⟨a1,a2,a3,b1,b2,b3⟩⟩
def iF(f h:Nat)(L:fQ)(s:aC)(z:cJ):HP:=HP.many [HP.aE f 175 (jH h L s z),HP.bU (uL L s) (uL.le (L:=L) (s:=s)),HP.bU (oZ L z.x z.y) (oZ.le (L:=L) (x:=z.x) (y:=z.y)),HP.bU (eB L.b0 z.w0) (eB.le (a:=L.b0) (l:=z.w0)),HP.bU (eB L.b1 z.w1) (eB.le (a:=L.b1) (l:=z.w1))]
def Bz(f h:Nat)(s:aC)(z:cJ):HP:=HP.ex fun L:fQ=>iF f h L s z
structure Ca(w:World)(f h:Nat)(L:fQ)(s:aC)(z:cJ):Prop where
 r0:dQ w f 0 (jH h L s z)
 so:uL L s (all w)
 st:oZ L z.x z.y (all w)
 b0:eB L.b0 z.w0 (all w)
 b1:eB L.b1 z.w1 (all w)
theorem aDZ{f h:Nat}{L:fQ}{s:aC}{z:cJ}{F:Nat→Prop}{w:World}(k:(iF f h L s z).sat F w)(hF:∀b,F b→b < w.heap.size):Ca w f h L s z:=by
 obtain⟨G,g1,g2,_⟩:=k
 have hl:∀i,(⟨w,G i⟩:Piece).Le (all w):=fun i b hb=>⟨hF b (g2 i b hb),rfl⟩
 exact⟨uG (g1 0 _ rfl).2,uL.le _ _ (hl 1) (g1 1 _ rfl),oZ.le _ _ (hl 2) (g1 2 _ rfl),eB.le _ _ (hl 3) (g1 3 _ rfl),eB.le _ _ (hl 4) (g1 4 _ rfl)⟩
theorem St.Dp{w0 w:World}{R:List Piece}{H:List HP}{f h:Nat}{L:fQ}{s:aC}{z:cJ}(t:St w0 R H w)(i:Nat)(hi:H[i]? =some (iF f h L s z)):Ca w f h L s z:=by
 obtain⟨F,h1,h2,_⟩:=t.chunk hi;exact aDZ h1 h2
def aIG(h:Nat)(s:aC)(v:Value)(hs:List HP)(_:Piece):Prop:=∃f,v=.tuple #[pt f,iv 0]∧hs=[Bz f h s (sL s)]
theorem aAy{w:World}(a:AC)(ha:a=(none,0)):(HP.bU (eB a []) (eB.le (a:=a) (l:=[]))).sat (fun _=>False) w:=by
 subst ha;exact⟨rfl,fun h=>absurd h (by simp)⟩
theorem aO3(h:Nat)(s:aC)(hH:s.dK)(A1 A2 A3 A4:Option Addr)(n1 k1 n2 k2 n3 k3 n4 k4:Nat)(w:World)(hW:iD w s A1 n1 A2 n2 A3 n3 A4 n4):
  Cz 49 #[pt h,.agg #[.slice A1 n1 k1,.slice A2 n2 k2,.slice A3 n3 k3,.slice A4 n4 k4]] w (fun y w'=>(∃v hs q,y=.returned v∧q.w=w'∧aIG h s v hs q∧fZ w hs q)∧Below w.heap.size w w'):=by
 obtain rfl:=hW.qT;obtain rfl:=hW.qS;obtain rfl:=hW.tQ;obtain rfl:=hW.sE;refine aO func49 ntmps49 ?_;refine aA ?_;refine bO fun g1=>?_;refine aA ?_;refine aS (fun w1 t=>Qs s A1 A2 A3 A4 _ k1 _ k2 _ k3 _ k4 w1 (hW.le (t.started (by simp))) hH.t.Qr) ?_;refine aA ?_;refine iZ [1,3] ?_;refine bJ 0 ?_;refine aK 1 ?_;refine aK 3 ?_;refine aL 2 ?_
 refine kA [] (fun v w w'=>aBk s v w w') (fun w1 t=>aDk s A1 A2 A3 A4 _ k1 _ k2 _ k3 _ k4 w1 (hW.le (t.started (by simp))) (fun d hd=>by
  obtain⟨j,hj⟩:=List.getElem?_of_mem hd
  have:=(hH.t.aD j d hj).2.2.2.2.2.2.2.2.1
  omega)) ?_
 rintro _ w1 q1 ⟨cs,rfl,hcs⟩ Fi _ sK
 have sK:=sK (by simp)
 obtain⟨B1,m1,j1,B2,m2,j2,B3,m3,j3,B4,m4,j4,rfl,hsp⟩:=uK.P hcs
 have hsp:=hsp.le Fi
 obtain⟨rfl,rfl,rfl,rfl⟩:=hsp.len;refine Jm (Φ:=uL ⟨(B1,j1),(B2,j2),(B3,j3),(B4,j4),(none,0),(none,0),(none,0),(none,0),(none,0),(none,0),(none,0),(none,0)⟩ s) (hm:=uL.le) sK (by simp[all]) hsp ?_;refine bB ?_;refine aL 4 ?_;refine kA [] (fun v w w'=>sY (fresh w w') (jJ s) (jJ s) v) (fun w1 st=>aJY s A1 A2 A3 A4 k1 k2 k3 k4 w1 hH.t) ?_;rintro _ w2 q2 hst uZ _ Ir
 have Ir:=Ir (by simp)
 obtain⟨x1,x2,x3,y1,y2,y3,rfl,Ld⟩:=hst.P
 have Ld:=oZ.le _ _ uZ (Ld (B1,j1) (B2,j2) (B3,j3) (B4,j4) (none,0) (none,0))
 refine Jm (Φ:=oZ ⟨(B1,j1),(B2,j2),(B3,j3),(B4,j4),x1,x2,x3,y1,y2,y3,(none,0),(none,0)⟩ (jJ s) (jJ s)) (hm:=oZ.le) Ir (by simp[all]) Ld ?_;refine bB ?_;refine aL 5 ?_;refine kd (iG rfl) ?_;refine cI ?_;refine aL 6 ?_;refine bO fun f=>?_;refine cI ?_;refine aL 7 ?_;refine bF ?_;refine cI ?_;refine dY ?_;refine aA ?_;refine nU (p:=HP.bU (eB (none,0) []) (eB.le (a:=(none,0)) (l:=[]))) (fun w=>aAy _ rfl) ?_;refine nU (p:=HP.bU (eB (none,0) []) (eB.le (a:=(none,0)) (l:=[]))) (fun w=>aAy _ rfl) ?_;refine aT [2,4,3,0,1] rfl (by decide) (R':=[all w]) (by simp) ?_;refine mR ?_;refine qG ?_;refine qG ?_;refine qG ?_;refine uJ 0 (f:=fun L:fQ=>iF f h L s (sL s)) ⟨(B1,j1),(B2,j2),(B3,j3),(B4,j4),x1,x2,x3,y1,y2,y3,(none,0),(none,0)⟩ rfl ?_;dsimp only[List.set];refine dG [] [] [0] (by simp) rfl (by decide) (by decide) fun q _ _ hfr=>?_;exact fS rfl rfl rfl fun w1 t=>⟨⟨_,_,⟨w1,q.Z⟩,rfl,rfl,⟨f,rfl,rfl⟩,t.newR (by simp) (by simp) (hfr (by simp) (by simp))⟩,t.below (by simp)⟩
end
section
section
variable{N:cE}{w0 w:World}{e:Env}{R:List Piece}{H:List HP}{K:Act→World→Prop}{f h:Nat}{s:aC}{z:cJ}
theorem Xj(i:Nat)(hi:H[i]? =some (Bz f h s z))(k:∀L:fQ,XK N w0 K e R (HP.aE f 175 (jH h L s z)::H.set i (HP.many [bX,HP.bU (uL L s) (uL.le (L:=L) (s:=s)),HP.bU (oZ L z.x z.y) (oZ.le (L:=L) (x:=z.x) (y:=z.y)),HP.bU (eB L.b0 z.w0) (eB.le (a:=L.b0) (l:=z.w0)),HP.bU (eB L.b1 z.w1) (eB.le (a:=L.b1) (l:=z.w1))]))):XK N w0 K e R H:=by
 have hlt:=wU hi
 refine aAR i hi fun L=>?_;refine qF i 0 (by rw[List.getElem?_set_self hlt];rfl) rfl ?_
 simpa[List.set_set] using k L
theorem zB(L:fQ)(i:Nat)(hi:H[i]? =some (HP.many [bX,HP.bU (uL L s) (uL.le (L:=L) (s:=s)),HP.bU (oZ L z.x z.y) (oZ.le (L:=L) (x:=z.x) (y:=z.y)),HP.bU (eB L.b0 z.w0) (eB.le (a:=L.b0) (l:=z.w0)),HP.bU (eB L.b1 z.w1) (eB.le (a:=L.b1) (l:=z.w1))]))(k:XK N w0 K e R (H.set i (Bz f h s z))):XK N w0 K e R (HP.aE f 175 (jH h L s z)::H):=by
 have hlt:=wU hi
 refine qH i 0 hi rfl ?_;refine uJ i (f:=fun L:fQ=>iF f h L s z) L (by rw[List.getElem?_set_self hlt];rfl) ?_;rw[List.set_set];exact k
end
def jZ(z:cJ)(a:Int)(l:List Int):Int×cJ:=
 if bZ 2 a=false then(4,z) else if a=0 then(if z.h0≠0 then(7,z) else(0,{z with h0:=1,w0:=l})) else(if z.h1≠0 then(7,z) else(0,{z with h1:=1,w1:=l}))
theorem aGE(f h:Nat)(s:aC)(z:cJ)(a:Int)(A:Option Addr)(n c:Nat)(l:List Int)(w:World)(F:Nat→Prop)(hp:(Bz f h s z).sat F w)(hF:∀b,F b→b < w.heap.size)(hs:aI ⟨w,fun b=>b < w.heap.size∧¬F b⟩ 1 A n (dV l))(hn:n=l.length)(hn2:n≤1000000):
  Cz 96 #[pt f,iv a,.slice A n c] w (Wr (iv (jZ z a l).1) (Bz f h s (jZ z a l).2) w F):=by
 subst hn;cases hin:bZ 2 a
 ·have hr:jZ z a l=(4,z):=by simp[jZ,hin]
  rw[hr];refine cT func96 ntmps96 hp hF ?_;refine aA ?_;refine aS (fun w1 t=>Kw a w1) ?_;rw[hin];refine aA ?_;exact bP 0 hF
 ·obtain rfl | rfl:a=0∨a=1:=by have:=of_decide_eq_true hin;omega
  ·refine cT func96 ntmps96 hp hF ?_;refine Xj 0 rfl fun L=>?_;dsimp only[List.set,jH];refine aA ?_;refine aS (fun w1 t=>Kw 0 w1) ?_;refine aA ?_;refine kd (fG 0 11) ?_;refine aA ?_;refine aG rfl (fun hb=>?_) (fun hb=>?_)
   ·have hr:jZ z 0 l=(7,z):=by simp[jZ,bZ,hb]
    rw[hr];refine aA ?_;refine zB L 0 rfl ?_;dsimp only[List.set];exact bP 0 hF
   ·have hr:jZ z 0 l=(0,{z with h0:=1,w0:=l}):=by simp[jZ,bZ];simpa using hb
    rw[hr];refine aA ?_;refine iZ [5,6] ?_;refine bJ 0 ?_;refine bJ 1 ?_;refine bJ 2 ?_;refine aK 5 ?_;refine aK 6 ?_;refine aL 3 ?_;refine eM (Yb l.length (dV l)) (fun w1 t=>aA4 A _ c _ w1 (hs.le (t.le (by simp))) (Hj _) hn2) ?_;rintro _ _ q1 ⟨An,cn,rfl,rfl⟩ _;dsimp only[List.cons_append,List.nil_append];refine bB ?_;refine aL 4 ?_;refine kd (iG rfl) ?_;refine bB ?_;refine aL 7 ?_;refine kd (fG 0 11) ?_;refine cI ?_;refine aL 8 ?_;refine pW 1 (t:=175) rfl rfl rfl (by kernel_rfl) (by simp[Value.cells,Value.oneCell']) (by simp[Value.cells]) ?_;dsimp only[List.set,Value.cells,fR];refine cI ?_;refine dY ?_;refine aA ?_;refine xL 0 (Φ:=eB (An,cn) l) (hm:=eB.le) rfl (fun p hp=>hp) ?_;refine aW 2 3 ?_;refine aT [1,2,3] rfl (by decide) (fun _ h=>h) ?_;refine aJ 1 3 ?_;refine zB (h:=h) (s:=s) (z:={z with h0:=1,w0:=l}) {L with b0:=(An,cn)} 0 rfl ?_;dsimp only[List.set];exact bP 0 hF
  ·refine cT func96 ntmps96 hp hF ?_;refine Xj 0 rfl fun L=>?_;dsimp only[List.set,jH];refine aA ?_;refine aS (fun w1 t=>Kw 1 w1) ?_;refine aA ?_;refine kd (fG 1 13) ?_;refine aA ?_;refine aG rfl (fun hb=>?_) (fun hb=>?_)
   ·have hr:jZ z 1 l=(7,z):=by simp[jZ,bZ,hb]
    rw[hr];refine aA ?_;refine zB L 0 rfl ?_;dsimp only[List.set];exact bP 0 hF
   ·have hr:jZ z 1 l=(0,{z with h1:=1,w1:=l}):=by simp[jZ,bZ];simpa using hb
    rw[hr];refine aA ?_;refine iZ [5,6] ?_;refine bJ 0 ?_;refine bJ 1 ?_;refine bJ 2 ?_;refine aK 5 ?_;refine aK 6 ?_;refine aL 3 ?_;refine eM (Yb l.length (dV l)) (fun w1 t=>aA4 A _ c _ w1 (hs.le (t.le (by simp))) (Hj _) hn2) ?_;rintro _ _ q1 ⟨An,cn,rfl,rfl⟩ _;dsimp only[List.cons_append,List.nil_append];refine bB ?_;refine aL 4 ?_;refine kd (iG rfl) ?_;refine bB ?_;refine aL 7 ?_;refine kd (fG 1 13) ?_;refine cI ?_;refine aL 8 ?_;refine pW 1 (t:=175) rfl rfl rfl (by kernel_rfl) (by simp[Value.cells,Value.oneCell']) (by simp[Value.cells]) ?_;dsimp only[List.set,Value.cells,fR];refine cI ?_;refine dY ?_;refine aA ?_;refine xL 0 (Φ:=eB (An,cn) l) (hm:=eB.le) rfl (fun p hp=>hp) ?_;refine aW 2 4 ?_;refine aT [1,2,3] rfl (by decide) (fun _ h=>h) ?_;refine aJ 1 4 ?_;refine zB (h:=h) (s:=s) (z:={z with h1:=1,w1:=l}) {L with b1:=(An,cn)} 0 rfl ?_;dsimp only[List.set];exact bP 0 hF
def mK(z:cJ)(a:Int):Option (List Int):=if a=0 then(if z.h0=2 then some z.w0 else none) else if a=1 then(if z.h1=2 then some z.w1 else none) else none
def lW(z:cJ)(a:Int):cJ:=if a=0 then(if z.h0=2 then {z with h0:=0,w0:=[]} else z) else if a=1 then(if z.h1=2 then {z with h1:=0,w1:=[]} else z) else z
def Nx(l:Option (List Int))(a:AC):Value:=match l with
 | some l=>.tuple #[.slice a.1 l.length a.2,.bool true]
 | none=>.tuple #[.slice none 0 0,.bool false]
def Es(f h:Nat)(s:aC)(z:cJ)(l:List Int)(c:AC):HP:=HP.many [Bz f h s z,HP.bU (eB c l) (eB.le (a:=c) (l:=l))]
theorem aCS(f h:Nat)(s:aC)(z:cJ)(a:Int)(w:World)(F:Nat→Prop)(hp:(Bz f h s z).sat F w)(hF:∀b,F b→b < w.heap.size):
  Cz 39 #[pt f,iv a] w (fun y w'=>∃c:AC,y=.returned (Nx (mK z a) c)∧True∧∃F',(Es f h s (lW z a) ((mK z a).getD []) c).sat F' w'∧iC w w' F F'):=by
 have Vh:∀w:World,(HP.bU (eB (none,0) []) (eB.le (a:=(none,0)) (l:=[]))).sat (fun _=>False) w:=fun w=>aAy _ rfl
 cases hin:bZ 2 a
 ·have h0:a≠0:=fun h=>by subst h;cases hin
  have h1:a≠1:=fun h=>by subst h;cases hin
  have hr:mK z a=none:=by simp[mK,h0,h1]
  have hz:lW z a=z:=by simp[lW,h0,h1]
  rw[hr,hz];unfold Es;refine cT func39 ntmps39 hp hF ?_;refine aA ?_;refine aS (fun w1 t=>Kw a w1) ?_;rw[hin];refine aA ?_;refine nU (p:=HP.bU (eB (none,0) []) (eB.le (a:=(none,0)) (l:=[]))) Vh ?_;refine aT [1,0] rfl (by decide) (fun _ h=>h) ?_;refine mR ?_;exact fS rfl rfl rfl fun w1 t=>⟨(none,0),rfl,trivial,t.turns hF (by simp) (i:=0) rfl⟩
 ·obtain rfl | rfl:a=0∨a=1:=by have:=of_decide_eq_true hin;omega
  ·refine cT func39 ntmps39 hp hF ?_;refine Xj 0 rfl fun L=>?_;dsimp only[List.set,jH];refine aA ?_;refine aS (fun w1 t=>Kw 0 w1) ?_;refine aA ?_;refine kd (fG 0 11) ?_;refine aA ?_;refine aG rfl (fun hb=>?_) (fun hb=>?_)
   ·have hr:mK z 0=none:=by simp[mK,hb]
    have hz:lW z 0=z:=by simp[lW,hb]
    rw[hr,hz];unfold Es;dsimp only[Option.getD];refine aA ?_;refine zB L 0 rfl ?_;dsimp only[List.set];refine nU (p:=HP.bU (eB (none,0) []) (eB.le (a:=(none,0)) (l:=[]))) Vh ?_;refine aT [1,0] rfl (by decide) (fun _ h=>h) ?_;refine mR ?_;exact fS rfl rfl rfl fun w1 t=>⟨(none,0),rfl,trivial,t.turns hF (by simp) (i:=0) rfl⟩
   ·have eE:z.h0=2:=by simpa using hb
    have hr:mK z 0=some z.w0:=by simp[mK,eE]
    have hz:lW z 0={z with h0:=0,w0:=[]}:=by simp[lW,eE]
    rw[hr,hz];unfold Es;dsimp only[Option.getD];refine aA ?_;refine kd (fG 0 11) ?_;refine aA ?_;refine kd (iG rfl) ?_;refine aA ?_;refine kd (fG 0 11) ?_;refine pW 0 (t:=175) rfl rfl rfl (by kernel_rfl) (by simp[Value.cells,Value.oneCell']) (by simp[Value.cells]) ?_;dsimp only[List.set,Value.cells,fR];refine aA ?_;refine aW 1 3 ?_;refine nU (p:=HP.bU (eB (none,0) []) (eB.le (a:=(none,0)) (l:=[]))) Vh ?_;refine aT [0,2,3,1] rfl (by decide) (fun _ h=>h) ?_;refine aJ 1 3 ?_;refine zB (h:=h) (s:=s) (z:={z with h0:=0,w0:=[]}) {L with b0:=(none,0)} 0 rfl ?_;dsimp only[List.set];refine mR ?_;exact fS rfl rfl rfl fun w1 t=>⟨L.b0,rfl,trivial,t.turns hF (by simp) (i:=0) rfl⟩
  ·refine cT func39 ntmps39 hp hF ?_;refine Xj 0 rfl fun L=>?_;dsimp only[List.set,jH];refine aA ?_;refine aS (fun w1 t=>Kw 1 w1) ?_;refine aA ?_;refine kd (fG 1 13) ?_;refine aA ?_;refine aG rfl (fun hb=>?_) (fun hb=>?_)
   ·have hr:mK z 1=none:=by simp[mK,hb]
    have hz:lW z 1=z:=by simp[lW,hb]
    rw[hr,hz];unfold Es;dsimp only[Option.getD];refine aA ?_;refine zB L 0 rfl ?_;dsimp only[List.set];refine nU (p:=HP.bU (eB (none,0) []) (eB.le (a:=(none,0)) (l:=[]))) Vh ?_;refine aT [1,0] rfl (by decide) (fun _ h=>h) ?_;refine mR ?_;exact fS rfl rfl rfl fun w1 t=>⟨(none,0),rfl,trivial,t.turns hF (by simp) (i:=0) rfl⟩
   ·have eE:z.h1=2:=by simpa using hb
    have hr:mK z 1=some z.w1:=by simp[mK,eE]
    have hz:lW z 1={z with h1:=0,w1:=[]}:=by simp[lW,eE]
    rw[hr,hz];unfold Es;dsimp only[Option.getD];refine aA ?_;refine kd (fG 1 13) ?_;refine aA ?_;refine kd (iG rfl) ?_;refine aA ?_;refine kd (fG 1 13) ?_;refine pW 0 (t:=175) rfl rfl rfl (by kernel_rfl) (by simp[Value.cells,Value.oneCell']) (by simp[Value.cells]) ?_;dsimp only[List.set,Value.cells,fR];refine aA ?_;refine aW 1 4 ?_;refine nU (p:=HP.bU (eB (none,0) []) (eB.le (a:=(none,0)) (l:=[]))) Vh ?_;refine aT [0,2,3,1] rfl (by decide) (fun _ h=>h) ?_;refine aJ 1 4 ?_;refine zB (h:=h) (s:=s) (z:={z with h1:=0,w1:=[]}) {L with b1:=(none,0)} 0 rfl ?_;dsimp only[List.set];refine mR ?_;exact fS rfl rfl rfl fun w1 t=>⟨L.b1,rfl,trivial,t.turns hF (by simp) (i:=0) rfl⟩
end
section
def Bl(c:eW)(r:Int):Int:=if c.kind=112 then(if 1099511627776 < r*c.mul / c.div then 1099511627776 else r*c.mul / c.div) else if c.kind=100 then r / c.div else r
def Mc(s:aC):Nat→Nat→Int
 | 0,_=>0
 | k + 1, i => match s.aF[i]? with
  | none=>0
  | some c=>if c.kind=111 then c.rate else Bl c (match c.src with
   | []=>0
   | f::_=>Mc s k f.toNat)
def pQ(s:aC)(i:Nat):Int:=Mc s (i+1) i
def Hu(s:aC)(st:List eN)(i:Int):Int:=if tK s st i then pQ s i.toNat else 0
theorem aO8{s:aC}(hf:Fits eW.fit s.aF):∀(c k:Nat),c < k→Mc s k c=Mc s (c+1) c:=by
 intro c
 induction c using Nat.strongRecOn with
 | _ c ih =>
  intro k hk;obtain⟨k,rfl⟩:=Nat.exists_eq_add_of_lt hk;rw[show c+k+1=(c+k)+1 from rfl];unfold Mc;cases hc:s.aF[c]? with
  | none=>rfl
  | some x =>
   dsimp only;cases hs:x.src with
   | nil=>rfl
   | cons f fs=>
    have hfit:=(hf c x hc).1 f (by rw[hs];simp)
    have h1:f.toNat < c:=by omega
    dsimp only;rw[ih f.toNat h1 (c+k) (by omega),ih f.toNat h1 c h1]
theorem aGO{s:aC}(hf:Fits eW.fit s.aF){i:Nat}{c:eW}(hc:s.aF[i]? =some c):pQ s i=if c.kind=111 then c.rate else Bl c (match c.src with
  | []=>0
  | f::_=>pQ s f.toNat):=by
 unfold pQ;rw[Mc,hc];dsimp only;cases hs:c.src with
 | nil=>rfl
 | cons f fs=>
  have hfit:=(hf i c hc).1 f (by rw[hs];simp)
  dsimp only;rw[aO8 hf f.toNat i (by omega)]
theorem aO7{s:aC}(hf:Fits eW.fit s.aF):∀i:Nat,0≤pQ s i∧pQ s i≤1099511627776:=by
 intro i
 induction i using Nat.strongRecOn with
 | _ i ih =>
  cases hc:s.aF[i]? with
  | none=>unfold pQ Mc;rw[hc];exact⟨Int.le_refl 0,by show(0:Int)≤1099511627776;omega⟩
  | some c =>
   rw[aGO hf hc];obtain⟨hsrc,hfit⟩:=hf i c hc
   have hr:0≤(match c.src with | []=>0 | f::_=>pQ s f.toNat)∧(match c.src with | []=>0 | f::_=>pQ s f.toNat)≤1099511627776:=by
    cases hs:c.src with
    | nil=>exact⟨Int.le_refl 0,by show(0:Int)≤1099511627776;omega⟩
    | cons f fs=>
     have:=hsrc f (by rw[hs];simp)
     exact ih f.toNat (by omega)
   generalize (match c.src with | []=>0 | f::_=>pQ s f.toNat)=r at hr;rcases hfit with⟨hk,_,h1,h2,_⟩ | ⟨hk,_,_,h1,h2,h3,h4,_⟩ | ⟨hk,_,_,_,h1,h2,_⟩ | ⟨hk,_⟩ | ⟨hk,_⟩
   ·rw[if_pos hk];omega
   ·rw[if_neg (by omega),Bl,if_pos hk]
    have:0≤r*c.mul / c.div:=Int.ediv_nonneg (Int.mul_nonneg hr.1 (by omega)) (by omega)
    split<;>omega
   ·rw[if_neg (by omega),Bl,if_neg (by omega),if_pos hk]
    have h5:0≤r / c.div:=Int.ediv_nonneg hr.1 (by omega)
    have h6:r / c.div≤r:=Int.ediv_le_self _ hr.1
    omega
   ·rw[if_neg (by omega),Bl,if_neg (by omega),if_neg (by omega)];exact hr
   ·rw[if_neg (by omega),Bl,if_neg (by omega),if_neg (by omega)];exact hr
theorem aGP(n:Int)(h1:1≤n)(h2:n≤1000)(w:World):Cz 222 #[iv n] w (Rt (.bool true) w):=by
 refine aO func222 ntmps222 ?_;refine aA ?_;refine cG (t:=5) rfl (fun _=>?_) (fun h=>absurd h1 h);refine aA ?_;refine iS (by simp) ?_;rw[decide_eq_true h2]
theorem aKp(r m d:Int)(hr:0≤r∧r≤1099511627776)(hm:1≤m∧m≤8)(hd:1≤d∧d≤4)(w:World):Cz 221 #[.int .u64 r,iv m,iv d] w (Rt (.tuple #[.int .u64 (if 1099511627776 < r*m / d then 0 else r*m / d),iv (if 1099511627776 < r*m / d then 3 else 0)]) w):=by
 have hmul:0≤r*m∧r*m≤1099511627776*8:=⟨Int.mul_nonneg hr.1 (by omega),Int.mul_le_mul hr.2 hm.2 (by omega) (by omega)⟩
 have hq:0≤r*m / d∧r*m / d≤r*m:=⟨Int.ediv_nonneg hmul.1 (by omega),Int.ediv_le_self _ hmul.1⟩
 refine aO func221 ntmps221 ?_;refine aA ?_;refine cG (t:=11) rfl (fun h=>absurd h (by omega)) (fun _=>?_);refine aA ?_;refine aS (fun w1 t=>aGP m hm.1 (by omega) w1) ?_;refine aA ?_;refine aS (fun w1 t=>aGP d hd.1 (by omega) w1) ?_;refine aA ?_;refine Ce (ds:=.int .i64) (kd:=.u64) (by kernel_rfl) (by kernel_rfl) rfl (wrap_u64 (by omega)) (by decide) ?_;refine aIS rfl rfl (c:=r*m) (wrap_u64 (by omega)) (by decide) ?_;refine aA ?_;refine Ce (ds:=.int .i64) (kd:=.u64) (by kernel_rfl) (by kernel_rfl) rfl (wrap_u64 (by omega)) (by decide) ?_;refine aEo rfl rfl (c:=r*m / d) (by omega) (by rw[Int.tdiv_eq_ediv_of_nonneg hmul.1];exact wrap_u64 (by omega)) (by decide) ?_;refine aA ?_;refine aG rfl (fun h=>?_) (fun h=>?_)
 ·rw[if_pos h,if_pos h];refine aA ?_;exact fS rfl rfl rfl fun w1 t=>⟨rfl,t.below (by simp)⟩
 ·rw[if_neg h,if_neg h];refine aA ?_;exact fS rfl rfl rfl fun w1 t=>⟨rfl,t.below (by simp)⟩
theorem aQb(L:TL)(s:aC)(st:List eN)(hH:s.dK)(b1 b2:Nat):∀(i:Nat),i < s.aF.length→∀w,vJ w L s st→fK w b1 0 (.pointer (some ⟨L.t,0,none⟩))→fK w b2 0 (.func (.func 220) #[] #[pt b1,pt b2])→
  Cz 220 #[iv (i:Int),pt b1,pt b2] w (Rt (.int .u64 (pQ s i)) w):=by
 intro i
 induction i using Nat.strongRecOn with
 | _ i ih =>
  intro hlt w hR Bd eE;obtain⟨b,off,c,a,x,hc,hx,hA,hro,hs⟩:=hR.node hlt
  have Vf:=aGO hH.t.aF hc
  have h0:=hR.r0
  rw[hA] at h0
  have k0:=hro.at_ (j:=0) rfl
  have k2:=hro.at_ (j:=2) rfl
  have k3:=hro.at_ (j:=3) rfl
  have k4:=hro.at_ (j:=4) rfl
  have k10:=hro.at_ (j:=10) rfl
  have Pt:∀{w1},Below w.heap.size w w1→fK w1 b1 0 (.pointer (some ⟨L.t,0,none⟩)):=fun hb=>⟨Nat.lt_of_lt_of_le Bd.1 hb.size,(hb.cell (p:=⟨_,0,none⟩) Bd.1).trans Bd.2⟩
  have go2:∀{w1},Below w.heap.size w w1→fK w1 b2 0 (.func (.func 220) #[] #[pt b1,pt b2]):=fun hb=>⟨Nat.lt_of_lt_of_le eE.1 hb.size,(hb.cell (p:=⟨_,0,none⟩) eE.1).trans eE.2⟩
  obtain⟨hsrc,hfit⟩:=hH.t.aF i c hc;refine aO func220 ntmps220 ?_;refine aA ?_;refine kd (dat i (off+i*11)) ?_;rcases hfit with⟨hk,hs0,_⟩ | hfit
  ·rw[hk] at k0;rw[if_pos hk] at Vf;refine aA ?_;exact dH (by rw[Vf])
  obtain⟨f,fs,hf⟩:∃(f:Nat) (fs:List Int),c.src=(f:Int)::fs:=by
   cases hs0:c.src with
   | nil=>rw[hs0] at hfit;simp at hfit
   | cons f fs=>exact⟨f.toNat,fs,by have:=(hsrc f (by rw[hs0];simp)).1;rw[Int.toNat_of_nonneg this]⟩
  have Ln:f < i:=by have:=(hsrc f (by rw[hf];simp)).2;omega
  have nP:=aO7 hH.t.aF f
  have aAr:∀w1,Below w.heap.size w w1→Cz 187 #[.pointer (some ⟨L.t,0,none⟩),iv (i:Int)] w1 (Rt (iv (f:Int)) w1):=fun w1 hb=>Qq L s st i f c fs w1 (hR.below hb) hc hf
  have aAq:∀w1,Below w.heap.size w w1→Cz 220 #[iv (f:Int),pt b1,pt b2] w1 (Rt (.int .u64 (pQ s f)) w1):=fun w1 hb=>ih f Ln (by omega) w1 (hR.below hb) (Pt hb) (go2 hb)
  rw[hf] at Vf
  have Ay:pQ s i=if c.kind=111 then c.rate else Bl c (pQ s f):=Vf
  clear Vf;rcases hfit with⟨hk,_,_,hm1,hm2,dB,hd2,_⟩ | ⟨hk,_,_,_,dB,hd2,_⟩ | ⟨hk,_⟩ | ⟨hk,_⟩
  ·rw[hk] at k0;rw[if_neg (by omega),Bl,if_pos hk] at Ay;refine aA ?_;refine lJ ?_;refine jC ?_;refine rB (fun w1 t=>aAr w1 (t.below (by simp))) ?_;refine Gm (fi:=[]) (vs:=[iv (f:Int)]) (ca:=[pt b1,pt b2]) (fun w1 t=>aAq w1 (t.below (by simp))) ?_;refine iY ?_;refine aA ?_;refine lJ ?_;refine jC ?_;refine rB (fun w1 t=>aKp _ c.mul c.div nP ⟨hm1,hm2⟩ ⟨dB,hd2⟩ w1) ?_;refine iY ?_;refine aA ?_
   by_cases hq:1099511627776 < pQ s f*c.mul / c.div
   ·rw[if_pos hq] at Ay;rw[if_pos hq,if_pos hq];refine aA ?_;exact dH (by rw[Ay])
   ·rw[if_neg hq] at Ay;rw[if_neg hq,if_neg hq];refine aA ?_;exact dH (by rw[Ay])
  ·rw[hk] at k0;rw[if_neg (by omega),Bl,if_neg (by omega),if_pos hk] at Ay
   have hby:byF c=c.div:=by rw[byF,if_pos hk]
   rw[hby] at k10
   have hq:0≤pQ s f / c.div∧pQ s f / c.div≤pQ s f:=⟨Int.ediv_nonneg nP.1 (by omega),Int.ediv_le_self _ nP.1⟩
   refine aA ?_;refine lJ ?_;refine jC ?_;refine rB (fun w1 t=>aAr w1 (t.below (by simp))) ?_;refine Gm (fi:=[]) (vs:=[iv (f:Int)]) (ca:=[pt b1,pt b2]) (fun w1 t=>aAq w1 (t.below (by simp))) ?_;refine iY ?_;refine aA ?_;refine Ce (ds:=.int .i64) (kd:=.u64) (by kernel_rfl) (by kernel_rfl) rfl (wrap_u64 (by omega)) (by decide) ?_;refine aEo rfl rfl (c:=pQ s f / c.div) (by omega) (by rw[Int.tdiv_eq_ediv_of_nonneg nP.1];exact wrap_u64 (by omega)) (by decide) ?_;refine aA ?_;exact dH (by rw[Ay])
  ·rw[hk] at k0;rw[if_neg (by omega),Bl,if_neg (by omega),if_neg (by omega)] at Ay;refine aA ?_;refine lJ ?_;refine jC ?_;refine rB (fun w1 t=>aAr w1 (t.below (by simp))) ?_;refine Gm (fi:=[]) (vs:=[iv (f:Int)]) (ca:=[pt b1,pt b2]) (fun w1 t=>aAq w1 (t.below (by simp))) ?_;refine iY ?_;refine aA ?_;exact dH (by rw[Ay])
  ·rw[hk] at k0;rw[if_neg (by omega),Bl,if_neg (by omega),if_neg (by omega)] at Ay;refine aA ?_;refine lJ ?_;refine jC ?_;refine rB (fun w1 t=>aAr w1 (t.below (by simp))) ?_;refine Gm (fi:=[]) (vs:=[iv (f:Int)]) (ca:=[pt b1,pt b2]) (fun w1 t=>aAq w1 (t.below (by simp))) ?_;refine iY ?_;refine aA ?_;exact dH (by rw[Ay])
theorem aPY(L:TL)(s:aC)(st:List eN)(hH:s.dK)(i:Int)(w:World)(hR:vJ w L s st):
  Cz 212 #[.pointer (some ⟨L.t,0,none⟩),iv i] w (Rt (.int .u64 (Hu s st i)) w):=by
 unfold Hu;cases hr:tK s st i
 ·rw[if_neg (by decide)];refine aO func212 ntmps212 ?_;refine aA ?_;refine bO fun g1=>?_;refine aA ?_;refine aS (fun w1 t=>Wt L s st hH i w1 (hR.below (t.below (by simp)))) ?_;rw[hr];refine aA ?_;exact dH
 ·rw[if_pos rfl]
  have hi:bZ s.aF.length i=true:=by
   unfold tK at hr;exact(Bool.and_eq_true _ _▸hr).1
  obtain⟨n,rfl⟩:∃n:Nat,i=n:=⟨i.toNat,by have:=of_decide_eq_true hi;omega⟩
  have hlt:n < s.aF.length:=by have:=of_decide_eq_true hi;omega
  refine aO func212 ntmps212 ?_;refine aA ?_;refine bO fun g1=>?_;refine aA ?_;refine aS (fun w1 t=>Wt L s st hH n w1 (hR.below (t.below (by simp)))) ?_;rw[hr];refine aA ?_;refine bY fun g2=>?_;refine aA ?_;refine jY (vf:=[]) (vc:=[pt g1,pt g2]) rfl rfl (by decide) ?_;refine aA ?_;refine aAc (fi:=[]) (vs:=[iv (n:Int)]) (ca:=[pt g1,pt g2]) (fun w1 t=>aQb L s st hH g1 g2 n hlt w1 (hR.below (t.below (by simp))) ((t.box (i:=1) rfl).at_ (j:=0) rfl) ((t.box (i:=0) rfl).at_ (j:=0) rfl)) ?_;refine aA ?_;exact dH
end
section
def nV(s:aC)(x:aU)(l:List Int):List Int:=
 let w:=l.headD 0
 if cN w 0 8=0 then[131072]
 else if cN w 10 8=16∧cN w 0 8=1 then[IntKind.u32.wrap (s.domains.length+s.aF.length*256+s.aY.length*65536+s.aD.length*16777216)]
 else if cN w 10 8=17∧cN w 0 8=5 then[Hw (rX x.dm (l.getD 1 0))]
 else if cN w 10 8=20∧cN w 0 8=6 then[IntKind.u32.wrap (Hu s x.ck (l.getD 1 0)),IntKind.u32.wrap (Hu s x.ck (l.getD 1 0) / 4294967296)] else[]
theorem aNB(L:HL)(s:aC)(x:aU)(w:World)(hH:s.dK)(i:Int)(hR:tD w L s x):Cz 184 #[.pointer (some ⟨L.h,0,none⟩),iv i] w (Rt (.int .u64 (Hu s x.ck i)) w):=by
 have k0:=hR.r0.at_ (j:=0) rfl
 refine aO func184 ntmps184 ?_;refine aA ?_;refine aS (fun w1 t=>Ba L s x w1 (hR.below (t.below (by simp)))) ?_;refine aA ?_;refine aS (fun w1 t=>aPY L.T s x.ck hH i w1 (hR.tree.below (t.below (by simp)))) ?_;refine aA ?_;exact dH
theorem aDo{α:Type}{cs vs:List α}{o:Nat}(hv:(cs.drop o).take vs.length=vs){j:Nat}{v:α}(hj:vs[j]? =some v):cs[o+j]? =some v:=by
 have hlt:=(List.getElem?_eq_some_iff.1 hj).1
 rw[←hv,List.getElem?_take_of_lt hlt,List.getElem?_drop] at hj;exact hj
theorem aOw(f:Nat)(L:fQ)(s:aC)(z:cJ)(hL:HL)(x:aU)(hH:s.dK)(sJ:tF s x.dm)(A:Option Addr)(c:Nat)(v:Int)(l:List Int)(w:World)(hR:Ca w f hL.h L s z)(hh:tD w hL s x)(hs:aI (all w) 1 A (v::l).length (dV (v::l)))
  (hu:cN v 28 4=0) (Da:(cN v 10 8=17∧cN v 0 8=5)∨(cN v 10 8=20∧cN v 0 8=6)→∃i,l=[i]∧0≤i∧i < 4294967296):
  Cz 144 #[pt f,.slice A (v::l).length c] w (fun y w'=>(∃r,y=.returned r∧aBd (nV s x (v::l)) r w w')∧Below w.heap.size w w'):=by
 obtain⟨b,off,rfl,hro⟩:=aI.u32 hs (by simp)
 have k0:=hro 0 v rfl
 have hlen:(v::l).length=l.length+1:=rfl
 have hE:Cj v=0:=by rw[Cj,if_neg (by simp[hu])]
 have hU:Kf v=Lo (cN v 0 8) (cN v 8 2) (cN v 10 8) (cN v 18 10):=by rw[Kf,if_neg (by simp[hu])]
 have kf:=hR.r0.at_ (j:=0) rfl
 have k4:dQ w f 1 [.slice L.a1.1 s.aF.length L.a1.2,.slice L.a2.1 s.domains.length L.a2.2,.slice L.a3.1 s.aY.length L.a3.2,.slice L.a4.1 s.aD.length L.a4.2]:=⟨hR.r0.1,fun j v hj=>by
  have:=hR.r0.2 (1+j) v (aDo rfl hj)
  rwa [Nat.zero_add] at this⟩
 have hnc:=hH.t.nc
 have hnd:=hH.t.nd
 have iN:=hH.t.nr
 have qW:=hH.t.nv
 refine aO func144 ntmps144 ?_;refine aB ?_;refine aS (fun w1 t=>aE9 v w1) ?_;rw[hE,hU];dsimp only[Lo];refine aA ?_;refine bY fun g1=>?_;refine aA ?_;refine aG rfl (fun h1=>?_) (fun h1=>?_)
 ·have hm:nV s x (v::l)=[131072]:=if_pos (by simpa using h1)
  rw[hm];refine aA ?_;refine eH fun g2=>?_;refine aA ?_;refine dG [] [0] [] (by simp) rfl (by decide) (by decide) fun q hq _ hfr=>?_;obtain⟨F2,wH,vM⟩:=hq 0 _ (by simp) rfl
  have dS:=qL (Y:=q.Z) (sz:=1) (n:=1) (c:=1) wH vM rfl
  exact aP (h:=fun w1 st=>⟨_,rfl,_,_,rfl,aI.le dS (st.mQ (by simp) (hfr (by simp) (by simp)))⟩)
 ·have n1:cN v 0 8≠0:=by simpa using h1
  refine aA ?_;refine cG (t:=26) rfl (fun h2=>?_) (fun h2=>?_)
  ·have p1:cN v 10 8=16:=by simpa using h2
   refine aA ?_;refine aG rfl (fun h3=>?_) (fun h3=>?_)
   ·have m1:cN v 0 8=1:=by simpa using h3
    have hm:nV s x (v::l)=[IntKind.u32.wrap (s.domains.length+s.aF.length*256+s.aY.length*65536+s.aD.length*16777216)]:=(if_neg n1).trans (if_pos ⟨p1,m1⟩)
    rw[hm];refine aA ?_;refine bY fun g2=>?_;refine aA ?_;refine Ng rfl rfl (c:=s.aF.length*256) (by decide) (by show IntKind.i64.wrap ((s.aF.length:Int)*256)=_;exact iW (by omega)) (by decide) ?_;refine aA ?_;refine Ng rfl rfl (c:=s.aY.length*65536) (by decide) (by show IntKind.i64.wrap ((s.aY.length:Int)*65536)=_;exact iW (by omega)) (by decide) ?_;refine aA ?_;refine Ng rfl rfl (c:=s.aD.length*16777216) (by decide) (by show IntKind.i64.wrap ((s.aD.length:Int)*16777216)=_;exact iW (by omega)) (by decide) ?_;refine aA ?_;refine Ce (ds:=.int .i64) (kd:=.u32) (by kernel_rfl) (by kernel_rfl) rfl rfl (by decide) ?_;refine eH fun g3=>?_;refine aA ?_;refine dG [] [0] [] (by simp) rfl (by decide) (by decide) fun q hq _ hfr=>?_;obtain⟨F2,wH,vM⟩:=hq 0 _ (by simp) rfl
    have dS:=qL (Y:=q.Z) (sz:=1) (n:=1) (c:=1) wH vM rfl
    exact aP (h:=fun w1 st=>⟨_,rfl,_,_,rfl,aI.le dS (st.mQ (by simp) (hfr (by simp) (by simp)))⟩)
   ·have m1:cN v 0 8≠1:=by simpa using h3
    have hm:nV s x (v::l)=[]:=(if_neg n1).trans ((if_neg fun h=>m1 h.2).trans ((if_neg fun h=>by have:=h.1;simp[p1] at this).trans (if_neg fun h=>by have:=h.1;simp[p1] at this)))
    rw[hm];refine aA ?_;refine cG (t:=60) rfl (fun h4=>absurd h4 (by simp[p1])) (fun _=>?_);refine aA ?_;refine cG (t:=80) rfl (fun h4=>absurd h4 (by simp[p1])) (fun _=>?_);refine aA ?_;exact aP (h:=fun _ _=>⟨_,rfl,_,_,rfl,rfl,fun h=>absurd h (by simp)⟩)
  ·have p1:cN v 10 8≠16:=by simpa using h2
   refine aA ?_;refine cG (t:=60) rfl (fun h3=>?_) (fun h3=>?_)
   ·have p2:cN v 10 8=17:=by simpa using h3
    refine aA ?_;refine aG rfl (fun h4=>?_) (fun h4=>?_)
    ·have m1:cN v 0 8=5:=by simpa using h4
     obtain⟨i,rfl,hi1,hi2⟩:=Da (.inl ⟨p2,m1⟩)
     have aNt:[v,i].length=2:=rfl
     have hm:nV s x [v,i]=[Hw (rX x.dm i)]:=(if_neg n1).trans ((if_neg fun h=>p1 h.1).trans (if_pos ⟨p2,m1⟩))
     have k1:=hro 1 i rfl
     rw[hm];refine aA ?_;refine iZ [1,2,3,5,6,7] ?_;refine bJ 0 ?_;refine bJ 4 ?_;refine aK 1 ?_;refine aK 2 ?_;refine aK 3 ?_;refine aK 5 ?_ (cM:=dat (sz:=1) 1 (off+1));refine aK 6 ?_;refine aK 7 ?_ (cM:=Jd (ds:=.int .u32) (by kernel_rfl) (by kernel_rfl) rfl (iW (by omega)));refine aL 8 ?_;refine aS (fun w1 t=>aCA hL s x w1 sJ i (hh.below (t.below (by simp)))) ?_;refine cI ?_;refine aL 9 ?_;refine aS (fun w1 t=>aOu _ w1) ?_;refine cI ?_;refine aL 10 ?_;refine eH fun g2=>?_;refine cI ?_;refine aL 11 ?_;refine bF ?_;refine cI ?_;refine dY ?_;refine aA ?_;refine dG [] [0] [] (by simp) rfl (by decide) (by decide) fun q hq _ hfr=>?_;obtain⟨F2,wH,vM⟩:=hq 0 _ (by simp) rfl
     have dS:=qL (Y:=q.Z) (sz:=1) (n:=1) (c:=1) wH vM rfl
     exact aP (h:=fun w1 st=>⟨_,rfl,_,_,rfl,aI.le dS (st.mQ (by simp) (hfr (by simp) (by simp)))⟩)
    ·have m1:cN v 0 8≠5:=by simpa using h4
     have hm:nV s x (v::l)=[]:=(if_neg n1).trans ((if_neg fun h=>p1 h.1).trans ((if_neg fun h=>m1 h.2).trans (if_neg fun h=>by have:=h.1;simp[p2] at this)))
     rw[hm];refine aA ?_;refine cG (t:=80) rfl (fun h4=>absurd h4 (by simp[p2])) (fun _=>?_);refine aA ?_;exact aP (h:=fun _ _=>⟨_,rfl,_,_,rfl,rfl,fun h=>absurd h (by simp)⟩)
   ·have p2:cN v 10 8≠17:=by simpa using h3
    refine aA ?_;refine cG (t:=80) rfl (fun h5=>?_) (fun h5=>?_)
    ·have p3:cN v 10 8=20:=by simpa using h5
     refine aA ?_;refine aG rfl (fun h6=>?_) (fun h6=>?_)
     ·have m1:cN v 0 8=6:=by simpa using h6
      obtain⟨i,rfl,hi1,hi2⟩:=Da (.inr ⟨p3,m1⟩)
      have aNt:[v,i].length=2:=rfl
      have hm:nV s x [v,i]=[IntKind.u32.wrap (Hu s x.ck i),IntKind.u32.wrap (Hu s x.ck i / 4294967296)]:=(if_neg n1).trans ((if_neg fun h=>p1 h.1).trans ((if_neg fun h=>p2 h.1).trans (if_pos ⟨p3,m1⟩)))
      have k1:=hro 1 i rfl
      rw[hm];refine aA ?_;refine iZ [1,2,3,5,6,7] ?_;refine bJ 0 ?_;refine bJ 4 ?_;refine aK 1 ?_;refine aK 2 ?_;refine aK 3 ?_;refine aK 5 ?_ (cM:=dat (sz:=1) 1 (off+1));refine aK 6 ?_;refine aK 7 ?_ (cM:=Jd (ds:=.int .u32) (by kernel_rfl) (by kernel_rfl) rfl (iW (by omega)));refine aL 8 ?_;refine aS (fun w1 t=>aNB hL s x w1 hH i (hh.below (t.below (by simp)))) ?_;refine cI ?_;refine aL 9 ?_;refine bF ?_;refine cI ?_;refine dY ?_;refine aA ?_;refine Ce (ds:=.int .u64) (kd:=.u32) (by kernel_rfl) (by kernel_rfl) rfl rfl (by decide) ?_;refine aA ?_;refine aIQ rfl rfl (c:=Hu s x.ck i / 4294967296) (by decide) (by show Int.fdiv _ (2 ^ 32)=_;rw[Int.fdiv_eq_ediv_of_nonneg _ (by decide)];rfl) (by decide) ?_;refine Ce (ds:=.int .u64) (kd:=.u32) (by kernel_rfl) (by kernel_rfl) rfl rfl (by decide) ?_;refine eH fun g2=>?_;refine aA ?_;refine dG [] [0] [] (by simp) rfl (by decide) (by decide) fun q hq _ hfr=>?_;obtain⟨F2,wH,vM⟩:=hq 0 _ (by simp) rfl
      have dS:=qL (Y:=q.Z) (sz:=1) (n:=2) (c:=2) wH vM rfl
      exact aP (h:=fun w1 st=>⟨_,rfl,_,_,rfl,aI.le dS (st.mQ (by simp) (hfr (by simp) (by simp)))⟩)
     ·have m1:cN v 0 8≠6:=by simpa using h6
      have hm:nV s x (v::l)=[]:=(if_neg n1).trans ((if_neg fun h=>p1 h.1).trans ((if_neg fun h=>p2 h.1).trans (if_neg fun h=>m1 h.2)))
      rw[hm];refine aA ?_;exact aP (h:=fun _ _=>⟨_,rfl,_,_,rfl,rfl,fun h=>absurd h (by simp)⟩)
    ·have p3:cN v 10 8≠20:=by simpa using h5
     have hm:nV s x (v::l)=[]:=(if_neg n1).trans ((if_neg fun h=>p1 h.1).trans ((if_neg fun h=>p2 h.1).trans (if_neg fun h=>p3 h.1)))
     rw[hm];refine aA ?_;exact aP (h:=fun _ _=>⟨_,rfl,_,_,rfl,rfl,fun h=>absurd h (by simp)⟩)
end
section
def gI(f:Nat)(hL:HL)(s:aC)(z:cJ)(x:aU):HP:=HP.many [Bz f hL.h s z,dN hL s x]
def kB(z:cJ)(a:Nat):List Int:=if a=0 then z.w0 else z.w1
def Ji(s:aC)(x:aU)(l:List Int)(st:Int):List Int:=l.headD 0::IntKind.u32.wrap st::(if st=0 then nV s x l else[])
def aFp(z:cJ)(a:Nat)(hs:Int)(l:List Int):cJ:=if a=0 then {z with h0:=hs,w0:=l} else {z with h1:=hs,w1:=l}
def yH(s:aC)(x:aU)(z:cJ)(a:Nat)(st:Int):cJ:=aFp z a 2 (Ji s x (kB z a) st)
structure tA(l:List Int):Prop where
 ne:∃v r,l=v::r∧cN v 28 4=0∧((cN v 10 8=17∧cN v 0 8=5)∨(cN v 10 8=20∧cN v 0 8=6)→∃i,r=[i]∧0≤i∧i < 4294967296)
theorem aFD(s:aC)(x:aU)(l:List Int):(nV s x l).length≤2:=by
 unfold nV;dsimp only;split
 ·simp
 ·split
  ·simp
  ·split
   ·simp
   ·split<;>simp
section
variable{N:cE}{w0 w:World}{e:Env}{R:List Piece}{H:List HP}{K:Act→World→Prop}{f h:Nat}{L:fQ}{s:aC}{z:cJ}{v:Int}{r:List Int}
theorem eB.at_{a:AC}{w:World}(hb:eB a (v::r) (all w)):∃b off,a.1=some ⟨b,off,none⟩∧w.cell? ⟨b,off,none⟩=some (.int .u32 v):=by
 obtain⟨b,off,hA,hc⟩:=aI.u32 hb (by simp);exact⟨b,off,hA,by have:=(hc 0 v rfl).2;simpa using this⟩
end
section
variable{P:Program}{N:cE}{w0 w:World}{e:Env}{R:List Piece}{H:List HP}{K:Act→World→Prop}{f h:Nat}{L:fQ}{s:aC}{z:cJ}{Q:Exit→Act→World→Prop}
theorem Rd.eC(i:Nat){o:Nat}{v:Value}(hi:H[i]? =some (iF f h L s z))(hv:(jH h L s z)[o]? =some v):Rd w0 R H f o v:=fun w t=>by
 have:=((t.Dp i hi).r0.at_ hv).2
 rwa [Nat.zero_add] at this
theorem aM.eC(i:Nat){o:Nat}{vs:List Value}(hi:H[i]? =some (iF f h L s z))(hv:((jH h L s z).drop o).take vs.length=vs):aM w0 R H f o vs:=.of fun _ _ hj=>Rd.eC i hi (aDo hv hj)
end
def vG(L:fQ)(b:Nat):AC:=if b=0 then L.b0 else L.b1
section
variable{h:Nat}{L:fQ}{s:aC}{z:cJ}
theorem aGH{b:Nat}(hb:b < 2):(jH h L s z)[12+b*2]? =some (.slice (vG L b).1 (kB z b).length (vG L b).2):=by
 obtain rfl | rfl:b=0∨b=1:=by omega
 ·rfl
 ·rfl
theorem Ca.box{w:World}{f:Nat}(k:Ca w f h L s z){b:Nat}(hb:b < 2):aI (all w) 1 (vG L b).1 (kB z b).length (dV (kB z b)):=by
 obtain rfl | rfl:b=0∨b=1:=by omega
 ·exact k.b0
 ·exact k.b1
theorem Ca.stR{w:World}{f:Nat}(k:Ca w f h L s z):sY (all w) z.x z.y (.agg #[.slice L.x1.1 z.x.d.length L.x1.2,.slice L.x2.1 z.x.c.length L.x2.2,.slice L.x3.1 z.x.l.length L.x3.2,.slice L.y1.1 z.y.d.length L.y1.2,.slice L.y2.1 z.y.c.length L.y2.2,.slice L.y3.1 z.y.l.length L.y3.2]):=
 ⟨_,_,_,_,_,_,_,_,_,_,_,_,rfl,k.st.1,k.st.2.1,k.st.2.2.1,k.st.2.2.2.1,k.st.2.2.2.2.1,k.st.2.2.2.2.2⟩
end
section
variable{N:cE}{w0 w:World}{e:Env}{R:List Piece}{H:List HP}{K:Act→World→Prop}{f h:Nat}{L:fQ}{s:aC}{z:cJ}{v:Int}{r:List Int}
theorem aRG{a:Nat}(ha:a < 2)(i:Nat)(hi:H[i]? =some (iF f h L s z))(hw:kB z a=v::r)(k:∀b off,(vG L a).1=some ⟨b,off,none⟩→Rd w0 R H b off (.int .u32 v)→XK N w0 K e R H):XK N w0 K e R H:=fun a w hr st=>by
 obtain⟨b,off,hA,_⟩:=eB.at_ (hw▸(st.Dp i hi).box ha);refine k b off hA (fun w1 t=>?_) a w hr st;obtain⟨b',off',pP,hc⟩:=eB.at_ (hw▸(t.Dp i hi).box ha);rw[hA] at pP;cases pP;exact hc
end
theorem aCR(f:Nat)(hL:HL)(s:aC)(z:cJ)(x:aU)(hH:s.dK)(aQ:gA hL s)(hok:cX s x)(a:Nat)(ha:a < 2)(st:Int)(hst:st=0→tA (kB z a))(w:World)(F:Nat→Prop)(hp:(gI f hL s z x).sat F w)(hF:∀b,F b→b < w.heap.size):
  Cz 92 #[pt f,iv (a:Int),.int .i32 st] w (Wr (.tuple #[]) (gI f hL s (yH s x z a st) x) w F):=by
 unfold yH Ji;generalize hb:kB z a=l at hst⊢;refine cT func92 ntmps92 hp hF ?_;refine aW 0 0 ?_;refine iT 0 fun L=>?_;refine aA ?_;refine kd (fG a (11+a*2)) ?_;refine aA ?_;refine kd (bH rfl (Rd.eC 0 rfl (v:=.slice (vG L a).1 l.length (vG L a).2) (by rw[show 11+a*2+1=12+a*2 by omega,←hb];exact aGH ha))) ?_;refine aB ?_;refine Rh (α:=Unit) (fun _=>[(7,.int .u32 (l.headD 0)),(6,.slice (vG L a).1 l.length (vG L a).2),(2,.int .i32 st),(1,iv (a:Int)),(0,pt f)]) (fun _=>[iF f hL.h L s z,HP.many [bX,dN hL s x]]) (fun _=>True) ?_ fun _ _=>?_
 ·refine aG rfl (fun h=>?_) (fun h=>?_)
  ·cases l with
   | nil=>simp at h
   | cons v r=>
    refine aRG ha 0 rfl hb fun b off hA hrd=>?_;rw[hA];refine aB ?_;exact dJ ()
  ·cases l with
   | nil=>
    refine aB ?_;exact dJ ()
   | cons v r=>simp at h
 refine aB ?_;refine Rh (α:=AC) (fun q=>[(8,.slice q.1 (if st=0 then nV s x l else[]).length q.2),(7,.int .u32 (l.headD 0)),(2,.int .i32 st),(1,iv (a:Int)),(0,pt f)]) (fun q=>[HP.bU (eB q (if st=0 then nV s x l else[])) (eB.le (a:=q) (l:=if st=0 then nV s x l else[])),iF f hL.h L s z,HP.many [bX,dN hL s x]]) (fun _=>True) ?_ fun q _=>?_
 ·refine aG rfl (fun h=>?_) (fun h=>?_)
  ·rw[if_pos h];obtain⟨v,r,rfl,hu,Da⟩:=(hst h).ne;refine aW 1 1 ?_;refine aB ?_
   refine kA [] (fun v' w w'=>aBd (nV s x (v::r)) v' w w') (fun w1 t=>by
    have hf:=t.Dp 1 rfl
    have jF:=hf.box ha
    obtain⟨b,off,hA,_⟩:=eB.at_ (hb▸jF);rw[hb,hA] at jF
    have:=aOw f _ s z hL x hH hok.dm _ (vG L a).2 v r w1 hf (t.mA 0 rfl aQ hok) jF hu Da
    rw[←hA] at this
    exact this) ?_
   rintro _ w3 q3 ⟨Am,cm,rfl,dS⟩ hq3 _ hF3
   have dS:=dS.le hq3
   refine aJ 1 1 ?_;refine Jm (Φ:=eB (Am,cm) (nV s x (v::r))) (hm:=eB.le) (hF3 (by simp)) (fun p hp b hb=>by simp at hp;subst hp;exact hb.1) dS ?_;refine aB ?_;exact dJ (Am,cm)
  ·rw[if_neg h];refine nU (p:=HP.bU (eB (none,0) []) (eB.le (a:=(none,0)) (l:=[]))) (fun w=>aAy _ rfl) ?_;refine aB ?_;exact dJ (none,0)
 have hml:(if st=0 then nV s x l else[]).length≤2:=by
  split
  ·exact aFD s x l
  ·simp
 generalize hM:(if st=0 then nV s x l else[])=M at hml⊢;refine aW 1 0 ?_;refine iZ [7,8] ?_;refine bJ 0 ?_;refine bJ 1 ?_;refine bJ 2 ?_;refine bJ 3 ?_;refine bJ 4 ?_;refine aK 7 ?_;refine aK 8 ?_;refine aL 5 ?_;refine eM (aBe (l.headD 0::IntKind.u32.wrap st::M)) (fun w1 t=>aQO _ st _ rfl q.1 M.length q.2 M w1 (t.bU 1 rfl) rfl (by omega)) ?_;rintro _ _ q9 ⟨An,cn,rfl,rfl⟩ _;dsimp only[List.cons_append,List.nil_append];refine bB ?_;refine aL 6 ?_;refine kd (iG rfl) ?_;refine bB ?_;refine aL 9 ?_;refine kd (fG a (11+a*2)) ?_;refine cI ?_;refine aL 10 ?_;refine pW 1 (t:=175) rfl rfl rfl (by kernel_rfl) (by simp[Value.cells,Value.oneCell']) (by simp[Value.cells,jH];omega) ?_;dsimp only[List.set];refine cI ?_;refine dY ?_;refine xL 0 (Φ:=eB (An,cn) (l.headD 0::IntKind.u32.wrap st::M)) (hm:=eB.le) rfl (fun p hp=>hp) ?_;obtain rfl | rfl:a=0∨a=1:=by omega
 ·refine aW 3 3 ?_;refine aT [1,2,4,5] rfl (by decide) (R':=[⟨w,fun b=>b < w.heap.size∧¬F b⟩]) (by simp) ?_;refine aJ 1 3 ?_;refine zB (h:=hL.h) (s:=s) (z:={z with h0:=2,w0:=l.headD 0::IntKind.u32.wrap st::M}) {L with b0:=(An,cn)} 0 rfl ?_;dsimp only[List.set];refine aJ 0 0 ?_;exact fA 0 hF
 ·refine aW 3 4 ?_;refine aT [1,2,4,5] rfl (by decide) (R':=[⟨w,fun b=>b < w.heap.size∧¬F b⟩]) (by simp) ?_;refine aJ 1 4 ?_;refine zB (h:=hL.h) (s:=s) (z:={z with h1:=2,w1:=l.headD 0::IntKind.u32.wrap st::M}) {L with b1:=(An,cn)} 0 rfl ?_;dsimp only[List.set];refine aJ 0 0 ?_;exact fA 0 hF
end
section
def yO(z:cJ)(a:Nat):Int:=if a=0 then z.h0 else z.h1
def sC(z:cJ):Option Nat:=if yO z (1 - z.last).toNat=1 then some (1 - z.last).toNat else if yO z z.last.toNat=1 then some z.last.toNat else none
def mH(s:aC)(x:aU):List Int:=(List.range s.aD.length).map fun i=>(oK x.wt i:Int)
theorem aOn(f:Nat)(hL:HL)(s:aC)(z:cJ)(x:aU)(hl:z.last=0∨z.last=1)(hn:sC z=none)(w:World)(F:Nat→Prop)(hp:(gI f hL s z x).sat F w)(hF:∀b,F b→b < w.heap.size):
  Cz 90 #[pt f] w (Wr (.bool false) (gI f hL s z x) w F):=by
 have hno:z.h0≠1∧z.h1≠1:=by
  unfold sC at hn;rcases hl with h | h<;>rw[h] at hn<;>simp[yO] at hn<;>by_cases p:z.h0=1<;>by_cases q:z.h1=1<;>simp[p,q] at hn⊢
 refine cT func90 ntmps90 hp hF ?_;refine aW 0 0 ?_;refine Xj 0 rfl fun L=>?_;dsimp only[List.set,jH];rcases hl with hl | hl<;>rw[hl]
 ·refine aA ?_;refine kd (fG 1 13) ?_;refine aA ?_;refine aG rfl (fun _=>?_) (fun h=>absurd h (by simp[hno.2]));refine aA ?_;refine kd (fG 0 11) ?_;refine aA ?_;refine aG rfl (fun _=>?_) (fun h=>absurd h (by simp[hno.1]));refine aA ?_;rw[←hl];refine zB (h:=hL.h) (s:=s) (z:=z) L 0 rfl ?_;dsimp only[List.set];refine aJ 0 0 ?_;exact bP 0 hF
 ·refine aA ?_;refine kd (fG 0 11) ?_;refine aA ?_;refine aG rfl (fun _=>?_) (fun h=>absurd h (by simp[hno.1]));refine aA ?_;refine kd (fG 1 13) ?_;refine aA ?_;refine aG rfl (fun _=>?_) (fun h=>absurd h (by simp[hno.2]));refine aA ?_;rw[←hl];refine zB (h:=hL.h) (s:=s) (z:=z) L 0 rfl ?_;dsimp only[List.set];refine aJ 0 0 ?_;exact bP 0 hF
end
section
def Xv(P:Program)(c:Code)(Q:Exit→Act→World→Prop):Nat→Act→World→Prop
 | 0=>fun _ _=>False
 | n+1=>c.wp P (Exit.then (Xv P c Q n) Q)
section
variable{P:Program}{N:cE}{w0:World}{e:Env}{R:List Piece}{H:List HP}{Q:Exit→Act→World→Prop}{c:Code}{n:Nat}
theorem aRv(n:Nat)(h:XK N w0 (Xv P c Q n) e R H):XK N w0 ((Code.loop c).wp P Q) e R H:=fun a w hr st=>by
 refine aBq (Xv P c Q) n (h a w hr st) fun n a w hI=>?_;cases n with
 | zero=>exact absurd hI (fun h=>h)
 | succ n=>
  refine wp_mono hI fun x a' w' hq=>?_;cases x with
  | normal=>exact⟨n,Nat.lt_succ_self n,hq⟩
  | _=>exact hq
theorem aAZ{y:Code}{x:Code}(M:Env→List Piece→List HP→Prop)(h:XK N w0 (x.wp P (Exit.then (fun a' w'=>∃e' R' H',M e' R' H'∧eA N e' a'∧St w0 R' H' w') Q)) e R H)
  (hy:∀e' R' H',M e' R' H'→XK N w0 (y.wp P Q) e' R' H'):XK N w0 (x.wp P (Exit.then (y.wp P Q) Q)) e R H:=fun a w hr st=>
 wp_mono (h a w hr st) fun x a' w' hq=>by
  cases x with
  | normal=>
   obtain⟨e',R',H',hm,hr',st'⟩:=hq;exact hy e' R' H' hm a' w' hr' st'
  | _=>exact hq
theorem aD4(h:XK N w0 (c.wp P (Exit.then (Xv P c Q n) Q)) e R H):XK N w0 (Xv P c Q (n+1)) e R H:=h
end
theorem aPc(x y:dZ)(ag:Nat)(k id:Int):(lH x ag k id).d.length=x.d.length∧(lH x ag k id).c.length=x.c.length∧(lH x ag k id).l.length=x.l.length∧(lG y ag k id).d.length=y.d.length∧(lG y ag k id).c.length=y.c.length∧(lG y ag k id).l.length=y.l.length:=by
 have h:∀z:dZ,(oL z k id).d.length=z.d.length∧(oL z k id).c.length=z.c.length∧(oL z k id).l.length=z.l.length:=fun z=>by
  unfold oL;split
  ·exact⟨Nt _ _ _,rfl,rfl⟩
  ·split
   ·exact⟨rfl,Nt _ _ _,rfl⟩
   ·split
    ·exact⟨rfl,rfl,Nt _ _ _⟩
    ·exact⟨rfl,rfl,rfl⟩
 unfold lH lG;split
 ·exact⟨(h x).1,(h x).2.1,(h x).2.2,rfl,rfl,rfl⟩
 ·exact⟨rfl,rfl,rfl,(h y).1,(h y).2.1,(h y).2.2⟩
theorem aEP(k id:Int)(z:dZ):((∀a b c,gD k a b c=sn)∧oL z k id=z)∨((∀a b c,gD k a b c=a)∧oL z k id=⟨yF z.d id (decide (qR k)),z.c,z.l⟩)∨((∀a b c,gD k a b c=b)∧oL z k id=⟨z.d,yF z.c id (decide (qR k)),z.l⟩)∨((∀a b c,gD k a b c=c)∧oL z k id=⟨z.d,z.c,yF z.l id (decide (qR k))⟩):=by
 by_cases k0:k=117∨k=100∨k=107
 ·exact .inr (.inl ⟨fun a b c=>by rw[gD,if_pos k0],by rw[oL,if_pos k0]⟩)
 by_cases k1:k=99∨k=111
 ·exact .inr (.inr (.inl ⟨fun a b c=>by rw[gD,if_neg k0,if_pos k1],by rw[oL,if_neg k0,if_pos k1]⟩))
 by_cases k2:k=114∨k=97
 ·exact .inr (.inr (.inr ⟨fun a b c=>by rw[gD,if_neg k0,if_neg k1,if_pos k2],by rw[oL,if_neg k0,if_neg k1,if_pos k2]⟩))
 exact .inl ⟨fun a b c=>by rw[gD,if_neg k0,if_neg k1,if_neg k2],by rw[oL,if_neg k0,if_neg k1,if_neg k2]⟩
theorem aLD{l:List Bool}{id:Int}{n:Nat}{cs:List Value}{b:Bool}(h:cs.take n=bG l)(hi:0≤id∧id < (l.length:Int)):(cs.set id.toNat (.bool b)).take (n*1)=bG (yF l id b):=by
 rw[Nat.mul_one,←aQE _ hi,←h,List.take_set]
theorem Rc{N:cE}{w0:World}{e:Env}{R:List Piece}{H H':List HP}{K:Act→World→Prop}{t:TypeId}{A:Option Addr}{n c:Nat}{xs:List Value}(i:Nat)(he:e.get 10=some (.slice A n c))(hH:yG (i::(List.range 9).filter (· !=i)) H=some (HP.own t 1 (.slice A n c) n xs::H'))(hn:(i::(List.range 9).filter (· !=i)).Nodup)(h:XK N w0 K e R (HP.own t 1 (.slice A n c) n xs::H')):XK N w0 K e R H:=aT _ hH hn (fun _ h=>h) h
theorem aPe(qx:Piece)(X1 X2 X3 Y1 Y2 Y3:Option Addr)(vT vS vR vP vO vN:Nat)(x y:dZ)(ag:Nat)(k id:Int)(w:World)(Fh:qx.Le (all w))(hag:ag < 2)(hbx:x.sm)(hby:y.sm)(s0:aI qx 1 X1 x.d.length (bG x.d))(s1:aI qx 1 X2 x.c.length (bG x.c))(s2:aI qx 1 X3 x.l.length (bG x.l))(s3:aI qx 1 Y1 y.d.length (bG y.d))(s4:aI qx 1 Y2 y.c.length (bG y.c))(s5:aI qx 1 Y3 y.l.length (bG y.l)):
  Cz 137 #[.agg #[.slice X1 x.d.length vT,.slice X2 x.c.length vS,.slice X3 x.l.length vR,.slice Y1 y.d.length vP,.slice Y2 y.c.length vO,.slice Y3 y.l.length vN],iv (ag:Int),.agg #[.int .u8 k,iv id]] w (Rp (fun v w w'=>sY (fresh w w') (lH x ag k id) (lG y ag k id) v) w):=by
 obtain⟨h0,h1,h2⟩:=hbx;obtain⟨h3,h4,h5⟩:=hby;refine aO func137 ntmps137 ?_;refine yZ qx (by simp) Fh ?_;refine aA ?_;refine bO fun g1=>?_;refine bO fun g2=>?_;refine bY fun g3=>?_;refine aA ?_;refine bY fun g4=>?_;refine aA ?_;refine aRv 3 ?_;refine aD4 ?_;refine aA ?_;refine aEr 0 (len:=2) (n:=3) (by kernel_rfl) rfl rfl rfl (by decide) rfl (by decide) ?_;refine bY fun g5=>?_;refine aA ?_;refine iZ [1,2,4,5,7,8,11] ?_;refine bJ 0 ?_;refine aK 1 ?_;refine aK 2 ?_;refine aK 4 ?_;refine aK 5 ?_;refine aK 7 ?_;refine aK 8 ?_;refine aK 11 ?_;refine aL 3 ?_;refine eM (Nb x.d.length (bG x.d)) (fun w1 st=>Qo _ _ _ _ w1 (s0.le (st.le (by simp))) (Qw _) (by have:=h0;omega)) ?_;rintro _ _ q0 ⟨B0,c0,rfl,rfl⟩ _;dsimp only[List.cons_append,List.nil_append];refine bB ?_ (hS:=fun _ h=>h.bE.tail);refine aL 6 ?_;refine eM (Nb x.c.length (bG x.c)) (fun w1 st=>Qo _ _ _ _ w1 (s1.le (st.le (by simp))) (Qw _) (by have:=h1;omega)) ?_;rintro _ _ q1 ⟨B1,c1,rfl,rfl⟩ _;dsimp only[List.cons_append,List.nil_append];refine bB ?_ (hS:=fun _ h=>h.bE.bE.tail.tail);refine aL 9 ?_;refine eM (Nb x.l.length (bG x.l)) (fun w1 st=>Qo _ _ _ _ w1 (s2.le (st.le (by simp))) (Qw _) (by have:=h2;omega)) ?_;rintro _ _ q2 ⟨B2,c2,rfl,rfl⟩ _;dsimp only[List.cons_append,List.nil_append];refine bB ?_ (hS:=fun _ h=>h.bE.bE.bE.tail.tail.tail);refine aL 10 ?_;refine kd (iG rfl) ?_;refine bB ?_ (hS:=fun _ h=>h.bE.bE.bE.tail.tail.tail);refine aL 12 ?_;refine kd (fG (sz:=3) 0 0) ?_;refine cI ?_;refine aL 13 ?_;refine rN rfl rfl ?_;simp only[fR,Value.cells,List.set,List.take,List.drop,List.nil_append,List.append_nil,List.length_cons,List.length_nil,List.cons_append,Nat.reduceAdd];refine cI ?_;refine dY ?_;refine aA ?_;refine aT [2,1,0,4,5,6,7] rfl (by decide) (R':=[qx,all w]) (by simp) ?_;refine aD4 ?_;refine aA ?_;refine aEr 1 (len:=2) (n:=3) (by kernel_rfl) rfl rfl rfl (by decide) rfl (by decide) ?_;refine bY fun g6=>?_;refine aA ?_;refine iZ [1,2,4,5,7,8,11] ?_;refine bJ 0 ?_;refine aK 1 ?_;refine aK 2 ?_;refine aK 4 ?_;refine aK 5 ?_;refine aK 7 ?_;refine aK 8 ?_;refine aK 11 ?_;refine aL 3 ?_;refine eM (Nb y.d.length (bG y.d)) (fun w1 st=>Qo _ _ _ _ w1 (s3.le (st.le (by simp))) (Qw _) (by have:=h3;omega)) ?_;rintro _ _ q3 ⟨B3,c3,rfl,rfl⟩ _;dsimp only[List.cons_append,List.nil_append];refine bB ?_ (hS:=fun _ h=>h.bE.tail);refine aL 6 ?_;refine eM (Nb y.c.length (bG y.c)) (fun w1 st=>Qo _ _ _ _ w1 (s4.le (st.le (by simp))) (Qw _) (by have:=h4;omega)) ?_;rintro _ _ q4 ⟨B4,c4,rfl,rfl⟩ _;dsimp only[List.cons_append,List.nil_append];refine bB ?_ (hS:=fun _ h=>h.bE.bE.tail.tail);refine aL 9 ?_;refine eM (Nb y.l.length (bG y.l)) (fun w1 st=>Qo _ _ _ _ w1 (s5.le (st.le (by simp))) (Qw _) (by have:=h5;omega)) ?_;rintro _ _ q5 ⟨B5,c5,rfl,rfl⟩ _;dsimp only[List.cons_append,List.nil_append];refine bB ?_ (hS:=fun _ h=>h.bE.bE.bE.tail.tail.tail);refine aL 10 ?_;refine kd (iG rfl) ?_;refine bB ?_ (hS:=fun _ h=>h.bE.bE.bE.tail.tail.tail);refine aL 12 ?_;refine kd (fG (sz:=3) 1 3) ?_;refine cI ?_;refine aL 13 ?_;refine rN rfl rfl ?_;simp only[fR,Value.cells,List.set,List.take,List.drop,List.nil_append,List.append_nil,List.length_cons,List.length_nil,List.cons_append,Nat.reduceAdd];refine cI ?_;refine dY ?_;refine aA ?_;refine aT [4,5,6,2,1,0,9,7,8] rfl (by decide) (R':=[qx,all w]) (by simp) ?_;refine aD4 ?_;refine aA ?_;refine cG (t:=33) rfl (fun h=>absurd h (by omega)) (fun _=>?_);refine aA ?_;refine aG rfl (fun h=>absurd h (by omega)) (fun _=>?_);refine aA ?_;obtain⟨X,hX⟩:∃z,z=lH x ag k id:=⟨_,rfl⟩
 obtain⟨Y,hY⟩:∃z,z=lG y ag k id:=⟨_,rfl⟩
 have hl:=aPc x y ag k id
 rw[←hX,←hY] at hl⊢;obtain rfl | rfl:ag=0∨ag=1:=by omega
 have hc:=aEP k id x
 refine iZ [1,2,3,4] ?_;refine bJ 0 ?_;refine aK 1 ?_;refine aK 2 ?_ (cM:=fG (sz:=3) 0 0);refine aK 3 ?_;refine aK 4 ?_;refine aL 5 ?_;refine aS (fun w1 t=>aCk g4 0 k (.slice B0 x.d.length c0) (.slice B1 x.c.length c1) (.slice B2 x.l.length c2) w1 (by simpa using(t.box (i:=7) rfl).at_ (j:=0) rfl) (by simpa using(t.box (i:=7) rfl).at_ (j:=1) rfl) (by simpa using(t.box (i:=7) rfl).at_ (j:=2) rfl)) ?_
 rotate_left
 have hc:=aEP k id y
 refine iZ [1,2,3,4] ?_;refine bJ 0 ?_;refine aK 1 ?_;refine aK 2 ?_ (cM:=fG (sz:=3) 1 3);refine aK 3 ?_;refine aK 4 ?_;refine aL 5 ?_;refine aS (fun w1 t=>aCk g4 3 k (.slice B3 y.d.length c3) (.slice B4 y.c.length c4) (.slice B5 y.l.length c5) w1 (by simpa using(t.box (i:=7) rfl).at_ (j:=3) rfl) (by simpa using(t.box (i:=7) rfl).at_ (j:=4) rfl) (by simpa using(t.box (i:=7) rfl).at_ (j:=5) rfl)) ?_
 all_goals
  refine cI ?_;refine aL 6 ?_;refine bF ?_;refine cI ?_;refine dY ?_;refine eK ?_;refine aT [0,1,2,3,4,5,6,7,8] rfl (by decide) (fun _ h=>h) ?_;refine bN [(10,_),(7,pt g4),(6,pt g3),(5,pt g2)] ?_;refine aAZ (fun e R H=>e=[(7,pt g4),(6,pt g3)]∧R=[qx,all w]∧H=[HP.own 4 1 (.slice B0 x.d.length c0) x.d.length (bG X.d),HP.own 4 1 (.slice B1 x.c.length c1) x.c.length (bG X.c),HP.own 4 1 (.slice B2 x.l.length c2) x.l.length (bG X.l),HP.own 4 1 (.slice B3 y.d.length c3) y.d.length (bG Y.d),HP.own 4 1 (.slice B4 y.c.length c4) y.c.length (bG Y.c),HP.own 4 1 (.slice B5 y.l.length c5) y.l.length (bG Y.l),HP.aE g2 50 [.int .u8 k,iv id],HP.aE g4 58 [.slice B0 x.d.length c0,.slice B1 x.c.length c1,.slice B2 x.l.length c2,.slice B3 y.d.length c3,.slice B4 y.c.length c4,.slice B5 y.l.length c5],HP.aE g3 58 [sn,sn,sn,sn,sn,sn]]) ?_ ?_
  ·clear hl;simp only[lH,lG,if_true,if_false,Nat.one_ne_zero] at hX hY;subst hX hY;obtain⟨h,h2⟩ | hc:=hc
   ·rw[h,h2];refine aA ?_;refine cG (t:=47) rfl (fun hid=>?_) (fun hid=>?_)
    ·refine aA ?_;refine aG rfl (fun h=>absurd h (by omega)) (fun _=>?_);refine aA ?_;exact nK ⟨rfl,rfl,rfl⟩
    ·refine aA ?_;exact nK ⟨rfl,rfl,rfl⟩
   rcases hc with⟨h,h2⟩ | ⟨h,h2⟩ | ⟨h,h2⟩
   all_goals
    rw[h,h2];dsimp only
    first | refine Rc 0 rfl rfl (by decide) ?_ | refine Rc 1 rfl rfl (by decide) ?_ | refine Rc 2 rfl rfl (by decide) ?_ | refine Rc 3 rfl rfl (by decide) ?_ | refine Rc 4 rfl rfl (by decide) ?_ | refine Rc 5 rfl rfl (by decide) ?_
    refine aA ?_;refine cG (t:=47) rfl (fun hid=>?_) (fun hid=>?_)
    ·refine aA ?_;refine aG rfl (fun aC4=>?_) (fun aC4=>?_)
     ·have hin:=And.intro hid aC4
      refine aAQ 0 rfl (by omega) ?_;rintro⟨gb,rfl⟩;refine Gp 0 rfl fun cs jS hct hnc Lp=>?_;simp only[Nat.mul_one] at jS hct;dsimp only[List.set];refine iZ [1,2,3,4] ?_;refine bJ 0 ?_;refine aK 1 ?_;refine aK 2 ?_;refine aK 3 ?_;refine aK 4 ?_;refine aL 5 ?_;refine aS (fun w1 t=>aBR k w1) ?_;refine bB ?_;refine aL 6 ?_;refine kd (dat id.toNat id.toNat) ?_;refine cI ?_;refine aL 7 ?_;refine eO rfl rfl ?_;dsimp only[List.set];refine cI ?_;refine dY ?_;refine aA ?_;refine Eb 0 (sz:=1) rfl (by simpa using jS) (aLD hct hin) hnc Lp ?_;dsimp only[List.set];exact nK ⟨rfl,rfl,rfl⟩
     ·rw[aEQ _ fun h=>aC4 h.2];refine aA ?_;exact nK ⟨rfl,rfl,rfl⟩
    ·rw[aEQ _ fun h=>hid h.1];refine aA ?_;exact nK ⟨rfl,rfl,rfl⟩
  ·rintro _ _ _ ⟨rfl,rfl,rfl⟩;refine aT [7,8,0,1,2,3,4,5] rfl (by decide) (fun _ h=>h) ?_;refine aA ?_;refine dG [] [2,3,4,5,6,7] [0,1] (by simp) rfl (by decide) (by decide) fun q hq _ hfr=>?_;refine Gn rfl (n:=6) (vs:=[.slice B0 x.d.length c0,.slice B1 x.c.length c1,.slice B2 x.l.length c2,.slice B3 y.d.length c3,.slice B4 y.c.length c4,.slice B5 y.l.length c5]) (by kernel_rfl) rfl rfl (aM.whole 1 rfl) fun w1 st=>⟨⟨_,rfl,?_⟩,st.below (by simp)⟩
   have hle:=st.mQ (by simp) (hfr (by simp) (by simp))
   obtain⟨l1,l2,l3,l4,l5,l6⟩:=hl
   have hs:∀{A n c xs},(∃F,(HP.own 4 1 (.slice A n c) n xs).sat F q.w∧∀b,F b→q.Z b)→aI (fresh w w1) 1 A n xs:=fun h=>(aI.own h).le hle
   refine⟨B0,c0,B1,c1,B2,c2,B3,c3,B4,c4,B5,c5,?_,?_,?_,?_,?_,?_,?_⟩
   ·rw[l1,l2,l3,l4,l5,l6]
   ·rw[l1];exact hs (hq 2 _ (by simp) rfl)
   ·rw[l2];exact hs (hq 3 _ (by simp) rfl)
   ·rw[l3];exact hs (hq 4 _ (by simp) rfl)
   ·rw[l4];exact hs (hq 5 _ (by simp) rfl)
   ·rw[l5];exact hs (hq 6 _ (by simp) rfl)
   ·rw[l6];exact hs (hq 7 _ (by simp) rfl)
end
section
section
variable{h:Nat}{L:fQ}{s:aC}{z:cJ}
theorem aGG{b:Nat}(hb:b < 2):(jH h L s z)[11+b*2]? =some (iv (yO z b)):=by
 obtain rfl | rfl:b=0∨b=1:=by omega
 ·rfl
 ·rfl
end
structure Ee(s:aC)(z:cJ):Prop where
 la:z.last=0∨z.last=1
 u0:nB z.w0
 u1:nB z.w1
 n0:z.w0.length≤1000000
 n1:z.w1.length≤1000000
 sx:z.x.sm
 sy:z.y.sm
theorem Ee.box{s:aC}{z:cJ}(h:Ee s z)(b:Nat):nB (kB z b)∧(kB z b).length≤1000000:=by
 unfold kB;split
 ·exact⟨h.u0,h.n0⟩
 ·exact⟨h.u1,h.n1⟩
def gH(s:aC)(x:aU)(z:cJ)(a:Nat):Int×Int×Int:=nZ s z.x z.y (mH s x) a (kB z a)
def wA(s:aC)(x:aU)(z:cJ)(a:Nat):cJ×Bool:=
 let d:=gH s x z a
 if d.2.1=0 then(yH s x {z with last:=a} a d.1,false)
 else({z with last:=a,x:=lH z.x a d.2.1 d.2.2,y:=lG z.y a d.2.1 d.2.2,at_:=a,kind:=d.2.1,id:=d.2.2},true)
def nF(s:aC)(x:aU)(z:cJ):cJ×Bool:=match sC z with
 | none=>(z,false)
 | some a=>wA s x z a
theorem aGC(f:Nat)(hL:HL)(s:aC)(z:cJ)(x:aU)(hH:s.dK)(aQ:gA hL s)(hok:cX s x)(hz:Ee s z)(l a:Nat)(hl:z.last=(l:Int))(iA:l≤1)(ha:a < 2)(hab:(yO z (1 - l)=1∧a=1 - l)∨(yO z (1 - l)≠1∧a=l))(h1:yO z a=1)
  (hst:(gH s x z a).2.1=0→(gH s x z a).1=0→tA (kB z a)) (w:World) (F:Nat→Prop) (hp:(gI f hL s z x).sat F w) (hF:∀b,F b→b < w.heap.size):
  Cz 90 #[pt f] w (Wr (.bool (wA s x z a).2) (gI f hL s (wA s x z a).1 x) w F):=by
 have qW:=hH.t.nv
 unfold wA;generalize hdz:gH s x z a=dz at hst⊢;obtain⟨st,k,id⟩:=dz;dsimp only at hst⊢;obtain⟨hbu,hbn⟩:=hz.box a;refine cT func90 ntmps90 hp hF ?_;refine aW 0 0 ?_;refine iT 0 fun L=>?_
 have aG2:(jH hL.h L s z)[15]? =some (iv (l:Int)):=by rw[←hl];rfl
 refine dX ?_;refine fT ?_;refine bF ?_;refine fB ?_;refine dX ?_;refine fT ?_;refine bF ?_;refine bF ?_;refine bF ?_;refine kd (bH rfl (Rd.eC 0 rfl aG2)) ?_;refine kd (Me rfl rfl (c:=((1 - l:Nat):Int)) (by rw[show(1:Int) - (l:Int)=((1 - l:Nat):Int) by omega];exact iW (by omega))) ?_;refine bF ?_;refine fB ?_;refine Rf (fun e R H=>e=[(3,iv (a:Int)),(0,pt f)]∧R=[⟨w,fun b=>b < w.heap.size∧¬F b⟩]∧H=[iF f hL.h L s z,HP.many [bX,dN hL s x]]) ?_ ?_
 ·refine dX ?_;refine fT ?_;refine bF ?_;refine bF ?_;refine bF ?_;refine bF ?_;refine kd (fG (1 - l) (11+(1 - l)*2)) ?_;refine bF ?_;refine kd (bH rfl (Rd.eC 0 rfl (aGG (by omega)))) ?_;refine bF ?_;refine fB ?_;rcases hab with⟨h2,rfl⟩ | ⟨h2,rfl⟩
  ·refine aG rfl (fun h=>absurd h2 h) (fun _=>?_);refine nS ?_;refine eK ?_;exact nK ⟨rfl,rfl,rfl⟩
  ·refine aG rfl (fun _=>?_) (fun h=>absurd h2 h);refine fT ?_;refine bF ?_;refine bF ?_;refine bF ?_;refine kd (bH rfl (Rd.eC 0 rfl aG2)) ?_;refine bF ?_;refine fB ?_;exact nK ⟨rfl,rfl,rfl⟩
 rintro _ _ _ ⟨rfl,rfl,rfl⟩;refine aA ?_;refine kd (fG a (11+a*2)) ?_;refine aA ?_;refine kd (bH rfl (Rd.eC 0 rfl (aGG ha))) ?_;refine aA ?_;refine aG rfl (fun h=>absurd h1 h) (fun _=>?_);refine aA ?_;refine aW 0 0 ?_;refine eO rfl rfl ?_ (hs:=eL.mk 0 rfl cO.h rfl (by simp[jH]));dsimp only[List.set];rw[show(jH hL.h L s z).set (0+15) (iv (a:Int))=jH hL.h L s {z with last:=(a:Int)} from rfl];refine aJ 0 0 ?_
 change XK _ _ _ _ _ [iF f hL.h L s {z with last:=(a:Int)},HP.many [bX,dN hL s x]]
 generalize lY:({z with last:=(a:Int)}:cJ)=z1
 have e1:z1.x=z.x:=by rw[←lY]
 have e2:z1.y=z.y:=by rw[←lY]
 have e3:kB z1 a=kB z a:=by rw[←lY];rfl
 refine aA ?_;refine kd (bH rfl (Rd.eC 0 rfl rfl)) ?_;refine aA ?_;refine lT (n:=s.aD.length) 8 (el:=3) (z:=iv 0) (by kernel_rfl) (by kernel_rfl) rfl rfl rfl (by omega) (by omega) (by decide) fun gm=>?_;refine aA ?_;refine aW 2 1 ?_
 rw[show List.replicate s.aD.length (Value.int .i64 0)=aN (kH (mH s x) ((mH s x).map fun _=>0) 0) by
  rw[Tw];refine List.ext_getElem? fun j=>?_;simp only[aN,mH,List.map_map,List.getElem?_replicate,List.getElem?_map]
  by_cases h:j < s.aD.length
  ·rw[if_pos h,List.getElem?_range h];rfl
  ·rw[if_neg h,List.getElem?_eq_none (by simp;omega)];rfl]
 refine bN [(46,iv 0),(45,iv s.aD.length),(4,.slice (some ⟨gm,0,none⟩) s.aD.length s.aD.length),(3,iv (a:Int)),(0,pt f)] ?_
 have wQ:(mH s x).length=s.aD.length:=by simp[mH]
 refine eV (fun m e R H=>∃i:Nat,i≤s.aD.length∧m=s.aD.length - i∧e=[(46,iv i),(45,iv s.aD.length),(4,.slice (some ⟨gm,0,none⟩) s.aD.length s.aD.length),(3,iv (a:Int)),(0,pt f)]∧R=[⟨w,fun b=>b < w.heap.size∧¬F b⟩]∧H=[dN hL s x,HP.aE gm 3 (aN (kH (mH s x) ((mH s x).map fun _=>0) i)),iF f hL.h L s z1,HP.many [bX,bX]]) s.aD.length ⟨0,by omega,rfl,rfl,rfl,rfl⟩ fun m e R H hI=>?_;obtain⟨i,hi,rfl,rfl,rfl,rfl⟩:=hI
 have Uv:=Ty (vs:=mH s x) (old:=(mH s x).map fun _=>0) (n:=s.aD.length) wQ (by simp[mH]) hi
 have jS:(aN (kH (mH s x) ((mH s x).map fun _=>0) i)).length=s.aD.length:=by simp[aN,Uv]
 refine aA ?_;refine aG rfl (fun hlt=>?_) (fun hge=>?_)
 ·have hlt:i < s.aD.length:=by omega
  have hwi:(mH s x)[i]? =some (oK x.wt i:Int):=by simp[mH,hlt]
  have lF:(aN (kH (mH s x) ((mH s x).map fun _=>0) i)).set i (iv (oK x.wt i:Nat))=aN (kH (mH s x) ((mH s x).map fun _=>0) (i+1)):=by
   rw[←Tx (by simp) hwi,aN,aN,List.map_set]
  refine aA ?_;refine kd (bH rfl (Rd.eC 2 rfl rfl)) ?_;refine aA ?_;refine aS (fun w1 t=>aN8 hL s x w1 i hlt (t.mA 0 rfl aQ hok)) ?_;refine aA ?_;refine kd (dat i i) ?_;refine eO rfl rfl ?_;dsimp only[List.set];rw[lF];refine aA ?_;exact eR (s.aD.length - (i+1)) ⟨i+1,hlt,rfl,rfl,rfl,rfl⟩
 obtain rfl:i=s.aD.length:=by omega
 rw[Tz wQ (by simp[mH])];refine aJ 2 1 ?_;refine aA ?_;refine aAZ (fun e R H=>∃g7:Nat,e=[(7,pt g7),(6,.int .i32 st),(3,iv (a:Int)),(0,pt f)]∧R=[⟨w,fun b=>b < w.heap.size∧¬F b⟩]∧H=[HP.aE g7 50 [.int .u8 k,iv id],iF f hL.h L s z1,HP.many [bX,dN hL s x]]) ?_ ?_
 ·refine iZ [1,2,3,5,6,7,12,13,14,15,16,19,20] ?_;refine bJ 0 ?_;refine bJ 4 ?_;refine bJ 8 ?_;refine bJ 9 ?_;refine bJ 10 ?_;refine bJ 11 ?_;refine aK 1 ?_;refine aK 2 ?_;refine aK 3 ?_ (cM:=jM rfl (aM.eC 1 rfl (vs:=[.slice L.a1.1 s.aF.length L.a1.2,.slice L.a2.1 s.domains.length L.a2.2,.slice L.a3.1 s.aY.length L.a3.2,.slice L.a4.1 s.aD.length L.a4.2]) rfl));refine aK 5 ?_;refine aK 6 ?_;refine aK 7 ?_ (cM:=jM rfl (aM.eC 1 rfl (vs:=[.slice L.x1.1 z1.x.d.length L.x1.2,.slice L.x2.1 z1.x.c.length L.x2.2,.slice L.x3.1 z1.x.l.length L.x3.2,.slice L.y1.1 z1.y.d.length L.y1.2,.slice L.y2.1 z1.y.c.length L.y2.2,.slice L.y3.1 z1.y.l.length L.y3.2]) rfl));refine aK 12 ?_;refine aK 13 ?_;refine aK 14 ?_ (cM:=fG (sz:=2) a (11+a*2));refine aK 15 ?_;refine aK 16 ?_ (cM:=bH rfl (Rd.eC 1 rfl (v:=.slice (vG L a).1 (kB z1 a).length (vG L a).2) (by rw[show 11+a*2+1=12+a*2 by omega];exact aGH ha)))
  have yN:∀H:List HP,H[H.length - 2]? =some (iF f hL.h L s z1)→(H.length=3∨H.length=4)→H[H.length - 3]? =some (HP.aE gm 3 (aN (mH s x)))→∀w1,St w [⟨w,fun b=>b < w.heap.size∧¬F b⟩] H w1→Cz 13 #[.agg #[.slice L.a1.1 s.aF.length L.a1.2,.slice L.a2.1 s.domains.length L.a2.2,.slice L.a3.1 s.aY.length L.a3.2,.slice L.a4.1 s.aD.length L.a4.2],.agg #[.slice L.x1.1 z1.x.d.length L.x1.2,.slice L.x2.1 z1.x.c.length L.x2.2,.slice L.x3.1 z1.x.l.length L.x3.2,.slice L.y1.1 z1.y.d.length L.y1.2,.slice L.y2.1 z1.y.c.length L.y2.2,.slice L.y3.1 z1.y.l.length L.y3.2],.slice (some ⟨gm,0,none⟩) s.aD.length s.aD.length,iv (a:Int),.slice (vG L a).1 (kB z1 a).length (vG L a).2] w1 (Rt (aDw (st,k,id)) w1):=fun H h2 _ h3 w1 t=>by
   have kf:=t.Dp _ h2
   have:=aPD (all w1) (all w1) s _ _ _ _ _ L.a1.2 _ L.a2.2 _ L.a3.2 _ L.a4.2 _ _ _ _ _ _ _ L.x1.2 _ L.x2.2 _ L.x3.2 _ L.y1.2 _ L.y2.2 _ L.y3.2 z1.x z1.y (some ⟨gm,0,none⟩) s.aD.length s.aD.length (mH s x) a _ _ (vG L a).2 (kB z1 a) w1 kf.so hH.t (Piece.Le.refl _) kf.stR (Piece.Le.refl _) (t.uR h3 (by simp[aN,wQ])) wQ.symm ha (kf.box ha) rfl (by rw[e3];exact hbn) (by rw[e3];exact hbu)
   rw[show nZ s z1.x z1.y (mH s x) a (kB z1 a)=(st,k,id) by rw[e1,e2,e3];exact hdz] at this;exact this
  refine zD 17 21 rfl rfl (by kernel_rfl) ?_ ?_
  ·refine aS (fun w1 t=>yN _ rfl (.inl rfl) rfl w1 t) ?_;refine bB ?_;refine bJ 18 ?_;refine aK 19 ?_;refine aK 20 ?_;refine aL 21 ?_;refine bY fun g7=>?_;refine bB ?_;refine aL 22 ?_;refine bF ?_;refine bB ?_;refine aL 23 ?_;refine lO 0 rfl ?_;dsimp only[List.set];refine cI ?_;refine dY ?_;refine eK ?_;refine aT [0,2,3] rfl (by decide) (fun _ h=>h) ?_;exact nK ⟨g7,rfl,rfl,rfl⟩
  ·refine bY fun g7=>?_;refine bB ?_;refine aL 17 ?_;refine aS (fun w1 t=>yN _ rfl (.inr rfl) rfl w1 t) ?_;refine bB ?_;refine bJ 18 ?_;refine aK 19 ?_;refine aK 20 ?_;refine aL 22 ?_;refine bF ?_;refine bB ?_;refine aL 23 ?_;refine lO 0 rfl ?_;dsimp only[List.set];refine cI ?_;refine dY ?_;refine eK ?_;refine aT [0,2,3] rfl (by decide) (fun _ h=>h) ?_;exact nK ⟨g7,rfl,rfl,rfl⟩
 rintro _ _ _ ⟨g7,rfl,rfl,rfl⟩;refine aA ?_;refine aG rfl (fun hk=>?_) (fun hk=>?_)
 ·have hk:k=0:=hk
  rw[if_pos hk];refine cQ 1 (fun L:fQ=>iF f hL.h L s z1) L ?_;refine aT [1,0,2] rfl (by decide) (fun _ h=>h) ?_;refine aJ 1 0 ?_;refine aA ?_;refine bT 1 (gI f hL s (yH s x z1 a st) x) (fun w1 F1 t h1 h2 h3=>aCR f hL s z1 x hH aQ hok a ha st (fun h0=>by rw[e3];exact hst hk h0) w1 F1 h1 h2) ?_;refine aA ?_;exact bP 1 hF
 ·rw[if_neg hk];rw[show({z with last:=(a:Int),x:=lH z.x a k id,y:=lG z.y a k id,at_:=(a:Int),kind:=k,id:=id}:cJ)={z1 with x:=lH z1.x a k id,y:=lG z1.y a k id,at_:=(a:Int),kind:=k,id:=id} by rw[←lY]];refine aA ?_;refine iZ [2,3,4,6] ?_;refine bJ 0 ?_;refine bJ 1 ?_;refine bJ 5 ?_;refine aK 2 ?_;refine aK 3 ?_;refine aK 4 ?_ (cM:=jM rfl (aM.eC 1 rfl (vs:=[.slice L.x1.1 z1.x.d.length L.x1.2,.slice L.x2.1 z1.x.c.length L.x2.2,.slice L.x3.1 z1.x.l.length L.x3.2,.slice L.y1.1 z1.y.d.length L.y1.2,.slice L.y2.1 z1.y.c.length L.y2.2,.slice L.y3.1 z1.y.l.length L.y3.2]) rfl));refine aK 6 ?_;refine aL 7 ?_
  refine kA [] (fun v w w'=>sY (fresh w w') (lH z1.x a k id) (lG z1.y a k id) v) (fun w1 t=>by
   have kf:=t.Dp 1 rfl
   exact aPe (all w1) _ _ _ _ _ _ L.x1.2 L.x2.2 L.x3.2 L.y1.2 L.y2.2 L.y3.2 z1.x z1.y a k id w1 (Piece.Le.refl _) ha (by rw[e1];exact hz.sx) (by rw[e2];exact hz.sy) kf.st.1 kf.st.2.1 kf.st.2.2.1 kf.st.2.2.2.1 kf.st.2.2.2.2.1 kf.st.2.2.2.2.2) ?_
  rintro _ w2 q2 aNi uZ _ Ir
  have Ir:=Ir (by simp)
  obtain⟨x1,x2,x3,y1,y2,y3,rfl,Ld⟩:=aNi.P
  have Ld:=oZ.le _ _ uZ (Ld L.a1 L.a2 L.a3 L.a4 L.b0 L.b1)
  refine Jm (Φ:=oZ ⟨L.a1,L.a2,L.a3,L.a4,x1,x2,x3,y1,y2,y3,L.b0,L.b1⟩ (lH z1.x a k id) (lG z1.y a k id)) (hm:=oZ.le) Ir (fun p hp b hb=>by simp at hp;subst hp;exact hb.1) Ld ?_;refine cI ?_;refine aL 8 ?_;refine bF ?_;refine cI ?_;refine aL 9 ?_;refine bF ?_;refine cI ?_;refine aL 10 ?_;refine aW 2 0 ?_;refine pW 0 (t:=175) rfl rfl rfl (by kernel_rfl) (by simp[Value.cells,Value.oneCell',wG]) (by simp[Value.cells,jH]) ?_;dsimp only[List.set];rw[show fR (jH hL.h L s z1) (0+5) (Value.agg #[wG x1 (lH z1.x a k id).d.length,wG x2 (lH z1.x a k id).c.length,wG x3 (lH z1.x a k id).l.length,wG y1 (lG z1.y a k id).d.length,wG y2 (lG z1.y a k id).c.length,wG y3 (lG z1.y a k id).l.length]).cells.toList=jH hL.h ⟨L.a1,L.a2,L.a3,L.a4,x1,x2,x3,y1,y2,y3,L.b0,L.b1⟩ s {z1 with x:=lH z1.x a k id,y:=lG z1.y a k id} from rfl];refine cI ?_;refine dY ?_;refine eK ?_;refine aW 3 2 ?_;refine aT [1,2,3,4,5] rfl (by decide) (R':=[⟨w,fun b=>b < w.heap.size∧¬F b⟩]) (by simp) ?_;refine aT [1,0,2,3,4] rfl (by decide) (fun _ h=>h) ?_;refine aJ 2 2 ?_;generalize oO:({z1 with x:=lH z1.x a k id,y:=lG z1.y a k id}:cJ)=z2;rw[show({z1 with x:=lH z1.x a k id,y:=lG z1.y a k id,at_:=(a:Int),kind:=k,id:=id}:cJ)={z2 with at_:=(a:Int),kind:=k,id:=id} by rw[←oO]];generalize vC:(⟨L.a1,L.a2,L.a3,L.a4,x1,x2,x3,y1,y2,y3,L.b0,L.b1⟩:fQ)=L2;refine dX ?_;refine aAZ (fun e R H=>e=[(0,pt f)]∧R=[⟨w,fun b=>b < w.heap.size∧¬F b⟩]∧H=[HP.aE f 175 (jH hL.h L2 s {z2 with at_:=(a:Int),kind:=k,id:=id}),HP.aE g7 50 [.int .u8 k,iv id],HP.many [bX,HP.bU (uL L s) (uL.le (L:=L) (s:=s)),HP.bU (oZ L2 (lH z1.x a k id) (lG z1.y a k id)) (oZ.le (L:=L2) (x:=lH z1.x a k id) (y:=lG z1.y a k id)),HP.bU (eB L.b0 z1.w0) (eB.le (a:=L.b0) (l:=z1.w0)),HP.bU (eB L.b1 z1.w1) (eB.le (a:=L.b1) (l:=z1.w1))],HP.many [bX,dN hL s x]]) ?_ ?_
  ·refine iZ [] ?_;refine bJ 0 ?_;refine bJ 1 ?_;refine bJ 2 ?_
   repeat' (first
    | (refine dY ?_;refine eK ?_;exact nK ⟨rfl,rfl,rfl⟩)
    | refine zD 3 4 rfl rfl (by decide+kernel) ?_ ?_
    | refine zD 3 5 rfl rfl (by decide+kernel) ?_ ?_
    | refine zD 3 6 rfl rfl (by decide+kernel) ?_ ?_
    | refine aL 3 ?_
    | refine aL 4 ?_
    | refine aL 5 ?_
    | refine aL 6 ?_
    | refine aL 7 ?_
    | refine aL 8 ?_
    | refine aL 9 ?_
    | refine cI ?_
    | refine bF ?_
    | (refine eO rfl rfl ?_ (hs:=eL.mk 0 rfl cO.h rfl (by simp[jH]));dsimp only[List.set];rw[show(jH hL.h L2 s z2).set (0+16) (iv (a:Int))=jH hL.h L2 s {z2 with at_:=(a:Int)} from rfl])
    | (refine pW 0 (t:=175) rfl rfl rfl (by kernel_rfl) (by simp[Value.cells,Value.oneCell']) (by simp[Value.cells,jH]) ?_;dsimp only[List.set];rw[show fR (jH hL.h L2 s {z2 with at_:=(a:Int)}) (0+17) (Value.agg #[.int .u8 k,iv id]).cells.toList=jH hL.h L2 s {z2 with at_:=(a:Int),kind:=k,id:=id} from rfl]))
  rintro _ _ _ ⟨rfl,rfl,rfl⟩;refine aJ 1 0 ?_;subst vC;subst oO;refine uJ 1 (f:=fun L:fQ=>iF f hL.h L s {({z1 with x:=lH z1.x a k id,y:=lG z1.y a k id}:cJ) with at_:=(a:Int),kind:=k,id:=id}) ⟨L.a1,L.a2,L.a3,L.a4,x1,x2,x3,y1,y2,y3,L.b0,L.b1⟩ rfl ?_;dsimp only[List.set];refine aT [1,0,2] rfl (by decide) (fun _ h=>h) ?_;refine aJ 1 0 ?_;refine aA ?_;exact bP 1 hF
theorem aGD(f:Nat)(hL:HL)(s:aC)(z:cJ)(x:aU)(hH:s.dK)(aQ:gA hL s)(hok:cX s x)(hz:Ee s z)(hst:∀a,sC z=some a→(gH s x z a).2.1=0→(gH s x z a).1=0→tA (kB z a))(w:World)(F:Nat→Prop)(hp:(gI f hL s z x).sat F w)(hF:∀b,F b→b < w.heap.size):
  Cz 90 #[pt f] w (Wr (.bool (nF s x z).2) (gI f hL s (nF s x z).1 x) w F):=by
 unfold nF;cases hn:sC z with
 | none=>exact aOn f hL s z x hz.la hn w F hp hF
 | some a =>
  obtain⟨l,hl,iA⟩:∃l:Nat,z.last=(l:Int)∧l≤1:=by
   rcases hz.la with h | h
   ·exact⟨0,h,by omega⟩
   ·exact⟨1,h,by omega⟩
  have hn2:=hn
  unfold sC at hn;rw[show(1 - z.last).toNat=1 - l by omega,show z.last.toNat=l by omega] at hn
  by_cases h2:yO z (1 - l)=1
  ·rw[if_pos h2] at hn;obtain rfl:=Option.some.inj hn;exact aGC f hL s z x hH aQ hok hz l _ hl iA (by omega) (.inl ⟨h2,rfl⟩) h2 (hst _ hn2) w F hp hF
  ·rw[if_neg h2] at hn
   by_cases h3:yO z l=1
   ·rw[if_pos h3] at hn;obtain rfl:=Option.some.inj hn;exact aGC f hL s z x hH aQ hok hz l _ hl iA (by omega) (.inr ⟨h2,rfl⟩) h3 (hst _ hn2) w F hp hF
   ·rw[if_neg h3] at hn;cases hn
end
end Go.Proofs.YtkgekojkboingaaGreatDoor
