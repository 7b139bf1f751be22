/- package bus: addresses; something is posted. -/
import Derived.Test.YtkgekojkboingaaGreatDoorWorldTwiceK4
namespace Go.Proofs.YtkgekojkboingaaGreatDoor
set_option linter.all false
set_option maxHeartbeats 4000000
set_option maxRecDepth 20000
open Go.RowKit Go.Proofs.Tryz
section
theorem aAQ(w0 low many:Int)(w:World)(hok:okF low many)(hr:0≤cM w0 low many∧cM w0 low many < 4294967296):
  Cz 270 #[.int .u32 w0,iv low,iv many] w (Rt (iv (cM w0 low many)) w):=by
 refine aO func270 ntmps270 ?_;refine aA ?_;refine aQ (fun w1 t=>aGO w0 low many w1 hok) ?_;refine aA ?_;refine kd (Jh (ds:=.int .u32) (kd:=.i64) (c:=cM w0 low many) (by kernel_rfl) (by kernel_rfl) rfl (iW (by omega))) ?_;refine aA ?_;exact dF
theorem aAA(w low many:Int):0≤cM w low many∧cM w low many < 4294967296:=Ny _
theorem aHL(a dev cF:Int)(h0:cM a 0 2=0)(h1:cM a 24 8=0)(h2:cM a 16 8=dev)(h3:cM a 2 14=cF)(w:World):
  Cz 268 #[.int .u32 a] w (Rt (.tuple #[iv dev,iv cF]) w):=by
 refine aO func268 ntmps268 ?_;refine aA ?_;refine aQ (fun w1 t=>aAQ a 0 2 w1 (by unfold okF;omega) (aAA _ _ _)) ?_;rw[h0];refine aA ?_;refine aQ (fun w1 t=>aAQ a 24 8 w1 (by unfold okF;omega) (aAA _ _ _)) ?_;rw[h1];refine aA ?_;refine aQ (fun w1 t=>aAQ a 16 8 w1 (by unfold okF;omega) (aAA _ _ _)) ?_;rw[h2];refine aA ?_;refine aQ (fun w1 t=>aAQ a 2 14 w1 (by unfold okF;omega) (aAA _ _ _)) ?_;rw[h3];refine aA ?_;exact fT rfl rfl rfl fun w1 t=>⟨rfl,t.below (by simp)⟩
def Ro(dev cF:Int):Int:=(wN (wN 0 16 8 dev).1 2 14 cF).1
structure aS3(dev cF:Int):Prop where
 p1:(wN 0 16 8 dev).2=0
 p2:(wN (wN 0 16 8 dev).1 2 14 cF).2=0
 z0:cM (Ro dev cF) 0 2=0
 z1:cM (Ro dev cF) 24 8=0
 z2:cM (Ro dev cF) 16 8=dev
 z3:cM (Ro dev cF) 2 14=cF
theorem aIc{dev cF:Int}(h1:0≤dev∧dev < 4)(h2:0≤cF∧cF < 4):aS3 dev cF:=by
 have hd:dev=0∨dev=1∨dev=2∨dev=3:=by omega
 have hr:cF=0∨cF=1∨cF=2∨cF=3:=by omega
 rcases hd with rfl | rfl | rfl | rfl<;>rcases hr with rfl | rfl | rfl | rfl<;>exact⟨by decide+kernel,by decide+kernel,by decide+kernel,by decide+kernel,by decide+kernel,by decide+kernel⟩
theorem aQQ(dev cF:Int)(hd:0≤dev∧dev < 4)(hr:0≤cF∧cF < 4)(w:World):
  Cz 266 #[iv dev,iv cF] w (Rt (.tuple #[.int .u32 (Ro dev cF),iv 0]) w):=by
 have ha:=aIc hd hr
 refine aO func266 ntmps266 ?_;refine aA ?_;refine bX (t:=10) rfl (fun h=>absurd h (by omega)) (fun _=>?_);refine aA ?_;refine bX (t:=14) rfl (fun h=>absurd h (by omega)) (fun _=>?_);refine aA ?_;refine bX (t:=18) rfl (fun h=>absurd h (by omega)) (fun _=>?_);refine aA ?_;refine aG rfl (fun h=>absurd h (by omega)) (fun _=>?_);refine aA ?_;refine kd (Jh (ds:=.int .i64) (kd:=.u32) (c:=dev) (by kernel_rfl) (by kernel_rfl) rfl (wrap_u32 (by omega))) ?_;refine aQ (fun w1 t=>aBV 0 16 8 dev w1 (by unfold okF;omega)) ?_;rw[ha.p1];refine aA ?_;refine kd (Jh (ds:=.int .i64) (kd:=.u32) (c:=cF) (by kernel_rfl) (by kernel_rfl) rfl (wrap_u32 (by omega))) ?_;refine aQ (fun w1 t=>aBV _ 2 14 cF w1 (by unfold okF;omega)) ?_;rw[ha.p2];refine aA ?_;exact fT rfl rfl rfl fun w1 t=>⟨rfl,t.below (by simp)⟩
theorem aQO(L:BL)(ms:List Int)(ws:List (Option jA))(aZ:Int)(i:Nat)(hi:i < ms.length)(hml:ms.length≤6)(hw:ws.length=ms.length)(h0:(ws[i]?).join=none)(a cF:Int)(z0:cM a 0 2=0)(z1:cM a 24 8=0)(z2:cM a 16 8=i)(z3:cM a 2 14=cF)(m:Int)(hm:ms[i]? =some m)(hr:0≤cF∧cF < m)(b:Bool)(v:Int)(mM:0≤aZ∧aZ≤1000000000)(w:World)(F:Nat→Prop)(hp:(xV L ms ws aZ).sat F w)(hF:∀b,F b→b < w.heap.size):
  Cz 269 #[.pointer (some ⟨L.b,0,none⟩),.int .u32 a,.bool b,.int .u32 v] w (Wr (.tuple #[iv aZ,iv 0]) (xV L ms (ws.set i (some ⟨aZ,b,cF,v⟩)) (aZ+1)) w F):=by
 have hin:bZ ms.length (i:Int)=true:=decide_eq_true (by omega)
 have hmi:(aN ms)[i]? =some (iv m):=by simp[aN,hm]
 refine cS func269 ntmps269 hp hF ?_;generalize cO:(⟨w,fun b=>b < w.heap.size∧¬F b⟩:Piece)=R0;refine aA ?_;refine aQ (fun w1 t=>aHL a i cF z0 z1 z2 z3 w1) ?_;refine aA ?_;refine aQ (fun w1 st=>aAR L ms ws aZ i w1 (st.aHM 0 rfl)) ?_;rw[hin];refine aIq 0 i rfl hi fun vs hv=>?_;rw[h0];dsimp only[List.set];refine aX 4 1 ?_;refine aRN (p:=∃A,vs.getD i undef=.slice A 0 0) 1 rfl fun⟨A,hA⟩=>?_
 have Us:vs[i]? =some (.slice A 0 0):=by
  obtain⟨u,h1⟩:=get_some (l:=vs) (i:=i) (by omega);rw[List.getD_eq_getElem?_getD,h1] at hA;rw[h1];exact congrArg some hA
 refine aA ?_;refine bX (t:=26) rfl (fun h=>absurd h (by omega)) (fun _=>?_);refine aA ?_;refine kd (dat i i) ?_;refine aA ?_;refine kd (bH rfl (Rd.aE 0 rfl hmi)) ?_;refine aA ?_;refine aG rfl (fun h=>absurd h (by omega)) (fun _=>?_);refine aA ?_;refine kd (dat i i) ?_;refine aA ?_;refine kd (bH rfl (Rd.aE 2 rfl Us)) ?_;refine aA ?_;refine eO rfl rfl ?_ (hs:=eK.mk 4 rfl cN.h rfl (by simp[Xj]));dsimp only[List.set];rw[show(Xj L ms aZ).set (0+2) (iv (aZ+1))=Xj L ms (aZ+1) from rfl];refine aA ?_;refine iZ [1,2,3,6,7,8,10,11] ?_;refine bJ 0 ?_;refine aK 1 ?_;refine aK 2 ?_;refine aK 3 ?_;refine bJ 4 ?_;refine bJ 5 ?_;refine aK 6 ?_;refine aK 7 ?_;refine aK 8 ?_;refine bJ 9 ?_;refine aK 10 ?_ (hi:=rfl) (cK:=dat i i);refine aK 11 ?_ (hi:=rfl) (cK:=bH rfl (Rd.aE 2 rfl Us));refine bJ 12 ?_;refine bJ 13 ?_;refine bJ 14 ?_;refine bJ 15 ?_;refine aL 16 ?_;refine kd (iI rfl) ?_;refine bA ?_;refine aL 17 ?_;refine eG fun g4=>?_;refine bA ?_;refine aL 18 ?_;refine aJz 4 32 1 (el:=306) (by kernel_rfl) (by kernel_rfl) (by decide) rfl rfl (lW 0 rfl rfl) (by simp[Value.oneCell']) (by decide) (by decide) (by decide) (by decide) fun An cn=>?_;refine bA ?_;refine aL 19 ?_;refine kd (dat i i) ?_;refine cG ?_;refine aL 20 ?_;refine eO rfl rfl ?_ (hs:=eK.mk 4 rfl cN.h rfl (by omega));dsimp only[List.set];refine cG ?_;refine dX ?_;refine aA ?_;refine aT [2,0,4,5,6,7] rfl (by decide) (fun _ h=>h) ?_;refine aJ 4 1 ?_;refine aIy (v:=.slice An 1 cn) (q:=some ⟨aZ,b,cF,v⟩) 0 i rfl hi hv hw ?_;dsimp only[List.set];subst cO;exact fT rfl rfl rfl fun w1 st=>⟨rfl,st.turns hF (by simp) (i:=0) rfl⟩
end
section
def xL(s:aC)(x:aU)(i:Nat):Bool:=match s.aD[i]? with
 | some d=>tN s x.ck d.clock&&(decide (sA x.dm d.domain=49)&& !Ip x.ln d.reset)
 | none=>false
def wF(x:aU)(i:Nat):Int:=((x.dv[i]?).map fun p=>oU p.2.at_).getD 0
theorem aBu{w0:World}{R:List Piece}{H:List HP}{b o:Nat}{vs:List Value}{v:Value}(j:Nat)(h:aM w0 R H b o vs)(hv:vs[j]? =some v):Rd w0 R H b (o+j) v:=fun w st=>h w st j v hv
section
variable(L:HL)(s:aC)(x:aU)(w:World)
theorem aGE(hH:s.dJ)(i:Int)(hR:tG w L s x):Cz 179 #[.pointer (some ⟨L.h,0,none⟩),iv i] w (Rt (.bool (tN s x.ck i)) w):=by
 have k0:=hR.r0.at_ (j:=0) rfl
 refine aO func179 ntmps179 ?_;refine aA ?_;refine aQ (fun w1 t=>Ba L s x w1 (hR.below (t.below (by simp)))) ?_;refine aA ?_;refine aQ (fun w1 t=>Xg L.T s x.ck hH i w1 (hR.tree.below (t.below (by simp)))) ?_;refine aA ?_;exact dF
theorem aGJ(hH:s.dJ)(aR:gB L s)(hok:cT s x)(i:Nat)(hi:i < s.aD.length)(hR:tG w L s x):Cz 93 #[.pointer (some ⟨L.h,0,none⟩),iv (i:Int)] w (Rt (.bool (xL s x i)) w):=by
 have k0:=hR.r0.at_ (j:=0) rfl
 have k1:=hR.r0.at_ (j:=1) rfl
 have k2:=hR.r0.at_ (j:=2) rfl
 have k4:=hR.r0.at_ (j:=4) rfl
 have hls:=aR.ds
 obtain⟨d,dD⟩:=get_some hi;obtain⟨l,iB⟩:=get_some (l:=L.ds) (i:=i) (by omega);obtain⟨b,off,hA,hr⟩:=aH.row hR.rows (rows:=vG s.aD L.ds) (fun r hr=>aDn r hr) (aDo dD iB) hi
 have hin:bZ s.aD.length (i:Int)=true:=decide_eq_true (by omega)
 have hal:xL s x i=(tN s x.ck d.clock&&(decide (sA x.dm d.domain=49)&& !Ip x.ln d.reset)):=by
  unfold xL;rw[dD]
 rw[hal];refine aO func93 ntmps93 ?_;refine aA ?_;refine aQ (fun w1 t=>Px L s x w1 i (hR.below (t.below (by simp)))) ?_;rw[hin];refine aA ?_;refine kd (dat i (off+i*6) (hx:=by rw[←hA];rfl)) ?_;refine aB ?_;refine bY fun g1=>?_;refine aA ?_;refine lJ ?_;refine jD ?_;refine rG (fun w1 t=>Xg L.T s x.ck hH d.clock w1 (hR.tree.below (t.below (by simp)))) ?_;cases hrun:tN s x.ck d.clock
 ·refine iY ?_;refine aA ?_;exact dF
 ·refine jD ?_;refine rG (fun w1 t=>aF9 L.G s x.dm hok.dm d.domain w1 (Bz.below hR.aDb (t.below (by simp)))) ?_;refine jD ?_;refine Eb 32 rfl (fun hp=>?_) (fun hp=>?_)
  ·rw[decide_eq_true hp];refine jD ?_;refine rG (fun w1 t=>aFs L.R s x.ln d.reset w1 (hR.lines.below (t.below (by simp)))) ?_;refine iY ?_;refine aA ?_;exact dF
  ·rw[decide_eq_false hp];refine iY ?_;refine aA ?_;exact dF
theorem aGD(aR:gB L s)(hok:cT s x)(i:Nat)(hi:i < s.aD.length)(cZ:Sh w)(hR:tG w L s x):Cz 174 #[.pointer (some ⟨L.h,0,none⟩),iv (i:Int)] w (Rt (.int .u8 (wF x i)) w):=by
 have k4:=hR.r0.at_ (j:=4) rfl
 have hls:=aR.ds
 have lB:=hok.dv
 obtain⟨d,dD⟩:=get_some hi;obtain⟨l,iB⟩:=get_some (l:=L.ds) (i:=i) (by omega);obtain⟨p,gF⟩:=get_some (l:=x.dv) (i:=i) (by omega);obtain⟨b,off,hA,hr⟩:=aH.row hR.rows (rows:=vG s.aD L.ds) (fun r hr=>aDn r hr) (aDo dD iB) hi
 have k5:=hr.at_ (j:=5) rfl
 have hin:bZ s.aD.length (i:Int)=true:=decide_eq_true (by omega)
 have hst:wF x i=oU p.2.at_:=by
  unfold wF;rw[gF];rfl
 rw[hst];refine aO func174 ntmps174 ?_;refine aA ?_;refine aQ (fun w1 t=>Px L s x w1 i (hR.below (t.below (by simp)))) ?_;rw[hin];refine aA ?_;refine kd (dat i (off+i*6) (hx:=by rw[←hA];rfl)) ?_;refine aA ?_;refine aQ (fun w1 t=>aF6 l.2 p.2 (hok.each i d p dD gF).2 w1 (cZ.below (t.below (by simp))) ((hR.below (t.below (by simp))).each i d l p dD iB gF).2) ?_;refine aA ?_;exact dF
def Gp(x:aU)(i:Nat):aU:={x with dv:=match x.dv[i]? with | some p=>x.dv.set i (p.1,(sV p.2).2) | none=>x.dv}
def yJ(x:aU)(i:Nat):aU:={x with dv:=match x.dv[i]? with | some p=>x.dv.set i (p.1,(oF p.2).2) | none=>x.dv}
theorem aGI(hH:s.dJ)(aR:gB L s)(hok:cT s x)(i:Nat)(hi:i < s.aD.length)(F:Nat→Prop)(hp:(dM L s x).sat F w)(hF:∀b,F b→b < w.heap.size):
  Cz 207 #[.pointer (some ⟨L.h,0,none⟩),iv (i:Int)] w (fun y w'=>∃r:Int,y=.returned (iv r)∧True∧∃F',(dM L s (Gp x i)).sat F' w'∧iD w w' F F'):=by
 have hls:=aR.ds
 have lB:=hok.dv
 obtain⟨d,dD⟩:=get_some hi;obtain⟨l,iB⟩:=get_some (l:=L.ds) (i:=i) (by omega);obtain⟨p,gF⟩:=get_some (l:=x.dv) (i:=i) (by omega)
 have hin:bZ s.aD.length (i:Int)=true:=decide_eq_true (by omega)
 have hX:Gp x i={x with dv:=x.dv.set i (p.1,(sV p.2).2)}:=by
  unfold Gp;rw[gF]
 rw[hX];refine cS func207 ntmps207 hp hF ?_;refine aA ?_;refine aQ (fun w1 t=>Px L s x w1 i (t.mB 0 rfl aR hok)) ?_;rw[hin];refine aA ?_;refine kd (bH rfl (pJ 0 rfl rfl)) ?_;refine Mv 0 rfl aR hok (by omega) fun b off hA=>?_;refine aA ?_;refine kd (dat i (off+i*6) (hx:=by rw[←hA];rfl)) ?_;refine aA ?_;refine kd (bH rfl (aBu (vs:=Jd d l) 5 (aM.dev 0 rfl aR hok hA dD iB rfl) rfl)) ?_;refine Rq 0 i rfl dD iB gF ?_;dsimp only[List.set];refine aX 0 1 ?_;refine bT 0 (tE l.2 (sV p.2).2) (fun w1 F1 t h1 h2 h3=>aLH h1 h2) ?_;refine aJ 0 1 ?_;refine Rx 0 i rfl dD iB gF (p':=(p.1,(sV p.2).2)) ?_;dsimp only[List.set];refine aA ?_;exact mF rfl rfl fun w1 t=>⟨_,rfl,trivial,t.turns hF (by simp) (i:=0) rfl⟩
theorem aCT(hH:s.dJ)(aR:gB L s)(hok:cT s x)(i:Nat)(hi:i < s.aD.length)(F:Nat→Prop)(hp:(dM L s x).sat F w)(hF:∀b,F b→b < w.heap.size):
  Cz 175 #[.pointer (some ⟨L.h,0,none⟩),iv (i:Int)] w (fun y w'=>∃r:Int,y=.returned (iv r)∧True∧∃F',(dM L s (yJ x i)).sat F' w'∧iD w w' F F'):=by
 have hls:=aR.ds
 have lB:=hok.dv
 obtain⟨d,dD⟩:=get_some hi;obtain⟨l,iB⟩:=get_some (l:=L.ds) (i:=i) (by omega);obtain⟨p,gF⟩:=get_some (l:=x.dv) (i:=i) (by omega)
 have hin:bZ s.aD.length (i:Int)=true:=decide_eq_true (by omega)
 have hX:yJ x i={x with dv:=x.dv.set i (p.1,(oF p.2).2)}:=by
  unfold yJ;rw[gF]
 rw[hX];refine cS func175 ntmps175 hp hF ?_;refine aA ?_;refine aQ (fun w1 t=>Px L s x w1 i (t.mB 0 rfl aR hok)) ?_;rw[hin];refine aA ?_;refine kd (bH rfl (pJ 0 rfl rfl)) ?_;refine Mv 0 rfl aR hok (by omega) fun b off hA=>?_;refine aA ?_;refine kd (dat i (off+i*6) (hx:=by rw[←hA];rfl)) ?_;refine aA ?_;refine kd (bH rfl (aBu (vs:=Jd d l) 5 (aM.dev 0 rfl aR hok hA dD iB rfl) rfl)) ?_;refine Rq 0 i rfl dD iB gF ?_;dsimp only[List.set];refine aX 0 1 ?_;refine bT 0 (tE l.2 (oF p.2).2) (fun w1 F1 t h1 h2 h3=>aLG h1 h2) ?_;refine aJ 0 1 ?_;refine Rx 0 i rfl dD iB gF (p':=(p.1,(oF p.2).2)) ?_;dsimp only[List.set];refine aA ?_;exact mF rfl rfl fun w1 t=>⟨_,rfl,trivial,t.turns hF (by simp) (i:=0) rfl⟩
end
end
section
def iA(m t p k:Int):Int×Int:=
 if(fX 0 0 8 m).2≠0 then(0,(fX 0 0 8 m).2)
 else if(fX (fX 0 0 8 m).1 8 2 t).2≠0 then(0,(fX (fX 0 0 8 m).1 8 2 t).2)
 else if(fX (fX (fX 0 0 8 m).1 8 2 t).1 10 8 p).2≠0 then(0,(fX (fX (fX 0 0 8 m).1 8 2 t).1 10 8 p).2)
 else if(fX (fX (fX (fX 0 0 8 m).1 8 2 t).1 10 8 p).1 18 10 k).2≠0 then(0,(fX (fX (fX (fX 0 0 8 m).1 8 2 t).1 10 8 p).1 18 10 k).2)
 else((fX (fX (fX (fX 0 0 8 m).1 8 2 t).1 10 8 p).1 18 10 k).1,0)
def Ma(m t p k:Int):List Value:=[iv m,iv t,iv p,iv k]
def Kl(w:Int):List Value:=if cM w 28 4≠0 then Ma 0 0 0 0 else Ma (cM w 0 8) (cM w 8 2) (cM w 10 8) (cM w 18 10)
def Cl(w:Int):Int:=if cM w 28 4≠0 then 2 else 0
theorem Ep(l:List Int):∀u∈dQ l,u.oneCell'=true:=by
 intro u hu;simp only[dQ,List.mem_map] at hu;obtain⟨_,_,rfl⟩:=hu;rfl
def aBr(l:List Int)(v:Value)(w w':World):Prop:=∃A c,v=.slice A l.length c∧aH (fresh w w') 1 A l.length (dQ l)
theorem aFC(m t p k:Int)(w:World):
  Cz 51 #[.agg #[iv m,iv t,iv p,iv k]] w (Rt (.tuple #[.int .u32 (iA m t p k).1,iv (iA m t p k).2]) w):=by
 refine aO func51 ntmps51 ?_;refine aB ?_;refine bN fun g1=>?_;refine aB ?_;refine dG (fun w1 st=>Zy 0 0 8 m w1 (by unfold okF;omega)) ?_;refine aB ?_;refine aG rfl (fun h1=>?_) (fun h1=>?_)
 ·
  refine aB ?_;refine fT rfl rfl rfl fun w1 st=>⟨by rw[iA,if_pos h1];rfl,st.below (by simp)⟩
 ·
  refine aB ?_;refine dG (fun w1 st=>Zy (fX 0 0 8 m).1 8 2 t w1 (by unfold okF;omega)) ?_;refine aB ?_;refine aG rfl (fun h2=>?_) (fun h2=>?_)
  ·
   refine aB ?_;refine fT rfl rfl rfl fun w1 st=>⟨by rw[iA,if_neg h1,if_pos h2];rfl,st.below (by simp)⟩
  ·
   refine aB ?_;refine dG (fun w1 st=>Zy (fX (fX 0 0 8 m).1 8 2 t).1 10 8 p w1 (by unfold okF;omega)) ?_;refine aB ?_;refine aG rfl (fun h3=>?_) (fun h3=>?_)
   ·
    refine aB ?_;refine fT rfl rfl rfl fun w1 st=>⟨by rw[iA,if_neg h1,if_neg h2,if_pos h3];rfl,st.below (by simp)⟩
   ·
    refine aB ?_;refine dG (fun w1 st=>Zy (fX (fX (fX 0 0 8 m).1 8 2 t).1 10 8 p).1 18 10 k w1 (by unfold okF;omega)) ?_;refine aB ?_;refine aG rfl (fun h4=>?_) (fun h4=>?_)
    ·
     refine aB ?_;refine fT rfl rfl rfl fun w1 st=>⟨by rw[iA,if_neg h1,if_neg h2,if_neg h3,if_pos h4];rfl,st.below (by simp)⟩
    ·
     refine aB ?_;refine fT rfl rfl rfl fun w1 st=>⟨by rw[iA,if_neg h1,if_neg h2,if_neg h3,if_neg h4];rfl,st.below (by simp)⟩
theorem aEQ(w0:Int)(w:World):
  Cz 78 #[.int .u32 w0] w (Rt (.tuple #[.agg (Kl w0).toArray,iv (Cl w0)]) w):=by
 refine aO func78 ntmps78 ?_;refine aA ?_;refine bY fun g1=>?_;refine aA ?_;refine dG (fun w1 st=>Ue w0 28 4 w1 (by unfold okF;omega)) ?_;refine aA ?_;refine aG rfl (fun h=>?_) (fun h=>?_)
 ·
  refine aA ?_;refine kd (iI rfl) ?_;refine rR rfl rfl ?_;simp only[fS,Value.cells,List.set,List.take,List.drop,List.nil_append,List.append_nil,List.length_cons,List.length_nil,List.cons_append,Nat.reduceAdd];refine aA ?_;refine yX rfl (n:=4) (vs:=Ma 0 0 0 0) (by kernel_rfl) rfl rfl (aM.whole 0 rfl) rfl fun w1 st=>⟨by rw[Kl,Cl,if_pos h,if_pos h],st.below (by simp)⟩
 ·
  refine aA ?_;refine dG (fun w1 st=>Ue w0 0 8 w1 (by unfold okF;omega)) ?_;refine aA ?_;refine dG (fun w1 st=>Ue w0 8 2 w1 (by unfold okF;omega)) ?_;refine aA ?_;refine dG (fun w1 st=>Ue w0 10 8 w1 (by unfold okF;omega)) ?_;refine aA ?_;refine dG (fun w1 st=>Ue w0 18 10 w1 (by unfold okF;omega)) ?_;refine kd (iI rfl) ?_;refine rR rfl rfl ?_;simp only[fS,Value.cells,List.set,List.take,List.drop,List.nil_append,List.append_nil,List.length_cons,List.length_nil,List.cons_append,Nat.reduceAdd];refine aA ?_;refine yX rfl (n:=4) (vs:=Ma (cM w0 0 8) (cM w0 8 2) (cM w0 10 8) (cM w0 18 10)) (by kernel_rfl) rfl rfl (aM.whole 0 rfl) rfl fun w1 st=>⟨by rw[Kl,Cl,if_neg h,if_neg h],st.below (by simp)⟩
theorem aLq(w0:Int)(A:Option Addr)(n c:Nat)(zs:List Int)(w:World)(hs:aH (all w) 1 A n (dQ zs))(hn:n=zs.length)(hn2:n≤1000000):Cz 52 #[.int .u32 w0,.slice A n c] w (fun y w'=>(∃x,y=.returned x∧aBr (w0::zs) x w w')∧Below w.heap.size w w'):=by
 refine aO func52 ntmps52 ?_;refine aB ?_;refine aB1 1 4 (el:=37) (c:=n+1) (k0:=1) (oX:=.i64) (by kernel_rfl) (by kernel_rfl) rfl (by rw[Int.natCast_add];rfl) (by omega) (by omega) (by decide) fun g1=>?_;refine aB ?_;refine eG fun g2=>?_;refine gZ 1 1 4 1 (n':=1) (el:=37) (by kernel_rfl) (by kernel_rfl) (by decide) rfl rfl rfl (lW 0 rfl rfl) (by simp[Value.oneCell']) rfl (by omega) (by omega) (by decide) fun A1 c1=>?_;dsimp only[List.set];refine aB ?_;refine gZ 1 1 4 n (n':=n+1) (el:=37) (by kernel_rfl) (by kernel_rfl) (by decide) rfl rfl rfl (rY (by simp) hs) (Ep _) (by omega) (by omega) (by omega) (by decide) fun A2 c2=>?_;dsimp only[List.set];refine aB ?_;refine dB [] [1] [] (by simp) rfl (by decide) (by decide) fun q hq _ hfr=>?_;obtain⟨F2,wJ,vO⟩:=hq 1 _ (by simp) rfl;obtain⟨Am,cm,hBm,dU⟩:=zF (Y:=q.Z) wJ vO;cases hBm;subst hn;refine mF rfl rfl fun w1 st=>⟨⟨_,rfl,A2,c2,rfl,?_⟩,st.below (by simp)⟩
 exact aH.le dU (st.mQ (by simp) (hfr (by simp) (by simp)))
def aBz(l:List Int)(v:Value)(w w':World):Prop:=∃A c,v=.tuple #[.slice A l.length c,iv 0]∧aH (fresh w w') 1 A l.length (dQ l)
theorem aQd(m t p k:Int)(A:Option Addr)(n c:Nat)(zs:List Int)(w:World)(hs:aH (all w) 1 A n (dQ zs))(hn:n=zs.length)(hn2:n≤1000000)(hok:(iA m t p k).2=0):Cz 24 #[.agg #[iv m,iv t,iv p,iv k],.slice A n c] w (fun y w'=>(∃x,y=.returned x∧aBz ((iA m t p k).1::zs) x w w')∧Below w.heap.size w w'):=by
 refine aO func24 ntmps24 ?_;refine aB ?_;refine bN fun g1=>?_;refine aB ?_;refine dG (fun w1 st=>aFC m t p k w1) ?_;refine aB ?_;refine aG rfl (fun h=>?_) (fun h=>?_)
 ·
  refine aB ?_;exact absurd hok h
 ·
  refine aB ?_;refine kA [] (aBr ((iA m t p k).1::zs)) (fun w1 st=>aLq (iA m t p k).1 A n c zs w1 (hs.le (st.le (by simp))) hn hn2) ?_;rintro _ w1 q1 ⟨A1,c1,rfl,h1⟩ hf _ sN
  have sN:=sN (by simp)
  have h1:=h1.le hf
  clear hf;refine aB ?_;refine fT rfl rfl rfl fun w1 st=>⟨⟨_,rfl,A1,c1,rfl,aH.le h1 (st.mQ (by simp) sN)⟩,st.below (by simp)⟩
theorem aJ5(pr m id v k:Int)(w:World)(hok:(iA m 0 pr k).2=0):Cz 170 #[.agg #[iv pr,iv m,.int .u32 id,.int .u32 v],iv k] w (fun y w'=>(∃x,y=.returned x∧aBz [(iA m 0 pr k).1,id,v] x w w')∧Below w.heap.size w w'):=by
 refine aO func170 ntmps170 ?_;refine aB ?_;refine bN fun g1=>?_;refine aB ?_;refine eG fun g2=>?_;refine kA [] (aBz ((iA m 0 pr k).1::[id,v])) (fun w1 st=>aQd m 0 pr k (some ⟨g2,0,none⟩) 2 2 [id,v] w1 (st.uS (i:=0) rfl rfl) rfl (by omega) hok) ?_;rintro _ w1 q1 ⟨A1,c1,rfl,h1⟩ hf _ sN
 have sN:=sN (by simp)
 have h1:=h1.le hf
 clear hf;refine aB ?_;refine fT rfl rfl rfl fun w1 st=>⟨⟨_,rfl,A1,c1,rfl,aH.le h1 (st.mQ (by simp) sN)⟩,st.below (by simp)⟩
end
section
def aBs(l:List Int)(v:Value)(hs:List HP)(_:Piece):Prop:=∃A c,v=.slice A l.length c∧hs=[HP.own 37 1 (.slice A l.length c) l.length (dQ l)]
theorem aLs(w0:Int)(A:Option Addr)(n c:Nat)(zs:List Int)(w:World)(hs:aH (all w) 1 A n (dQ zs))(hn:n=zs.length)(hn2:n≤1000000):Cz 52 #[.int .u32 w0,.slice A n c] w (fun y w'=>(∃v hs q,y=.returned v∧q.w=w'∧aBs (w0::zs) v hs q∧fV w hs q)∧Below w.heap.size w w'):=by
 refine aO func52 ntmps52 ?_;refine aB ?_;refine aB1 1 4 (el:=37) (c:=n+1) (k0:=1) (oX:=.i64) (by kernel_rfl) (by kernel_rfl) rfl (by rw[Int.natCast_add];rfl) (by omega) (by omega) (by decide) fun g1=>?_;refine aB ?_;refine eG fun g2=>?_;refine gZ 1 1 4 1 (n':=1) (el:=37) (by kernel_rfl) (by kernel_rfl) (by decide) rfl rfl rfl (lW 0 rfl rfl) (by simp[Value.oneCell']) rfl (by omega) (by omega) (by decide) fun A1 c1=>?_;dsimp only[List.set];refine aB ?_;refine gZ 1 1 4 n (n':=n+1) (el:=37) (by kernel_rfl) (by kernel_rfl) (by decide) rfl rfl rfl (rY (by simp) hs) (Ep _) (by omega) (by omega) (by omega) (by decide) fun A2 c2=>?_;dsimp only[List.set];refine aB ?_;subst hn;refine aT [1] rfl (by decide) (fun _ h=>h) ?_;refine dB [] [] [0] (by simp) rfl (by decide) (by decide) fun q _ _ hfr=>?_;exact aP (h:=fun w1 t=>⟨_,_,⟨w1,q.Z⟩,rfl,rfl,⟨A2,c2,rfl,rfl⟩,t.newR (by simp) (by simp) (hfr (by simp) (by simp))⟩)
theorem aRf(w0 st st':Int)(hst:IntKind.u32.wrap st=st')(A:Option Addr)(n c:Nat)(zs:List Int)(w:World)(hs:aH (all w) 1 A n (dQ zs))(hn:n=zs.length)(hn2:n≤1000):
  Cz 145 #[.int .u32 w0,.int .i32 st,.slice A n c] w (fun y w'=>(∃v hs q,y=.returned v∧q.w=w'∧aBs (w0::st'::zs) v hs q∧fV w hs q)∧Below w.heap.size w w'):=by
 subst hn;refine aO func145 ntmps145 ?_;refine aA ?_;refine Ch (ds:=.int .i32) (by kernel_rfl) (by kernel_rfl) rfl hst (by decide) ?_;refine eG fun g1=>?_;refine dS (aBs [w0,st']) (fun w1 t=>aLs w0 _ 1 1 [st'] w1 (t.uS (i:=0) rfl rfl) rfl (by omega)) ?_;rintro _ _ q1 ⟨A1,c1,rfl,rfl⟩ _;dsimp only[List.cons_append,List.nil_append];refine aA ?_;refine gZ 0 1 4 zs.length (n':=zs.length+2) (el:=37) (by kernel_rfl) (by kernel_rfl) (by decide) rfl rfl rfl (rY (by simp) hs) (Ep _) (by simp;omega) (by omega) (by omega) (by decide) fun A2 c2=>?_;dsimp only[List.set];refine aA ?_;refine aT [0] rfl (by decide) (R':=[all w]) (by simp) ?_;refine dB [] [] [0] (by simp) rfl (by decide) (by decide) fun q _ _ hfr=>?_;exact aP (h:=fun w1 t=>⟨_,_,⟨w1,q.Z⟩,rfl,rfl,⟨A2,c2,rfl,rfl⟩,t.newR (by simp) (by simp) (hfr (by simp) (by simp))⟩)
theorem Lf(i:Int)(w:World):Cz 97 #[iv i] w (Rt (.bool (bZ 2 i)) w):=by
 refine aO func97 ntmps97 ?_;refine aA ?_;refine bX (t:=5) rfl (fun h=>?_) (fun h=>?_)
 ·refine aA ?_;refine iS (by simp) ?_;unfold bZ
  congr 1
  simp;omega
 ·refine aA ?_;refine iS (by simp) ?_
  have:bZ 2 i=false:=decide_eq_false (by omega)
  rw[this]
def Hz(p:Int):Int:=if p=48 then 0 else if p=49 then 1 else if p=116 then 2 else 3
theorem aOB(p:Int)(w:World):Cz 183 #[.int .u8 p] w (Rt (.int .u32 (Hz p)) w):=by
 refine aO func183 ntmps183 ?_;refine aA ?_;refine aG rfl (fun h=>?_) (fun h=>?_)
 ·refine aA ?_;exact dF (by rw[Hz,if_pos h])
 ·refine aA ?_;refine aG rfl (fun h1=>?_) (fun h1=>?_)
  ·refine aA ?_;exact dF (by rw[Hz,if_neg h,if_pos h1])
  ·refine aA ?_;refine aG rfl (fun h2=>?_) (fun h2=>?_)
   ·refine aA ?_;exact dF (by rw[Hz,if_neg h,if_neg h1,if_pos h2])
   ·refine aA ?_;exact dF (by rw[Hz,if_neg h,if_neg h1,if_neg h2])
end
section
def tB(p:Piece)(x y:eB)(v:Value):Prop:=∃A1 k1 A2 k2 A3 k3 B1 m1 B2 m2 B3 m3,v=.agg #[.slice A1 x.d.length k1,.slice A2 x.c.length k2,.slice A3 x.l.length k3,.slice B1 y.d.length m1,.slice B2 y.c.length m2,.slice B3 y.l.length m3]∧
 aH p 1 A1 x.d.length (bF x.d)∧aH p 1 A2 x.c.length (bF x.c)∧aH p 1 A3 x.l.length (bF x.l)∧aH p 1 B1 y.d.length (bF y.d)∧aH p 1 B2 y.c.length (bF y.c)∧aH p 1 B3 y.l.length (bF y.l)
def Nb(s:aC)(p:Piece):Nat→List Value→Prop
 | 0,cs=>cs=[.slice none 0 0,.slice none 0 0,.slice none 0 0,.slice none 0 0,.slice none 0 0,.slice none 0 0]
 | 1,cs=>∃a b c,cs=[a,b,c,.slice none 0 0,.slice none 0 0,.slice none 0 0]∧zD p (jK s) (.agg #[a,b,c])
 | _,cs=>∃a b c a' b' c',cs=[a,b,c,a',b',c']∧zD p (jK s) (.agg #[a,b,c])∧zD p (jK s) (.agg #[a',b',c'])
theorem Nb.len{s:aC}{p:Piece}:∀{i:Nat} {cs:List Value},Nb s p i cs→cs.length=6
 | 0,_,h=>by rw[show _=_ from h];rfl
 | 1,_,⟨_,_,_,h,_⟩=>by rw[h];rfl
 | _+2,_,⟨_,_,_,_,_,_,h,_⟩=>by rw[h];rfl
theorem Nb.next{s:aC}{p q:Piece}(hl:p.Le q){a b c:Value}(hw:zD q (jK s) (.agg #[a,b,c])){i:Nat}{cs:List Value}(hi:i < 2)(h:Nb s p i cs):Nb s q (i+1) (fS cs (i*3) [a,b,c]):=by
 obtain rfl | rfl:i=0∨i=1:=by omega
 ·have h0:cs=[sn,sn,sn,sn,sn,sn]:=h
  subst h0;exact⟨a,b,c,rfl,hw⟩
 ·obtain⟨a1,b1,c1,h0,h1⟩:=h;subst h0;exact⟨a1,b1,c1,a,b,c,rfl,zD.le h1 hl,hw⟩
theorem aKu(s:aC)(A1 A2 A3 A4:Option Addr)(k1 k2 k3 k4:Nat)(w:World)(hm:s.wP):
  Cz 14 #[.agg #[.slice A1 s.aF.length k1,.slice A2 s.domains.length k2,.slice A3 s.aY.length k3,.slice A4 s.aD.length k4]] w (Sb (fun v w w'=>tB (fresh w w') (jK s) (jK s) v) w):=by
 have hn9:=hm.nc
 have tZ:=hm.nd
 have sL:=hm.nr
 refine aO func14 ntmps14 ?_;refine aB ?_;refine bN fun g1=>?_;refine bY fun g2=>?_;refine aB ?_;refine bY fun g3=>?_;refine aB ?_;refine bM [(5,iv 0),(3,pt g3),(2,pt g2),(1,pt g1)] ?_;refine yY ⟨w,fun _=>False⟩ (by simp) (fun _ h=>h.elim) ?_;refine aB ?_;refine eT (fun m e R H=>∃(i:Nat) (cs:List Value) (qs:Piece),i≤2∧m=2 - i∧Nb s qs i cs∧qQ w qs∧e=[(5,iv i),(3,pt g3),(2,pt g2),(1,pt g1)]∧R=[qs,all w]∧H=[HP.aE g3 58 cs,HP.aE g2 58 [sn,sn,sn,sn,sn,sn],HP.aE g1 30 [.slice A1 s.aF.length k1,.slice A2 s.domains.length k2,.slice A3 s.aY.length k3,.slice A4 s.aD.length k4]]) 2 ⟨0,_,⟨w,fun _=>False⟩,by omega,rfl,rfl,(fun _ h=>h.elim),rfl,rfl,rfl⟩ fun m e R H hI=>?_;obtain⟨i,cs,qs,hi2,rfl,hcs,aGA,rfl,rfl,rfl⟩:=hI;refine aB ?_;refine aG rfl (fun h=>?_) (fun h=>?_)
 ·
  refine nV ?_;refine eJ ?_;refine eA ?_;refine xN ?_;refine eA ?_;refine fU ?_;refine dO rfl (by decide) ?_;refine jM rfl (by decide) ?_;refine fB ?_;refine qM 15 (by kernel_rfl) (by kernel_rfl) ?_;refine fZ 0 rfl rfl rfl (lQ rfl) ?_;refine fZ 1 rfl rfl rfl (Du (off:=1) (by kernel_rfl) rfl) ?_;refine fZ 2 rfl rfl rfl (Jg rfl) ?_;refine fZ 3 rfl rfl rfl (Mo (el:=88) (by kernel_rfl) rfl) ?_;refine fZ 5 rfl rfl rfl (Du (off:=0) (by kernel_rfl) rfl) ?_;refine fZ 6 rfl rfl rfl (Jg rfl) ?_;refine fZ 7 rfl rfl rfl (Mo (el:=86) (by kernel_rfl) rfl) ?_;refine fZ 9 rfl rfl rfl (Du (off:=2) (by kernel_rfl) rfl) ?_;refine fZ 10 rfl rfl rfl (Jg rfl) ?_;refine fZ 11 rfl rfl rfl (Mo (el:=90) (by kernel_rfl) rfl) ?_;refine fZ 14 rfl rfl rfl (Du (off:=0) (by kernel_rfl) rfl) ?_;refine aI3 (fuel:=3) [4,8,12] [[4,8,12]] (fun i=>match i with | 4=>⟨12,4,List.replicate s.domains.length (.bool false),fun g=>.slice (some ⟨g,0,none⟩) s.domains.length s.domains.length⟩ | 8=>⟨16,4,List.replicate s.aF.length (.bool false),fun g=>.slice (some ⟨g,0,none⟩) s.aF.length s.aF.length⟩ | _=>⟨20,4,List.replicate s.aY.length (.bool false),fun g=>.slice (some ⟨g,0,none⟩) s.aY.length s.aY.length⟩) (fun i hi=>?_) (by show[12,16,20].Nodup;decide) (by kernel_rfl) (fun _ h=>h) (fun sub hsub hex g=>?_)
  ·simp only[List.mem_cons,List.not_mem_nil,or_false] at hi;rcases hi with rfl | rfl | rfl
   ·exact Ei.of rfl rfl rfl (Oy 1 (el:=4) (z:=.bool false) (by kernel_rfl) (by kernel_rfl) rfl rfl rfl (by omega) (by omega)) (Nat.le_of_ble_eq_true rfl) rfl
   ·exact Ei.of rfl rfl rfl (Oy 1 (el:=4) (z:=.bool false) (by kernel_rfl) (by kernel_rfl) rfl rfl rfl (by omega) (by omega)) (Nat.le_of_ble_eq_true rfl) rfl
   ·exact Ei.of rfl rfl rfl (Oy 1 (el:=4) (z:=.bool false) (by kernel_rfl) (by kernel_rfl) rfl rfl rfl (by omega) (by omega)) (Nat.le_of_ble_eq_true rfl) rfl
  have iH:sub=[4,8,12]:=by simpa using hex
  have er:∀n:Nat,List.replicate n (Value.bool false)=bF (List.replicate n false):=fun n=>by simp[bF]
  have hi:i < 2:=by have h':(i:Int) < 2:=h;omega
  have hlen:=hcs.len
  subst iH;dsimp only[rA,vC,lA,List.map,List.foldr,List.cons_append,List.nil_append,List.length_cons,List.length_nil,Nat.reduceAdd,Nat.reduceSub];refine fG 13 rfl rfl rfl (by decide) (kQ (zs:=[sn,sn,sn]) (L:=[(0,1),(1,1),(2,1)]) (gY (by kernel_rfl)) (by kernel_rfl) rfl (by simp[eZ,gD,Value.cells];rfl)) (by kernel_rfl) (fun _ _ _ h=>h) (fun _ h=>h.tail.tail.tail) ?_;refine cJ 15 ?_;refine aEG i (i*3) (el:=55) (sz:=3) (by kernel_rfl) (by kernel_rfl) rfl rfl rfl hi (by omega) (by decide) ?_;refine eS ?_;refine cJ 16 ?_;refine pY 3 rfl rfl rfl (by kernel_rfl) (by simp[Value.cells,Value.oneCell']) (by simp[Value.cells];omega) ?_;dsimp only[List.set];rw[show(Value.agg [.slice (some ⟨g 4,0,none⟩) s.domains.length s.domains.length,.slice (some ⟨g 8,0,none⟩) s.aF.length s.aF.length,.slice (some ⟨g 12,0,none⟩) s.aY.length s.aY.length].toArray).cells.toList=[.slice (some ⟨g 4,0,none⟩) s.domains.length s.domains.length,.slice (some ⟨g 8,0,none⟩) s.aF.length s.aF.length,.slice (some ⟨g 12,0,none⟩) s.aY.length s.aY.length] from rfl];refine eS ?_;refine kK ?_;refine eJ ?_;refine fU ?_;refine El rfl rfl (iW (by omega)) (by decide) ?_;refine dO rfl (by decide) ?_;refine fB ?_;refine dB [qs] [0,1,2] [3,4,5] (by simp) rfl (by decide) (by decide) fun qn Po hle hfr=>?_
  have hfn:=hfr (by simp) (fun p hp=>by simp only[List.mem_cons,List.not_mem_nil,or_false] at hp;subst hp;exact aGA)
  have b1:aH qn 1 (some ⟨g 4,0,none⟩) (s.domains.length) (List.replicate (s.domains.length) (Value.bool false)):=qP (n:=s.domains.length) (sz:=1) (c:=0) (Po 0 _ (by simp) rfl).choose_spec.1 (Po 0 _ (by simp) rfl).choose_spec.2 (by simp)
  have b2:aH qn 1 (some ⟨g 8,0,none⟩) (s.aF.length) (List.replicate (s.aF.length) (Value.bool false)):=qP (n:=s.aF.length) (sz:=1) (c:=0) (Po 1 _ (by simp) rfl).choose_spec.1 (Po 1 _ (by simp) rfl).choose_spec.2 (by simp)
  have b3:aH qn 1 (some ⟨g 12,0,none⟩) (s.aY.length) (List.replicate (s.aY.length) (Value.bool false)):=qP (n:=s.aY.length) (sz:=1) (c:=0) (Po 2 _ (by simp) rfl).choose_spec.1 (Po 2 _ (by simp) rfl).choose_spec.2 (by simp)
  rw[er] at b1 b2 b3
  have hww:zD qn (jK s) (.agg #[.slice (some ⟨g 4,0,none⟩) s.domains.length s.domains.length,.slice (some ⟨g 8,0,none⟩) s.aF.length s.aF.length,.slice (some ⟨g 12,0,none⟩) s.aY.length s.aY.length]):=by
   unfold zD jK;simp only[List.length_replicate];exact⟨_,_,_,_,_,_,rfl,b1,b2,b3⟩
  refine nU (R':=[qn,all w]) (by simp) ?_;exact eR (2 - (i+1)) ⟨i+1,_,qn,by omega,rfl,Nb.next (hle qs (by simp)) hww hi hcs,hfn,rfl,rfl,rfl⟩
 ·
  refine aDP ?_;refine eJ ?_;refine eA ?_
  have hie:i=2:=by have h':¬(i:Int) < 2:=h;omega
  subst hie;obtain⟨a,b,c,a',b',c',rfl,hw1,hw2⟩:=hcs;obtain⟨D1,d1,D2,d2,D3,d3,e1,x1,x2,x3⟩:=hw1;obtain⟨F1,f1,F2,f2,F3,f3,e2,y1,y2,y3⟩:=hw2;cases e1;cases e2;refine fU ?_;refine aJr 6 rfl ?_;refine rR rfl rfl ?_;simp only[fS,Value.cells,List.set,List.take,List.drop,List.nil_append,List.append_nil,List.length_cons,List.length_nil,List.cons_append,Nat.reduceAdd];refine aB ?_
  exact Gu rfl (by kernel_rfl) rfl rfl (aM.whole 1 rfl) fun w1 st=>⟨⟨_,rfl,by
   have hl:=st.mQ (by simp) aGA
   exact⟨_,_,_,_,_,_,_,_,_,_,_,_,rfl,x1.le hl,x2.le hl,x3.le hl,y1.le hl,y2.le hl,y3.le hl⟩⟩,st.below (by simp)⟩
end
section
def qV(k:Int):Prop:=k=117∨k=99∨k=114
instance(k:Int):Decidable (qV k):=by unfold qV;infer_instance
def Ai(s:aC)(p:Int):Nat:=if p=17 then s.domains.length else if p=20 then s.aF.length else if p=22 then s.aY.length else 0
def gE(k:Int)(v0 v1 v2:Value):Value:=if k=117∨k=100∨k=107 then v0 else if k=99∨k=111 then v1 else if k=114∨k=97 then v2 else sn
def Ii(k:Int)(x:eB):List Bool:=if k=117∨k=100∨k=107 then x.d else if k=99∨k=111 then x.c else if k=114∨k=97 then x.l else[]
def tM(x:eB)(k id:Int):Bool:=decide (0≤id)&&hasB (Ii k x) id.toNat
theorem fK.thn{w w':World}{g o:Nat}{v:Value}(h:fK w g o v)(hb:Below w.heap.size w w'):fK w' g o v:=⟨Nat.lt_of_lt_of_le h.1 hb.size,(hb.cell (p:=⟨g,o,none⟩) h.1).trans h.2⟩
def Ye(w:World)(g o:Nat)(x:eB):Prop:=∃A1 k1 A2 k2 A3 k3,fK w g o (.slice A1 x.d.length k1)∧fK w g (o+1) (.slice A2 x.c.length k2)∧fK w g (o+2) (.slice A3 x.l.length k3)∧
 aH (all w) 1 A1 x.d.length (bF x.d)∧aH (all w) 1 A2 x.c.length (bF x.c)∧aH (all w) 1 A3 x.l.length (bF x.l)
theorem aNj{w:World}{x:eB}{A1 A2 A3:Option Addr}{k1 k2 k3:Nat}(h1:aH (all w) 1 A1 x.d.length (bF x.d))(h2:aH (all w) 1 A2 x.c.length (bF x.c))(h3:aH (all w) 1 A3 x.l.length (bF x.l))(k:Int):
  ∃A c,gE k (.slice A1 x.d.length k1) (.slice A2 x.c.length k2) (.slice A3 x.l.length k3)=.slice A (Ii k x).length c∧aH (all w) 1 A (Ii k x).length (bF (Ii k x)):=by
 unfold gE Ii;split
 ·exact⟨_,_,rfl,h1⟩
 ·split
  ·exact⟨_,_,rfl,h2⟩
  ·split
   ·exact⟨_,_,rfl,h3⟩
   ·exact⟨_,_,rfl,aH.nil _ _⟩
theorem aCg(k:Int)(w:World):
  Cz 30 #[.int .u8 k] w (Rt (.bool (decide (qV k))) w):=by
 refine aO func30 ntmps30 ?_;refine aB ?_
 (first | refine bX (t:=5) rfl (fun hg=>?_) (fun hg=>?_) | refine pZ (t:=5) rfl (fun hg=>?_) (fun hg=>?_))
 ·
  refine aB ?_;exact aP (h:=fun _ _=>by simp_all [qV])
 ·
  refine aB ?_
  (first | refine bX (t:=9) rfl (fun hg=>?_) (fun hg=>?_) | refine pZ (t:=9) rfl (fun hg=>?_) (fun hg=>?_))
  ·
   refine aB ?_;exact aP (h:=fun _ _=>by simp_all [qV])
  ·
   refine aB ?_;exact aP (h:=fun _ _=>by simp_all [qV])
theorem aMz(s:aC)(A1 A2 A3 A4:Option Addr)(k1 k2 k3 k4:Nat)(p:Int)(w:World):
  Cz 80 #[.agg #[.slice A1 s.aF.length k1,.slice A2 s.domains.length k2,.slice A3 s.aY.length k3,.slice A4 s.aD.length k4],iv p] w (Rt (iv (Ai s p)) w):=by
 refine aO func80 ntmps80 ?_;refine aB ?_;refine bN fun g1=>?_;refine aB ?_;refine aG rfl (fun h=>?_) (fun h=>?_)
 ·
  refine aB ?_;exact aP (h:=fun _ _=>by simp_all [Ai])
 ·
  refine aB ?_;refine aG rfl (fun h=>?_) (fun h=>?_)
  ·
   refine aB ?_;exact aP (h:=fun _ _=>by simp_all [Ai])
  ·
   refine aB ?_;refine aG rfl (fun h=>?_) (fun h=>?_)
   ·
    refine aB ?_;exact aP (h:=fun _ _=>by simp_all [Ai])
   ·
    refine aB ?_;exact aP (h:=fun _ _=>by simp_all [Ai])
theorem aC0(g o:Nat)(k:Int)(v0 v1 v2:Value)(w:World)(h0:fK w g o v0)(h1:fK w g (o+1) v1)(h2:fK w g (o+2) v2):
  Cz 82 #[.pointer (some ⟨g,o,none⟩),.int .u8 k] w (Rt (gE k v0 v1 v2) w):=by
 refine aO func82 ntmps82 ?_;refine aB ?_;refine aG rfl (fun h=>?_) (fun h=>?_)
 ·
  refine aB ?_;refine aG rfl (fun h=>?_) (fun h=>?_)
  ·
   refine aB ?_;exact aP (h:=fun _ _=>by simp_all [gE])
  ·
   refine aB ?_;refine aG rfl (fun h=>?_) (fun h=>?_)
   ·
    refine aB ?_;refine aG rfl (fun h=>?_) (fun h=>?_)
    ·
     refine aB ?_;exact aP (h:=fun _ _=>by simp_all [gE])
    ·
     refine aB ?_;refine aG rfl (fun h=>?_) (fun h=>?_)
     ·
      refine aB ?_;refine aG rfl (fun h=>?_) (fun h=>?_)
      ·
       refine aB ?_;exact aP (h:=fun _ _=>by simp_all [gE])
      ·
       refine aB ?_;exact aP (h:=fun _ _=>by simp_all [gE])
     ·
      refine aB ?_;refine aG rfl (fun h=>?_) (fun h=>?_)
      ·
       refine aB ?_;exact aP (h:=fun _ _=>by simp_all [gE])
      ·
       refine aB ?_;exact aP (h:=fun _ _=>by simp_all [gE])
   ·
    refine aB ?_;refine aG rfl (fun h=>?_) (fun h=>?_)
    ·
     refine aB ?_;exact aP (h:=fun _ _=>by simp_all [gE])
    ·
     refine aB ?_;refine aG rfl (fun h=>?_) (fun h=>?_)
     ·
      refine aB ?_;refine aG rfl (fun h=>?_) (fun h=>?_)
      ·
       refine aB ?_;exact aP (h:=fun _ _=>by simp_all [gE])
      ·
       refine aB ?_;exact aP (h:=fun _ _=>by simp_all [gE])
     ·
      refine aB ?_;refine aG rfl (fun h=>?_) (fun h=>?_)
      ·
       refine aB ?_;exact aP (h:=fun _ _=>by simp_all [gE])
      ·
       refine aB ?_;exact aP (h:=fun _ _=>by simp_all [gE])
 ·
  refine aB ?_;refine aG rfl (fun h=>?_) (fun h=>?_)
  ·
   refine aB ?_;refine aG rfl (fun h=>?_) (fun h=>?_)
   ·
    refine aB ?_;exact aP (h:=fun _ _=>by simp_all [gE])
   ·
    refine aB ?_;refine aG rfl (fun h=>?_) (fun h=>?_)
    ·
     refine aB ?_;refine aG rfl (fun h=>?_) (fun h=>?_)
     ·
      refine aB ?_;exact aP (h:=fun _ _=>by simp_all [gE])
     ·
      refine aB ?_;refine aG rfl (fun h=>?_) (fun h=>?_)
      ·
       refine aB ?_;refine aG rfl (fun h=>?_) (fun h=>?_)
       ·
        refine aB ?_;exact aP (h:=fun _ _=>by simp_all [gE])
       ·
        refine aB ?_;exact aP (h:=fun _ _=>by simp_all [gE])
      ·
       refine aB ?_;refine aG rfl (fun h=>?_) (fun h=>?_)
       ·
        refine aB ?_;exact aP (h:=fun _ _=>by simp_all [gE])
       ·
        refine aB ?_;exact aP (h:=fun _ _=>by simp_all [gE])
    ·
     refine aB ?_;refine aG rfl (fun h=>?_) (fun h=>?_)
     ·
      refine aB ?_;exact aP (h:=fun _ _=>by simp_all [gE])
     ·
      refine aB ?_;refine aG rfl (fun h=>?_) (fun h=>?_)
      ·
       refine aB ?_;refine aG rfl (fun h=>?_) (fun h=>?_)
       ·
        refine aB ?_;exact aP (h:=fun _ _=>by simp_all [gE])
       ·
        refine aB ?_;exact aP (h:=fun _ _=>by simp_all [gE])
      ·
       refine aB ?_;refine aG rfl (fun h=>?_) (fun h=>?_)
       ·
        refine aB ?_;exact aP (h:=fun _ _=>by simp_all [gE])
       ·
        refine aB ?_;exact aP (h:=fun _ _=>by simp_all [gE])
  ·
   refine aB ?_;refine aG rfl (fun h=>?_) (fun h=>?_)
   ·
    refine aB ?_;exact aP (h:=fun _ _=>by simp_all [gE])
   ·
    refine aB ?_;refine aG rfl (fun h=>?_) (fun h=>?_)
    ·
     refine aB ?_;refine aG rfl (fun h=>?_) (fun h=>?_)
     ·
      refine aB ?_;exact aP (h:=fun _ _=>by simp_all [gE])
     ·
      refine aB ?_;refine aG rfl (fun h=>?_) (fun h=>?_)
      ·
       refine aB ?_;refine aG rfl (fun h=>?_) (fun h=>?_)
       ·
        refine aB ?_;exact aP (h:=fun _ _=>by simp_all [gE])
       ·
        refine aB ?_;exact aP (h:=fun _ _=>by simp_all [gE])
      ·
       refine aB ?_;refine aG rfl (fun h=>?_) (fun h=>?_)
       ·
        refine aB ?_;exact aP (h:=fun _ _=>by simp_all [gE])
       ·
        refine aB ?_;exact aP (h:=fun _ _=>by simp_all [gE])
    ·
     refine aB ?_;refine aG rfl (fun h=>?_) (fun h=>?_)
     ·
      refine aB ?_;exact aP (h:=fun _ _=>by simp_all [gE])
     ·
      refine aB ?_;refine aG rfl (fun h=>?_) (fun h=>?_)
      ·
       refine aB ?_;refine aG rfl (fun h=>?_) (fun h=>?_)
       ·
        refine aB ?_;exact aP (h:=fun _ _=>by simp_all [gE])
       ·
        refine aB ?_;exact aP (h:=fun _ _=>by simp_all [gE])
      ·
       refine aB ?_;refine aG rfl (fun h=>?_) (fun h=>?_)
       ·
        refine aB ?_;exact aP (h:=fun _ _=>by simp_all [gE])
       ·
        refine aB ?_;exact aP (h:=fun _ _=>by simp_all [gE])
theorem aB8(g ag:Nat)(x:eB)(k id:Int)(w:World)(hag:ag < 2)(hM:Ye w g (ag*3) x):
  Cz 29 #[pt g,iv (ag:Int),.int .u8 k,iv id] w (Rt (.bool (tM x k id)) w):=by
 obtain⟨A1,k1,A2,k2,A3,k3,h1,h2,h3,s1,s2,s3⟩:=hM;obtain⟨A,c,hL,hS⟩:=aNj (k1:=k1) (k2:=k2) (k3:=k3) s1 s2 s3 k;refine aO func29 ntmps29 ?_;refine aA ?_;refine aEG (ag) (ag*3) (n:=2) (el:=55) (sz:=3) (by kernel_rfl) (by kernel_rfl) rfl rfl (by omega) (by omega) (by omega) (by decide) ?_;refine aB ?_;refine dG (fun w1 st=>aC0 g (ag*3) k _ _ _ w1 (h1.thn (st.below (by simp))) (h2.thn (st.below (by simp))) (h3.thn (st.below (by simp)))) ?_;rw[hL];refine aB ?_
 (first | refine bX (t:=19) rfl (fun hg=>?_) (fun hg=>?_) | refine pZ (t:=19) rfl (fun hg=>?_) (fun hg=>?_))
 ·
  refine aB ?_
  (first | refine bX (t:=25) rfl (fun hg=>?_) (fun hg=>?_) | refine pZ (t:=25) rfl (fun hg=>?_) (fun hg=>?_))
  ·
   obtain⟨i,rfl⟩:∃i:Nat,id=(i:Int):=⟨id.toNat,by omega⟩
   have hil:i < (Ii k x).length:=by omega
   obtain⟨b,off,rfl,hz,hc⟩:=hS.2 (by omega);obtain⟨v,hv⟩:∃v,(Ii k x)[i]? =some v:=⟨_,List.getElem?_eq_getElem hil⟩
   refine jC rfl rfl ?_;refine dO rfl (by decide) ?_;refine jC rfl rfl ?_;refine dO rfl (by decide) ?_;refine jC rfl rfl ?_;refine kd (dat (i) (off+i)) ?_;refine jC rfl rfl ?_;refine kW (by kernel_rfl) rfl (Rd.ro (p:=all w) (by simp) hz (hc i _ (aHP hv))) (by decide) ?_
   (first | refine rU rfl rfl (by decide) ?_ | refine rW rfl rfl (by decide) ?_)
   refine jM rfl (by decide) ?_;refine fB ?_;refine Rp ?_;refine eJ ?_;exact aP (h:=fun _ _=>by simp[tM,hasB,hv])
  ·
   refine aB ?_
   have hn:hasB (Ii k x) id.toNat=false:=by rw[hasB,List.getElem?_eq_none (by omega)];rfl
   exact aP (h:=fun _ _=>by simp[tM,hn])
 ·
  refine aB ?_
  have hn:decide (0≤id)=false:=by simp;omega
  exact aP (h:=fun _ _=>by simp[tM,hn])
end
section
def StM(w:World)(g:Nat)(x y:eB):Prop:=∀i,i < 2→Ye w g (i*3) (if i=0 then x else y)
def tL(x y:eB)(k id:Int):Bool:=tM x k id||tM y k id
theorem Ye.thn{w w':World}{g o:Nat}{x:eB}(h:Ye w g o x)(hb:Below w.heap.size w w'):Ye w' g o x:=by
 obtain⟨A1,k1,A2,k2,A3,k3,h1,h2,h3,s1,s2,s3⟩:=h
 have hl:(all w).Le (all w'):=fun b hb'=>⟨Nat.lt_of_lt_of_le hb' hb.size,hb.block b hb'⟩
 exact⟨A1,k1,A2,k2,A3,k3,h1.thn hb,h2.thn hb,h3.thn hb,s1.le hl,s2.le hl,s3.le hl⟩
theorem aB9(g:Nat)(x y:eB)(k id:Int)(w:World)(hM:StM w g x y):
  Cz 31 #[pt g,.int .u8 k,iv id] w (Rt (.bool (tL x y k id)) w):=by
 refine aO func31 ntmps31 ?_;refine aB ?_;refine bM [(8,iv 0),(2,iv id),(1,.int .u8 k),(0,pt g)] ?_;refine aB ?_;refine eT (fun m e R H=>∃(i:Nat),i≤2∧m=2 - i∧(∀j,j < i→tM (if j=0 then x else y) k id=false)∧e=[(8,iv i),(2,iv id),(1,.int .u8 k),(0,pt g)]∧R=[all w]∧H=[]) 2 ⟨0,by omega,rfl,(fun j hj=>absurd hj (Nat.not_lt_zero j)),rfl,rfl,rfl⟩ fun m e R H hI=>?_;obtain⟨i,hi,rfl,hno,rfl,rfl,rfl⟩:=hI;refine aB ?_;refine aG rfl (fun h=>?_) (fun h=>?_)
 ·
  refine aB ?_
  have hi2:i < 2:=by have h':(i:Int) < 2:=h;omega
  refine dG (fun w1 st=>aB8 g i (if i=0 then x else y) k id w1 hi2 ((hM i hi2).thn (st.below (by simp)))) ?_;refine aB ?_;refine pF rfl (fun hw=>?_) (fun hw=>?_)
  ·
   refine aB ?_
   have hr:tL x y k id=true:=by
    unfold tL;rcases(by omega:i=0∨i=1) with rfl | rfl
    ·simp at hw;simp[hw]
    ·simp at hw;simp[hw]
   exact aP (h:=fun _ _=>by rw[hr])
  ·
   refine aB ?_
   exact eR (2 - (i+1)) ⟨i+1,by omega,rfl,(fun j hj=>by
    rcases Nat.lt_or_ge j i with h1 | h1
    ·exact hno j h1
    ·obtain rfl:j=i:=by omega
     exact hw),rfl,rfl,rfl⟩
 ·
  refine aB ?_
  have hi2:i=2:=by have h':¬(i:Int) < 2:=h;omega
  subst hi2
  have e0:=hno 0 (by omega)
  have e1:=hno 1 (by omega)
  have hr:tL x y k id=false:=by
   unfold tL;simp at e0 e1;simp[e0,e1]
  exact aP (h:=fun _ _=>by rw[hr])
theorem aKl(k:Int)(A:Option Addr)(n c:Nat)(r m d l:Int)(w:World):
  Cz 81 #[.agg #[.int .u8 k,.slice A n c,.int .u64 r,iv m,iv d,iv l]] w (Rt (.bool (decide (k=112∨k=103))) w):=by
 refine aO func81 ntmps81 ?_;refine aB ?_;refine bN fun g1=>?_;refine aB ?_
 (first | refine bX (t:=6) rfl (fun hg=>?_) (fun hg=>?_) | refine pZ (t:=6) rfl (fun hg=>?_) (fun hg=>?_))
 ·
  refine aB ?_;exact aP (h:=fun _ _=>by simp_all)
 ·
  refine aB ?_;exact aP (h:=fun _ _=>by simp_all)
end
section
def kP(p:Int×Int):Value:=.agg #[.int .i64 p.1,.int .i64 p.2]
def Jz(w:World)(r:Nat)(l:List ((Int×Int)×Value)):Prop:=∃es clock,w.heap[r]? =some (.map es clock)∧es.toList.map (fun x=>(x.key,x.val))=l.map fun p=>(kP p.1,p.2)
def kM(l:List ((Int×Int)×Value))(k:Int×Int):Option Value:=(l.find? fun p=>decide (p.1=k)).map (·.2)
theorem Lb(a:Int×Int)(b:Value)(l:List ((Int×Int)×Value))(k:Int×Int):kM ((a,b)::l) k=if a=k then some b else kM l k:=by
 unfold kM;rw[List.find?_cons]
 by_cases h:a=k<;>simp[h]
section
variable{P:Program}{w:World}{kt:TypeId}
theorem aOV(hfl:∀a b c d:Int,Mj P kt [.int .i64 a,.int .i64 b] [.int .i64 c,.int .i64 d]=true)(p q:Int×Int):(Op.equal kt (kP p) (kP q)).run P w=.ok (decide (q=p)) w:=by
 obtain⟨h,_⟩:=aFm (P:=P) (w:=w) (hfl p.1 p.2 q.1 q.2);rw[show kP p=.agg [Value.int .i64 p.1,.int .i64 p.2].toArray from rfl,show kP q=.agg [Value.int .i64 q.1,.int .i64 q.2].toArray from rfl,h]
 congr 1
 obtain⟨a,b⟩:=p;obtain⟨c,d⟩:=q;simp only[Jb,Wk,Prod.mk.injEq]
 by_cases h1:a=c
 ·subst h1
  by_cases h2:b=d
  ·subst h2;simp
  ·have h3:¬d=b:=fun e=>h2 e.symm
   simp[h2,h3]
 ·have h3:¬c=a:=fun e=>h1 e.symm
  simp[h1,h3]
theorem aHT(hfl:∀a b c d:Int,Mj P kt [.int .i64 a,.int .i64 b] [.int .i64 c,.int .i64 d]=true)(k:Int×Int):∀(es:List MapEntry) (l:List ((Int×Int)×Value)) (i:Nat),es.map (fun x=>(x.key,x.val))=l.map (fun p=>(kP p.1,p.2))→
  ∃q,(Instr.findAsking kt (kP k) es i).run P w=.ok q w∧q.map (·.2)=kM l k
 | [],l,i,h=>by
  cases l with
  | nil=>exact⟨none,by simp[Instr.findAsking],rfl⟩
  | cons _ _=>cases h
 | e :: es, l, i, h => by
  cases l with
  | nil=>cases h
  | cons p l =>
   simp only[List.map_cons,List.cons.injEq,Prod.mk.injEq] at h;obtain⟨⟨h1,h2⟩,h3⟩:=h;obtain⟨q,Fs,vB⟩:=aHT hfl k es l (i+1) h3;obtain⟨a,b⟩:=p
   have he:=aOV (w:=w) hfl k a
   rw[←h1] at he
   by_cases hk:a=k
   ·refine⟨some (i,e.val),?_,?_⟩
    ·unfold Instr.findAsking;simp[Sem.run_bind,he,hk]
    ·rw[Lb,if_pos hk];simp[h2]
   ·refine⟨q,?_,?_⟩
    ·unfold Instr.findAsking;simp[Sem.run_bind,he,hk,Fs]
    ·rw[Lb,if_neg hk];exact vB
theorem aHH{f0 f1:Field}{k0 k1:IntKind}(hk:P.underlying kt=some (.struct #[f0,f1]))(h0:P.underlying f0.type=some (.int k0))(h1:P.underlying f1.type=some (.int k1))(o0:f0.offset=0)(o1:f1.offset=1)(p:Int×Int)(b:Bool):(Instr.checkKey b 10000 kt (kP p)).run P w=.ok () w:=by
 have e0:=Zm (P:=P) (w:=w) (cs:=#[.int .i64 p.1,.int .i64 p.2]) (i:=0) (v:=.int .i64 p.1) h0 (.inl ⟨_,rfl⟩) rfl
 have e1:=Zm (P:=P) (w:=w) (cs:=#[.int .i64 p.1,.int .i64 p.2]) (i:=1) (v:=.int .i64 p.2) h1 (.inl ⟨_,rfl⟩) rfl
 have c0:(Instr.checkKey b 9999 f0.type (.int .i64 p.1)).run P w=.ok () w:=by
  unfold Instr.checkKey;simp[Sem.run_bind,run_underlying h0]
 have c1:(Instr.checkKey b 9999 f1.type (.int .i64 p.2)).run P w=.ok () w:=by
  unfold Instr.checkKey;simp[Sem.run_bind,run_underlying h1]
 unfold Instr.checkKey kP
 by_cases n0:f0.name= "_" <;>by_cases n1:f1.name= "_" <;>simp[Sem.run_bind,run_underlying hk,n0,n1,o0,o1,e0,e1,c0,c1]
end
structure Ca(P:Program)(kt:TypeId):Prop where
 st:∃f0 f1 k0 k1,P.underlying kt=some (.struct #[f0,f1])∧P.underlying f0.type=some (.int k0)∧P.underlying f1.type=some (.int k1)∧f0.offset=0∧f1.offset=1
 fl:∀a b c d:Int,Mj P kt [.int .i64 a,.int .i64 b] [.int .i64 c,.int .i64 d]=true
theorem Ca.of{P:Program}{kt:TypeId}{f0 f1:Field}{k0 k1:IntKind}(h:P.underlying kt=some (.struct #[f0,f1]))(h0:P.underlying f0.type=some (.int k0))(h1:P.underlying f1.type=some (.int k1))(o0:f0.offset=0)(o1:f1.offset=1)(fl:∀a b c d:Int,Mj P kt [.int .i64 a,.int .i64 b] [.int .i64 c,.int .i64 d]=true):Ca P kt:=⟨⟨f0,f1,k0,k1,h,h0,h1,o0,o1⟩,fl⟩
section
variable{P:Program}{w:World}{t kt et:TypeId}{r:Nat}{l:List ((Int×Int)×Value)}
theorem aHd(hk:Ca P kt)(k:Int×Int)(es:List MapEntry)(h:es.map (fun x=>(x.key,x.val))=l.map (fun p=>(kP p.1,p.2))):∃q,(Instr.findKey kt (kP k) es).run P w=.ok q w∧q.map (·.2)=kM l k:=by
 obtain⟨f0,f1,k0,k1,hu,_⟩:=hk.st;obtain⟨q,h1,h2⟩:=aHT (w:=w) hk.fl k es l 0 h;cases es with
 | nil=>
  cases l with
  | cons _ _=>cases h
  | nil=>exact⟨none,by simp[Instr.findKey,Sem.run_bind,run_underlying hu,Instr.findNow],rfl⟩
 | cons e es =>
  refine⟨q,?_,h2⟩;unfold Instr.findKey
  have:Instr.findNow (.struct #[f0,f1]) (kP k) (e::es) 0=none:=by
   unfold Instr.findNow Instr.sameNow;rfl
  simp[Sem.run_bind,run_underlying hu,this,h1]
theorem aKK{z:Value}(ht:P.underlying t=some (.map kt et))(hk:Ca P kt)(hz:∀w,(zeroValue et).run P w=.ok z w)(h:Jz w r l)(k:Int×Int)(ok:Bool):
  (Instr.lookup t (.map (some r)) (kP k) ok).run P w=.ok (if ok then .tuple #[(kM l k).getD z,.bool (kM l k).isSome] else(kM l k).getD z) w:=by
 obtain⟨es,c,h1,h2⟩:=h;obtain⟨q,hf,vB⟩:=aHd (w:=w) hk k es.toList h2;obtain⟨f0,f1,k0,k1,hu,u0,u1,o0,o1⟩:=hk.st
 have hc:=fun b=>aHH (w:=w) hu u0 u1 o0 o1 k b
 unfold Instr.lookup;rw[←vB];cases q with
 | none=>cases ok<;>simp[Sem.run_bind,run_underlying ht,run_getObj_map h1,hc,hf,hz]
 | some x=>obtain⟨j,v⟩:=x;cases ok<;>simp[Sem.run_bind,run_underlying ht,run_getObj_map h1,hc,hf]
theorem aKM(ht:P.underlying t=some (.map kt et))(hk:Ca P kt)(h:Jz w r l)(k:Int×Int)(v:Value)(hno:kM l k=none):
  ∃es c,(Instr.mapUpdate t (.map (some r)) (kP k) v).run P w=.ok () {w with heap:=w.heap.setIfInBounds r (.map es c)}∧es.toList.map (fun x=>(x.key,x.val))=(l++[(k,v)]).map fun p=>(kP p.1,p.2):=by
 obtain⟨es,c,h1,h2⟩:=h;obtain⟨q,hf,vB⟩:=aHd (w:=w) hk k es.toList h2;obtain⟨f0,f1,k0,k1,hu,u0,u1,o0,o1⟩:=hk.st
 have hc:=fun b=>aHH (w:=w) hu u0 u1 o0 o1 k b
 have lF:∀o,(setObj r o).run P w=.ok () {w with heap:=w.heap.setIfInBounds r o}:=fun o=>by simp[setObj,Sem.run,h1]
 rw[hno] at vB;obtain rfl:q=none:=by cases q with | none=>rfl | some x=>cases vB
 refine⟨es.push {key:=kP k,val:=v,born:=c},c+1,?_,?_⟩
 ·unfold Instr.mapUpdate;simp[Sem.run_bind,run_underlying ht,run_getObj_map h1,hc,hf,lF]
 ·rw[Array.toList_push,List.map_append,h2];simp
end
def HP.tS(r:Nat)(l:List ((Int×Int)×Value)):HP:=⟨fun F w=>F r∧Jz w r l,fun F w w' h hk=>⟨h.1,by
 obtain⟨es,c,h1,h2⟩:=h.2
 exact⟨es,c,(hk r h.1).trans h1,h2⟩⟩⟩
theorem Jz.lt{w:World}{r:Nat}{l:List ((Int×Int)×Value)}(h:Jz w r l):r < w.heap.size:=by
 obtain⟨es,c,h1,_⟩:=h;rcases Nat.lt_or_ge r w.heap.size with h | h
 ·exact h
 ·rw[Array.getElem?_eq_none h] at h1;cases h1
section
variable{P:Program}{N:cE}{w0 w:World}{e:Env}{R:List Piece}{H:List HP}{Q:Exit→Act→World→Prop}{ops:Array Oper}{rest:List Oper}
variable{d:Nat}{ty:TypeId}{pos:String}{aI:Array Edge}
theorem St.tS(st:St w0 R H w){i r:Nat}{l:List ((Int×Int)×Value)}(hi:H[i]? =some (HP.tS r l)):Jz w r l:=(st.sat hi).choose_spec.2
theorem aJm{t:TypeId}(hd:d < N.n)(k:∀g,XK N w0 (wpList P ops Q rest) ((d,.map (some g))::e) R (HP.tS g []::H)):XK N w0 (wpList P ops Q (⟨some d,.makeMap t none,ty,pos,aI,none⟩::rest)) e R H:=
 rT rfl fun a w hr st=>⟨.map (some w.heap.size),w.alloc (.map #[] 0),by simp[execOp,Instr.makeMap],k w.heap.size _ _ (hr.put hd _) (st.new (Rm w _) ⟨⟨Nat.le_refl _,by simp⟩,#[],0,heap_alloc_new w _,rfl⟩)⟩
theorem aJq{x y:Operand}{t kt et:TypeId}{z:Value}{r:Nat}{l:List ((Int×Int)×Value)}{k:Int×Int}(ok:Bool)(ht:P.underlying t=some (.map kt et))(hk:Ca P kt)(hz:(P.info? et).bind (·.zero)=some z)
  (hx:e.ev x=some (.map (some r))) (hy:e.ev y=some (kP k)) (hm:∀w,St w0 R H w→Jz w r l) (hd:d < N.n)
  (kk:XK N w0 (wpList P ops Q rest) ((d,if ok then .tuple #[(kM l k).getD z,.bool (kM l k).isSome] else(kM l k).getD z)::e) R H):XK N w0 (wpList P ops Q (⟨some d,.lookup t x y ok,ty,pos,aI,none⟩::rest)) e R H:=
 rT rfl fun a w hr st=>⟨_,w,by simp only[execOp,hr.ev hx,hr.ev hy,Sem.run_bind,aKK ht hk (zeroV hz) (hm w st),Result.andThen_ok,Sem.run_pure],kk _ _ (hr.put hd _) st⟩
theorem aB2{x y:Operand}{t kt et:TypeId}{z v:Value}{r:Nat}{l:List ((Int×Int)×Value)}{k:Int×Int}{b:Bool}(ht:P.underlying t=some (.map kt et))(hk:Ca P kt)(hz:(P.info? et).bind (·.zero)=some z)
  (hx:e.ev x=some (.map (some r))) (hy:e.ev y=some (kP k)) (hm:∀w,St w0 R H w→Jz w r l) (hv:(kM l k).getD z=v) (hb:(kM l k).isSome=b) (hd:d < N.n)
  (kk:XK N w0 (wpList P ops Q rest) ((d,.tuple #[v,.bool b])::e) R H):XK N w0 (wpList P ops Q (⟨some d,.lookup t x y true,ty,pos,aI,none⟩::rest)) e R H:=
 aJq true ht hk hz hx hy hm hd (by subst hv;subst hb;exact kk)
theorem aJt(i:Nat){x y u:Operand}{t kt et:TypeId}{r:Nat}{l:List ((Int×Int)×Value)}{k:Int×Int}{v:Value}(ht:P.underlying t=some (.map kt et))(hk:Ca P kt)(hi:H[i]? =some (HP.tS r l))(hno:kM l k=none)
  (hx:e.ev x=some (.map (some r))) (hy:e.ev y=some (kP k)) (hu:e.ev u=some v) (kk:XK N w0 (wpList P ops Q rest) e R (H.set i (HP.tS r (l++[(k,v)])))):XK N w0 (wpList P ops Q (⟨none,.insert t x y u,ty,pos,aI,none⟩::rest)) e R H:=
 aB0 rfl rfl fun a w hr st=>by
  have hm:=st.tS hi
  have hlt:=hm.lt
  obtain⟨es,c,hrun,hl⟩:=aKM (P:=P) ht hk hm k v hno;refine⟨{w with heap:=w.heap.setIfInBounds r (.map es c)},by simp only[execOp,hr.ev hx,hr.ev hy,hr.ev hu,Sem.run_bind,hrun,Result.andThen_ok,Sem.run_pure],kk _ _ hr ?_⟩;refine st.vY hi (by simp) rfl rfl rfl fun F hF hb=>⟨F,⟨hF.1,es,c,by simp[Array.getElem?_setIfInBounds,hlt],hl⟩,fun b h=>⟨.inl h,by simpa using hb b h⟩,fun b hb hnb=>?_⟩
  rw[Array.getElem?_setIfInBounds];split
  ·rename_i he;exact absurd (he▸hF.1) hnb
  ·rfl
end
end
section
theorem aGd:∀(sub:List Nat) (l:Array Bool),(lA sub l).size=l.size
 | [],l=>rfl
 | i::sub,l=>by
  show((lA sub l).setIfInBounds i true).size=_
  rw[Array.size_setIfInBounds,aGd sub l]
theorem aCw:∀(sub:List Nat) (l:Array Bool) (i:Nat) (b:Bool),i∈sub→i < l.size→(lA sub l).getD i b=true
 | j :: sub, l, i, b, h, hi => by
  show((lA sub l).setIfInBounds j true).getD i b=true
  by_cases e:j=i
  ·subst e
   have:j < (lA sub l).size:=by rw[aGd];exact hi
   simp[this]
  ·rw[getD_set_ne b e];rcases List.mem_cons.1 h with h | h
   ·exact absurd h.symm e
   ·exact aCw sub l i b h hi
theorem Ul:∀(sub:List Nat) (l:Array Bool) (i:Nat) (b:Bool),i∉sub→(lA sub l).getD i b=l.getD i b
 | [],l,i,b,_=>rfl
 | j::sub,l,i,b,h=>by
  show((lA sub l).setIfInBounds j true).getD i b=_
  have e:j≠i:=fun e=>h (by simp[e])
  rw[getD_set_ne b e];exact Ul sub l i b fun h2=>h (by simp[h2])
theorem aMW{sub:List Nat}{l:Array Bool}{i:Nat}(h:l.getD i false=true):(lA sub l).getD i false=true:=by
 by_cases hi:i∈sub
 ·refine aCw sub l i false hi ?_;rcases Nat.lt_or_ge i l.size with h1 | h1
  ·exact h1
  ·simp[Array.getElem?_eq_none h1] at h
 ·rw[Ul sub l i false hi];exact h
def aC7(ops:Array Oper)(I:List Nat)(listed:Array Bool):Bool:=
 I.all (fun i=>decide (i < listed.size)&& !(listed.getD i true)&&match ops[i]? with
  | some o=>o.after.toList.all fun x=> !(Region.binds .any x)||listed.getD x.on false
  | none=>false)&&
 (List.range ops.size).all fun j=>I.contains j||listed.getD j true||match ops[j]? with
  | some o=>I.all fun i=>o.after.toList.any fun x=>Region.binds .any x&&x.on==i
  | none=>true
theorem aL6{ops:Array Oper}{I sub:List Nat}{listed:Array Bool}(hB:aC7 ops I listed=true)(hsub:∀i∈sub,i∈I){i0:Nat}(nJ:i0∈I)(hn0:i0∉sub):
  Region.ready .any ops (lA sub listed)≠[]∧∀j∈Region.ready .any ops (lA sub listed),j∈I∧j∉sub:=by
 unfold aC7 at hB;rw[Bool.and_eq_true,List.all_eq_true,List.all_eq_true] at hB;obtain⟨hA,hC⟩:=hB
 have h0:=hA i0 nJ
 simp only[Bool.and_eq_true,decide_eq_true_eq,Bool.not_eq_true'] at h0;obtain⟨⟨h1,h2⟩,h3⟩:=h0;constructor
 ·cases ho:ops[i0]? with
  | none=>rw[ho] at h3;cases h3
  | some o =>
   rw[ho] at h3;simp only[List.all_eq_true] at h3
   have:i0∈Region.ready .any ops (lA sub listed):=mem_ready.2 ⟨by rw[Ul _ _ _ _ hn0];exact h2,o,ho,fun x hx hb=>by
    have:=h3 x (by simpa using hx)
    rw[hb] at this
    exact aMW (by simpa using this)⟩
   intro he;rw[he] at this;cases this
 ·intro j hj;obtain⟨g1,o,ho,g2⟩:=mem_ready.1 hj
  have hjn:j∉sub:=fun h=>by
   have pR:=hA j (hsub j h)
   simp only[Bool.and_eq_true,decide_eq_true_eq] at pR;rw[aCw sub listed j true h pR.1.1] at g1;cases g1
  refine⟨?_,hjn⟩;rw[Ul _ _ _ _ hjn] at g1
  have hlt:j < ops.size:=(Array.getElem?_eq_some_iff.1 ho).1
  have hc:=hC j (List.mem_range.2 hlt)
  rw[g1,ho] at hc;simp only[Bool.or_false,Bool.or_eq_true] at hc;rcases hc with hc | hc
  ·simpa using hc
  ·exfalso;rw[List.all_eq_true] at hc
   have:=hc i0 nJ
   rw[List.any_eq_true] at this;obtain⟨x,hx,hb⟩:=this;simp only[Bool.and_eq_true,beq_iff_eq] at hb
   have:=g2 x (by simpa using hx) hb.1
   rw[hb.2,Ul _ _ _ _ hn0] at this
   have h4:listed.getD i0 true=listed.getD i0 false:=by simp[h1]
   rw[h4,this] at h2;cases h2
theorem aFB{I sub:List Nat}(hI:I.Nodup)(hn:sub.Nodup)(hin:∀i∈sub,i∈I):(I.filter fun i=>sub.contains i).Perm sub:=by
 rw[List.perm_iff_count];intro a;rw[(hI.sublist List.filter_sublist).count,hn.count]
 by_cases ha:a∈sub
 ·rw[if_pos ha,if_pos (by simp[ha,hin a ha])]
 ·rw[if_neg ha,if_neg (by simp[ha])]
theorem aML{l1 l2:List ((Int×Int)×Value)}(h:l1.Perm l2)(hn:(l1.map (·.1)).Nodup)(k:Int×Int):kM l1 k=kM l2 k:=by
 induction h with
 | nil=>rfl
 | cons x _ ih=>
  obtain⟨a,b⟩:=x;rw[Lb,Lb,ih (List.nodup_cons.1 hn).2]
 | swap x y s =>
  obtain⟨a,b⟩:=x;obtain⟨c,d⟩:=y
  have hne:c≠a:=fun e=>(List.nodup_cons.1 hn).1 (by rw[e];simp)
  simp only[Lb]
  by_cases h1:a=k
  ·have:c≠k:=fun e=>hne (e.trans h1.symm)
   simp[h1,this]
  ·simp[h1]
 | trans h1 h2 i1 i2=>exact(i1 hn).trans (i2 ((h1.map _).nodup_iff.1 hn))
theorem aMM{l:List ((Int×Int)×Value)}{k:Int×Int}(h:k∉l.map (·.1)):kM l k=none:=by
 induction l with
 | nil=>rfl
 | cons x l ih=>
  obtain⟨a,b⟩:=x;rw[List.map_cons,List.mem_cons,not_or] at h;rw[Lb,if_neg (fun e=>h.1 e.symm)];exact ih h.2
section
variable{P:Program}{N:cE}{w0 w:World}{e:Env}{R R0:List Piece}{H H0:List HP}{Q:Exit→Act→World→Prop}{ops:Array Oper}{m fuel:Nat}{listed:Array Bool}
def Lays(P:Program)(ops:Array Oper)(e:Env)(r:Nat)(i:Nat)(p:(Int×Int)×Value):Prop:=∃x y u ty pos aI t kt et,ops[i]? =some ⟨none,.insert t x y u,ty,pos,aI,none⟩∧P.underlying t=some (.map kt et)∧Ca P kt∧e.ev x=some (.map (some r))∧e.ev y=some (kP p.1)∧e.ev u=some p.2
theorem aSm(I:List Nat)(Mm:Nat→(Int×Int)×Value)(r:Nat)(hI:I.Nodup)(hop:∀i∈I,Lays P ops e r i (Mm i))(hkeys:(I.map fun i=>(Mm i).1).Nodup)(hB:aC7 ops I listed=true)
  (hS:∀l w,St w0 R (HP.tS r l::H) w→St w0 R0 H0 w)
  (k:∀sub:List Nat,sub.Perm I→XA P N w0 ops Q R0 H0 m fuel (lA sub listed) e R (HP.tS r (sub.reverse.map Mm)::H)):XA P N w0 ops Q R0 H0 m (fuel+I.length) listed e R (HP.tS r []::H):=by
 have key : ∀ (n : Nat) (sub : List Nat), sub.Nodup → (∀ i ∈ sub, i ∈ I) → sub.length + n = I.length → XA P N w0 ops Q R0 H0 m (fuel + n) (lA sub listed) e R (HP.tS r (sub.reverse.map Mm) :: H) := by
  intro n
  induction n with
  | zero=>
   intro sub hn hin hl
   have hp:=aFB hI hn hin
   have hf:(I.filter fun i=>sub.contains i)=I:=List.filter_sublist.eq_of_length (by have:=hp.length_eq;omega)
   rw[hf] at hp;exact k sub hp.symm
  | succ n ih =>
   intro sub hn hin hl
   obtain⟨i0,nJ,hn0⟩:∃i,i∈I∧i∉sub:=Classical.byContradiction fun hno=>by
    have hp:=aFB hI hn hin
    have hf:(I.filter fun i=>sub.contains i)=I:=List.filter_eq_self.2 fun i hi=>by
     rcases Classical.em (i∈sub) with h | h
     ·simpa using h
     ·exact absurd ⟨i,hi,h⟩ hno
    rw[hf] at hp
    have:=hp.length_eq
    omega
   obtain⟨r1,r2⟩:=aL6 hB hin nJ hn0;intro up a w cR st;refine⟨fun h=>absurd h r1,fun i hi=>?_⟩;obtain⟨hiI,Vi⟩:=r2 i hi;obtain⟨x,y,u,ty,pos,aI,t,kt,et,ho,ht,hk,hx,hy,hu⟩:=hop i hiI
   have hno:kM (sub.reverse.map Mm) (Mm i).1=none:=aMM fun hm=>by
    simp only[List.map_map,List.mem_map,List.mem_reverse,Function.comp] at hm;obtain⟨j,hj,he⟩:=hm
    have hji:j≠i:=fun e=>Vi (e▸hj)
    exact hji (Classical.byContradiction fun hne=>by
     have h1:=List.pairwise_map.1 hkeys
     exact absurd he (by
      obtain⟨a,ha⟩:=List.getElem?_of_mem (hin j hj);obtain⟨b,hb⟩:=List.getElem?_of_mem hiI
      have hal:=(List.getElem?_eq_some_iff.1 ha).1
      have hbl:=(List.getElem?_eq_some_iff.1 hb).1
      have hav:=(List.getElem?_eq_some_iff.1 ha).2
      have Vz:=(List.getElem?_eq_some_iff.1 hb).2
      have h2:=List.pairwise_iff_getElem.1 h1
      rcases Nat.lt_trichotomy a b with h | h | h
      ·have:=h2 a b hal hbl h;rw[hav,Vz] at this;exact this
      ·subst h;exact absurd (hav.symm.trans Vz) hji
      ·have:=h2 b a hbl hal h;rw[hav,Vz] at this;exact fun e=>this e.symm))
   refine Ci ho (fun a w h=>⟨h.1,h.2 (up.kY hi)⟩) (K:=rI P w0 ops Q R0 H0 m (fuel+n) (lA sub listed) i) ?_
   have:=aJt (P:=P) (N:=N) (w0:=w0) (R:=R) (H:=HP.tS r (sub.reverse.map Mm)::H) (Q:=Exit.then (rI P w0 ops Q R0 H0 m (fuel+n) (lA sub listed) i) Q) (ops:=ops) (rest:=[]) (ty:=ty) (pos:=pos) (aI:=aI) 0 ht hk rfl hno hx hy hu
    (gX (gQ (kL (hS _) (by
     have:=ih (i::sub) (List.nodup_cons.2 ⟨Vi,hn⟩) (fun j hj=>by
      rcases List.mem_cons.1 hj with rfl | hj
      ·exact hiI
      ·exact hin j hj) (by simp only[List.length_cons];omega)
     rw[List.reverse_cons,List.map_append] at this
     exact this))))
   exact this a w cR st
 exact key I.length [] List.nodup_nil (fun _ h=>by cases h) (by simp)
end
end
section
theorem aHf(L:List (Nat×Nat))(place:Nat→Option (Nat×Nat))(hp:∀i x,L[i]? =some x→place i=some x):∀(ps:List (Nat×Value)) (cs cs':List Value),eZ L cs ps=some cs'→Instr.fill place cs.toArray ps=some cs'.toArray
 | [],cs,cs',h=>by cases h;rfl
 | (i, v) :: rest, cs, cs', h => by
  unfold eZ at h;unfold Instr.fill;split at h
  ·rename_i off sz hL
   rw[hp _ _ hL];split at h
   ·rename_i hc
    have e1:(decide (v.cells.size≠sz)||decide (off+v.cells.size>cs.toArray.size))=false:=by simp;omega
    simp only[e1,Bool.false_eq_true,if_false]
    have:=aBN v.cells.toList cs off 0
    rw[show v.cells.zipIdx.foldl (fun cs (c,j)=>cs.setIfInBounds (off+j) c) cs.toArray=(gD cs off v.cells.toList).toArray by
     rw[←Array.foldl_toList,Array.toList_zipIdx];exact this]
    exact aHf L place hp rest _ cs' h
   ·cases h
  ·cases h
section
variable{P:Program}{N:cE}{w0:World}{e:Env}{R:List Piece}{H:List HP}{d:Nat}{ty:TypeId}{pos:String}{aI:Array Edge}
theorem aDs{t el:TypeId}{n sz:Nat}{ps:List (Nat×Operand)}{vs:List (Nat×Value)}{zs cs:List Value}(hz:Cg P t zs)(ht:P.underlying t=some (.array n el))(hsz:(P.info? el).map (·.size)=some sz)(hp:e.parts ps=some vs)(hf:eZ ((List.range n).map fun i=>(i*sz,sz)) zs vs=some cs):bQ P N w0 e R H ⟨some d,.build t ps.toArray,ty,pos,aI,none⟩ (.agg cs.toArray):=
 gP (fun a w hr => by
  have:=hr.parts hp
  obtain⟨i,z,hi,Cx,rfl⟩:=hz;obtain⟨j,hj,rfl⟩:=Option.map_eq_some_iff.1 hsz
  have hfl:=aHf _ (fun i=>some (i*j.size,j.size)) (fun i x hx=>by
   rw[List.getElem?_map] at hx;obtain⟨q,hq,rfl⟩:=Option.map_eq_some_iff.1 hx
   have hlt:i < n:=by
    rcases Nat.lt_or_ge i n with h | h
    ·exact h
    ·rw[List.getElem?_eq_none (by simpa using h)] at hq;cases hq
   rw[List.getElem?_range hlt] at hq;cases hq
   rfl) vs z.cells.toList cs hf
  simp at hfl;simp only[execOp,List.map_toArray,this]
  simp[Instr.build,zeroValue,typeInfo,sizeOf,hi,hj,Cx,run_underlying ht,hfl])
end
def qI(n m a b c:Int):Value:=.agg #[iv n,iv m,.int .u8 a,.int .u8 b,.int .u8 c]
theorem aAg:Ca Tryz.prog 164:=Ca.of Tryz.underlying164 Tryz.underlying3 Tryz.underlying3 rfl rfl (fun _ _ _ _=>by kernel_rfl)
def yP:Nat→(Int×Int)×Value
 | 3=>((16,0),qI 0 0 0 0 0) | 6=>((17,0),qI 0 0 0 0 0) | 9=>((20,0),qI 0 0 0 0 0) | 12=>((22,0),qI 0 0 0 0 0) | 15=>((16,1),qI 0 0 0 0 0)
 | 19=>((17,4),qI 2 3 100 117 107) | 22=>((17,5),qI 1 0 0 0 0) | 25=>((20,6),qI 1 0 0 0 0) | 29=>((20,7),qI 2 2 111 99 0) | _=>((22,4),qI 2 2 114 97 0)
def Mi:List Nat:=[3,6,9,12,15,19,22,25,29,33]
def aDe:List ((Int×Int)×Value):=Mi.map yP
def aEp(v:Value)(hs:List HP)(_:Piece):Prop:=∃(g:Nat) (sub:List Nat),v=.map (some g)∧sub.Perm Mi∧hs=[HP.tS g (sub.reverse.map yP)]
theorem aGT(w:World):Cz 79 #[] w (fun y w'=>(∃v hs q,y=.returned v∧q.w=w'∧aEp v hs q∧fV w hs q)∧Below w.heap.size w w'):=by
 refine aO func79 ntmps79 ?_;refine eA ?_;refine fU ?_;refine jM rfl (by decide) ?_;refine fB ?_;refine eA ?_;refine qM 34 (by kernel_rfl) (by kernel_rfl) ?_;refine fG 1 rfl rfl rfl (by decide) (kQ (zs:=[iv 0,iv 0]) (L:=[(0,1),(1,1)]) (gY (by kernel_rfl)) (by kernel_rfl) rfl (by simp[eZ,gD,Value.cells];rfl)) (by kernel_rfl) (fun _ _ _ h=>h) (fun _ h=>h) ?_;refine fG 2 rfl rfl rfl (by decide) (kQ (zs:=[iv 0,iv 0,.int .u8 0,.int .u8 0,.int .u8 0]) (L:=[(0,1),(1,1),(2,3)]) (gY (by kernel_rfl)) (by kernel_rfl) rfl (by simp[eZ,gD,Value.cells];rfl)) (by kernel_rfl) (fun _ _ _ h=>h) (fun _ h=>h) ?_;refine fG 4 rfl rfl rfl (by decide) (kQ (zs:=[iv 0,iv 0]) (L:=[(0,1),(1,1)]) (gY (by kernel_rfl)) (by kernel_rfl) rfl (by simp[eZ,gD,Value.cells];rfl)) (by kernel_rfl) (fun _ _ _ h=>h) (fun _ h=>h) ?_;refine fG 5 rfl rfl rfl (by decide) (kQ (zs:=[iv 0,iv 0,.int .u8 0,.int .u8 0,.int .u8 0]) (L:=[(0,1),(1,1),(2,3)]) (gY (by kernel_rfl)) (by kernel_rfl) rfl (by simp[eZ,gD,Value.cells];rfl)) (by kernel_rfl) (fun _ _ _ h=>h) (fun _ h=>h) ?_;refine fG 7 rfl rfl rfl (by decide) (kQ (zs:=[iv 0,iv 0]) (L:=[(0,1),(1,1)]) (gY (by kernel_rfl)) (by kernel_rfl) rfl (by simp[eZ,gD,Value.cells];rfl)) (by kernel_rfl) (fun _ _ _ h=>h) (fun _ h=>h) ?_;refine fG 8 rfl rfl rfl (by decide) (kQ (zs:=[iv 0,iv 0,.int .u8 0,.int .u8 0,.int .u8 0]) (L:=[(0,1),(1,1),(2,3)]) (gY (by kernel_rfl)) (by kernel_rfl) rfl (by simp[eZ,gD,Value.cells];rfl)) (by kernel_rfl) (fun _ _ _ h=>h) (fun _ h=>h) ?_;refine fG 10 rfl rfl rfl (by decide) (kQ (zs:=[iv 0,iv 0]) (L:=[(0,1),(1,1)]) (gY (by kernel_rfl)) (by kernel_rfl) rfl (by simp[eZ,gD,Value.cells];rfl)) (by kernel_rfl) (fun _ _ _ h=>h) (fun _ h=>h) ?_;refine fG 11 rfl rfl rfl (by decide) (kQ (zs:=[iv 0,iv 0,.int .u8 0,.int .u8 0,.int .u8 0]) (L:=[(0,1),(1,1),(2,3)]) (gY (by kernel_rfl)) (by kernel_rfl) rfl (by simp[eZ,gD,Value.cells];rfl)) (by kernel_rfl) (fun _ _ _ h=>h) (fun _ h=>h) ?_;refine fG 13 rfl rfl rfl (by decide) (kQ (zs:=[iv 0,iv 0]) (L:=[(0,1),(1,1)]) (gY (by kernel_rfl)) (by kernel_rfl) rfl (by simp[eZ,gD,Value.cells];rfl)) (by kernel_rfl) (fun _ _ _ h=>h) (fun _ h=>h) ?_;refine fG 14 rfl rfl rfl (by decide) (kQ (zs:=[iv 0,iv 0,.int .u8 0,.int .u8 0,.int .u8 0]) (L:=[(0,1),(1,1),(2,3)]) (gY (by kernel_rfl)) (by kernel_rfl) rfl (by simp[eZ,gD,Value.cells];rfl)) (by kernel_rfl) (fun _ _ _ h=>h) (fun _ h=>h) ?_;refine fG 16 rfl rfl rfl (by decide) (kQ (zs:=[iv 0,iv 0]) (L:=[(0,1),(1,1)]) (gY (by kernel_rfl)) (by kernel_rfl) rfl (by simp[eZ,gD,Value.cells];rfl)) (by kernel_rfl) (fun _ _ _ h=>h) (fun _ h=>h) ?_;refine fG 17 rfl rfl rfl (by decide) (aDs (n:=3) (sz:=1) (el:=5) (zs:=[.int .u8 0,.int .u8 0,.int .u8 0]) (gY (by kernel_rfl)) (by kernel_rfl) (by kernel_rfl) rfl (by simp[eZ,gD,Value.cells,List.range_succ,List.set];rfl)) (by kernel_rfl) (fun _ _ _ h=>h) (fun _ h=>h) ?_;refine fG 18 rfl rfl rfl (by decide) (kQ (zs:=[iv 0,iv 0,.int .u8 0,.int .u8 0,.int .u8 0]) (L:=[(0,1),(1,1),(2,3)]) (gY (by kernel_rfl)) (by kernel_rfl) rfl (by simp[eZ,gD,Value.cells];rfl)) (by kernel_rfl) (fun _ _ _ h=>h) (fun _ h=>h) ?_;refine fG 20 rfl rfl rfl (by decide) (kQ (zs:=[iv 0,iv 0]) (L:=[(0,1),(1,1)]) (gY (by kernel_rfl)) (by kernel_rfl) rfl (by simp[eZ,gD,Value.cells];rfl)) (by kernel_rfl) (fun _ _ _ h=>h) (fun _ h=>h) ?_;refine fG 21 rfl rfl rfl (by decide) (kQ (zs:=[iv 0,iv 0,.int .u8 0,.int .u8 0,.int .u8 0]) (L:=[(0,1),(1,1),(2,3)]) (gY (by kernel_rfl)) (by kernel_rfl) rfl (by simp[eZ,gD,Value.cells];rfl)) (by kernel_rfl) (fun _ _ _ h=>h) (fun _ h=>h) ?_;refine fG 23 rfl rfl rfl (by decide) (kQ (zs:=[iv 0,iv 0]) (L:=[(0,1),(1,1)]) (gY (by kernel_rfl)) (by kernel_rfl) rfl (by simp[eZ,gD,Value.cells];rfl)) (by kernel_rfl) (fun _ _ _ h=>h) (fun _ h=>h) ?_;refine fG 24 rfl rfl rfl (by decide) (kQ (zs:=[iv 0,iv 0,.int .u8 0,.int .u8 0,.int .u8 0]) (L:=[(0,1),(1,1),(2,3)]) (gY (by kernel_rfl)) (by kernel_rfl) rfl (by simp[eZ,gD,Value.cells];rfl)) (by kernel_rfl) (fun _ _ _ h=>h) (fun _ h=>h) ?_;refine fG 26 rfl rfl rfl (by decide) (kQ (zs:=[iv 0,iv 0]) (L:=[(0,1),(1,1)]) (gY (by kernel_rfl)) (by kernel_rfl) rfl (by simp[eZ,gD,Value.cells];rfl)) (by kernel_rfl) (fun _ _ _ h=>h) (fun _ h=>h) ?_;refine fG 27 rfl rfl rfl (by decide) (aDs (n:=3) (sz:=1) (el:=5) (zs:=[.int .u8 0,.int .u8 0,.int .u8 0]) (gY (by kernel_rfl)) (by kernel_rfl) (by kernel_rfl) rfl (by simp[eZ,gD,Value.cells,List.range_succ,List.set];rfl)) (by kernel_rfl) (fun _ _ _ h=>h) (fun _ h=>h) ?_;refine fG 28 rfl rfl rfl (by decide) (kQ (zs:=[iv 0,iv 0,.int .u8 0,.int .u8 0,.int .u8 0]) (L:=[(0,1),(1,1),(2,3)]) (gY (by kernel_rfl)) (by kernel_rfl) rfl (by simp[eZ,gD,Value.cells];rfl)) (by kernel_rfl) (fun _ _ _ h=>h) (fun _ h=>h) ?_;refine fG 30 rfl rfl rfl (by decide) (kQ (zs:=[iv 0,iv 0]) (L:=[(0,1),(1,1)]) (gY (by kernel_rfl)) (by kernel_rfl) rfl (by simp[eZ,gD,Value.cells];rfl)) (by kernel_rfl) (fun _ _ _ h=>h) (fun _ h=>h) ?_;refine fG 31 rfl rfl rfl (by decide) (aDs (n:=3) (sz:=1) (el:=5) (zs:=[.int .u8 0,.int .u8 0,.int .u8 0]) (gY (by kernel_rfl)) (by kernel_rfl) (by kernel_rfl) rfl (by simp[eZ,gD,Value.cells,List.range_succ,List.set];rfl)) (by kernel_rfl) (fun _ _ _ h=>h) (fun _ h=>h) ?_;refine fG 32 rfl rfl rfl (by decide) (kQ (zs:=[iv 0,iv 0,.int .u8 0,.int .u8 0,.int .u8 0]) (L:=[(0,1),(1,1),(2,3)]) (gY (by kernel_rfl)) (by kernel_rfl) rfl (by simp[eZ,gD,Value.cells];rfl)) (by kernel_rfl) (fun _ _ _ h=>h) (fun _ h=>h) ?_;refine cJ 0 ?_;refine aJm (by decide) fun g1=>?_;refine mT ?_;refine aSm (fuel:=2) Mi yP g1 (by decide) (fun i hi=>?_) (by decide) (by kernel_rfl) (fun l w1 h=>h.tail) (fun sub hsub=>?_)
 ·simp only[Mi,List.mem_cons,List.not_mem_nil,or_false] at hi;rcases hi with rfl | rfl | rfl | rfl | rfl | rfl | rfl | rfl | rfl | rfl
  all_goals exact⟨_,_,_,_,_,_,_,_,_,rfl,Tryz.underlying161,aAg,rfl,rfl,rfl⟩
 rw[aAl hsub];refine cJ 34 ?_;refine dO rfl (by decide) ?_;refine eS ?_;refine cJ 35 ?_;refine jM rfl (by decide) ?_;refine eS ?_;refine kK ?_;refine eJ ?_;refine Rp ?_;refine eJ ?_;refine dB [] [] [0] (by simp) rfl (by decide) (by decide) fun q _ _ hfr=>?_;exact aP (h:=fun w1 st=>⟨_,_,⟨w1,q.Z⟩,rfl,rfl,⟨g1,sub,rfl,hsub,rfl⟩,st.newR (by simp) (by simp) (hfr (by simp) (by simp))⟩)
end
section
def eH(w:Int):Int:=if cM w 28 4≠0 then 0 else cM w 0 8
def Qc(w:Int):Int:=if cM w 28 4≠0 then 0 else cM w 8 2
def dY(w:Int):Int:=if cM w 28 4≠0 then 0 else cM w 10 8
def aA7(w:Int):Int:=if cM w 28 4≠0 then 0 else cM w 18 10
theorem aJV(w:Int):Kl w=Ma (eH w) (Qc w) (dY w) (aA7 w):=by
 unfold Kl eH Qc dY aA7;split<;>rfl
structure mU where
 n:Int
 m:Int
 a:Int
 b:Int
 c:Int
def mU.v(f:mU):Value:=qI f.n f.m f.a f.b f.c
def mU.act(f:mU)(v:Int):Int:=if v=0 then f.a else if v=1 then f.b else f.c
def uC(p m:Int):Option mU:=
 if m=0 then(if p=16∨p=17∨p=20∨p=22 then some ⟨0,0,0,0,0⟩ else none)
 else if m=1 then(if p=16 then some ⟨0,0,0,0,0⟩ else none)
 else if m=4 then(if p=17 then some ⟨2,3,100,117,107⟩ else if p=22 then some ⟨2,2,114,97,0⟩ else none)
 else if m=5 then(if p=17 then some ⟨1,0,0,0,0⟩ else none)
 else if m=6 then(if p=20 then some ⟨1,0,0,0,0⟩ else none)
 else if m=7 then(if p=20 then some ⟨2,2,111,99,0⟩ else none)
 else none
theorem aO2(p m:Int):kM aDe (p,m)=(uC p m).map mU.v:=by
 unfold aDe Mi uC;simp only[List.map_cons,List.map_nil,yP,Lb,Prod.mk.injEq]
 by_cases h0:m=0
 ·subst h0
  by_cases vF:p=16
  ·subst vF;simp[mU.v]
  ·by_cases Bh:p=17
   ·subst Bh;simp[mU.v]
   ·by_cases wZ:p=20
    ·subst wZ;simp[mU.v]
    ·by_cases Mf:p=22
     ·subst Mf;simp[mU.v]
     ·simp[vF,Bh,wZ,Mf,kM,Ne.symm vF,Ne.symm Bh,Ne.symm wZ,Ne.symm Mf]
 ·by_cases h1:m=1
  ·subst h1
   by_cases vF:p=16
   ·subst vF;simp[mU.v]
   ·simp[vF,Ne.symm vF,kM]
  ·by_cases h4:m=4
   ·subst h4
    by_cases Bh:p=17
    ·subst Bh;simp[mU.v]
    ·by_cases Mf:p=22
     ·subst Mf;simp[mU.v]
     ·simp[Bh,Mf,Ne.symm Bh,Ne.symm Mf,kM]
   ·by_cases h5:m=5
    ·subst h5
     by_cases Bh:p=17
     ·subst Bh;simp[mU.v]
     ·simp[Bh,Ne.symm Bh,kM]
    ·by_cases h6:m=6
     ·subst h6
      by_cases wZ:p=20
      ·subst wZ;simp[mU.v]
      ·simp[wZ,Ne.symm wZ,kM]
     ·by_cases h7:m=7
      ·subst h7
       by_cases wZ:p=20
       ·subst wZ;simp[mU.v]
       ·simp[wZ,Ne.symm wZ,kM]
      ·simp[h0,h1,h4,h5,h6,h7,Ne.symm h0,Ne.symm h1,Ne.symm h4,Ne.symm h5,Ne.symm h6,Ne.symm h7,kM]
def eF(p m:Int):mU:=(uC p m).getD ⟨0,0,0,0,0⟩
theorem aO1{sub:List Nat}(h:sub.Perm Mi)(p m:Int):kM (sub.reverse.map yP) (p,m)=(uC p m).map mU.v:=by
 rw[←aO2]
 have hp:(sub.reverse.map yP).Perm aDe:=((List.reverse_perm sub).trans h).map yP
 refine aML hp ?_ _;exact((hp.map (·.1)).nodup_iff).2 (by decide)
theorem Qf{sub:List Nat}(h:sub.Perm Mi)(p m:Int):(kM (sub.reverse.map yP) (p,m)).getD (qI 0 0 0 0 0)=(eF p m).v∧(kM (sub.reverse.map yP) (p,m)).isSome=(uC p m).isSome:=by
 rw[aO1 h];unfold eF;cases uC p m<;>exact⟨rfl,rfl⟩
theorem aGR(p m : Int) : ((eF p m).n = 0 ∨ (eF p m).n = 1 ∨ (eF p m).n = 2) ∧ 0 ≤ (eF p m).m ∧ (eF p m).m ≤ 3 ∧ (∀ v, 0 ≤ v → v < (eF p m).m → (eF p m).act v = 107 → p = 17) ∧
  ((eF p m).m≠0→p=17∨p=20∨p=22):=by
 unfold eF uC
 by_cases h0:m=0
 ·by_cases h:p=16∨p=17∨p=20∨p=22<;>simp[h0,h]<;>omega
 ·by_cases h1:m=1
  ·by_cases h:p=16<;>simp[h1,h]<;>omega
  ·by_cases h4:m=4
   ·by_cases h:p=17
    ·simp[h4,h]
    ·by_cases h':p=22
     ·subst h4 h';simp only[mU.act];refine⟨by simp,by simp,by simp,fun v h1 h2 h3=>?_,by simp⟩;simp at h2 h3;split at h3
      ·omega
      ·split at h3<;>omega
     ·simp[h4,h,h'];omega
   ·by_cases h5:m=5
    ·by_cases h:p=17<;>simp[h5,h]<;>omega
    ·by_cases h6:m=6
     ·by_cases h:p=20<;>simp[h6,h]<;>omega
     ·by_cases h7:m=7
      ·by_cases h:p=20
       ·subst h7 h;simp only[mU.act];refine⟨by simp,by simp,by simp,fun v h1 h2 h3=>?_,by simp⟩;simp at h2 h3;split at h3
        ·omega
        ·split at h3<;>omega
       ·simp[h7,h];omega
      ·simp[h0,h1,h4,h5,h6,h7];omega
def Tt(s:aC)(k:Nat):Bool:=(s.domains[k]?).any (·.ret)
def kindOf(s:aC)(k:Nat):Int:=((s.aF[k]?).map (·.kind)).getD 0
def Zh(s:aC)(k:Nat):Prop:=kindOf s k=112∨kindOf s k=103
instance(s:aC)(k:Nat):Decidable (Zh s k):=inferInstanceAs (Decidable (_∨_))
def Om(s:aC)(p k:Int)(id:Nat):Prop:=(k=107∧Tt s id=false)∨(p=20∧¬Zh s id)
instance(s:aC)(p k:Int)(id:Nat):Decidable (Om s p k id):=inferInstanceAs (Decidable (_∨_))
def Gq(s:aC)(p:Int)(f:mU)(id v:Int):Int×Int×Int:=
 if(Ai s p:Int)≤id then(-4,0,0) else if f.m=0 then(0,0,0) else if f.m≤v then(-2,0,0) else if Om s p (f.act v) id.toNat then(-2,0,0) else(0,f.act v,id)
def fE(s:aC)(l:List Int):Int×Int×Int:=
 match l with
 | []=>(-10,0,0)
 | w::r=>
  if Cl w≠0∨Qc w≠0 then(-10,0,0)
  else if(uC (dY w) (eH w)).isSome=false then(-1,0,0)
  else if(r.length:Int)≠(eF (dY w) (eH w)).n then(-10,0,0)
  else if(eF (dY w) (eH w)).n=0 then(0,0,0)
  else Gq s (dY w) (eF (dY w) (eH w)) (r.getD 0 0) (r.getD ((eF (dY w) (eH w)).n.toNat - 1) 0)
def aDB(a:Int×Int×Int):Value:=.tuple #[.int .i32 a.1,.agg #[.int .u8 a.2.1,iv a.2.2]]
def nB(l:List Int):Prop:=∀x∈l,0≤x∧x < 4294967296
theorem aH.u32{w:World}{A:Option Addr}{n:Nat}{l:List Int}(h:aH (all w) 1 A n (dQ l))(hn:0 < n):∃b off,A=some ⟨b,off,none⟩∧∀(i:Nat) (x:Int),l[i]? =some x→fK w b (off+i) (.int .u32 x):=by
 obtain⟨b,off,hA,hb,hc⟩:=h.2 hn;refine⟨b,off,hA,fun i x hx=>⟨hb,hc i _ ?_⟩⟩;simp only[dQ,List.getElem?_map,hx,Option.map_some]
section
variable{P:Program}{N:mU}{w0:World}{e:Env}{R:List Piece}{H:List HP}
theorem aRD{nn:Nat}{fn:Func}{Post:Ending→World→Prop}{t u n b:Nat}{s:TypeId}{vs:List Value}{v':Value}(hr:fn.results=#[.tmp u,.cell t s])(hs:Cq P s n=true)(hn:vs.length=n)(ht:e.get t=some (pt b))(hrd:aM w0 R H b 0 vs)(hu:e.get u=some v')(h:∀w,St w0 R H w→Post (.returned (.tuple #[v',.agg vs.toArray])) w):XK ⟨nn,[]⟩ w0 (bodyPost P fn Post .ret) e R H:=fun a w cR st=>by
 have hl:=Tp (P:=P) hs hn (hrd w st)
 refine bodyPost_ret (v:=.tuple #[v',.agg vs.toArray]) ?_ cR.defers (h w st)
 have ha:=cR.get t _ ht
 have hb:=cR.get u _ hu
 simp only[Instr.loadAt,Instr.sureAddr,Sem.run_bind,Sem.run_pure,Result.andThen_ok] at hl;simp only[results,hr];simp[ha,hb,asAddr,hl]
end
end
section
theorem aM0(s:aC)(A1 A2 A3 A4:Option Addr)(n1 k1 n2 k2 n3 k3 n4 k4:Nat)(p:Int){w0:World}(w:World)(hS:iE w0 s A1 n1 A2 n2 A3 n3 A4 n4):Cz 80 #[.agg #[.slice A1 n1 k1,.slice A2 n2 k2,.slice A3 n3 k3,.slice A4 n4 k4],iv p] w (Rt (iv (Ai s p)) w):=by
 obtain⟨h1,h2,h3,h4⟩:=And.intro hS.qX (And.intro hS.qW (And.intro hS.tT hS.sH));subst h1 h2 h3 h4;exact aMz s A1 A2 A3 A4 k1 k2 k3 k4 p w
theorem nW{nn:Nat}{w:World}{e:Env}{R:List Piece}{H:List HP}{fn:Func}{t u n b:Nat}{s:TypeId}{vs:List Value}{v v':Value}(hv:v=.tuple #[v',.agg vs.toArray])(hr:fn.results=#[.tmp u,.cell t s]:=by rfl)(hs:Cq Tryz.prog s n=true:=by kernel_rfl)(ht:e.get t=some (pt b):=by rfl)(hrd:aM w R H b 0 vs:=by first | exact aM.whole 0 rfl | exact aM.whole 1 rfl | exact aM.whole 2 rfl | exact aM.whole 3 rfl)(hn:vs.length=n:=by rfl)(hu:e.get u=some v':=by rfl)(hR:all w∈R:=by simp):XK ⟨nn,[]⟩ w (bodyPost Tryz.prog fn (Rt v w) .ret) e R H:=
 aRD hr hs hn ht hrd hu fun w9 st=>⟨by rw[hv],st.below hR⟩
theorem aL9(s:aC)(A1 A2 A3 A4:Option Addr)(n1 k1 n2 k2 n3 k3 n4 k4:Nat)(A:Option Addr)(n c:Nat)(l:List Int)(w:World)(hS:iE w s A1 n1 A2 n2 A3 n3 A4 n4)(hl:aH (all w) 1 A n (dQ l))(hn:n=l.length)(hn2:n≤1000000)(hu:nB l):
  Cz 28 #[.agg #[.slice A1 n1 k1,.slice A2 n2 k2,.slice A3 n3 k3,.slice A4 n4 k4],.slice A n c] w (Rt (aDB (fE s l)) w):=by
 refine aO func28 ntmps28 ?_;refine aB ?_;refine bN fun g1=>?_;refine aB ?_;refine bY fun g2=>?_;refine aB ?_;refine aG rfl (fun h=>?_) (fun h=>?_)
 ·obtain rfl:l=[]:=List.eq_nil_of_length_eq_zero (by omega);refine aB ?_
  (refine nW ?_;rfl)
 obtain⟨b,off,rfl,hcell⟩:=hl.u32 (by omega)
 obtain⟨w1,r,rfl⟩:∃x r,l=x::r:=by
  cases l with
  | nil=>exact absurd (by simpa using hn) (show ¬n=0 by omega)
  | cons x r=>exact⟨x,r,rfl⟩
 have hw1:=hcell 0 w1 rfl
 have hlen:n=r.length+1:=by simpa using hn
 refine aB ?_;refine aQ (v:=.tuple #[.agg #[iv (eH w1),iv (Qc w1),iv (dY w1),iv (aA7 w1)],iv (Cl w1)]) (fun w2 st=>(aEQ w1 w2).mono fun x w3 hx=>aEh hx (by rw[aJV];rfl)) ?_;refine aB ?_;refine bY fun g3=>?_;refine aB ?_;refine bX (t:=26) rfl (fun hg=>?_) (fun hg=>?_)
 ·refine aB ?_
  (refine nW ?_;rw[fE,if_pos (.inl hg)];rfl)
 refine aB ?_;refine aG rfl (fun h4=>?_) (fun h5=>?_)
 ·refine aB ?_
  (refine nW ?_;rw[fE,if_pos (.inr h4)];rfl)
 have h4:¬(Cl w1≠0∨Qc w1≠0):=fun hh=>hh.elim hg h5
 refine nV ?_;refine eJ ?_;refine Gw (α:=Nat) (fun g4=>[(9,.bool (uC (dY w1) (eH w1)).isSome),(8,pt g4),(7,iv (Cl w1)),(6,pt g3),(5,pt g2),(2,pt g1),(1,.slice (some ⟨b,off,none⟩) n c)]) (fun g4=>[HP.aE g4 159 [iv (eF (dY w1) (eH w1)).n,iv (eF (dY w1) (eH w1)).m,.int .u8 (eF (dY w1) (eH w1)).a,.int .u8 (eF (dY w1) (eH w1)).b,.int .u8 (eF (dY w1) (eH w1)).c],HP.aE g3 83 [iv (eH w1),iv (Qc w1),iv (dY w1),iv (aA7 w1)],HP.aE g2 50 [.int .u8 0,iv 0],HP.aE g1 30 [.slice A1 n1 k1,.slice A2 n2 k2,.slice A3 n3 k3,.slice A4 n4 k4]]) (fun _=>True) ?_ fun g4 _=>?_
 ·skip
  refine qM 12 (by kernel_rfl) (by kernel_rfl) ?_;refine fZ 1 rfl rfl rfl (Du (off:=2) (by kernel_rfl) rfl) ?_;refine fZ 2 rfl rfl rfl (Jg rfl) ?_;refine fZ 3 rfl rfl rfl (Du (off:=0) (by kernel_rfl) rfl) ?_;refine fZ 4 rfl rfl rfl (Jg rfl) ?_;refine fZ 5 rfl rfl rfl (kQ (zs:=[iv 0,iv 0]) (L:=[(0,1),(1,1)]) (gY (by kernel_rfl)) (by kernel_rfl) rfl (by simp[eZ,gD,Value.cells];rfl)) ?_;refine Ju 0 10 rfl rfl (by kernel_rfl) ?_ ?_
  ·refine dS aEp (fun w2 _=>aGT w2) ?_;rintro _ _ q1 ⟨gm,sub,rfl,hsub,rfl⟩ _;simp only[List.cons_append,List.nil_append];refine gX ?_;refine gQ ?_;refine kL (fun _ h=>h.bB.tail) ?_;refine Ju 6 10 rfl rfl (by kernel_rfl) ?_ ?_
   ·refine aB2 (v:=.agg #[iv (eF (dY w1) (eH w1)).n,iv (eF (dY w1) (eH w1)).m,.int .u8 (eF (dY w1) (eH w1)).a,.int .u8 (eF (dY w1) (eH w1)).b,.int .u8 (eF (dY w1) (eH w1)).c]) (et:=159) (l:=sub.reverse.map yP) Tryz.underlying161 aAg (z:=qI 0 0 0 0 0) (by kernel_rfl) rfl (k:=(dY w1,eH w1)) rfl (fun w2 st=>st.tS (i:=0) rfl) (Qf hsub _ _).1 (Qf hsub _ _).2 (by decide) ?_;refine gX ?_;refine gQ ?_;refine kL (fun _ h=>h.bB.tail) ?_;refine fG 7 rfl rfl rfl (by decide) (lQ rfl) (by kernel_rfl) (fun _ _ _ h=>h) (fun _ h=>h.bB.tail) ?_;refine fG 8 rfl rfl rfl (by decide) (Bo rfl rfl) (by kernel_rfl) (fun _ _ _ h=>h) (fun _ h=>h.bB.tail) ?_;refine fG 9 rfl rfl rfl (by decide) (Bo rfl rfl) (by kernel_rfl) (fun _ _ _ h=>h) (fun _ h=>h.bB.tail) ?_;refine cJ 10 ?_;refine bY fun g4=>?_;refine gX ?_;refine gQ ?_;refine kL (fun _ h=>h.bB.tail.tail) ?_;refine cJ 11 ?_;refine rR rfl rfl ?_;simp only[fS,Value.cells,List.set,List.take,List.drop,List.nil_append,List.append_nil,List.length_cons,List.length_nil,List.cons_append,Nat.reduceAdd];refine gX ?_;refine gQ ?_;refine kL (fun _ h=>h.bB.tail.tail) ?_;refine cJ 12 ?_;refine jM rfl (by decide) ?_;refine eS ?_;refine kK ?_;refine eJ ?_;exact dH g4
   ·refine bY fun g4=>?_;refine gX ?_;refine gQ ?_;refine kL (fun _ h=>h.bB.tail.tail) ?_;refine cJ 6 ?_;refine aB2 (v:=.agg #[iv (eF (dY w1) (eH w1)).n,iv (eF (dY w1) (eH w1)).m,.int .u8 (eF (dY w1) (eH w1)).a,.int .u8 (eF (dY w1) (eH w1)).b,.int .u8 (eF (dY w1) (eH w1)).c]) (et:=159) (l:=sub.reverse.map yP) Tryz.underlying161 aAg (z:=qI 0 0 0 0 0) (by kernel_rfl) rfl (k:=(dY w1,eH w1)) rfl (fun w2 st=>st.tS (i:=1) rfl) (Qf hsub _ _).1 (Qf hsub _ _).2 (by decide) ?_;refine gX ?_;refine gQ ?_;refine kL (fun _ h=>h.bB.tail.tail) ?_;refine fG 7 rfl rfl rfl (by decide) (lQ rfl) (by kernel_rfl) (fun _ _ _ h=>h) (fun _ h=>h.bB.tail.tail) ?_;refine fG 8 rfl rfl rfl (by decide) (Bo rfl rfl) (by kernel_rfl) (fun _ _ _ h=>h) (fun _ h=>h.bB.tail.tail) ?_;refine fG 9 rfl rfl rfl (by decide) (Bo rfl rfl) (by kernel_rfl) (fun _ _ _ h=>h) (fun _ h=>h.bB.tail.tail) ?_;refine cJ 11 ?_;refine rR rfl rfl ?_;simp only[fS,Value.cells,List.set,List.take,List.drop,List.nil_append,List.append_nil,List.length_cons,List.length_nil,List.cons_append,Nat.reduceAdd];refine gX ?_;refine gQ ?_;refine kL (fun _ h=>h.bB.tail.tail) ?_;refine cJ 12 ?_;refine jM rfl (by decide) ?_;refine eS ?_;refine kK ?_;refine eJ ?_;exact dH g4
  ·refine bY fun g4=>?_;refine gX ?_;refine gQ ?_;refine kL (fun _ h=>h.tail) ?_;refine cJ 0 ?_;refine dS aEp (fun w2 _=>aGT w2) ?_;rintro _ _ q1 ⟨gm,sub,rfl,hsub,rfl⟩ _;simp only[List.cons_append,List.nil_append];refine gX ?_;refine gQ ?_;refine kL (fun _ h=>h.bB.tail.tail) ?_;refine cJ 6 ?_;refine aB2 (v:=.agg #[iv (eF (dY w1) (eH w1)).n,iv (eF (dY w1) (eH w1)).m,.int .u8 (eF (dY w1) (eH w1)).a,.int .u8 (eF (dY w1) (eH w1)).b,.int .u8 (eF (dY w1) (eH w1)).c]) (et:=159) (l:=sub.reverse.map yP) Tryz.underlying161 aAg (z:=qI 0 0 0 0 0) (by kernel_rfl) rfl (k:=(dY w1,eH w1)) rfl (fun w2 st=>st.tS (i:=0) rfl) (Qf hsub _ _).1 (Qf hsub _ _).2 (by decide) ?_;refine gX ?_;refine gQ ?_;refine kL (fun _ h=>h.bB.tail.tail) ?_;refine fG 7 rfl rfl rfl (by decide) (lQ rfl) (by kernel_rfl) (fun _ _ _ h=>h) (fun _ h=>h.bB.tail.tail) ?_;refine fG 8 rfl rfl rfl (by decide) (Bo rfl rfl) (by kernel_rfl) (fun _ _ _ h=>h) (fun _ h=>h.bB.tail.tail) ?_;refine fG 9 rfl rfl rfl (by decide) (Bo rfl rfl) (by kernel_rfl) (fun _ _ _ h=>h) (fun _ h=>h.bB.tail.tail) ?_;refine cJ 11 ?_;refine rR rfl rfl ?_;simp only[fS,Value.cells,List.set,List.take,List.drop,List.nil_append,List.append_nil,List.length_cons,List.length_nil,List.cons_append,Nat.reduceAdd];refine gX ?_;refine gQ ?_;refine kL (fun _ h=>h.bB.tail.tail) ?_;refine cJ 12 ?_;refine jM rfl (by decide) ?_;refine eS ?_;refine kK ?_;refine eJ ?_;exact dH g4
 obtain⟨sN,Iv,hF3,hF4,hF5⟩:=aGR (dY w1) (eH w1);refine aB ?_;cases h7:(uC (dY w1) (eH w1)).isSome
 ·refine aB ?_
  (refine nW ?_;rw[fE,if_neg h4,if_pos h7];rfl)
 have h7':¬(uC (dY w1) (eH w1)).isSome=false:=by rw[h7];simp
 refine aB ?_;refine aG rfl (fun h9=>?_) (fun h9=>?_)
 ·refine aB ?_
  (refine nW ?_;rw[fE,if_neg h4,if_neg h7',if_pos (by omega)];rfl)
 have h9':¬(r.length:Int)≠(eF (dY w1) (eH w1)).n:=by omega
 refine aB ?_;refine aG rfl (fun h11=>?_) (fun h11=>?_)
 ·refine aB ?_
  (refine nW ?_;rw[fE,if_neg h4,if_neg h7',if_neg h9',if_pos h11];rfl)
 obtain⟨id,hid⟩:∃x,r[0]? =some x:=⟨r[0]'(by omega),List.getElem?_eq_getElem _⟩
 obtain⟨v,hv⟩:∃x,r[(eF (dY w1) (eH w1)).n.toNat - 1]? =some x:=⟨r[(eF (dY w1) (eH w1)).n.toNat - 1]'(by omega),List.getElem?_eq_getElem _⟩
 have aND:r.getD 0 0=id:=by rw[List.getD_eq_getElem?_getD,hid];rfl
 have hv':r.getD ((eF (dY w1) (eH w1)).n.toNat - 1) 0=v:=by rw[List.getD_eq_getElem?_getD,hv];rfl
 have aSL:=hu id (List.mem_cons_of_mem _ (List.mem_of_getElem? hid))
 have Vz:=hu v (List.mem_cons_of_mem _ (List.mem_of_getElem? hv))
 have aSK:=hcell 1 id (by simpa using hid)
 have Vw:=hcell (eF (dY w1) (eH w1)).n.toNat v (by
  obtain⟨t,ht⟩:∃t,(eF (dY w1) (eH w1)).n.toNat=t+1:=⟨(eF (dY w1) (eH w1)).n.toNat - 1,by omega⟩
  rw[ht] at hv⊢;simpa using hv)
 have hread:fE s (w1::r)=Gq s (dY w1) (eF (dY w1) (eH w1)) id v:=by rw[fE,if_neg h4,if_neg h7',if_neg h9',if_neg h11,aND,hv']
 refine aB ?_;refine aQ (fun w2 st=>aM0 s A1 A2 A3 A4 n1 k1 n2 k2 n3 k3 n4 k4 (dY w1) w2 hS) ?_;refine aB ?_;refine aG rfl (fun yO=>?_) (fun yO=>?_)
 ·refine aB ?_
  (refine nW ?_;rw[hread,Gq,if_pos yO];rfl)
 refine aB ?_;refine aG rfl (fun vF=>?_) (fun vF=>?_)
 ·refine aB ?_
  (refine nW ?_;rw[hread,Gq,if_neg yO,if_pos vF];rfl)
 refine aB ?_;refine aG rfl (fun We=>?_) (fun We=>?_)
 ·refine aB ?_
  (refine nW ?_;rw[hread,Gq,if_neg yO,if_neg vF,if_pos We];rfl)
 have hact:([iv (eF (dY w1) (eH w1)).n,iv (eF (dY w1) (eH w1)).m,.int .u8 (eF (dY w1) (eH w1)).a,.int .u8 (eF (dY w1) (eH w1)).b,.int .u8 (eF (dY w1) (eH w1)).c]:List Value)[2+v.toNat]? =some (.int .u8 ((eF (dY w1) (eH w1)).act v)):=by
  unfold mU.act;rcases(by omega:v=0∨v=1∨v=2) with rfl | rfl | rfl<;>rfl
 have aN8:=hF4 v Vz.1 (by omega)
 generalize hk:(eF (dY w1) (eH w1)).act v=k at *;refine aB ?_;refine kd (bH rfl (Rd.aE 0 rfl hact)) ?_;refine aB ?_;refine bY fun g5=>?_;refine lP 0 rfl ?_;dsimp only[List.set];refine fB ?_;refine Gw (α:=Unit) (fun _=>[(12,pt g5),(5,pt g2)]) (fun _=>[HP.aE g5 50 [.int .u8 k,iv id],HP.aE g2 50 [.int .u8 0,iv 0]]) (fun _=>¬Om s (dY w1) k id.toNat) ?_ fun _ nI=>?_
 ·refine aB ?_;refine bX (t:=91) rfl (fun hg=>?_) (fun hg=>?_)
  ·have hp:=aN8 hg
   obtain⟨dm,sM⟩:∃d,s.domains[id.toNat]? =some d:=⟨s.domains[id.toNat]'(by rw[hp] at yO;simp only[Ai,if_true] at yO;omega),List.getElem?_eq_getElem _⟩
   obtain⟨bD,oD,rD,rfl,_,rfl,hRD⟩:=hS.dom.row sM
   have aAy:Tt s id.toNat=dm.ret:=by rw[Tt,sM];rfl
   have hlD:=hS.qW
   have aSC:=(List.getElem?_eq_some_iff.1 sM).1
   have Mb:=hRD.at_ (j:=2) rfl
   cases hr:dm.ret
   all_goals
    rw[hr] at Mb aAy;refine aB ?_
   ·(refine nW ?_;rw[hread,Gq,if_neg yO,if_neg vF,if_neg We,hk,if_pos (.inl ⟨hg,aAy⟩)];rfl)
   ·refine bX (t:=104) rfl (fun wZ=>by omega) (fun wZ=>?_);refine aB ?_;exact dH () (hg:=fun h=>by simp_all [Om])
  ·refine aB ?_;refine bX (t:=104) rfl (fun hp=>?_) (fun hp=>?_)
   ·obtain⟨ck,Bc⟩:∃d,s.aF[id.toNat]? =some d:=⟨s.aF[id.toNat]'(by rw[hp] at yO;simp only[Ai,if_true] at yO;simp at yO;omega),List.getElem?_eq_getElem _⟩
    obtain⟨bC,oC,rC,rfl,_,⟨cA,cn,aSQ,rfl,_⟩,hC⟩:=hS.uG.row Bc
    have aNB:kindOf s id.toNat=ck.kind:=by rw[kindOf,Bc];rfl
    have hlC:=hS.qX
    have aSD:=(List.getElem?_eq_some_iff.1 Bc).1
    refine aB ?_;refine aQ (fun w2 st=>aKl ck.kind _ _ _ _ _ _ _ w2) ?_
    by_cases tV:ck.kind=112∨ck.kind=103
    ·rw[decide_eq_true tV];refine aB ?_;exact dH () (hg:=fun h=>by simp_all [Om,Zh])
    ·rw[decide_eq_false tV];refine aB ?_
     (refine nW ?_;rw[hread,Gq,if_neg yO,if_neg vF,if_neg We,hk,if_pos (.inr ⟨hp,fun hc=>tV (by rw[←aNB];exact hc)⟩)];rfl)
   ·refine aB ?_;exact dH () (hg:=fun h=>by simp_all [Om])
 refine aB ?_;refine Ya [2] ?_;refine aB ?_
 (refine nW ?_;rw[hread,Gq,if_neg yO,if_neg vF,if_neg We,hk,if_neg nI];rfl)
end
section
def Hh(l:List Nat)(v:Value)(w w':World):Prop:=∃A c,v=.slice A l.length c∧aH (fresh w w') 1 A l.length (aN (dR l))
theorem aM5{l:List Nat}{k i:Nat}(h:l[k]? =some i):(aN (dR l))[k]? =some (iv (i:Int)):=by simp[aN,dR,h]
theorem aAM(q : Piece)(s : aC)(A1 A2 A3 A4 : Option Addr)(n1 k1 n2 k2 n3 k3 n4 k4 : Nat)(c : Nat)(w : World)(nA : qO q s A1 n1 A2 n2 A3 n3 A4 n4)(hm : s.wP)(hq : q.Le (all w))(hc : c < s.aF.length) :
    Cz 84 #[.agg #[.slice A1 n1 k1,.slice A2 n2 k2,.slice A3 n3 k3,.slice A4 n4 k4],iv (c:Int)] w (Sb (Hh (mE s c)) w):=by
  obtain⟨rfl,rfl,rfl,rfl⟩:=nA.len;refine aO func84 ntmps84 ?_;refine yY q (by simp) hq ?_;refine aB ?_;refine bN fun g1=>?_;refine aB ?_;refine lI 3 1 ?_;refine bM [(1,iv (c:Int)),(5,sn),(2,pt g1)] ?_;refine aB ?_;refine eT (fun m e R H=>∃(cur:Nat) (l:List Nat) (A:Option Addr) (k:Nat),cur < s.aF.length∧l.length≤s.aF.length∧m=s.aF.length - l.length∧mE s c=l++sU s (s.aF.length - l.length) cur∧e=[(1,iv (cur:Int)),(5,.slice A l.length k),(2,pt g1)]∧R=[q,all w]∧H=[HP.own 3 1 (.slice A l.length k) l.length (aN (dR l)),HP.aE g1 30 [.slice A1 s.aF.length k1,.slice A2 s.domains.length k2,.slice A3 s.aY.length k3,.slice A4 s.aD.length k4]]) s.aF.length ⟨c,[],none,0,hc,by simp,rfl,rfl,rfl,rfl,rfl⟩ fun m e R H hI=>?_;obtain⟨cur,l,A,k,aNY,nQ,rfl,oZ,rfl,rfl,rfl⟩:=hI;refine eA ?_;refine aDQ 22 (l.length < s.aF.length) ?_ ?_
  · skip
    refine fU ?_;refine dO rfl (by decide) ?_;refine aJv rfl rfl (by decide) ?_;refine dO rfl (by decide) ?_;refine bX (t:=8) rfl (fun hg=>?_) (fun hg=>?_)
    ·
      refine jC rfl rfl ?_;refine dO rfl (by decide) ?_;refine jC rfl rfl ?_;refine xX (off:=0) (by kernel_rfl) rfl (by decide) ?_;refine jC rfl rfl ?_;refine Nu rfl ?_;refine jC rfl rfl ?_;refine Kg (el:=86) (by kernel_rfl) rfl (by decide) ?_;refine jC rfl rfl ?_;refine Yw rfl rfl (by decide) ?_
      (first | refine rU rfl rfl (by decide) ?_ | refine rW rfl rfl (by decide) ?_)
      refine dO rfl (by decide) ?_;refine bX (t:=15) rfl (fun hg=>?_) (fun hg=>?_)
      ·
        refine jC rfl rfl ?_;refine dO rfl (by decide) ?_;refine jC rfl rfl ?_;refine Kg (el:=3) (by kernel_rfl) rfl (by decide) ?_;refine jC rfl rfl ?_;refine xX (off:=0) (by kernel_rfl) rfl (by decide) ?_;refine jC rfl rfl ?_;refine Nu rfl ?_;refine jC rfl rfl ?_;refine Kg (el:=86) (by kernel_rfl) rfl (by decide) ?_;refine jC rfl rfl ?_;refine Yw rfl rfl (by decide) ?_
        (first | refine rU rfl rfl (by decide) ?_ | refine rW rfl rfl (by decide) ?_)
        refine fB ?_;exact aBh (by repeat (first | exact trivial | refine⟨rfl,?_⟩)) (aA8 rfl (by omega))
      ·
        refine jL rfl rfl rfl (by decide) ?_;refine jL rfl rfl rfl (by decide) ?_;refine jL rfl rfl rfl (by decide) ?_;refine jL rfl rfl rfl (by decide) ?_;refine jL rfl rfl rfl (by decide) ?_;refine jL rfl rfl rfl (by decide) ?_
        (first | refine rU rfl rfl (by decide) ?_ | refine rW rfl rfl (by decide) ?_)
        refine fB ?_;exact aBh (by repeat (first | exact trivial | refine⟨rfl,?_⟩)) (aDc rfl (by omega))
    ·
      refine jL rfl rfl rfl (by decide) ?_;refine jL rfl rfl rfl (by decide) ?_;refine jL rfl rfl rfl (by decide) ?_;refine jL rfl rfl rfl (by decide) ?_;refine jL rfl rfl rfl (by decide) ?_
      (first | refine rU rfl rfl (by decide) ?_ | refine rW rfl rfl (by decide) ?_)
      refine dO rfl (by decide) ?_;refine jL rfl rfl rfl (by decide) ?_;refine jL rfl rfl rfl (by decide) ?_;refine jL rfl rfl rfl (by decide) ?_;refine jL rfl rfl rfl (by decide) ?_;refine jL rfl rfl rfl (by decide) ?_;refine jL rfl rfl rfl (by decide) ?_
      (first | refine rU rfl rfl (by decide) ?_ | refine rW rfl rfl (by decide) ?_)
      refine fB ?_;exact aBh (by repeat (first | exact trivial | refine⟨rfl,?_⟩)) (aDc rfl (by omega))
  refine aG rfl (fun h=>?_) (fun h=>?_)
  ·
    refine aB ?_
    have hlt:l.length < s.aF.length:=h
    obtain⟨x,hx⟩:∃x,s.aF[cur]? =some x:=⟨_,List.getElem?_eq_getElem aNY⟩
    obtain⟨k0,hk0⟩:∃k0,s.aF.length - l.length=k0+1:=⟨s.aF.length - l.length - 1,by omega⟩
    rw[hk0,aQB hx] at oZ
    have hn9:=hm.nc
    have hfit:=(hm.aF cur x hx).1
    refine aB ?_;refine eG fun g2=>?_;refine gZ 1 1 8 1 (n':=l.length+1) (el:=3) (by kernel_rfl) (by kernel_rfl) (by decide) rfl rfl rfl (lW 0 rfl rfl) (by simp[Value.oneCell']) rfl (by omega) (by omega) (by decide) fun A' k'=>?_;dsimp only[List.set];rw[show aN (dR l)++[Value.int .i64 (cur:Int)]=aN (dR (l++[cur])) by simp[aN,dR]];refine aT [1,2] rfl (by decide) (R':=[q,all w]) (by simp) ?_;refine jM rfl (by decide) ?_;refine fB ?_;refine eA ?_;refine eA ?_;obtain⟨bC,oC,rC,rfl,hzC,_,hR,hcC⟩:=nA.uG.uU hx;obtain⟨As,ns,ks,rfl,rfl,Uw⟩:=hR;refine fU ?_;refine xX (off:=0) (by kernel_rfl) rfl (by decide) ?_;refine Nu rfl ?_;refine dO rfl (by decide) ?_;refine kd (dat (cur) (oC+cur*6)) ?_;refine xX (off:=1) (by kernel_rfl) rfl (by decide) ?_;refine kW (by kernel_rfl) rfl (Rd.ro (p:=q) (by simp) hzC (hcC 1 _ rfl)) (by decide) ?_;refine Kg (el:=3) (by kernel_rfl) rfl (by decide) ?_;refine aEB rfl rfl (by decide) ?_;refine fB ?_;refine aG rfl (fun h0=>?_) (fun h0=>?_)
    ·
      refine aB ?_
      have hs0:x.src=[]:=List.eq_nil_of_length_eq_zero (by have:((x.src.length:Nat):Int)=0:=h0;omega)
      rw[hs0] at oZ
      have vE:(l++[cur])=mE s c:=oZ.symm
      refine dB [] [0] [] (by simp) rfl (by decide) (by decide) fun qf Vb _ hfr=>?_;obtain⟨Ff,sf,zf⟩:=Vb 0 _ (by simp) rfl;obtain⟨Av,cv,hv,tW⟩:=zF (Y:=qf.Z) sf zf
      exact mF rfl rfl fun w1 st=>⟨⟨_,rfl,by
        rw[←vE];unfold Hh;rw[hv]
        exact⟨Av,cv,by simp,by simpa using aH.le tW (st.mQ (by simp) (hfr (by simp) (by simp)))⟩⟩,st.below (by simp)⟩
    ·
      refine nV ?_;refine eJ ?_
      obtain⟨f,fs,hs0⟩:∃f fs,x.src=f::fs:=by
        cases hs0:x.src with
        | nil=>exact absurd (by rw[hs0];rfl) h0
        | cons f fs=>exact⟨f,fs,rfl⟩
      have hf:=hfit f (by rw[hs0];simp)
      obtain⟨f',rfl⟩:∃f':Nat,f=(f':Int):=⟨f.toNat,by omega⟩
      rw[hs0] at oZ;obtain⟨bS,oS,rfl,hzS,hcS⟩:=Uw.2 (by rw[hs0];simp);refine fU ?_;refine xX (off:=0) (by kernel_rfl) rfl (by decide) ?_;refine Nu rfl ?_;refine dO rfl (by decide) ?_;refine kd (dat (cur) (oC+cur*6)) ?_;refine xX (off:=1) (by kernel_rfl) rfl (by decide) ?_;refine kW (by kernel_rfl) rfl (Rd.ro (p:=q) (by simp) hzC (hcC 1 _ rfl)) (by decide) ?_;refine aJy 0 oS (el:=3) (sz:=1) (by kernel_rfl) (by kernel_rfl) rfl rfl rfl (by rw[hs0];simp) (by omega) (by decide) ?_;refine kW (by kernel_rfl) rfl (Rd.ro (p:=q) (by simp) hzS (hcS 0 _ (by rw[hs0];rfl))) (by decide) ?_;refine aB ?_;exact bM [(1,iv (f':Int)),(5,.slice A' (l.length+1) k'),(2,pt g1)] (gR (s.aF.length - (l.length+1)) (by omega) ⟨f',l++[cur],A',k',by omega,by simp;omega,by simp,by rw[oZ];simp[show s.aF.length - (l.length+1)=k0 by omega],by simp,rfl,by simp⟩)
  ·
    refine aB ?_
    have hge:¬l.length < s.aF.length:=h
    rw[show s.aF.length - l.length=0 by omega] at oZ
    have vE:l=mE s c:=by rw[oZ];simp[sU]
    refine dB [] [0] [] (by simp) rfl (by decide) (by decide) fun qf Vb _ hfr=>?_;obtain⟨Ff,sf,zf⟩:=Vb 0 _ (by simp) rfl;obtain⟨Av,cv,hv,tW⟩:=zF (Y:=qf.Z) sf zf
    exact mF rfl rfl fun w1 st=>⟨⟨_,rfl,by
      rw[←vE];unfold Hh;rw[hv]
      exact⟨Av,cv,rfl,aH.le tW (st.mQ (by simp) (hfr (by simp) (by simp)))⟩⟩,st.below (by simp)⟩
 in
end
section
def Lg(l:List Int)(x:Int):Int:=if x∈l then(l.idxOf x:Int) else -1
theorem aNv{l:List Int}{x:Int}{i:Nat}(hno:∀j y,j < i→l[j]? =some y→y≠x)(h:l[i]? =some x):Lg l x=i:=by
 have hm:x∈l:=List.mem_of_getElem? h
 rw[Lg,if_pos hm]
 have h2:l.idxOf x=i:=by
  induction l generalizing i with
  | nil=>simp at h
  | cons a r ih =>
   cases i with
   | zero=>simp at h;subst h;simp
   | succ i=>
    have ha:a≠x:=hno 0 a (by omega) rfl
    simp at h
    have hmr:x∈r:=List.mem_of_getElem? h
    have hi:=ih (fun j y hj hy=>hno (j+1) y (by omega) (by simpa using hy)) h hmr
    have hb:(a==x)=false:=by simpa using ha
    rw[List.idxOf_cons,hb];simp[hi]
 rw[h2]
theorem aNt{l:List Int}{x:Int}(hno:∀(j:Nat) (y:Int),l[j]? =some y→y≠x):Lg l x= -1:=by
 rw[Lg,if_neg];intro hm;obtain⟨j,hj⟩:=List.getElem?_of_mem hm;exact hno j x hj rfl
theorem aNu(l:List Int)(x:Int):decide (0≤Lg l x)=decide (x∈l):=by
 unfold Lg
 by_cases h:x∈l<;>simp[h]
def yV(s:aC)(c id:Int):Bool:=decide (id∈dR (mE s c.toNat))
def Ap(s:aC)(k id:Int)(d:cH):Bool:=
 if k=100∨k=107 then decide (d.domain=id) else if k=111 then yV s d.clock id else if k=97 then decide (d.reset=id) else false
def Gn(s:aC)(wt:List Int)(k id:Int)(i:Nat):Bool:=decide (0 < (wt[i]?).getD 0)&&((s.aD[i]?).any fun d=>Ap s k id d)
def Ms(s:aC)(wt:List Int)(k id:Int):Bool:=(List.range s.aD.length).any (Gn s wt k id)
theorem aAP{s:aC}{wt:List Int}{k id:Int}{i:Nat}(hi:i < s.aD.length)(h:Gn s wt k id i=true):Ms s wt k id=true:=by
 rw[Ms,List.any_eq_true];exact⟨i,List.mem_range.2 hi,h⟩
theorem aQL{s:aC}{wt:List Int}{k id:Int}(h:∀i,i < s.aD.length→Gn s wt k id i=false):Ms s wt k id=false:=by
 rw[Ms,List.any_eq_false];intro i hi;simp[h i (List.mem_range.1 hi)]
def Fw(s:aC)(x y:eB)(k id:Int)(i:Nat):Bool:=
 if k=100∨k=107 then((s.domains[i]?).any fun d=>decide (d.above=id))&&tL x y k i
 else decide ((i:Int)≠id)&&(tL x y k i&&yV s i id)
def Iu(s:aC)(k:Int):Nat:=if k=100∨k=107 then s.domains.length else if k=111 then s.aF.length else 0
def Qa(s:aC)(x y:eB)(k id:Int):Bool:=(List.range (Iu s k)).any (Fw s x y k id)
theorem aGM{s:aC}{x y:eB}{k id:Int}{i:Nat}(hi:i < Iu s k)(h:Fw s x y k id i=true):Qa s x y k id=true:=by
 rw[Qa,List.any_eq_true];exact⟨i,List.mem_range.2 hi,h⟩
theorem aCW{s:aC}{x y:eB}{k id:Int}(h:∀i,i < Iu s k→Fw s x y k id i=false):Qa s x y k id=false:=by
 rw[Qa,List.any_eq_false];intro i hi;simp[h i (List.mem_range.1 hi)]
def Qx(s:aC)(x y:eB)(ag:Nat)(k id:Int):Bool:=tM (if ag=0 then y else x) k id||Qa s x y k id
def oH(s:aC)(x y:eB)(wt:List Int)(ag:Nat)(l:List Int):Int×Int×Int:=
 if(fE s l).1≠0∨(fE s l).2.1=0∨tM (if ag=0 then x else y) (fE s l).2.1 (fE s l).2.2=decide (qV (fE s l).2.1) then((fE s l).1,0,0)
 else if qV (fE s l).2.1 then
  (if(fE s l).2.1=117∧(s.domains[(fE s l).2.2.toNat]?).any (fun d=>decide (d.above≠ -1)&& !tL x y 117 d.above)=true then(-3,0,0) else(0,(fE s l).2))
 else if Qx s x y ag (fE s l).2.1 (fE s l).2.2 then(-3,0,0)
 else if Ms s wt (fE s l).2.1 (fE s l).2.2 then(-6,0,0)
 else(0,(fE s l).2)
def Pc(k:Int):Int:=if k=117∨k=100∨k=107 then 17 else if k=99∨k=111 then 20 else 22
def Uo(k:Int):Prop:=k=117∨k=100∨k=107∨k=99∨k=111∨k=114∨k=97
theorem aO3(p m:Int)(v:Int)(h0:0≤v)(hv:v < (eF p m).m):Pc ((eF p m).act v)=p∧Uo ((eF p m).act v):=by
 have h1:∀f:mU,uC p m=some f→v < f.m→Pc (f.act v)=p∧Uo (f.act v):=by
  intro f hf hv;unfold uC at hf
  have hv3:f.m≤3:=by
   have:=(aGR p m).2.2.1
   unfold eF uC at this;rw[hf] at this;exact this
  rcases(by omega:v=0∨v=1∨v=2) with rfl | rfl | rfl<;>
  ·repeat' split at hf
   all_goals first
    | (cases hf;done)
    | (cases hf;simp at hv;done)
    | (cases hf;simp_all [Pc,Uo,mU.act])
 unfold eF at hv⊢;cases h:uC p m with
 | none=>rw[h] at hv;simp at hv;omega
 | some f=>rw[h] at hv;exact h1 f h hv
theorem aF5{s : aC}{l : List Int}(hu : nB l) : ((fE s l).2.1 = 0 ∧ (fE s l).2.2 = 0) ∨ ((fE s l).1 = 0 ∧ Uo (fE s l).2.1 ∧ 0 ≤ (fE s l).2.2 ∧ (fE s l).2.2 < (Ai s (Pc (fE s l).2.1) : Int) ∧
  ((fE s l).2.1=107→Tt s (fE s l).2.2.toNat=true)∧(Pc (fE s l).2.1=20→Zh s (fE s l).2.2.toNat)):=by
 unfold fE;split
 ·exact .inl ⟨rfl,rfl⟩
 ·rename_i w r
  split
  ·exact .inl ⟨rfl,rfl⟩
  ·split
   ·exact .inl ⟨rfl,rfl⟩
   ·split
    ·exact .inl ⟨rfl,rfl⟩
    ·split
     ·exact .inl ⟨rfl,rfl⟩
     ·have hd : ∀ i, 0 ≤ r.getD i 0 := fun i => by
       rw[List.getD_eq_getElem?_getD];cases hi:r[i]? with
       | none=>exact Int.le_refl _
       | some x=>exact(hu x (List.mem_cons_of_mem _ (List.mem_of_getElem? hi))).1
      have hid:=hd 0
      have hv:=hd ((eF (dY w) (eH w)).n.toNat - 1)
      generalize r.getD 0 0=id at *;generalize r.getD ((eF (dY w) (eH w)).n.toNat - 1) 0=v at *;unfold Gq;split
      ·exact .inl ⟨rfl,rfl⟩
      ·split
       ·exact .inl ⟨rfl,rfl⟩
       ·split
        ·exact .inl ⟨rfl,rfl⟩
        ·split
         ·exact .inl ⟨rfl,rfl⟩
         ·rename_i h1 h2 h3 h4
          obtain⟨a1,a2⟩:=aO3 (dY w) (eH w) v hv (by omega);refine .inr ⟨rfl,a2,hid,by dsimp only;rw[a1];omega,fun h5=>?_,fun h5=>?_⟩
          ·dsimp only at h5⊢;cases hr:Tt s id.toNat with
           | true=>rfl
           | false=>exact absurd (.inl ⟨h5,hr⟩) h4
          ·dsimp only at h5⊢;rw[a1] at h5;exact Decidable.byContradiction fun hs=>h4 (.inr ⟨h5,hs⟩)
theorem aH.int{w:World}{A:Option Addr}{n:Nat}{l:List Int}(h:aH (all w) 1 A n (aN l))(hn:0 < n):∃b off,A=some ⟨b,off,none⟩∧∀(i:Nat) (x:Int),l[i]? =some x→fK w b (off+i) (iv x):=by
 obtain⟨b,off,hA,hb,hc⟩:=h.2 hn;refine⟨b,off,hA,fun i x hx=>⟨hb,hc i _ ?_⟩⟩;simp only[aN,List.getElem?_map,hx,Option.map_some]
end
section
section
variable{N:cE}{w0:World}{e e':Env}{R R' R0:List Piece}{H H' H0:List HP}{fuel:Nat}{listed:Array Bool}{Q:Exit→Act→World→Prop}
def Ys(ops:Array Oper):List Nat:=(List.range ops.size).filter fun i=>match ops[i]? with
 | some o=>Zu o.op||(o.guard.isSome&&aEY o.op)
 | none=>false
theorem aIx{id:Nat}{l:List Oper}(k:XB Tryz.prog N w0 l.toArray Q R H (Ys l.toArray) fuel listed e' R' H')(hk:XB Tryz.prog N w0 l.toArray Q R H (Ys l.toArray) fuel listed e' R' H'→XL 0 N w0 l.toArray Q R H (Ys l.toArray) l.length (Array.replicate l.length false) e R H:=by
  intro h
  repeat (first | refine Xt ?_ | refine Xs ?_ | refine Xq ?_ | refine Xr ?_ | refine aAZ ?_ | refine Xp ?_ | refine Xu ?_)
  exact h)(hm:Tryz.prog.follows .mixedOrders=true:=by kernel_rfl)(hs:Region.noSelect l.toArray=true:=by kernel_rfl):XK N w0 ((Code.region id l.toArray true).wp Tryz.prog Q) e R H:=iZ (Ys l.toArray) (hk k) hm hs
theorem aDX{ops:Array Oper}{Z:List Nat}{p:Prop}[Decidable p](t:Nat)(ht:e.get t=some (.bool (decide p)))(h1:p→XB Tryz.prog N w0 ops Q R0 H0 Z fuel listed ((t,.bool true)::e) R H)(h2:¬p→XB Tryz.prog N w0 ops Q R0 H0 Z fuel listed ((t,.bool false)::e) R H):XB Tryz.prog N w0 ops Q R0 H0 Z fuel listed e R H:=by
 intro up a w hr st
 by_cases hp:p
 ·rw[decide_eq_true hp] at ht;exact h1 hp up a w (hr.as ht) st
 ·rw[decide_eq_false hp] at ht;exact h2 hp up a w (hr.as ht) st
theorem He{ops:Array Oper}{Z:List Nat}{d j t:Nat}{op:Op}{ty:TypeId}{pos:String}{aI:Array Edge}{want b:Bool}(i:Nat)(k:XB Tryz.prog N w0 ops Q R0 H0 Z fuel (listed.setIfInBounds i true) ((d,undef)::e) R H)(hr:Region.ready .any ops listed=[i]:=by decide+kernel)(hi:ops[i]? =some ⟨some d,op,ty,pos,aI,some (j,want)⟩:=by rfl)(hj:(ops[j]?).bind (·.dst)=some t:=by rfl)(ht:e.get t=some (.bool b):=by rfl)(hb:b= !want:=by rfl)(hd:d < N.n:=by decide)(hS:∀w,St w0 R H w→St w0 R0 H0 w:=by exact fun _ h=>h):XB Tryz.prog N w0 ops Q R0 H0 Z (fuel+1) listed e R H:=
 aL i (jL hj ht hb hd (bA k hS)) hr hi
theorem aIs{P:Program}{c:Code}(E:Nat→Env)(n:Nat)(hr:∀i,i≤n→XK N w0 (c.wp P (Exit.then (LpK (α:=Unit) N w0 n (fun i _=>E i) R (fun _ _=>H) (fun _ _=>True) i) Q)) (E i) R H)(hE:(E 0).Sub e:=by repeat (first | exact trivial | refine⟨rfl,?_⟩))(hC:kT [] H H:=by exact Sa):XK N w0 ((Code.loop c).wp P Q) e R H:=
 nX (α:=Unit) (fun i _=>E i) (fun _ _=>H) (fun _ _=>True) n () trivial (fun i _ hi _=>hr i hi) hE hC
end
end
section
theorem aNs(A:Option Addr)(n c:Nat)(l:List Int)(x:Int)(w:World)(hs:aH (all w) 1 A n (aN l))(hn:n=l.length)(hn2:n≤1000000):
  Cz 130 #[.slice A n c,iv x] w (Rt (iv (Lg l x)) w):=by
 refine aO func130 ntmps130 ?_;refine aB ?_;refine bM [(8,iv 0),(7,iv n),(1,iv x),(0,.slice A n c)] ?_;refine aB ?_;refine eT (fun m e R H=>∃(i:Nat),i≤n∧m=n - i∧(∀(j:Nat) (y:Int),j < i→l[j]? =some y→y≠x)∧e=[(8,iv i),(7,iv n),(1,iv x),(0,.slice A n c)]∧R=[all w]∧H=[]) n ⟨0,by omega,rfl,(fun j y hj=>absurd hj (Nat.not_lt_zero j)),rfl,rfl,rfl⟩ fun m e R H hI=>?_;obtain⟨i,hi,rfl,hno,rfl,rfl,rfl⟩:=hI;refine aB ?_;refine aG rfl (fun h=>?_) (fun h=>?_)
 ·
  refine aB ?_
  have hil:i < n:=by have h':(i:Int) < (n:Int):=h;omega
  obtain⟨y,hy⟩:∃y,l[i]? =some y:=⟨l[i]'(by omega),List.getElem?_eq_getElem _⟩
  obtain⟨b,off,rfl,hc⟩:=hs.int (by omega)
  have hcy:=hc i y hy
  refine aB ?_;refine aG rfl (fun h2=>?_) (fun h2=>?_)
  ·
   refine aB ?_;exact aP (h:=fun _ _=>by rw[aNv (i:=i) hno (h2▸hy)])
  ·
   refine aB ?_
   exact eR (n - (i+1)) ⟨i+1,by omega,rfl,(fun j y' hj hy'=>by
    rcases Nat.lt_or_ge j i with h1 | h1
    ·exact hno j y' h1 hy'
    ·have hji:j=i:=by omega
     subst hji;rw[hy] at hy';cases hy'
     exact fun h=>h2 h.symm),rfl,rfl,rfl⟩
 ·
  refine aB ?_
  have hin:i=n:=by have h':¬(i:Int) < (n:Int):=h;omega
  subst hin;exact aP (h:=fun _ _=>by rw[aNt (fun j y hy=>hno j y (by have:=(List.getElem?_eq_some_iff.1 hy).1;omega) hy)])
theorem aH7(A:Option Addr)(n c:Nat)(l:List Int)(x:Int)(w:World)(hs:aH (all w) 1 A n (aN l))(hn:n=l.length)(hn2:n≤1000000):
  Cz 83 #[.slice A n c,iv x] w (Rt (.bool (decide (x∈l))) w):=by
 refine aO func83 ntmps83 ?_;refine aB ?_;refine dG (fun w1 st=>aNs A n c l x w1 (hs.le (st.le (by simp))) hn hn2) ?_;refine aB ?_;exact aP (h:=fun _ _=>by rw[←aNu])
theorem aQK(q:Piece)(s:aC)(A1 A2 A3 A4:Option Addr)(n1 k1 n2 k2 n3 k3 n4 k4:Nat)(Aw:Option Addr)(nw cw:Nat)(wt:List Int)(k id:Int)(w:World)(nA:qO q s A1 n1 A2 n2 A3 n3 A4 n4)(hm:s.wP)(hq:q.Le (all w))(hw:aH (all w) 1 Aw nw (aN wt))(hnw:nw=wt.length):
  Cz 33 #[.agg #[.slice A1 n1 k1,.slice A2 n2 k2,.slice A3 n3 k3,.slice A4 n4 k4],.slice Aw nw cw,.agg #[.int .u8 k,iv id]] w (Rt (.bool (Ms s wt k id)) w):=by
 obtain⟨rfl,rfl,rfl,rfl⟩:=nA.len;refine aO func33 ntmps33 ?_;refine yY q (by simp) hq ?_;refine aB ?_;refine bN fun g1=>?_;refine aB ?_;refine bN fun g2=>?_;refine aB ?_;refine nY (α:=Unit) (fun _=>[]) (fun _=>[]) (fun _=>∀j,j < s.aD.length→Gn s wt k id j=false) ?_ fun _ hno=>?_
 ·refine nX (α:=Unit) (fun i _=>[(12,iv i),(11,iv s.aD.length),(10,.slice A4 s.aD.length k4),(5,pt g2),(3,pt g1),(1,.slice Aw nw cw)]) (fun _ _=>[HP.aE g2 50 [.int .u8 k,iv id],HP.aE g1 30 [.slice A1 s.aF.length k1,.slice A2 s.domains.length k2,.slice A3 s.aY.length k3,.slice A4 s.aD.length k4]]) (fun i _=>∀j,j < i→Gn s wt k id j=false) s.aD.length () (fun j hj=>absurd hj (Nat.not_lt_zero j)) fun i _ hi hno=>?_
  have Lx:Gn s wt k id i=false→∀j,j < i+1→Gn s wt k id j=false:=fun h j hj=>by
   rcases(by omega:j < i∨j=i) with hj | rfl
   ·exact hno j hj
   ·exact h
  have hnc:=hm.nc
  have hnd:=hm.nd
  have qF:=hm.nv
  refine aB ?_;refine aG rfl (fun h=>?_) (fun h=>?_)
  ·have hil:i < s.aD.length:=by omega
   obtain⟨d,hd⟩:=get_some hil;obtain⟨hx1,Fj,hx3,hx4,hx5,hx6,_⟩:=hm.aD i d hd;obtain⟨bV,oV,rV,rfl,hzV,_,hR,Vy⟩:=nA.dev.uU hd;obtain⟨Ar,nr,kr,An,nn,kn,rfl,_⟩:=hR;obtain⟨xc,hxc⟩:∃xc:Nat,d.clock=(xc:Int):=⟨d.clock.toNat,by omega⟩
   rw[hxc] at Vy
   have hk:=dP.le hzV Vy hq
   have wY:Gn s wt k id i=(decide (0 < (wt[i]?).getD 0)&&Ap s k id d):=by rw[Gn,hd];rfl
   refine aB ?_;refine bY fun g3=>?_;refine aB ?_;refine bX (t:=21) rfl (fun h2=>?_) (fun h2=>?_)
   ·refine aB ?_;exact jO () (hg:=Lx (by rw[wY,List.getElem?_eq_none (by omega)];rfl))
   obtain⟨y,hy⟩:=get_some (l:=wt) (i:=i) (by omega);obtain⟨bW,oW,rfl,hcW⟩:=hw.int (by omega)
   have hcy:=hcW i y hy
   rw[hy] at wY;refine aB ?_;refine aG rfl (fun h3=>?_) (fun h3=>?_)
   ·refine aB ?_;exact jO () (hg:=Lx (by rw[wY,decide_eq_false (by simpa using h3)];rfl))
   rw[decide_eq_true (show 0 < (some y).getD 0 by simpa using h3)] at wY;refine aB ?_;refine bX (t:=30) rfl (fun hA=>?_) (fun hA=>?_)
   ·refine aB ?_;refine aG rfl (fun h4=>?_) (fun h4=>?_)
    ·refine aB ?_;exact dF (by rw[aAP hil (by rw[wY];unfold Ap yV;simp_all)])
    ·refine aB ?_;exact jO () (hg:=Lx (by rw[wY];unfold Ap yV;simp_all))
   refine aB ?_;refine bX (t:=30) rfl (fun hB=>?_) (fun hB=>?_)
   ·refine aB ?_;refine aG rfl (fun h4=>?_) (fun h4=>?_)
    ·refine aB ?_;exact dF (by rw[aAP hil (by rw[wY];unfold Ap yV;simp_all)])
    ·refine aB ?_;exact jO () (hg:=Lx (by rw[wY];unfold Ap yV;simp_all))
   refine aB ?_;refine bX (t:=38) rfl (fun hC=>?_) (fun hC=>?_)
   ·refine aB ?_;refine pW ?_;refine aL 3 ?_;refine kA [q] (Hh (mE s xc)) (fun w2 st=>aAM q s _ _ _ _ _ k1 _ k2 _ k3 _ k4 xc w2 nA hm (st.le (by simp)) (by omega)) ?_;rintro _ w2 q1 ⟨Ac,cc,rfl,oZ⟩ hf hle _
    have oZ:=oZ.le hf
    have aOa:=aAN s s.aF.length xc
    refine bA ?_ (hS:=fun _ h=>h.bB);refine aL 6 ?_;refine aQ (fun w3 st=>aH7 Ac _ cc (dR (mE s xc)) id w3 (oZ.le (st.le (by simp))) (by simp[dR]) (by unfold mE;omega)) ?_;refine cG ?_;refine dX ?_;refine aB ?_;refine aG rfl (fun h4=>?_) (fun h4=>?_)
    ·refine aB ?_;exact dF (by rw[aAP hil (by rw[wY];unfold Ap yV;simp_all)])
    ·refine aB ?_;exact jO () (hg:=Lx (by rw[wY];unfold Ap yV;simp_all))
   refine aB ?_;refine bX (t:=47) rfl (fun hD=>?_) (fun hD=>?_)
   ·refine aB ?_;refine aG rfl (fun h4=>?_) (fun h4=>?_)
    ·refine aB ?_;exact dF (by rw[aAP hil (by rw[wY];unfold Ap yV;simp_all)])
    ·refine aB ?_;exact jO () (hg:=Lx (by rw[wY];unfold Ap yV;simp_all))
   refine aB ?_;exact jO () (hg:=Lx (by rw[wY];unfold Ap yV;simp_all))
  ·refine aB ?_;exact dH () (hg:=fun j hj=>hno j (by omega))
 ·refine aB ?_;exact dF (by rw[aQL hno])
theorem tB.box{q:Piece}{x y:eB}{A1 A2 A3 B1 B2 B3:Option Addr}{n1 k1 n2 k2 n3 k3 m1 l1 m2 l2 m3 l3:Nat}{w:World}{g:Nat}
  (hx:tB q x y (.agg #[.slice A1 n1 k1,.slice A2 n2 k2,.slice A3 n3 k3,.slice B1 m1 l1,.slice B2 m2 l2,.slice B3 m3 l3])) (hq:q.Le (all w)) (hg:dP w g 0 [.slice A1 n1 k1,.slice A2 n2 k2,.slice A3 n3 k3,.slice B1 m1 l1,.slice B2 m2 l2,.slice B3 m3 l3]):StM w g x y:=by
 obtain⟨C1,j1,C2,j2,C3,j3,D1,i1,D2,i2,D3,i3,he,s1,s2,s3,s4,s5,s6⟩:=hx;simp only[Value.agg.injEq,Array.mk.injEq,List.cons.injEq,Value.slice.injEq] at he;obtain⟨⟨rfl,rfl,rfl⟩,⟨rfl,rfl,rfl⟩,⟨rfl,rfl,rfl⟩,⟨rfl,rfl,rfl⟩,⟨rfl,rfl,rfl⟩,⟨rfl,rfl,rfl⟩,_⟩:=he;intro i hi;rcases(by omega:i=0∨i=1) with rfl | rfl
 ·exact⟨A1,k1,A2,k2,A3,k3,by simpa using hg.at_ (j:=0) rfl,by simpa using hg.at_ (j:=1) rfl,by simpa using hg.at_ (j:=2) rfl,s1.le hq,s2.le hq,s3.le hq⟩
 ·exact⟨B1,l1,B2,l2,B3,l3,by simpa using hg.at_ (j:=3) rfl,by simpa using hg.at_ (j:=4) rfl,by simpa using hg.at_ (j:=5) rfl,s4.le hq,s5.le hq,s6.le hq⟩
theorem aPQ(q qx:Piece)(s:aC)(A1 A2 A3 A4:Option Addr)(n1 k1 n2 k2 n3 k3 n4 k4:Nat)(X1 X2 X3 Y1 Y2 Y3:Option Addr)(zP vV zO vU zN vT zM vR zL vQ zK vP:Nat)(x y:eB)(ag:Nat)(k id:Int)(w:World)(nA:qO q s A1 n1 A2 n2 A3 n3 A4 n4)(hm:s.wP)(hq:q.Le (all w))(Md:tB qx x y (.agg #[.slice X1 zP vV,.slice X2 zO vU,.slice X3 zN vT,.slice Y1 zM vR,.slice Y2 zL vQ,.slice Y3 zK vP]))(Fq:qx.Le (all w))(hag:ag < 2):
  Cz 32 #[.agg #[.slice A1 n1 k1,.slice A2 n2 k2,.slice A3 n3 k3,.slice A4 n4 k4],.agg #[.slice X1 zP vV,.slice X2 zO vU,.slice X3 zN vT,.slice Y1 zM vR,.slice Y2 zL vQ,.slice Y3 zK vP],iv (ag:Int),.agg #[.int .u8 k,iv id]] w (Rt (.bool (Qx s x y ag k id)) w):=by
 obtain⟨rfl,rfl,rfl,rfl⟩:=nA.len
 have hnc:=hm.nc
 have hnd:=hm.nd
 have nx:∀{i:Nat} {p:Nat→Prop},(∀j,j < i→p j)→p i→∀j,j < i+1→p j:=fun {i p} h1 h2 j hj=>by
  rcases(by omega:j < i∨j=i) with hj | rfl
  ·exact h1 j hj
  ·exact h2
 refine aO func32 ntmps32 ?_;refine yY qx (by simp) Fq ?_;refine yY q (by simp) hq ?_;refine aB ?_;refine bN fun g1=>?_;refine aB ?_;refine bN fun g2=>?_;refine aB ?_;refine bN fun g3=>?_;refine aB ?_;refine nY (α:=Unit) (fun _=>[(7,pt g3),(5,pt g2),(4,pt g1)]) (fun _=>[HP.aE g3 50 [.int .u8 k,iv id],HP.aE g2 58 [.slice X1 zP vV,.slice X2 zO vU,.slice X3 zN vT,.slice Y1 zM vR,.slice Y2 zL vQ,.slice Y3 zK vP],HP.aE g1 30 [.slice A1 s.aF.length k1,.slice A2 s.domains.length k2,.slice A3 s.aY.length k3,.slice A4 s.aD.length k4]]) (fun _=>tM (if ag=0 then y else x) k id=false) ?_ fun _ aCI=>?_
 ·refine nX (α:=Unit) (fun i _=>[(13,iv i),(7,pt g3),(5,pt g2),(4,pt g1),(2,iv (ag:Int))]) (fun _ _=>[HP.aE g3 50 [.int .u8 k,iv id],HP.aE g2 58 [.slice X1 zP vV,.slice X2 zO vU,.slice X3 zN vT,.slice Y1 zM vR,.slice Y2 zL vQ,.slice Y3 zK vP],HP.aE g1 30 [.slice A1 s.aF.length k1,.slice A2 s.domains.length k2,.slice A3 s.aY.length k3,.slice A4 s.aD.length k4]]) (fun i _=>∀j:Nat,j < i→¬(j:Int)=ag→tM (if j=0 then x else y) k id=false) 2 () (fun j hj=>absurd hj (Nat.not_lt_zero j)) fun i _ hi hno=>?_;refine aB ?_;refine aG rfl (fun h=>?_) (fun h=>?_)
  ·have hi2:i < 2:=by omega
   refine aB ?_;refine bX (t:=19) rfl (fun h1=>?_) (fun h1=>?_)
   ·refine aB ?_;refine aQ (fun w1 st=>aB8 g2 i (if i=0 then x else y) k id w1 hi2 (tB.box Md (st.le (by simp)) (st.box (i:=1) rfl) i hi2)) ?_;cases hb:tM (if i=0 then x else y) k id
    ·refine aB ?_;exact jO () (hg:=nx hno fun _=>hb)
    ·refine aB ?_;refine iS (by simp) ?_
     have aCI:tM (if ag=0 then y else x) k id=true:=by
      rcases(by omega:(i=0∧ag=1)∨(i=1∧ag=0)) with⟨rfl,rfl⟩ | ⟨rfl,rfl⟩<;>simpa using hb
     rw[Qx,aCI];rfl
   ·refine aB ?_;exact jO () (hg:=nx hno fun hc=>absurd hc h1)
  ·obtain rfl:i=2:=by omega
   refine aB ?_;refine dH () (hg:=?_);rcases(by omega:ag=0∨ag=1) with rfl | rfl
   ·simpa using hno 1 (by omega) (by omega)
   ·simpa using hno 0 (by omega) (by omega)
 have Vu:Qx s x y ag k id=Qa s x y k id:=by rw[Qx,aCI,Bool.false_or]
 refine eA ?_;refine eA ?_;refine fU ?_;refine bE ?_;refine bE ?_;refine fB ?_;refine xN ?_;refine Gw (α:=Bool) (fun b=>[(30,.bool b),(29,.int .u8 k),(7,pt g3),(5,pt g2),(4,pt g1)]) (fun _=>[HP.aE g3 50 [.int .u8 k,iv id],HP.aE g2 58 [.slice X1 zP vV,.slice X2 zO vU,.slice X3 zN vT,.slice Y1 zM vR,.slice Y2 zL vQ,.slice Y3 zK vP],HP.aE g1 30 [.slice A1 s.aF.length k1,.slice A2 s.domains.length k2,.slice A3 s.aY.length k3,.slice A4 s.aD.length k4]]) (fun b=>b=true↔k=100∨k=107) ?_ fun b hb=>?_
 ·refine aB ?_;refine bX (t:=30) rfl (fun hA=>?_) (fun hA=>?_)
  ·refine aB ?_;exact dH true (hg:=by simp[hA])
  ·refine aB ?_;refine bX (t:=30) rfl (fun hB=>?_) (fun hB=>?_)
   ·exact dH true (hg:=by simp[hB])
   ·exact dH false (hg:=by simp[hA,hB])
 cases b
 ·have Pq:¬(k=100∨k=107):=fun hh=>by simpa using hb.2 hh
  refine aB ?_;refine bX (t:=53) rfl (fun hC=>?_) (fun hC=>?_)
  ·have Vk:Iu s k=s.aF.length:=by rw[Iu,if_neg Pq,if_pos hC]
   refine aB ?_;refine nX (α:=Unit) (fun i _=>[(58,iv i),(57,iv s.aF.length),(7,pt g3),(5,pt g2),(4,pt g1)]) (fun _ _=>[HP.aE g3 50 [.int .u8 k,iv id],HP.aE g2 58 [.slice X1 zP vV,.slice X2 zO vU,.slice X3 zN vT,.slice Y1 zM vR,.slice Y2 zL vQ,.slice Y3 zK vP],HP.aE g1 30 [.slice A1 s.aF.length k1,.slice A2 s.domains.length k2,.slice A3 s.aY.length k3,.slice A4 s.aD.length k4]]) (fun i _=>∀j,j < i→Fw s x y k id j=false) s.aF.length () (fun j hj=>absurd hj (Nat.not_lt_zero j)) fun i _ hi hno=>?_;refine aB ?_;refine aG rfl (fun h=>?_) (fun h=>?_)
   ·have hil:i < s.aF.length:=by omega
    have eY:Fw s x y k id i=(decide ((i:Int)≠id)&&(tL x y k i&&decide (id∈dR (mE s i)))):=by rw[Fw,if_neg Pq,yV,Int.toNat_natCast]
    refine aB ?_;refine aIx ?_;refine aDX 65 rfl (fun h1=>?_) (fun h1=>?_)
    ·rw[decide_eq_true h1] at eY;refine qN 5 ?_;refine aL 8 ?_;refine aB ?_;refine aQ (fun w1 st=>aB9 g2 x y k i w1 (tB.box Md (st.le (by simp)) (st.box (i:=1) rfl))) ?_;cases hw:tL x y k i
     all_goals
      rw[hw] at eY;refine bA ?_;refine qN 9 ?_
     ·refine He 13 ?_;refine qN 14 ?_;refine He 16 ?_;refine qN 17 ?_;refine dX ?_;refine aB ?_;exact jO () (hg:=nx hno (by rw[eY];rfl))
     ·refine aL 13 ?_;refine aB ?_;refine kA [q] (Hh (mE s i)) (fun w2 st=>aAM q s _ _ _ _ _ k1 _ k2 _ k3 _ k4 i w2 nA hm (st.le (by simp)) (by omega)) ?_;rintro _ w2 q1 ⟨Ac,cc,rfl,oZ⟩ hf hle _
      have oZ:=oZ.le hf
      have aOa:=aAN s s.aF.length i
      refine bA ?_ (hS:=fun _ h=>h.bB);refine aL 16 ?_;refine aB ?_;refine aQ (fun w3 st=>aH7 Ac _ cc (dR (mE s i)) id w3 (oZ.le (st.le (by simp))) (by simp[dR]) (by unfold mE;omega)) ?_;refine bA ?_ (hS:=fun _ h=>h.bB);refine mG 17 ?_;refine dX ?_;refine aB ?_;refine aG rfl (fun h4=>?_) (fun h4=>?_)
      ·refine aB ?_;exact dF (by rw[Vu,aGM (by rw[Vk];exact hil) (by rw[eY,decide_eq_true h4];rfl)])
      ·refine aB ?_;exact jO () (hg:=nx hno (by rw[eY,decide_eq_false h4];rfl))
    ·refine qN 5 ?_;refine He 8 ?_;refine qN 9 ?_;refine He 13 ?_;refine qN 14 ?_;refine He 16 ?_;refine qN 17 ?_;refine dX ?_;refine aB ?_;exact jO () (hg:=nx hno (by rw[eY,decide_eq_false h1];rfl))
   ·refine aB ?_;exact dF (by rw[Vu,aCW (by rw[Vk];exact fun j hj=>hno j (by omega))])
  ·refine aB ?_;exact dF (by rw[Vu,aCW (by rw[Iu,if_neg Pq,if_neg hC];exact fun j hj=>absurd hj (Nat.not_lt_zero j))])
 ·have Pq:k=100∨k=107:=hb.1 rfl
  have Vk:Iu s k=s.domains.length:=by rw[Iu,if_pos Pq]
  refine aB ?_;refine nX (α:=Unit) (fun i _=>[(36,iv i),(35,iv s.domains.length),(34,.slice A2 s.domains.length k2),(7,pt g3),(5,pt g2),(4,pt g1)]) (fun _ _=>[HP.aE g3 50 [.int .u8 k,iv id],HP.aE g2 58 [.slice X1 zP vV,.slice X2 zO vU,.slice X3 zN vT,.slice Y1 zM vR,.slice Y2 zL vQ,.slice Y3 zK vP],HP.aE g1 30 [.slice A1 s.aF.length k1,.slice A2 s.domains.length k2,.slice A3 s.aY.length k3,.slice A4 s.aD.length k4]]) (fun i _=>∀j,j < i→Fw s x y k id j=false) s.domains.length () (fun j hj=>absurd hj (Nat.not_lt_zero j)) fun i _ hi hno=>?_;refine aB ?_;refine aG rfl (fun h=>?_) (fun h=>?_)
  ·have hil:i < s.domains.length:=by omega
   obtain⟨d,hd⟩:=get_some hil;obtain⟨bD,oD,rD,rfl,Uq,_,rfl,Mb⟩:=nA.dom.uU hd
   have hk:=dP.le Uq Mb hq
   have eY:Fw s x y k id i=(decide (d.above=id)&&tL x y k i):=by rw[Fw,if_pos Pq,hd];rfl
   refine aB ?_;refine bY fun g4=>?_;refine aB ?_;refine bX (t:=46) rfl (fun h1=>?_) (fun h1=>?_)
   ·rw[decide_eq_true h1] at eY;refine aB ?_;refine aQ (fun w1 st=>aB9 g2 x y k i w1 (tB.box Md (st.le (by simp)) (st.box (i:=2) rfl))) ?_;cases hw:tL x y k i
    all_goals
     rw[hw] at eY;refine aB ?_
    ·exact jO () (hg:=nx hno eY)
    ·exact dF (by rw[Vu,aGM (by rw[Vk];exact hil) eY])
   ·refine aB ?_;exact jO () (hg:=nx hno (by rw[eY,decide_eq_false h1];rfl))
  ·refine aB ?_;exact dF (by rw[Vu,aCW (by rw[Vk];exact fun j hj=>hno j (by omega))])
end
section
theorem aPX(q qx:Piece)(s:aC)(A1 A2 A3 A4:Option Addr)(n1 k1 n2 k2 n3 k3 n4 k4:Nat)(X1 X2 X3 Y1 Y2 Y3:Option Addr)(zP vV zO vU zN vT zM vR zL vQ zK vP:Nat)(x y:eB)(Aw:Option Addr)(nw cw:Nat)(wt:List Int)(ag:Nat)(Al:Option Addr)(nl cl:Nat)(l:List Int)(w:World)(nA:qO q s A1 n1 A2 n2 A3 n3 A4 n4)(hm:s.wP)(hq:q.Le (all w))(Md:tB qx x y (.agg #[.slice X1 zP vV,.slice X2 zO vU,.slice X3 zN vT,.slice Y1 zM vR,.slice Y2 zL vQ,.slice Y3 zK vP]))(Fq:qx.Le (all w))(hw:aH (all w) 1 Aw nw (aN wt))(hnw:nw=wt.length)(hag:ag < 2)(hl:aH (all w) 1 Al nl (dQ l))(fN:nl=l.length)(aG3:nl≤1000000)(hu:nB l):
  Cz 13 #[.agg #[.slice A1 n1 k1,.slice A2 n2 k2,.slice A3 n3 k3,.slice A4 n4 k4],.agg #[.slice X1 zP vV,.slice X2 zO vU,.slice X3 zN vT,.slice Y1 zM vR,.slice Y2 zL vQ,.slice Y3 zK vP],.slice Aw nw cw,iv (ag:Int),.slice Al nl cl] w (Rt (aDB (oH s x y wt ag l)) w):=by
 generalize hrd:fE s l=rd;obtain⟨st,k,id⟩:=rd;refine aO func13 ntmps13 ?_;refine yY qx (by simp) Fq ?_;refine yY q (by simp) hq ?_;refine aB ?_;refine bN fun g1=>?_;refine aB ?_;refine bN fun g2=>?_;refine aB ?_;refine bY fun g3=>?_;refine aB ?_;refine bX (t:=17) rfl (fun h=>absurd h (by omega)) (fun _=>?_);refine aB ?_;refine bX (t:=21) rfl (fun h=>absurd h (by omega)) (fun _=>?_);refine aB ?_;refine aQ (v:=iv 0) (fun w1 st=>(aAK s A1 A2 A3 A4 n1 k1 n2 k2 n3 k3 n4 k4 w1 (nA.W (st.le (by simp)) hm.small)).mono fun _ _ h=>aEh h (by rw[hm.Rc])) ?_;refine aB ?_;refine aQ (v:=.tuple #[.int .i32 st,.agg #[.int .u8 k,iv id]]) (fun w1 st=>(aL9 s A1 A2 A3 A4 n1 k1 n2 k2 n3 k3 n4 k4 Al nl cl l w1 (nA.W (st.le (by simp)) hm.small) (hl.le (st.le (by simp))) fN aG3 hu).mono fun _ _ h=>aEh h (by rw[hrd];rfl)) ?_;refine aB ?_;refine bY fun g4=>?_;refine aB ?_;refine aIx ?_;refine aDX 35 rfl (fun h1=>?_) (fun h1=>?_)
 ·refine qN 3 ?_;refine He 13 ?_;refine qN 14 ?_;refine He 16 ?_;refine qN 17 ?_;refine dX ?_;refine aB ?_
  (refine nW ?_;rw[oH,hrd];dsimp only;rw[if_pos (.inl h1)];rfl)
 refine qN 3 ?_;refine aDX 40 rfl (fun h2=>?_) (fun h2=>?_)
 ·refine qN 8 ?_;refine He 13 ?_;refine qN 14 ?_;refine He 16 ?_;refine qN 17 ?_;refine dX ?_;refine aB ?_
  (refine nW ?_;rw[oH,hrd];dsimp only;rw[if_pos (.inr (.inl h2))];rfl)
 refine qN 8 ?_;refine aL 13 ?_;refine aB ?_;refine aQ (fun w1 st=>aB8 g2 ag (if ag=0 then x else y) k id w1 hag (tB.box Md (st.le (by simp)) (st.box (i:=2) rfl) ag hag)) ?_;refine bA ?_;refine qN 14 ?_;refine aL 16 ?_;refine aB ?_;refine aQ (fun w1 st=>aCg k w1) ?_;refine bA ?_;refine qN 17 ?_;refine dX ?_;refine aB ?_;refine pF rfl (fun h3=>?_) (fun h3=>?_)
 ·refine aB ?_
  (refine nW ?_;rw[oH,hrd];dsimp only;rw[if_pos (.inr (.inr (by simpa using h3)))];rfl)
 have Ln:st=0:=by omega
 have h4:¬(st≠0∨k=0∨tM (if ag=0 then x else y) k id=decide (qV k)):=fun hh=>by
  rcases hh with hh | hh | hh
  ·exact hh Ln
  ·exact h2 hh
  ·rw[hh] at h3;simp at h3
 refine aB ?_;refine aQ (fun w1 st=>aCg k w1) ?_;refine aB ?_;refine aG rfl (fun h6=>?_) (fun h6=>?_)
 ·refine aB ?_;refine aG rfl (fun h7=>?_) (fun h7=>?_)
  ·subst h7
   have hok:=aF5 (s:=s) hu
   rw[hrd] at hok
   have hid:=hok.resolve_left (fun hh=>by have:=hh.1;simp at this)
   have aSF:0≤id:=hid.2.2.1
   have aSE:id < (s.domains.length:Int):=hid.2.2.2.1
   obtain⟨d,hd⟩:=get_some (l:=s.domains) (i:=id.toNat) (by omega);obtain⟨rfl,rfl,rfl,rfl⟩:=nA.len;obtain⟨bD,oD,rD,rfl,Uq,_,rfl,Mb⟩:=nA.dom.uU hd
   have hk:=dP.le Uq Mb hq
   have ha:=hk.at_ (j:=0) rfl
   have hab:(s.domains[id.toNat]?).any (fun d=>decide (d.above≠ -1)&& !tL x y 117 d.above)=(decide (d.above≠ -1)&& !tL x y 117 d.above):=by rw[hd];rfl
   refine aB ?_;refine bX (t:=69) rfl (fun h8=>?_) (fun h8=>?_)
   ·rw[decide_eq_true h8] at hab;refine aB ?_;refine aQ (fun w1 st=>aB9 g2 x y 117 d.above w1 (tB.box Md (st.le (by simp)) (st.box (i:=2) rfl))) ?_;cases hw9:tL x y 117 d.above
    all_goals
     rw[hw9] at hab;refine aB ?_
    ·(refine nW ?_;rw[oH,hrd];dsimp only;rw[if_neg h4,if_pos h6,if_pos ⟨rfl,hab⟩];rfl)
    ·refine Ya [2] ?_;refine aB ?_
     (refine nW ?_;rw[oH,hrd];dsimp only;rw[if_neg h4,if_pos h6,if_neg (fun hh=>by have h':=hh.2;rw[hab] at h';cases h')];rfl)
   ·rw[decide_eq_false h8] at hab;refine aB ?_;refine Ya [2] ?_;refine aB ?_
    (refine nW ?_;rw[oH,hrd];dsimp only;rw[if_neg h4,if_pos h6,if_neg (fun hh=>by have h':=hh.2;rw[hab] at h';cases h')];rfl)
  ·refine aB ?_;refine Ya [2] ?_;refine aB ?_
   (refine nW ?_;rw[oH,hrd];dsimp only;rw[if_neg h4,if_pos h6,if_neg (fun hh=>h7 hh.1)];rfl)
 ·refine aB ?_;refine aQ (fun w1 st=>aPQ q qx s A1 A2 A3 A4 n1 k1 n2 k2 n3 k3 n4 k4 X1 X2 X3 Y1 Y2 Y3 zP vV zO vU zN vT zM vR zL vQ zK vP x y ag k id w1 nA hm (st.le (by simp)) Md (st.le (by simp)) hag) ?_;cases hde:Qx s x y ag k id
  ·refine aB ?_;refine aQ (fun w1 st=>aQK q s A1 A2 A3 A4 n1 k1 n2 k2 n3 k3 n4 k4 Aw nw cw wt k id w1 nA hm (st.le (by simp)) (hw.le (st.le (by simp))) hnw) ?_;cases hbu:Ms s wt k id
   ·refine aB ?_;refine Ya [2] ?_;refine aB ?_
    (refine nW ?_;rw[oH,hrd];dsimp only;rw[if_neg h4,if_neg h6,hde,if_neg (by simp),hbu,if_neg (by simp)];rfl)
   ·refine aB ?_
    (refine nW ?_;rw[oH,hrd];dsimp only;rw[if_neg h4,if_neg h6,hde,if_neg (by simp),hbu,if_pos rfl];rfl)
  ·refine aB ?_
   (refine nW ?_;rw[oH,hrd];dsimp only;rw[if_neg h4,if_neg h6,hde,if_pos rfl];rfl)
end
section
def yF(l:List Bool)(id:Int)(b:Bool):List Bool:=if 0≤id∧id < (l.length:Int) then l.set id.toNat b else l
theorem aFi{l:List Bool}{id:Int}(b:Bool)(h:¬(0≤id∧id < (l.length:Int))):yF l id b=l:=if_neg h
theorem Od(l:List Bool)(id:Int)(b:Bool):(yF l id b).length=l.length:=by unfold yF;split<;>simp
def oQ(x:eB)(k id:Int):eB:=
 if k=117∨k=100∨k=107 then⟨yF x.d id (decide (qV k)),x.c,x.l⟩
 else if k=99∨k=111 then⟨x.d,yF x.c id (decide (qV k)),x.l⟩
 else if k=114∨k=97 then⟨x.d,x.c,yF x.l id (decide (qV k))⟩ else x
def lH(x:eB)(ag:Nat)(k id:Int):eB:=if ag=0 then oQ x k id else x
def lG(y:eB)(ag:Nat)(k id:Int):eB:=if ag=0 then y else oQ y k id
theorem aQV{l:List Bool}{id:Int}(b:Bool)(h:0≤id∧id < (l.length:Int)):(bF l).set id.toNat (.bool b)=bF (yF l id b):=by
 rw[yF,if_pos h];simp[bF,List.map_set]
section
variable{N:cE}{w0 w:World}{e:Env}{R:List Piece}{H:List HP}{K:Act→World→Prop}
theorem St.aLY(st:St w0 R H w){i n c sz:Nat}{t:TypeId}{A:Option Addr}{xs:List Value}(hi:H[i]? =some (HP.own t sz (.slice A n c) n xs))(hn:0 < n):∃g,A=some ⟨g,0,none⟩:=by
 obtain⟨_,h2⟩:=st.own hi;rcases h2 with⟨h2,h3⟩ | ⟨g',cap,cur,hv,_⟩
 ·omega
 ·injection hv with h4 h5 h6
  exact⟨g',h4⟩
theorem aIp(i:Nat){n c sz:Nat}{t:TypeId}{A:Option Addr}{xs:List Value}(hi:H[i]? =some (HP.own t sz (.slice A n c) n xs))(h:n≤c→XK N w0 K e R H):XK N w0 K e R H:=fun a w hr st=>by
 obtain⟨_,h2⟩:=st.own hi;refine h ?_ a w hr st;rcases h2 with⟨_,h3⟩ | ⟨g',cap,cur,hv,_,_,h3,_⟩
 ·omega
 ·injection hv with h4 h5 h6
  omega
theorem Xw(i:Nat){n c sz:Nat}{t:TypeId}{A:Option Addr}{xs:List Value}(hi:H[i]? =some (HP.own t sz (.slice A n c) n xs))(hn:0 < n)(h:(∃g,A=some ⟨g,0,none⟩)→XK N w0 K e R H):XK N w0 K e R H:=fun a w hr st=>h (st.aLY hi hn) a w hr st
end
end
section
structure fQ where
 a1:AC
 a2:AC
 a3:AC
 a4:AC
 x1:AC
 x2:AC
 x3:AC
 y1:AC
 y2:AC
 y3:AC
 b0:AC
 b1:AC
structure cI where
 x:eB
 y:eB
 h0:Int
 h1:Int
 w0:List Int
 w1:List Int
 last:Int
 at_:Int
 kind:Int
 id:Int
def sO(s:aC):cI:=⟨jK s,jK s,0,0,[],[],1,-1,0,0⟩
def wI(a:AC)(n:Nat):Value:=.slice a.1 n a.2
def jI(h:Nat)(L:fQ)(s:aC)(z:cI):List Value:=[pt h,.slice L.a1.1 s.aF.length L.a1.2,.slice L.a2.1 s.domains.length L.a2.2,.slice L.a3.1 s.aY.length L.a3.2,.slice L.a4.1 s.aD.length L.a4.2,
 .slice L.x1.1 z.x.d.length L.x1.2,.slice L.x2.1 z.x.c.length L.x2.2,.slice L.x3.1 z.x.l.length L.x3.2,.slice L.y1.1 z.y.d.length L.y1.2,.slice L.y2.1 z.y.c.length L.y2.2,.slice L.y3.1 z.y.l.length L.y3.2,
 iv z.h0,.slice L.b0.1 z.w0.length L.b0.2,iv z.h1,.slice L.b1.1 z.w1.length L.b1.2,iv z.last,iv z.at_,.int .u8 z.kind,iv z.id]
def uM(L:fQ)(s:aC)(p:Piece):Prop:=qO p s L.a1.1 s.aF.length L.a2.1 s.domains.length L.a3.1 s.aY.length L.a4.1 s.aD.length
theorem uM.le{L:fQ}{s:aC}(p q:Piece)(hl:p.Le q)(h:uM L s p):uM L s q:=qO.le h hl
def pH(L:fQ)(x y:eB)(p:Piece):Prop:=aH p 1 L.x1.1 x.d.length (bF x.d)∧aH p 1 L.x2.1 x.c.length (bF x.c)∧aH p 1 L.x3.1 x.l.length (bF x.l)∧aH p 1 L.y1.1 y.d.length (bF y.d)∧aH p 1 L.y2.1 y.c.length (bF y.c)∧aH p 1 L.y3.1 y.l.length (bF y.l)
theorem pH.le{L:fQ}{x y:eB}(p q:Piece)(hl:p.Le q)(h:pH L x y p):pH L x y q:=⟨h.1.le hl,h.2.1.le hl,h.2.2.1.le hl,h.2.2.2.1.le hl,h.2.2.2.2.1.le hl,h.2.2.2.2.2.le hl⟩
def eD(a:AC)(l:List Int)(p:Piece):Prop:=aH p 1 a.1 l.length (dQ l)
theorem eD.le{a:AC}{l:List Int}(p q:Piece)(hl:p.Le q)(h:eD a l p):eD a l q:=aH.le h hl
theorem tB.P{q:Piece}{x y:eB}{v:Value}(h:tB q x y v):∃x1 x2 x3 y1 y2 y3:AC,v=.agg #[wI x1 x.d.length,wI x2 x.c.length,wI x3 x.l.length,wI y1 y.d.length,wI y2 y.c.length,wI y3 y.l.length]∧∀a1 a2 a3 a4 b0 b1:AC,pH ⟨a1,a2,a3,a4,x1,x2,x3,y1,y2,y3,b0,b1⟩ x y q:=by
 obtain⟨A1,k1,A2,k2,A3,k3,B1,m1,B2,m2,B3,m3,e,a1,a2,a3,b1,b2,b3⟩:=h;exact⟨(A1,k1),(A2,k2),(A3,k3),(B1,m1),(B2,m2),(B3,m3),e,fun _ _ _ _ _ _=>⟨a1,a2,a3,b1,b2,b3⟩⟩
def iG(f h:Nat)(L:fQ)(s:aC)(z:cI):HP:=HP.many [HP.aE f 175 (jI h L s z),HP.bR (uM L s) (uM.le (L:=L) (s:=s)),HP.bR (pH L z.x z.y) (pH.le (L:=L) (x:=z.x) (y:=z.y)),HP.bR (eD L.b0 z.w0) (eD.le (a:=L.b0) (l:=z.w0)),HP.bR (eD L.b1 z.w1) (eD.le (a:=L.b1) (l:=z.w1))]
def Cc(f h:Nat)(s:aC)(z:cI):HP:=HP.ex fun L:fQ=>iG f h L s z
structure Cd(w:World)(f h:Nat)(L:fQ)(s:aC)(z:cI):Prop where
 r0:dP w f 0 (jI h L s z)
 so:uM L s (all w)
 st:pH L z.x z.y (all w)
 b0:eD L.b0 z.w0 (all w)
 b1:eD L.b1 z.w1 (all w)
theorem aEq{f h:Nat}{L:fQ}{s:aC}{z:cI}{F:Nat→Prop}{w:World}(k:(iG f h L s z).sat F w)(hF:∀b,F b→b < w.heap.size):Cd w f h L s z:=by
 obtain⟨G,g1,g2,_⟩:=k
 have hl:∀i,(⟨w,G i⟩:Piece).Le (all w):=fun i b hb=>⟨hF b (g2 i b hb),rfl⟩
 exact⟨uI (g1 0 _ rfl).2,uM.le _ _ (hl 1) (g1 1 _ rfl),pH.le _ _ (hl 2) (g1 2 _ rfl),eD.le _ _ (hl 3) (g1 3 _ rfl),eD.le _ _ (hl 4) (g1 4 _ rfl)⟩
theorem St.Dq{w0 w:World}{R:List Piece}{H:List HP}{f h:Nat}{L:fQ}{s:aC}{z:cI}(t:St w0 R H w)(i:Nat)(hi:H[i]? =some (iG f h L s z)):Cd w f h L s z:=by
 obtain⟨F,h1,h2,_⟩:=t.chunk hi;exact aEq h1 h2
def aIZ(h:Nat)(s:aC)(v:Value)(hs:List HP)(_:Piece):Prop:=∃f,v=.tuple #[pt f,iv 0]∧hs=[Cc f h s (sO s)]
theorem aAE{w:World}(a:AC)(ha:a=(none,0)):(HP.bR (eD a []) (eD.le (a:=a) (l:=[]))).sat (fun _=>False) w:=by
 subst ha;exact⟨rfl,fun h=>absurd h (by simp)⟩
theorem aOK(h:Nat)(s:aC)(hH:s.dJ)(A1 A2 A3 A4:Option Addr)(n1 k1 n2 k2 n3 k3 n4 k4:Nat)(w:World)(hW:iE w s A1 n1 A2 n2 A3 n3 A4 n4):
  Cz 49 #[pt h,.agg #[.slice A1 n1 k1,.slice A2 n2 k2,.slice A3 n3 k3,.slice A4 n4 k4]] w (fun y w'=>(∃v hs q,y=.returned v∧q.w=w'∧aIZ h s v hs q∧fV w hs q)∧Below w.heap.size w w'):=by
 obtain rfl:=hW.qX;obtain rfl:=hW.qW;obtain rfl:=hW.tT;obtain rfl:=hW.sH;refine aO func49 ntmps49 ?_;refine aA ?_;refine bN fun g1=>?_;refine aA ?_;refine aQ (fun w1 t=>Re s A1 A2 A3 A4 _ k1 _ k2 _ k3 _ k4 w1 (hW.le (t.started (by simp))) hH.t.Rc) ?_;refine aA ?_;refine iZ [1,3] ?_;refine bJ 0 ?_;refine aK 1 ?_;refine aK 3 ?_;refine aL 2 ?_
 refine kA [] (fun v w w'=>aBy s v w w') (fun w1 t=>aDz s A1 A2 A3 A4 _ k1 _ k2 _ k3 _ k4 w1 (hW.le (t.started (by simp))) (fun d hd=>by
  obtain⟨j,hj⟩:=List.getElem?_of_mem hd
  have:=(hH.t.aD j d hj).2.2.2.2.2.2.2.2.1
  omega)) ?_
 rintro _ w1 q1 ⟨cs,rfl,hcs⟩ Fs _ sN
 have sN:=sN (by simp)
 obtain⟨B1,m1,j1,B2,m2,j2,B3,m3,j3,B4,m4,j4,rfl,hsp⟩:=uL.P hcs
 have hsp:=hsp.le Fs
 obtain⟨rfl,rfl,rfl,rfl⟩:=hsp.len;refine Jq (Φ:=uM ⟨(B1,j1),(B2,j2),(B3,j3),(B4,j4),(none,0),(none,0),(none,0),(none,0),(none,0),(none,0),(none,0),(none,0)⟩ s) (hm:=uM.le) sN (by simp[all]) hsp ?_;refine bA ?_;refine aL 4 ?_;refine kA [] (fun v w w'=>tB (fresh w w') (jK s) (jK s) v) (fun w1 st=>aKu s A1 A2 A3 A4 k1 k2 k3 k4 w1 hH.t) ?_;rintro _ w2 q2 hst vB _ Iv
 have Iv:=Iv (by simp)
 obtain⟨x1,x2,x3,y1,y2,y3,rfl,Lo⟩:=hst.P
 have Lo:=pH.le _ _ vB (Lo (B1,j1) (B2,j2) (B3,j3) (B4,j4) (none,0) (none,0))
 refine Jq (Φ:=pH ⟨(B1,j1),(B2,j2),(B3,j3),(B4,j4),x1,x2,x3,y1,y2,y3,(none,0),(none,0)⟩ (jK s) (jK s)) (hm:=pH.le) Iv (by simp[all]) Lo ?_;refine bA ?_;refine aL 5 ?_;refine kd (iI rfl) ?_;refine cG ?_;refine aL 6 ?_;refine bN fun f=>?_;refine cG ?_;refine aL 7 ?_;refine bE ?_;refine cG ?_;refine dX ?_;refine aA ?_;refine nM (p:=HP.bR (eD (none,0) []) (eD.le (a:=(none,0)) (l:=[]))) (fun w=>aAE _ rfl) ?_;refine nM (p:=HP.bR (eD (none,0) []) (eD.le (a:=(none,0)) (l:=[]))) (fun w=>aAE _ rfl) ?_;refine aT [2,4,3,0,1] rfl (by decide) (R':=[all w]) (by simp) ?_;refine mS ?_;refine qK ?_;refine qK ?_;refine qK ?_;refine uK 0 (f:=fun L:fQ=>iG f h L s (sO s)) ⟨(B1,j1),(B2,j2),(B3,j3),(B4,j4),x1,x2,x3,y1,y2,y3,(none,0),(none,0)⟩ rfl ?_;dsimp only[List.set];refine dB [] [] [0] (by simp) rfl (by decide) (by decide) fun q _ _ hfr=>?_;exact fT rfl rfl rfl fun w1 t=>⟨⟨_,_,⟨w1,q.Z⟩,rfl,rfl,⟨f,rfl,rfl⟩,t.newR (by simp) (by simp) (hfr (by simp) (by simp))⟩,t.below (by simp)⟩
end
section
section
variable{N:cE}{w0 w:World}{e:Env}{R:List Piece}{H:List HP}{K:Act→World→Prop}{f h:Nat}{s:aC}{z:cI}
theorem Xx(i:Nat)(hi:H[i]? =some (Cc f h s z))(k:∀L:fQ,XK N w0 K e R (HP.aE f 175 (jI h L s z)::H.set i (HP.many [bU,HP.bR (uM L s) (uM.le (L:=L) (s:=s)),HP.bR (pH L z.x z.y) (pH.le (L:=L) (x:=z.x) (y:=z.y)),HP.bR (eD L.b0 z.w0) (eD.le (a:=L.b0) (l:=z.w0)),HP.bR (eD L.b1 z.w1) (eD.le (a:=L.b1) (l:=z.w1))]))):XK N w0 K e R H:=by
 have hlt:=wV hi
 refine aBf i hi fun L=>?_;refine qJ i 0 (by rw[List.getElem?_set_self hlt];rfl) rfl ?_
 simpa[List.set_set] using k L
theorem zA(L:fQ)(i:Nat)(hi:H[i]? =some (HP.many [bU,HP.bR (uM L s) (uM.le (L:=L) (s:=s)),HP.bR (pH L z.x z.y) (pH.le (L:=L) (x:=z.x) (y:=z.y)),HP.bR (eD L.b0 z.w0) (eD.le (a:=L.b0) (l:=z.w0)),HP.bR (eD L.b1 z.w1) (eD.le (a:=L.b1) (l:=z.w1))]))(k:XK N w0 K e R (H.set i (Cc f h s z))):XK N w0 K e R (HP.aE f 175 (jI h L s z)::H):=by
 have hlt:=wV hi
 refine qL i 0 hi rfl ?_;refine uK i (f:=fun L:fQ=>iG f h L s z) L (by rw[List.getElem?_set_self hlt];rfl) ?_;rw[List.set_set];exact k
end
def jZ(z:cI)(a:Int)(l:List Int):Int×cI:=
 if bZ 2 a=false then(4,z) else if a=0 then(if z.h0≠0 then(7,z) else(0,{z with h0:=1,w0:=l})) else(if z.h1≠0 then(7,z) else(0,{z with h1:=1,w1:=l}))
theorem aGW(f h:Nat)(s:aC)(z:cI)(a:Int)(A:Option Addr)(n c:Nat)(l:List Int)(w:World)(F:Nat→Prop)(hp:(Cc f h s z).sat F w)(hF:∀b,F b→b < w.heap.size)(hs:aH ⟨w,fun b=>b < w.heap.size∧¬F b⟩ 1 A n (dQ l))(hn:n=l.length)(hn2:n≤1000000):
  Cz 96 #[pt f,iv a,.slice A n c] w (Wr (iv (jZ z a l).1) (Cc f h s (jZ z a l).2) w F):=by
 subst hn;cases hin:bZ 2 a
 ·have hr:jZ z a l=(4,z):=by simp[jZ,hin]
  rw[hr];refine cS func96 ntmps96 hp hF ?_;refine aA ?_;refine aQ (fun w1 t=>Lf a w1) ?_;rw[hin];refine aA ?_;exact bO 0 hF
 ·obtain rfl | rfl:a=0∨a=1:=by have:=of_decide_eq_true hin;omega
  ·refine cS func96 ntmps96 hp hF ?_;refine Xx 0 rfl fun L=>?_;dsimp only[List.set,jI];refine aA ?_;refine aQ (fun w1 t=>Lf 0 w1) ?_;refine aA ?_;refine kd (fF 0 11) ?_;refine aA ?_;refine aG rfl (fun hb=>?_) (fun hb=>?_)
   ·have hr:jZ z 0 l=(7,z):=by simp[jZ,bZ,hb]
    rw[hr];refine aA ?_;refine zA L 0 rfl ?_;dsimp only[List.set];exact bO 0 hF
   ·have hr:jZ z 0 l=(0,{z with h0:=1,w0:=l}):=by simp[jZ,bZ];simpa using hb
    rw[hr];refine aA ?_;refine iZ [5,6] ?_;refine bJ 0 ?_;refine bJ 1 ?_;refine bJ 2 ?_;refine aK 5 ?_;refine aK 6 ?_;refine aL 3 ?_;refine dS (Si l.length (dQ l)) (fun w1 t=>Xe A _ c _ w1 (hs.le (t.le (by simp))) (Ep _) hn2) ?_;rintro _ _ q1 ⟨An,cn,rfl,rfl⟩ _;dsimp only[List.cons_append,List.nil_append];refine bA ?_;refine aL 4 ?_;refine kd (iI rfl) ?_;refine bA ?_;refine aL 7 ?_;refine kd (fF 0 11) ?_;refine cG ?_;refine aL 8 ?_;refine pY 1 (t:=175) rfl rfl rfl (by kernel_rfl) (by simp[Value.cells,Value.oneCell']) (by simp[Value.cells]) ?_;dsimp only[List.set,Value.cells,fS];refine cG ?_;refine dX ?_;refine aA ?_;refine xM 0 (Φ:=eD (An,cn) l) (hm:=eD.le) rfl (fun p hp=>hp) ?_;refine aX 2 3 ?_;refine aT [1,2,3] rfl (by decide) (fun _ h=>h) ?_;refine aJ 1 3 ?_;refine zA (h:=h) (s:=s) (z:={z with h0:=1,w0:=l}) {L with b0:=(An,cn)} 0 rfl ?_;dsimp only[List.set];exact bO 0 hF
  ·refine cS func96 ntmps96 hp hF ?_;refine Xx 0 rfl fun L=>?_;dsimp only[List.set,jI];refine aA ?_;refine aQ (fun w1 t=>Lf 1 w1) ?_;refine aA ?_;refine kd (fF 1 13) ?_;refine aA ?_;refine aG rfl (fun hb=>?_) (fun hb=>?_)
   ·have hr:jZ z 1 l=(7,z):=by simp[jZ,bZ,hb]
    rw[hr];refine aA ?_;refine zA L 0 rfl ?_;dsimp only[List.set];exact bO 0 hF
   ·have hr:jZ z 1 l=(0,{z with h1:=1,w1:=l}):=by simp[jZ,bZ];simpa using hb
    rw[hr];refine aA ?_;refine iZ [5,6] ?_;refine bJ 0 ?_;refine bJ 1 ?_;refine bJ 2 ?_;refine aK 5 ?_;refine aK 6 ?_;refine aL 3 ?_;refine dS (Si l.length (dQ l)) (fun w1 t=>Xe A _ c _ w1 (hs.le (t.le (by simp))) (Ep _) hn2) ?_;rintro _ _ q1 ⟨An,cn,rfl,rfl⟩ _;dsimp only[List.cons_append,List.nil_append];refine bA ?_;refine aL 4 ?_;refine kd (iI rfl) ?_;refine bA ?_;refine aL 7 ?_;refine kd (fF 1 13) ?_;refine cG ?_;refine aL 8 ?_;refine pY 1 (t:=175) rfl rfl rfl (by kernel_rfl) (by simp[Value.cells,Value.oneCell']) (by simp[Value.cells]) ?_;dsimp only[List.set,Value.cells,fS];refine cG ?_;refine dX ?_;refine aA ?_;refine xM 0 (Φ:=eD (An,cn) l) (hm:=eD.le) rfl (fun p hp=>hp) ?_;refine aX 2 4 ?_;refine aT [1,2,3] rfl (by decide) (fun _ h=>h) ?_;refine aJ 1 4 ?_;refine zA (h:=h) (s:=s) (z:={z with h1:=1,w1:=l}) {L with b1:=(An,cn)} 0 rfl ?_;dsimp only[List.set];exact bO 0 hF
def mK(z:cI)(a:Int):Option (List Int):=if a=0 then(if z.h0=2 then some z.w0 else none) else if a=1 then(if z.h1=2 then some z.w1 else none) else none
def lX(z:cI)(a:Int):cI:=if a=0 then(if z.h0=2 then {z with h0:=0,w0:=[]} else z) else if a=1 then(if z.h1=2 then {z with h1:=0,w1:=[]} else z) else z
def Oh(l:Option (List Int))(a:AC):Value:=match l with
 | some l=>.tuple #[.slice a.1 l.length a.2,.bool true]
 | none=>.tuple #[.slice none 0 0,.bool false]
def Ez(f h:Nat)(s:aC)(z:cI)(l:List Int)(c:AC):HP:=HP.many [Cc f h s z,HP.bR (eD c l) (eD.le (a:=c) (l:=l))]
theorem aDh(f h:Nat)(s:aC)(z:cI)(a:Int)(w:World)(F:Nat→Prop)(hp:(Cc f h s z).sat F w)(hF:∀b,F b→b < w.heap.size):
  Cz 39 #[pt f,iv a] w (fun y w'=>∃c:AC,y=.returned (Oh (mK z a) c)∧True∧∃F',(Ez f h s (lX z a) ((mK z a).getD []) c).sat F' w'∧iD w w' F F'):=by
 have Vr:∀w:World,(HP.bR (eD (none,0) []) (eD.le (a:=(none,0)) (l:=[]))).sat (fun _=>False) w:=fun w=>aAE _ rfl
 cases hin:bZ 2 a
 ·have h0:a≠0:=fun h=>by subst h;cases hin
  have h1:a≠1:=fun h=>by subst h;cases hin
  have hr:mK z a=none:=by simp[mK,h0,h1]
  have hz:lX z a=z:=by simp[lX,h0,h1]
  rw[hr,hz];unfold Ez;refine cS func39 ntmps39 hp hF ?_;refine aA ?_;refine aQ (fun w1 t=>Lf a w1) ?_;rw[hin];refine aA ?_;refine nM (p:=HP.bR (eD (none,0) []) (eD.le (a:=(none,0)) (l:=[]))) Vr ?_;refine aT [1,0] rfl (by decide) (fun _ h=>h) ?_;refine mS ?_;exact fT rfl rfl rfl fun w1 t=>⟨(none,0),rfl,trivial,t.turns hF (by simp) (i:=0) rfl⟩
 ·obtain rfl | rfl:a=0∨a=1:=by have:=of_decide_eq_true hin;omega
  ·refine cS func39 ntmps39 hp hF ?_;refine Xx 0 rfl fun L=>?_;dsimp only[List.set,jI];refine aA ?_;refine aQ (fun w1 t=>Lf 0 w1) ?_;refine aA ?_;refine kd (fF 0 11) ?_;refine aA ?_;refine aG rfl (fun hb=>?_) (fun hb=>?_)
   ·have hr:mK z 0=none:=by simp[mK,hb]
    have hz:lX z 0=z:=by simp[lX,hb]
    rw[hr,hz];unfold Ez;dsimp only[Option.getD];refine aA ?_;refine zA L 0 rfl ?_;dsimp only[List.set];refine nM (p:=HP.bR (eD (none,0) []) (eD.le (a:=(none,0)) (l:=[]))) Vr ?_;refine aT [1,0] rfl (by decide) (fun _ h=>h) ?_;refine mS ?_;exact fT rfl rfl rfl fun w1 t=>⟨(none,0),rfl,trivial,t.turns hF (by simp) (i:=0) rfl⟩
   ·have dZ:z.h0=2:=by simpa using hb
    have hr:mK z 0=some z.w0:=by simp[mK,dZ]
    have hz:lX z 0={z with h0:=0,w0:=[]}:=by simp[lX,dZ]
    rw[hr,hz];unfold Ez;dsimp only[Option.getD];refine aA ?_;refine kd (fF 0 11) ?_;refine aA ?_;refine kd (iI rfl) ?_;refine aA ?_;refine kd (fF 0 11) ?_;refine pY 0 (t:=175) rfl rfl rfl (by kernel_rfl) (by simp[Value.cells,Value.oneCell']) (by simp[Value.cells]) ?_;dsimp only[List.set,Value.cells,fS];refine aA ?_;refine aX 1 3 ?_;refine nM (p:=HP.bR (eD (none,0) []) (eD.le (a:=(none,0)) (l:=[]))) Vr ?_;refine aT [0,2,3,1] rfl (by decide) (fun _ h=>h) ?_;refine aJ 1 3 ?_;refine zA (h:=h) (s:=s) (z:={z with h0:=0,w0:=[]}) {L with b0:=(none,0)} 0 rfl ?_;dsimp only[List.set];refine mS ?_;exact fT rfl rfl rfl fun w1 t=>⟨L.b0,rfl,trivial,t.turns hF (by simp) (i:=0) rfl⟩
  ·refine cS func39 ntmps39 hp hF ?_;refine Xx 0 rfl fun L=>?_;dsimp only[List.set,jI];refine aA ?_;refine aQ (fun w1 t=>Lf 1 w1) ?_;refine aA ?_;refine kd (fF 1 13) ?_;refine aA ?_;refine aG rfl (fun hb=>?_) (fun hb=>?_)
   ·have hr:mK z 1=none:=by simp[mK,hb]
    have hz:lX z 1=z:=by simp[lX,hb]
    rw[hr,hz];unfold Ez;dsimp only[Option.getD];refine aA ?_;refine zA L 0 rfl ?_;dsimp only[List.set];refine nM (p:=HP.bR (eD (none,0) []) (eD.le (a:=(none,0)) (l:=[]))) Vr ?_;refine aT [1,0] rfl (by decide) (fun _ h=>h) ?_;refine mS ?_;exact fT rfl rfl rfl fun w1 t=>⟨(none,0),rfl,trivial,t.turns hF (by simp) (i:=0) rfl⟩
   ·have dZ:z.h1=2:=by simpa using hb
    have hr:mK z 1=some z.w1:=by simp[mK,dZ]
    have hz:lX z 1={z with h1:=0,w1:=[]}:=by simp[lX,dZ]
    rw[hr,hz];unfold Ez;dsimp only[Option.getD];refine aA ?_;refine kd (fF 1 13) ?_;refine aA ?_;refine kd (iI rfl) ?_;refine aA ?_;refine kd (fF 1 13) ?_;refine pY 0 (t:=175) rfl rfl rfl (by kernel_rfl) (by simp[Value.cells,Value.oneCell']) (by simp[Value.cells]) ?_;dsimp only[List.set,Value.cells,fS];refine aA ?_;refine aX 1 4 ?_;refine nM (p:=HP.bR (eD (none,0) []) (eD.le (a:=(none,0)) (l:=[]))) Vr ?_;refine aT [0,2,3,1] rfl (by decide) (fun _ h=>h) ?_;refine aJ 1 4 ?_;refine zA (h:=h) (s:=s) (z:={z with h1:=0,w1:=[]}) {L with b1:=(none,0)} 0 rfl ?_;dsimp only[List.set];refine mS ?_;exact fT rfl rfl rfl fun w1 t=>⟨L.b1,rfl,trivial,t.turns hF (by simp) (i:=0) rfl⟩
end
section
def Bl(c:eU)(r:Int):Int:=if c.kind=112 then(if 1099511627776 < r*c.mul / c.div then 1099511627776 else r*c.mul / c.div) else if c.kind=100 then r / c.div else r
def Ml(s:aC):Nat→Nat→Int
 | 0,_=>0
 | k + 1, i => match s.aF[i]? with
  | none=>0
  | some c=>if c.kind=111 then c.rate else Bl c (match c.src with
   | []=>0
   | f::_=>Ml s k f.toNat)
def pS(s:aC)(i:Nat):Int:=Ml s (i+1) i
def Hy(s:aC)(st:List eN)(i:Int):Int:=if tN s st i then pS s i.toNat else 0
theorem aOP{s:aC}(hf:Fits eU.fit s.aF):∀(c k:Nat),c < k→Ml s k c=Ml s (c+1) c:=by
 intro c
 induction c using Nat.strongRecOn with
 | _ c ih =>
  intro k hk;obtain⟨k,rfl⟩:=Nat.exists_eq_add_of_lt hk;rw[show c+k+1=(c+k)+1 from rfl];unfold Ml;cases hc:s.aF[c]? with
  | none=>rfl
  | some x =>
   dsimp only;cases hs:x.src with
   | nil=>rfl
   | cons f fs=>
    have hfit:=(hf c x hc).1 f (by rw[hs];simp)
    have h1:f.toNat < c:=by omega
    dsimp only;rw[ih f.toNat h1 (c+k) (by omega),ih f.toNat h1 c h1]
theorem aHh{s:aC}(hf:Fits eU.fit s.aF){i:Nat}{c:eU}(hc:s.aF[i]? =some c):pS s i=if c.kind=111 then c.rate else Bl c (match c.src with
  | []=>0
  | f::_=>pS s f.toNat):=by
 unfold pS;rw[Ml,hc];dsimp only;cases hs:c.src with
 | nil=>rfl
 | cons f fs=>
  have hfit:=(hf i c hc).1 f (by rw[hs];simp)
  dsimp only;rw[aOP hf f.toNat i (by omega)]
theorem aOO{s:aC}(hf:Fits eU.fit s.aF):∀i:Nat,0≤pS s i∧pS s i≤1099511627776:=by
 intro i
 induction i using Nat.strongRecOn with
 | _ i ih =>
  cases hc:s.aF[i]? with
  | none=>unfold pS Ml;rw[hc];exact⟨Int.le_refl 0,by show(0:Int)≤1099511627776;omega⟩
  | some c =>
   rw[aHh hf hc];obtain⟨hsrc,hfit⟩:=hf i c hc
   have hr:0≤(match c.src with | []=>0 | f::_=>pS s f.toNat)∧(match c.src with | []=>0 | f::_=>pS s f.toNat)≤1099511627776:=by
    cases hs:c.src with
    | nil=>exact⟨Int.le_refl 0,by show(0:Int)≤1099511627776;omega⟩
    | cons f fs=>
     have:=hsrc f (by rw[hs];simp)
     exact ih f.toNat (by omega)
   generalize (match c.src with | []=>0 | f::_=>pS s f.toNat)=r at hr;rcases hfit with⟨hk,_,h1,h2,_⟩ | ⟨hk,_,_,h1,h2,h3,h4,_⟩ | ⟨hk,_,_,_,h1,h2,_⟩ | ⟨hk,_⟩ | ⟨hk,_⟩
   ·rw[if_pos hk];omega
   ·rw[if_neg (by omega),Bl,if_pos hk]
    have:0≤r*c.mul / c.div:=Int.ediv_nonneg (Int.mul_nonneg hr.1 (by omega)) (by omega)
    split<;>omega
   ·rw[if_neg (by omega),Bl,if_neg (by omega),if_pos hk]
    have h5:0≤r / c.div:=Int.ediv_nonneg hr.1 (by omega)
    have h6:r / c.div≤r:=Int.ediv_le_self _ hr.1
    omega
   ·rw[if_neg (by omega),Bl,if_neg (by omega),if_neg (by omega)];exact hr
   ·rw[if_neg (by omega),Bl,if_neg (by omega),if_neg (by omega)];exact hr
theorem aHi(n:Int)(h1:1≤n)(h2:n≤1000)(w:World):Cz 222 #[iv n] w (Rt (.bool true) w):=by
 refine aO func222 ntmps222 ?_;refine aA ?_;refine bX (t:=5) rfl (fun _=>?_) (fun h=>absurd h1 h);refine aA ?_;refine iS (by simp) ?_;rw[decide_eq_true h2]
theorem aKB(r m d:Int)(hr:0≤r∧r≤1099511627776)(hm:1≤m∧m≤8)(hd:1≤d∧d≤4)(w:World):Cz 221 #[.int .u64 r,iv m,iv d] w (Rt (.tuple #[.int .u64 (if 1099511627776 < r*m / d then 0 else r*m / d),iv (if 1099511627776 < r*m / d then 3 else 0)]) w):=by
 have hmul:0≤r*m∧r*m≤1099511627776*8:=⟨Int.mul_nonneg hr.1 (by omega),Int.mul_le_mul hr.2 hm.2 (by omega) (by omega)⟩
 have hq:0≤r*m / d∧r*m / d≤r*m:=⟨Int.ediv_nonneg hmul.1 (by omega),Int.ediv_le_self _ hmul.1⟩
 refine aO func221 ntmps221 ?_;refine aA ?_;refine bX (t:=11) rfl (fun h=>absurd h (by omega)) (fun _=>?_);refine aA ?_;refine aQ (fun w1 t=>aHi m hm.1 (by omega) w1) ?_;refine aA ?_;refine aQ (fun w1 t=>aHi d hd.1 (by omega) w1) ?_;refine aA ?_;refine Ch (ds:=.int .i64) (kd:=.u64) (by kernel_rfl) (by kernel_rfl) rfl (wrap_u64 (by omega)) (by decide) ?_;refine aJk rfl rfl (c:=r*m) (wrap_u64 (by omega)) (by decide) ?_;refine aA ?_;refine Ch (ds:=.int .i64) (kd:=.u64) (by kernel_rfl) (by kernel_rfl) rfl (wrap_u64 (by omega)) (by decide) ?_;refine aE6 rfl rfl (c:=r*m / d) (by omega) (by rw[Int.tdiv_eq_ediv_of_nonneg hmul.1];exact wrap_u64 (by omega)) (by decide) ?_;refine aA ?_;refine aG rfl (fun h=>?_) (fun h=>?_)
 ·rw[if_pos h,if_pos h];refine aA ?_;exact fT rfl rfl rfl fun w1 t=>⟨rfl,t.below (by simp)⟩
 ·rw[if_neg h,if_neg h];refine aA ?_;exact fT rfl rfl rfl fun w1 t=>⟨rfl,t.below (by simp)⟩
theorem aQu(L:TL)(s:aC)(st:List eN)(hH:s.dJ)(b1 b2:Nat):∀(i:Nat),i < s.aF.length→∀w,vL w L s st→fK w b1 0 (.pointer (some ⟨L.t,0,none⟩))→fK w b2 0 (.func (.func 220) #[] #[pt b1,pt b2])→
  Cz 220 #[iv (i:Int),pt b1,pt b2] w (Rt (.int .u64 (pS s i)) w):=by
 intro i
 induction i using Nat.strongRecOn with
 | _ i ih =>
  intro hlt w hR Bd dZ;obtain⟨b,off,c,a,x,hc,hx,hA,hro,hs⟩:=hR.node hlt
  have Vp:=aHh hH.t.aF hc
  have h0:=hR.r0
  rw[hA] at h0
  have k0:=hro.at_ (j:=0) rfl
  have k2:=hro.at_ (j:=2) rfl
  have k3:=hro.at_ (j:=3) rfl
  have k4:=hro.at_ (j:=4) rfl
  have k10:=hro.at_ (j:=10) rfl
  have Qe:∀{w1},Below w.heap.size w w1→fK w1 b1 0 (.pointer (some ⟨L.t,0,none⟩)):=fun hb=>⟨Nat.lt_of_lt_of_le Bd.1 hb.size,(hb.cell (p:=⟨_,0,none⟩) Bd.1).trans Bd.2⟩
  have go2:∀{w1},Below w.heap.size w w1→fK w1 b2 0 (.func (.func 220) #[] #[pt b1,pt b2]):=fun hb=>⟨Nat.lt_of_lt_of_le dZ.1 hb.size,(hb.cell (p:=⟨_,0,none⟩) dZ.1).trans dZ.2⟩
  obtain⟨hsrc,hfit⟩:=hH.t.aF i c hc;refine aO func220 ntmps220 ?_;refine aA ?_;refine kd (dat i (off+i*11)) ?_;rcases hfit with⟨hk,hs0,_⟩ | hfit
  ·rw[hk] at k0;rw[if_pos hk] at Vp;refine aA ?_;exact dF (by rw[Vp])
  obtain⟨f,fs,hf⟩:∃(f:Nat) (fs:List Int),c.src=(f:Int)::fs:=by
   cases hs0:c.src with
   | nil=>rw[hs0] at hfit;simp at hfit
   | cons f fs=>exact⟨f.toNat,fs,by have:=(hsrc f (by rw[hs0];simp)).1;rw[Int.toNat_of_nonneg this]⟩
  have Lz:f < i:=by have:=(hsrc f (by rw[hf];simp)).2;omega
  have nR:=aOO hH.t.aF f
  have aA6:∀w1,Below w.heap.size w w1→Cz 187 #[.pointer (some ⟨L.t,0,none⟩),iv (i:Int)] w1 (Rt (iv (f:Int)) w1):=fun w1 hb=>Rb L s st i f c fs w1 (hR.below hb) hc hf
  have aA5:∀w1,Below w.heap.size w w1→Cz 220 #[iv (f:Int),pt b1,pt b2] w1 (Rt (.int .u64 (pS s f)) w1):=fun w1 hb=>ih f Lz (by omega) w1 (hR.below hb) (Qe hb) (go2 hb)
  rw[hf] at Vp
  have Ay:pS s i=if c.kind=111 then c.rate else Bl c (pS s f):=Vp
  clear Vp;rcases hfit with⟨hk,_,_,hm1,hm2,dD,hd2,_⟩ | ⟨hk,_,_,_,dD,hd2,_⟩ | ⟨hk,_⟩ | ⟨hk,_⟩
  ·rw[hk] at k0;rw[if_neg (by omega),Bl,if_pos hk] at Ay;refine aA ?_;refine lJ ?_;refine jD ?_;refine rG (fun w1 t=>aA6 w1 (t.below (by simp))) ?_;refine Gt (fi:=[]) (vs:=[iv (f:Int)]) (ca:=[pt b1,pt b2]) (fun w1 t=>aA5 w1 (t.below (by simp))) ?_;refine iY ?_;refine aA ?_;refine lJ ?_;refine jD ?_;refine rG (fun w1 t=>aKB _ c.mul c.div nR ⟨hm1,hm2⟩ ⟨dD,hd2⟩ w1) ?_;refine iY ?_;refine aA ?_
   by_cases hq:1099511627776 < pS s f*c.mul / c.div
   ·rw[if_pos hq] at Ay;rw[if_pos hq,if_pos hq];refine aA ?_;exact dF (by rw[Ay])
   ·rw[if_neg hq] at Ay;rw[if_neg hq,if_neg hq];refine aA ?_;exact dF (by rw[Ay])
  ·rw[hk] at k0;rw[if_neg (by omega),Bl,if_neg (by omega),if_pos hk] at Ay
   have hby:byF c=c.div:=by rw[byF,if_pos hk]
   rw[hby] at k10
   have hq:0≤pS s f / c.div∧pS s f / c.div≤pS s f:=⟨Int.ediv_nonneg nR.1 (by omega),Int.ediv_le_self _ nR.1⟩
   refine aA ?_;refine lJ ?_;refine jD ?_;refine rG (fun w1 t=>aA6 w1 (t.below (by simp))) ?_;refine Gt (fi:=[]) (vs:=[iv (f:Int)]) (ca:=[pt b1,pt b2]) (fun w1 t=>aA5 w1 (t.below (by simp))) ?_;refine iY ?_;refine aA ?_;refine Ch (ds:=.int .i64) (kd:=.u64) (by kernel_rfl) (by kernel_rfl) rfl (wrap_u64 (by omega)) (by decide) ?_;refine aE6 rfl rfl (c:=pS s f / c.div) (by omega) (by rw[Int.tdiv_eq_ediv_of_nonneg nR.1];exact wrap_u64 (by omega)) (by decide) ?_;refine aA ?_;exact dF (by rw[Ay])
  ·rw[hk] at k0;rw[if_neg (by omega),Bl,if_neg (by omega),if_neg (by omega)] at Ay;refine aA ?_;refine lJ ?_;refine jD ?_;refine rG (fun w1 t=>aA6 w1 (t.below (by simp))) ?_;refine Gt (fi:=[]) (vs:=[iv (f:Int)]) (ca:=[pt b1,pt b2]) (fun w1 t=>aA5 w1 (t.below (by simp))) ?_;refine iY ?_;refine aA ?_;exact dF (by rw[Ay])
  ·rw[hk] at k0;rw[if_neg (by omega),Bl,if_neg (by omega),if_neg (by omega)] at Ay;refine aA ?_;refine lJ ?_;refine jD ?_;refine rG (fun w1 t=>aA6 w1 (t.below (by simp))) ?_;refine Gt (fi:=[]) (vs:=[iv (f:Int)]) (ca:=[pt b1,pt b2]) (fun w1 t=>aA5 w1 (t.below (by simp))) ?_;refine iY ?_;refine aA ?_;exact dF (by rw[Ay])
theorem aQr(L:TL)(s:aC)(st:List eN)(hH:s.dJ)(i:Int)(w:World)(hR:vL w L s st):
  Cz 212 #[.pointer (some ⟨L.t,0,none⟩),iv i] w (Rt (.int .u64 (Hy s st i)) w):=by
 unfold Hy;cases hr:tN s st i
 ·rw[if_neg (by decide)];refine aO func212 ntmps212 ?_;refine aA ?_;refine bN fun g1=>?_;refine aA ?_;refine aQ (fun w1 t=>Xg L s st hH i w1 (hR.below (t.below (by simp)))) ?_;rw[hr];refine aA ?_;exact dF
 ·rw[if_pos rfl]
  have hi:bZ s.aF.length i=true:=by
   unfold tN at hr;exact(Bool.and_eq_true _ _▸hr).1
  obtain⟨n,rfl⟩:∃n:Nat,i=n:=⟨i.toNat,by have:=of_decide_eq_true hi;omega⟩
  have hlt:n < s.aF.length:=by have:=of_decide_eq_true hi;omega
  refine aO func212 ntmps212 ?_;refine aA ?_;refine bN fun g1=>?_;refine aA ?_;refine aQ (fun w1 t=>Xg L s st hH n w1 (hR.below (t.below (by simp)))) ?_;rw[hr];refine aA ?_;refine bY fun g2=>?_;refine aA ?_;refine jY (vf:=[]) (vc:=[pt g1,pt g2]) rfl rfl (by decide) ?_;refine aA ?_;refine aAr (fi:=[]) (vs:=[iv (n:Int)]) (ca:=[pt g1,pt g2]) (fun w1 t=>aQu L s st hH g1 g2 n hlt w1 (hR.below (t.below (by simp))) ((t.box (i:=1) rfl).at_ (j:=0) rfl) ((t.box (i:=0) rfl).at_ (j:=0) rfl)) ?_;refine aA ?_;exact dF
end
section
def oA(s:aC)(x:aU)(l:List Int):List Int:=
 let w:=l.headD 0
 if cM w 0 8=0 then[131072]
 else if cM w 10 8=16∧cM w 0 8=1 then[IntKind.u32.wrap (s.domains.length+s.aF.length*256+s.aY.length*65536+s.aD.length*16777216)]
 else if cM w 10 8=17∧cM w 0 8=5 then[Hz (sA x.dm (l.getD 1 0))]
 else if cM w 10 8=20∧cM w 0 8=6 then[IntKind.u32.wrap (Hy s x.ck (l.getD 1 0)),IntKind.u32.wrap (Hy s x.ck (l.getD 1 0) / 4294967296)] else[]
theorem aNR(L:HL)(s:aC)(x:aU)(w:World)(hH:s.dJ)(i:Int)(hR:tG w L s x):Cz 184 #[.pointer (some ⟨L.h,0,none⟩),iv i] w (Rt (.int .u64 (Hy s x.ck i)) w):=by
 have k0:=hR.r0.at_ (j:=0) rfl
 refine aO func184 ntmps184 ?_;refine aA ?_;refine aQ (fun w1 t=>Ba L s x w1 (hR.below (t.below (by simp)))) ?_;refine aA ?_;refine aQ (fun w1 t=>aQr L.T s x.ck hH i w1 (hR.tree.below (t.below (by simp)))) ?_;refine aA ?_;exact dF
theorem aD3{α:Type}{cs vs:List α}{o:Nat}(hv:(cs.drop o).take vs.length=vs){j:Nat}{v:α}(hj:vs[j]? =some v):cs[o+j]? =some v:=by
 have hlt:=(List.getElem?_eq_some_iff.1 hj).1
 rw[←hv,List.getElem?_take_of_lt hlt,List.getElem?_drop] at hj;exact hj
theorem aOD(f:Nat)(L:fQ)(s:aC)(z:cI)(hL:HL)(x:aU)(hH:s.dJ)(sM:tI s x.dm)(A:Option Addr)(c:Nat)(v:Int)(l:List Int)(w:World)(hR:Cd w f hL.h L s z)(hh:tG w hL s x)(hs:aH (all w) 1 A (v::l).length (dQ (v::l)))
  (hu:cM v 28 4=0) (Db:(cM v 10 8=17∧cM v 0 8=5)∨(cM v 10 8=20∧cM v 0 8=6)→∃i,l=[i]∧0≤i∧i < 4294967296):
  Cz 144 #[pt f,.slice A (v::l).length c] w (fun y w'=>(∃r,y=.returned r∧aBr (oA s x (v::l)) r w w')∧Below w.heap.size w w'):=by
 obtain⟨b,off,rfl,hro⟩:=aH.u32 hs (by simp)
 have k0:=hro 0 v rfl
 have hlen:(v::l).length=l.length+1:=rfl
 have hE:Cl v=0:=by rw[Cl,if_neg (by simp[hu])]
 have hU:Kl v=Ma (cM v 0 8) (cM v 8 2) (cM v 10 8) (cM v 18 10):=by rw[Kl,if_neg (by simp[hu])]
 have kf:=hR.r0.at_ (j:=0) rfl
 have k4:dP w f 1 [.slice L.a1.1 s.aF.length L.a1.2,.slice L.a2.1 s.domains.length L.a2.2,.slice L.a3.1 s.aY.length L.a3.2,.slice L.a4.1 s.aD.length L.a4.2]:=⟨hR.r0.1,fun j v hj=>by
  have:=hR.r0.2 (1+j) v (aD3 rfl hj)
  rwa [Nat.zero_add] at this⟩
 have hnc:=hH.t.nc
 have hnd:=hH.t.nd
 have gN:=hH.t.nr
 have qF:=hH.t.nv
 refine aO func144 ntmps144 ?_;refine aB ?_;refine aQ (fun w1 t=>aEQ v w1) ?_;rw[hE,hU];dsimp only[Ma];refine aA ?_;refine bY fun g1=>?_;refine aA ?_;refine aG rfl (fun h1=>?_) (fun h1=>?_)
 ·have hm:oA s x (v::l)=[131072]:=if_pos (by simpa using h1)
  rw[hm];refine aA ?_;refine eG fun g2=>?_;refine aA ?_;refine dB [] [0] [] (by simp) rfl (by decide) (by decide) fun q hq _ hfr=>?_;obtain⟨F2,wJ,vO⟩:=hq 0 _ (by simp) rfl
  have dU:=qP (Y:=q.Z) (sz:=1) (n:=1) (c:=1) wJ vO rfl
  exact aP (h:=fun w1 st=>⟨_,rfl,_,_,rfl,aH.le dU (st.mQ (by simp) (hfr (by simp) (by simp)))⟩)
 ·have n1:cM v 0 8≠0:=by simpa using h1
  refine aA ?_;refine bX (t:=26) rfl (fun h2=>?_) (fun h2=>?_)
  ·have p1:cM v 10 8=16:=by simpa using h2
   refine aA ?_;refine aG rfl (fun h3=>?_) (fun h3=>?_)
   ·have m1:cM v 0 8=1:=by simpa using h3
    have hm:oA s x (v::l)=[IntKind.u32.wrap (s.domains.length+s.aF.length*256+s.aY.length*65536+s.aD.length*16777216)]:=(if_neg n1).trans (if_pos ⟨p1,m1⟩)
    rw[hm];refine aA ?_;refine bY fun g2=>?_;refine aA ?_;refine Nt rfl rfl (c:=s.aF.length*256) (by decide) (by show IntKind.i64.wrap ((s.aF.length:Int)*256)=_;exact iW (by omega)) (by decide) ?_;refine aA ?_;refine Nt rfl rfl (c:=s.aY.length*65536) (by decide) (by show IntKind.i64.wrap ((s.aY.length:Int)*65536)=_;exact iW (by omega)) (by decide) ?_;refine aA ?_;refine Nt rfl rfl (c:=s.aD.length*16777216) (by decide) (by show IntKind.i64.wrap ((s.aD.length:Int)*16777216)=_;exact iW (by omega)) (by decide) ?_;refine aA ?_;refine Ch (ds:=.int .i64) (kd:=.u32) (by kernel_rfl) (by kernel_rfl) rfl rfl (by decide) ?_;refine eG fun g3=>?_;refine aA ?_;refine dB [] [0] [] (by simp) rfl (by decide) (by decide) fun q hq _ hfr=>?_;obtain⟨F2,wJ,vO⟩:=hq 0 _ (by simp) rfl
    have dU:=qP (Y:=q.Z) (sz:=1) (n:=1) (c:=1) wJ vO rfl
    exact aP (h:=fun w1 st=>⟨_,rfl,_,_,rfl,aH.le dU (st.mQ (by simp) (hfr (by simp) (by simp)))⟩)
   ·have m1:cM v 0 8≠1:=by simpa using h3
    have hm:oA s x (v::l)=[]:=(if_neg n1).trans ((if_neg fun h=>m1 h.2).trans ((if_neg fun h=>by have:=h.1;simp[p1] at this).trans (if_neg fun h=>by have:=h.1;simp[p1] at this)))
    rw[hm];refine aA ?_;refine bX (t:=60) rfl (fun h4=>absurd h4 (by simp[p1])) (fun _=>?_);refine aA ?_;refine bX (t:=80) rfl (fun h4=>absurd h4 (by simp[p1])) (fun _=>?_);refine aA ?_;exact aP (h:=fun _ _=>⟨_,rfl,_,_,rfl,rfl,fun h=>absurd h (by simp)⟩)
  ·have p1:cM v 10 8≠16:=by simpa using h2
   refine aA ?_;refine bX (t:=60) rfl (fun h3=>?_) (fun h3=>?_)
   ·have p2:cM v 10 8=17:=by simpa using h3
    refine aA ?_;refine aG rfl (fun h4=>?_) (fun h4=>?_)
    ·have m1:cM v 0 8=5:=by simpa using h4
     obtain⟨i,rfl,hi1,hi2⟩:=Db (.inl ⟨p2,m1⟩)
     have aNA:[v,i].length=2:=rfl
     have hm:oA s x [v,i]=[Hz (sA x.dm i)]:=(if_neg n1).trans ((if_neg fun h=>p1 h.1).trans (if_pos ⟨p2,m1⟩))
     have k1:=hro 1 i rfl
     rw[hm];refine aA ?_;refine iZ [1,2,3,5,6,7] ?_;refine bJ 0 ?_;refine bJ 4 ?_;refine aK 1 ?_;refine aK 2 ?_;refine aK 3 ?_;refine aK 5 ?_ (cK:=dat (sz:=1) 1 (off+1));refine aK 6 ?_;refine aK 7 ?_ (cK:=Jh (ds:=.int .u32) (by kernel_rfl) (by kernel_rfl) rfl (iW (by omega)));refine aL 8 ?_;refine aQ (fun w1 t=>aCS hL s x w1 sM i (hh.below (t.below (by simp)))) ?_;refine cG ?_;refine aL 9 ?_;refine aQ (fun w1 t=>aOB _ w1) ?_;refine cG ?_;refine aL 10 ?_;refine eG fun g2=>?_;refine cG ?_;refine aL 11 ?_;refine bE ?_;refine cG ?_;refine dX ?_;refine aA ?_;refine dB [] [0] [] (by simp) rfl (by decide) (by decide) fun q hq _ hfr=>?_;obtain⟨F2,wJ,vO⟩:=hq 0 _ (by simp) rfl
     have dU:=qP (Y:=q.Z) (sz:=1) (n:=1) (c:=1) wJ vO rfl
     exact aP (h:=fun w1 st=>⟨_,rfl,_,_,rfl,aH.le dU (st.mQ (by simp) (hfr (by simp) (by simp)))⟩)
    ·have m1:cM v 0 8≠5:=by simpa using h4
     have hm:oA s x (v::l)=[]:=(if_neg n1).trans ((if_neg fun h=>p1 h.1).trans ((if_neg fun h=>m1 h.2).trans (if_neg fun h=>by have:=h.1;simp[p2] at this)))
     rw[hm];refine aA ?_;refine bX (t:=80) rfl (fun h4=>absurd h4 (by simp[p2])) (fun _=>?_);refine aA ?_;exact aP (h:=fun _ _=>⟨_,rfl,_,_,rfl,rfl,fun h=>absurd h (by simp)⟩)
   ·have p2:cM v 10 8≠17:=by simpa using h3
    refine aA ?_;refine bX (t:=80) rfl (fun h5=>?_) (fun h5=>?_)
    ·have p3:cM v 10 8=20:=by simpa using h5
     refine aA ?_;refine aG rfl (fun h6=>?_) (fun h6=>?_)
     ·have m1:cM v 0 8=6:=by simpa using h6
      obtain⟨i,rfl,hi1,hi2⟩:=Db (.inr ⟨p3,m1⟩)
      have aNA:[v,i].length=2:=rfl
      have hm:oA s x [v,i]=[IntKind.u32.wrap (Hy s x.ck i),IntKind.u32.wrap (Hy s x.ck i / 4294967296)]:=(if_neg n1).trans ((if_neg fun h=>p1 h.1).trans ((if_neg fun h=>p2 h.1).trans (if_pos ⟨p3,m1⟩)))
      have k1:=hro 1 i rfl
      rw[hm];refine aA ?_;refine iZ [1,2,3,5,6,7] ?_;refine bJ 0 ?_;refine bJ 4 ?_;refine aK 1 ?_;refine aK 2 ?_;refine aK 3 ?_;refine aK 5 ?_ (cK:=dat (sz:=1) 1 (off+1));refine aK 6 ?_;refine aK 7 ?_ (cK:=Jh (ds:=.int .u32) (by kernel_rfl) (by kernel_rfl) rfl (iW (by omega)));refine aL 8 ?_;refine aQ (fun w1 t=>aNR hL s x w1 hH i (hh.below (t.below (by simp)))) ?_;refine cG ?_;refine aL 9 ?_;refine bE ?_;refine cG ?_;refine dX ?_;refine aA ?_;refine Ch (ds:=.int .u64) (kd:=.u32) (by kernel_rfl) (by kernel_rfl) rfl rfl (by decide) ?_;refine aA ?_;refine aJi rfl rfl (c:=Hy s x.ck i / 4294967296) (by decide) (by show Int.fdiv _ (2 ^ 32)=_;rw[Int.fdiv_eq_ediv_of_nonneg _ (by decide)];rfl) (by decide) ?_;refine Ch (ds:=.int .u64) (kd:=.u32) (by kernel_rfl) (by kernel_rfl) rfl rfl (by decide) ?_;refine eG fun g2=>?_;refine aA ?_;refine dB [] [0] [] (by simp) rfl (by decide) (by decide) fun q hq _ hfr=>?_;obtain⟨F2,wJ,vO⟩:=hq 0 _ (by simp) rfl
      have dU:=qP (Y:=q.Z) (sz:=1) (n:=2) (c:=2) wJ vO rfl
      exact aP (h:=fun w1 st=>⟨_,rfl,_,_,rfl,aH.le dU (st.mQ (by simp) (hfr (by simp) (by simp)))⟩)
     ·have m1:cM v 0 8≠6:=by simpa using h6
      have hm:oA s x (v::l)=[]:=(if_neg n1).trans ((if_neg fun h=>p1 h.1).trans ((if_neg fun h=>p2 h.1).trans (if_neg fun h=>m1 h.2)))
      rw[hm];refine aA ?_;exact aP (h:=fun _ _=>⟨_,rfl,_,_,rfl,rfl,fun h=>absurd h (by simp)⟩)
    ·have p3:cM v 10 8≠20:=by simpa using h5
     have hm:oA s x (v::l)=[]:=(if_neg n1).trans ((if_neg fun h=>p1 h.1).trans ((if_neg fun h=>p2 h.1).trans (if_neg fun h=>p3 h.1)))
     rw[hm];refine aA ?_;exact aP (h:=fun _ _=>⟨_,rfl,_,_,rfl,rfl,fun h=>absurd h (by simp)⟩)
end
section
def gJ(f:Nat)(hL:HL)(s:aC)(z:cI)(x:aU):HP:=HP.many [Cc f hL.h s z,dM hL s x]
def kB(z:cI)(a:Nat):List Int:=if a=0 then z.w0 else z.w1
def Jm(s:aC)(x:aU)(l:List Int)(st:Int):List Int:=l.headD 0::IntKind.u32.wrap st::(if st=0 then oA s x l else[])
def aF7(z:cI)(a:Nat)(hs:Int)(l:List Int):cI:=if a=0 then {z with h0:=hs,w0:=l} else {z with h1:=hs,w1:=l}
def yH(s:aC)(x:aU)(z:cI)(a:Nat)(st:Int):cI:=aF7 z a 2 (Jm s x (kB z a) st)
structure tD(l:List Int):Prop where
 ne:∃v r,l=v::r∧cM v 28 4=0∧((cM v 10 8=17∧cM v 0 8=5)∨(cM v 10 8=20∧cM v 0 8=6)→∃i,r=[i]∧0≤i∧i < 4294967296)
theorem aFW(s:aC)(x:aU)(l:List Int):(oA s x l).length≤2:=by
 unfold oA;dsimp only;split
 ·simp
 ·split
  ·simp
  ·split
   ·simp
   ·split<;>simp
section
variable{N:cE}{w0 w:World}{e:Env}{R:List Piece}{H:List HP}{K:Act→World→Prop}{f h:Nat}{L:fQ}{s:aC}{z:cI}{v:Int}{r:List Int}
theorem eD.at_{a:AC}{w:World}(hb:eD a (v::r) (all w)):∃b off,a.1=some ⟨b,off,none⟩∧w.cell? ⟨b,off,none⟩=some (.int .u32 v):=by
 obtain⟨b,off,hA,hc⟩:=aH.u32 hb (by simp);exact⟨b,off,hA,by have:=(hc 0 v rfl).2;simpa using this⟩
end
section
variable{P:Program}{N:cE}{w0 w:World}{e:Env}{R:List Piece}{H:List HP}{K:Act→World→Prop}{f h:Nat}{L:fQ}{s:aC}{z:cI}{Q:Exit→Act→World→Prop}
theorem Rd.eL(i:Nat){o:Nat}{v:Value}(hi:H[i]? =some (iG f h L s z))(hv:(jI h L s z)[o]? =some v):Rd w0 R H f o v:=fun w t=>by
 have:=((t.Dq i hi).r0.at_ hv).2
 rwa [Nat.zero_add] at this
theorem aM.eL(i:Nat){o:Nat}{vs:List Value}(hi:H[i]? =some (iG f h L s z))(hv:((jI h L s z).drop o).take vs.length=vs):aM w0 R H f o vs:=.of fun _ _ hj=>Rd.eL i hi (aD3 hv hj)
end
def vI(L:fQ)(b:Nat):AC:=if b=0 then L.b0 else L.b1
section
variable{h:Nat}{L:fQ}{s:aC}{z:cI}
theorem aGZ{b:Nat}(hb:b < 2):(jI h L s z)[12+b*2]? =some (.slice (vI L b).1 (kB z b).length (vI L b).2):=by
 obtain rfl | rfl:b=0∨b=1:=by omega
 ·rfl
 ·rfl
theorem Cd.box{w:World}{f:Nat}(k:Cd w f h L s z){b:Nat}(hb:b < 2):aH (all w) 1 (vI L b).1 (kB z b).length (dQ (kB z b)):=by
 obtain rfl | rfl:b=0∨b=1:=by omega
 ·exact k.b0
 ·exact k.b1
theorem Cd.stR{w:World}{f:Nat}(k:Cd w f h L s z):tB (all w) z.x z.y (.agg #[.slice L.x1.1 z.x.d.length L.x1.2,.slice L.x2.1 z.x.c.length L.x2.2,.slice L.x3.1 z.x.l.length L.x3.2,.slice L.y1.1 z.y.d.length L.y1.2,.slice L.y2.1 z.y.c.length L.y2.2,.slice L.y3.1 z.y.l.length L.y3.2]):=
 ⟨_,_,_,_,_,_,_,_,_,_,_,_,rfl,k.st.1,k.st.2.1,k.st.2.2.1,k.st.2.2.2.1,k.st.2.2.2.2.1,k.st.2.2.2.2.2⟩
end
section
variable{N:cE}{w0 w:World}{e:Env}{R:List Piece}{H:List HP}{K:Act→World→Prop}{f h:Nat}{L:fQ}{s:aC}{z:cI}{v:Int}{r:List Int}
theorem aRU{a:Nat}(ha:a < 2)(i:Nat)(hi:H[i]? =some (iG f h L s z))(hw:kB z a=v::r)(k:∀b off,(vI L a).1=some ⟨b,off,none⟩→Rd w0 R H b off (.int .u32 v)→XK N w0 K e R H):XK N w0 K e R H:=fun a w hr st=>by
 obtain⟨b,off,hA,_⟩:=eD.at_ (hw▸(st.Dq i hi).box ha);refine k b off hA (fun w1 t=>?_) a w hr st;obtain⟨b',off',pR,hc⟩:=eD.at_ (hw▸(t.Dq i hi).box ha);rw[hA] at pR;cases pR;exact hc
end
theorem aDg(f:Nat)(hL:HL)(s:aC)(z:cI)(x:aU)(hH:s.dJ)(aR:gB hL s)(hok:cT s x)(a:Nat)(ha:a < 2)(st:Int)(hst:st=0→tD (kB z a))(w:World)(F:Nat→Prop)(hp:(gJ f hL s z x).sat F w)(hF:∀b,F b→b < w.heap.size):
  Cz 92 #[pt f,iv (a:Int),.int .i32 st] w (Wr (.tuple #[]) (gJ f hL s (yH s x z a st) x) w F):=by
 unfold yH Jm;generalize hb:kB z a=l at hst⊢;refine cS func92 ntmps92 hp hF ?_;refine aX 0 0 ?_;refine iT 0 fun L=>?_;refine aA ?_;refine kd (fF a (11+a*2)) ?_;refine aA ?_;refine kd (bH rfl (Rd.eL 0 rfl (v:=.slice (vI L a).1 l.length (vI L a).2) (by rw[show 11+a*2+1=12+a*2 by omega,←hb];exact aGZ ha))) ?_;refine aB ?_;refine Rv (α:=Unit) (fun _=>[(7,.int .u32 (l.headD 0)),(6,.slice (vI L a).1 l.length (vI L a).2),(2,.int .i32 st),(1,iv (a:Int)),(0,pt f)]) (fun _=>[iG f hL.h L s z,HP.many [bU,dM hL s x]]) (fun _=>True) ?_ fun _ _=>?_
 ·refine aG rfl (fun h=>?_) (fun h=>?_)
  ·cases l with
   | nil=>simp at h
   | cons v r=>
    refine aRU ha 0 rfl hb fun b off hA hrd=>?_;rw[hA];refine aB ?_;exact dH ()
  ·cases l with
   | nil=>
    refine aB ?_;exact dH ()
   | cons v r=>simp at h
 refine aB ?_;refine Rv (α:=AC) (fun q=>[(8,.slice q.1 (if st=0 then oA s x l else[]).length q.2),(7,.int .u32 (l.headD 0)),(2,.int .i32 st),(1,iv (a:Int)),(0,pt f)]) (fun q=>[HP.bR (eD q (if st=0 then oA s x l else[])) (eD.le (a:=q) (l:=if st=0 then oA s x l else[])),iG f hL.h L s z,HP.many [bU,dM hL s x]]) (fun _=>True) ?_ fun q _=>?_
 ·refine aG rfl (fun h=>?_) (fun h=>?_)
  ·rw[if_pos h];obtain⟨v,r,rfl,hu,Db⟩:=(hst h).ne;refine aX 1 1 ?_;refine aB ?_
   refine kA [] (fun v' w w'=>aBr (oA s x (v::r)) v' w w') (fun w1 t=>by
    have hf:=t.Dq 1 rfl
    have jG:=hf.box ha
    obtain⟨b,off,hA,_⟩:=eD.at_ (hb▸jG);rw[hb,hA] at jG
    have:=aOD f _ s z hL x hH hok.dm _ (vI L a).2 v r w1 hf (t.mB 0 rfl aR hok) jG hu Db
    rw[←hA] at this
    exact this) ?_
   rintro _ w3 q3 ⟨Am,cm,rfl,dU⟩ hq3 _ hF3
   have dU:=dU.le hq3
   refine aJ 1 1 ?_;refine Jq (Φ:=eD (Am,cm) (oA s x (v::r))) (hm:=eD.le) (hF3 (by simp)) (fun p hp b hb=>by simp at hp;subst hp;exact hb.1) dU ?_;refine aB ?_;exact dH (Am,cm)
  ·rw[if_neg h];refine nM (p:=HP.bR (eD (none,0) []) (eD.le (a:=(none,0)) (l:=[]))) (fun w=>aAE _ rfl) ?_;refine aB ?_;exact dH (none,0)
 have hml:(if st=0 then oA s x l else[]).length≤2:=by
  split
  ·exact aFW s x l
  ·simp
 generalize hM:(if st=0 then oA s x l else[])=M at hml⊢;refine aX 1 0 ?_;refine iZ [7,8] ?_;refine bJ 0 ?_;refine bJ 1 ?_;refine bJ 2 ?_;refine bJ 3 ?_;refine bJ 4 ?_;refine aK 7 ?_;refine aK 8 ?_;refine aL 5 ?_;refine dS (aBs (l.headD 0::IntKind.u32.wrap st::M)) (fun w1 t=>aRf _ st _ rfl q.1 M.length q.2 M w1 (t.bR 1 rfl) rfl (by omega)) ?_;rintro _ _ q9 ⟨An,cn,rfl,rfl⟩ _;dsimp only[List.cons_append,List.nil_append];refine bA ?_;refine aL 6 ?_;refine kd (iI rfl) ?_;refine bA ?_;refine aL 9 ?_;refine kd (fF a (11+a*2)) ?_;refine cG ?_;refine aL 10 ?_;refine pY 1 (t:=175) rfl rfl rfl (by kernel_rfl) (by simp[Value.cells,Value.oneCell']) (by simp[Value.cells,jI];omega) ?_;dsimp only[List.set];refine cG ?_;refine dX ?_;refine xM 0 (Φ:=eD (An,cn) (l.headD 0::IntKind.u32.wrap st::M)) (hm:=eD.le) rfl (fun p hp=>hp) ?_;obtain rfl | rfl:a=0∨a=1:=by omega
 ·refine aX 3 3 ?_;refine aT [1,2,4,5] rfl (by decide) (R':=[⟨w,fun b=>b < w.heap.size∧¬F b⟩]) (by simp) ?_;refine aJ 1 3 ?_;refine zA (h:=hL.h) (s:=s) (z:={z with h0:=2,w0:=l.headD 0::IntKind.u32.wrap st::M}) {L with b0:=(An,cn)} 0 rfl ?_;dsimp only[List.set];refine aJ 0 0 ?_;exact fA 0 hF
 ·refine aX 3 4 ?_;refine aT [1,2,4,5] rfl (by decide) (R':=[⟨w,fun b=>b < w.heap.size∧¬F b⟩]) (by simp) ?_;refine aJ 1 4 ?_;refine zA (h:=hL.h) (s:=s) (z:={z with h1:=2,w1:=l.headD 0::IntKind.u32.wrap st::M}) {L with b1:=(An,cn)} 0 rfl ?_;dsimp only[List.set];refine aJ 0 0 ?_;exact fA 0 hF
end
section
def yN(z:cI)(a:Nat):Int:=if a=0 then z.h0 else z.h1
def sF(z:cI):Option Nat:=if yN z (1 - z.last).toNat=1 then some (1 - z.last).toNat else if yN z z.last.toNat=1 then some z.last.toNat else none
def mH(s:aC)(x:aU):List Int:=(List.range s.aD.length).map fun i=>(oN x.wt i:Int)
theorem aO4(f:Nat)(hL:HL)(s:aC)(z:cI)(x:aU)(hl:z.last=0∨z.last=1)(hn:sF z=none)(w:World)(F:Nat→Prop)(hp:(gJ f hL s z x).sat F w)(hF:∀b,F b→b < w.heap.size):
  Cz 90 #[pt f] w (Wr (.bool false) (gJ f hL s z x) w F):=by
 have hno:z.h0≠1∧z.h1≠1:=by
  unfold sF at hn;rcases hl with h | h<;>rw[h] at hn<;>simp[yN] at hn<;>by_cases p:z.h0=1<;>by_cases q:z.h1=1<;>simp[p,q] at hn⊢
 refine cS func90 ntmps90 hp hF ?_;refine aX 0 0 ?_;refine Xx 0 rfl fun L=>?_;dsimp only[List.set,jI];rcases hl with hl | hl<;>rw[hl]
 ·refine aA ?_;refine kd (fF 1 13) ?_;refine aA ?_;refine aG rfl (fun _=>?_) (fun h=>absurd h (by simp[hno.2]));refine aA ?_;refine kd (fF 0 11) ?_;refine aA ?_;refine aG rfl (fun _=>?_) (fun h=>absurd h (by simp[hno.1]));refine aA ?_;rw[←hl];refine zA (h:=hL.h) (s:=s) (z:=z) L 0 rfl ?_;dsimp only[List.set];refine aJ 0 0 ?_;exact bO 0 hF
 ·refine aA ?_;refine kd (fF 0 11) ?_;refine aA ?_;refine aG rfl (fun _=>?_) (fun h=>absurd h (by simp[hno.1]));refine aA ?_;refine kd (fF 1 13) ?_;refine aA ?_;refine aG rfl (fun _=>?_) (fun h=>absurd h (by simp[hno.2]));refine aA ?_;rw[←hl];refine zA (h:=hL.h) (s:=s) (z:=z) L 0 rfl ?_;dsimp only[List.set];refine aJ 0 0 ?_;exact bO 0 hF
end
section
def Yj(P:Program)(c:Code)(Q:Exit→Act→World→Prop):Nat→Act→World→Prop
 | 0=>fun _ _=>False
 | n+1=>c.wp P (Exit.then (Yj P c Q n) Q)
section
variable{P:Program}{N:cE}{w0:World}{e:Env}{R:List Piece}{H:List HP}{Q:Exit→Act→World→Prop}{c:Code}{n:Nat}
theorem aRB(n:Nat)(h:XK N w0 (Yj P c Q n) e R H):XK N w0 ((Code.loop c).wp P Q) e R H:=fun a w hr st=>by
 refine aB4 (Yj P c Q) n (h a w hr st) fun n a w hI=>?_;cases n with
 | zero=>exact absurd hI (fun h=>h)
 | succ n=>
  refine wp_mono hI fun x a' w' hq=>?_;cases x with
  | normal=>exact⟨n,Nat.lt_succ_self n,hq⟩
  | _=>exact hq
theorem aBn{y:Code}{x:Code}(M:Env→List Piece→List HP→Prop)(h:XK N w0 (x.wp P (Exit.then (fun a' w'=>∃e' R' H',M e' R' H'∧eC N e' a'∧St w0 R' H' w') Q)) e R H)
  (hy:∀e' R' H',M e' R' H'→XK N w0 (y.wp P Q) e' R' H'):XK N w0 (x.wp P (Exit.then (y.wp P Q) Q)) e R H:=fun a w hr st=>
 wp_mono (h a w hr st) fun x a' w' hq=>by
  cases x with
  | normal=>
   obtain⟨e',R',H',hm,hr',st'⟩:=hq;exact hy e' R' H' hm a' w' hr' st'
  | _=>exact hq
theorem aDK(h:XK N w0 (c.wp P (Exit.then (Yj P c Q n) Q)) e R H):XK N w0 (Yj P c Q (n+1)) e R H:=h
end
theorem aPs(x y:eB)(ag:Nat)(k id:Int):(lH x ag k id).d.length=x.d.length∧(lH x ag k id).c.length=x.c.length∧(lH x ag k id).l.length=x.l.length∧(lG y ag k id).d.length=y.d.length∧(lG y ag k id).c.length=y.c.length∧(lG y ag k id).l.length=y.l.length:=by
 have h:∀z:eB,(oQ z k id).d.length=z.d.length∧(oQ z k id).c.length=z.c.length∧(oQ z k id).l.length=z.l.length:=fun z=>by
  unfold oQ;split
  ·exact⟨Od _ _ _,rfl,rfl⟩
  ·split
   ·exact⟨rfl,Od _ _ _,rfl⟩
   ·split
    ·exact⟨rfl,rfl,Od _ _ _⟩
    ·exact⟨rfl,rfl,rfl⟩
 unfold lH lG;split
 ·exact⟨(h x).1,(h x).2.1,(h x).2.2,rfl,rfl,rfl⟩
 ·exact⟨rfl,rfl,rfl,(h y).1,(h y).2.1,(h y).2.2⟩
theorem aFh(k id:Int)(z:eB):((∀a b c,gE k a b c=sn)∧oQ z k id=z)∨((∀a b c,gE k a b c=a)∧oQ z k id=⟨yF z.d id (decide (qV k)),z.c,z.l⟩)∨((∀a b c,gE k a b c=b)∧oQ z k id=⟨z.d,yF z.c id (decide (qV k)),z.l⟩)∨((∀a b c,gE k a b c=c)∧oQ z k id=⟨z.d,z.c,yF z.l id (decide (qV k))⟩):=by
 by_cases k0:k=117∨k=100∨k=107
 ·exact .inr (.inl ⟨fun a b c=>by rw[gE,if_pos k0],by rw[oQ,if_pos k0]⟩)
 by_cases k1:k=99∨k=111
 ·exact .inr (.inr (.inl ⟨fun a b c=>by rw[gE,if_neg k0,if_pos k1],by rw[oQ,if_neg k0,if_pos k1]⟩))
 by_cases k2:k=114∨k=97
 ·exact .inr (.inr (.inr ⟨fun a b c=>by rw[gE,if_neg k0,if_neg k1,if_pos k2],by rw[oQ,if_neg k0,if_neg k1,if_pos k2]⟩))
 exact .inl ⟨fun a b c=>by rw[gE,if_neg k0,if_neg k1,if_neg k2],by rw[oQ,if_neg k0,if_neg k1,if_neg k2]⟩
theorem aLX{l:List Bool}{id:Int}{n:Nat}{cs:List Value}{b:Bool}(h:cs.take n=bF l)(hi:0≤id∧id < (l.length:Int)):(cs.set id.toNat (.bool b)).take (n*1)=bF (yF l id b):=by
 rw[Nat.mul_one,←aQV _ hi,←h,List.take_set]
theorem Rr{N:cE}{w0:World}{e:Env}{R:List Piece}{H H':List HP}{K:Act→World→Prop}{t:TypeId}{A:Option Addr}{n c:Nat}{xs:List Value}(i:Nat)(he:e.get 10=some (.slice A n c))(hH:yG (i::(List.range 9).filter (· !=i)) H=some (HP.own t 1 (.slice A n c) n xs::H'))(hn:(i::(List.range 9).filter (· !=i)).Nodup)(h:XK N w0 K e R (HP.own t 1 (.slice A n c) n xs::H')):XK N w0 K e R H:=aT _ hH hn (fun _ h=>h) h
theorem aPu(qx:Piece)(X1 X2 X3 Y1 Y2 Y3:Option Addr)(vV vU vT vR vQ vP:Nat)(x y:eB)(ag:Nat)(k id:Int)(w:World)(Fq:qx.Le (all w))(hag:ag < 2)(hbx:x.sm)(hby:y.sm)(s0:aH qx 1 X1 x.d.length (bF x.d))(s1:aH qx 1 X2 x.c.length (bF x.c))(s2:aH qx 1 X3 x.l.length (bF x.l))(s3:aH qx 1 Y1 y.d.length (bF y.d))(s4:aH qx 1 Y2 y.c.length (bF y.c))(s5:aH qx 1 Y3 y.l.length (bF y.l)):
  Cz 137 #[.agg #[.slice X1 x.d.length vV,.slice X2 x.c.length vU,.slice X3 x.l.length vT,.slice Y1 y.d.length vR,.slice Y2 y.c.length vQ,.slice Y3 y.l.length vP],iv (ag:Int),.agg #[.int .u8 k,iv id]] w (Sb (fun v w w'=>tB (fresh w w') (lH x ag k id) (lG y ag k id) v) w):=by
 obtain⟨h0,h1,h2⟩:=hbx;obtain⟨h3,h4,h5⟩:=hby;refine aO func137 ntmps137 ?_;refine yY qx (by simp) Fq ?_;refine aA ?_;refine bN fun g1=>?_;refine bN fun g2=>?_;refine bY fun g3=>?_;refine aA ?_;refine bY fun g4=>?_;refine aA ?_;refine aRB 3 ?_;refine aDK ?_;refine aA ?_;refine aE9 0 (len:=2) (n:=3) (by kernel_rfl) rfl rfl rfl (by decide) rfl (by decide) ?_;refine bY fun g5=>?_;refine aA ?_;refine iZ [1,2,4,5,7,8,11] ?_;refine bJ 0 ?_;refine aK 1 ?_;refine aK 2 ?_;refine aK 4 ?_;refine aK 5 ?_;refine aK 7 ?_;refine aK 8 ?_;refine aK 11 ?_;refine aL 3 ?_;refine dS (Nl x.d.length (bF x.d)) (fun w1 st=>Qz _ _ _ _ w1 (s0.le (st.le (by simp))) (Rj _) (by have:=h0;omega)) ?_;rintro _ _ q0 ⟨B0,c0,rfl,rfl⟩ _;dsimp only[List.cons_append,List.nil_append];refine bA ?_ (hS:=fun _ h=>h.bB.tail);refine aL 6 ?_;refine dS (Nl x.c.length (bF x.c)) (fun w1 st=>Qz _ _ _ _ w1 (s1.le (st.le (by simp))) (Rj _) (by have:=h1;omega)) ?_;rintro _ _ q1 ⟨B1,c1,rfl,rfl⟩ _;dsimp only[List.cons_append,List.nil_append];refine bA ?_ (hS:=fun _ h=>h.bB.bB.tail.tail);refine aL 9 ?_;refine dS (Nl x.l.length (bF x.l)) (fun w1 st=>Qz _ _ _ _ w1 (s2.le (st.le (by simp))) (Rj _) (by have:=h2;omega)) ?_;rintro _ _ q2 ⟨B2,c2,rfl,rfl⟩ _;dsimp only[List.cons_append,List.nil_append];refine bA ?_ (hS:=fun _ h=>h.bB.bB.bB.tail.tail.tail);refine aL 10 ?_;refine kd (iI rfl) ?_;refine bA ?_ (hS:=fun _ h=>h.bB.bB.bB.tail.tail.tail);refine aL 12 ?_;refine kd (fF (sz:=3) 0 0) ?_;refine cG ?_;refine aL 13 ?_;refine rR rfl rfl ?_;simp only[fS,Value.cells,List.set,List.take,List.drop,List.nil_append,List.append_nil,List.length_cons,List.length_nil,List.cons_append,Nat.reduceAdd];refine cG ?_;refine dX ?_;refine aA ?_;refine aT [2,1,0,4,5,6,7] rfl (by decide) (R':=[qx,all w]) (by simp) ?_;refine aDK ?_;refine aA ?_;refine aE9 1 (len:=2) (n:=3) (by kernel_rfl) rfl rfl rfl (by decide) rfl (by decide) ?_;refine bY fun g6=>?_;refine aA ?_;refine iZ [1,2,4,5,7,8,11] ?_;refine bJ 0 ?_;refine aK 1 ?_;refine aK 2 ?_;refine aK 4 ?_;refine aK 5 ?_;refine aK 7 ?_;refine aK 8 ?_;refine aK 11 ?_;refine aL 3 ?_;refine dS (Nl y.d.length (bF y.d)) (fun w1 st=>Qz _ _ _ _ w1 (s3.le (st.le (by simp))) (Rj _) (by have:=h3;omega)) ?_;rintro _ _ q3 ⟨B3,c3,rfl,rfl⟩ _;dsimp only[List.cons_append,List.nil_append];refine bA ?_ (hS:=fun _ h=>h.bB.tail);refine aL 6 ?_;refine dS (Nl y.c.length (bF y.c)) (fun w1 st=>Qz _ _ _ _ w1 (s4.le (st.le (by simp))) (Rj _) (by have:=h4;omega)) ?_;rintro _ _ q4 ⟨B4,c4,rfl,rfl⟩ _;dsimp only[List.cons_append,List.nil_append];refine bA ?_ (hS:=fun _ h=>h.bB.bB.tail.tail);refine aL 9 ?_;refine dS (Nl y.l.length (bF y.l)) (fun w1 st=>Qz _ _ _ _ w1 (s5.le (st.le (by simp))) (Rj _) (by have:=h5;omega)) ?_;rintro _ _ q5 ⟨B5,c5,rfl,rfl⟩ _;dsimp only[List.cons_append,List.nil_append];refine bA ?_ (hS:=fun _ h=>h.bB.bB.bB.tail.tail.tail);refine aL 10 ?_;refine kd (iI rfl) ?_;refine bA ?_ (hS:=fun _ h=>h.bB.bB.bB.tail.tail.tail);refine aL 12 ?_;refine kd (fF (sz:=3) 1 3) ?_;refine cG ?_;refine aL 13 ?_;refine rR rfl rfl ?_;simp only[fS,Value.cells,List.set,List.take,List.drop,List.nil_append,List.append_nil,List.length_cons,List.length_nil,List.cons_append,Nat.reduceAdd];refine cG ?_;refine dX ?_;refine aA ?_;refine aT [4,5,6,2,1,0,9,7,8] rfl (by decide) (R':=[qx,all w]) (by simp) ?_;refine aDK ?_;refine aA ?_;refine bX (t:=33) rfl (fun h=>absurd h (by omega)) (fun _=>?_);refine aA ?_;refine aG rfl (fun h=>absurd h (by omega)) (fun _=>?_);refine aA ?_;obtain⟨X,hX⟩:∃z,z=lH x ag k id:=⟨_,rfl⟩
 obtain⟨Y,hY⟩:∃z,z=lG y ag k id:=⟨_,rfl⟩
 have hl:=aPs x y ag k id
 rw[←hX,←hY] at hl⊢;obtain rfl | rfl:ag=0∨ag=1:=by omega
 have hc:=aFh k id x
 refine iZ [1,2,3,4] ?_;refine bJ 0 ?_;refine aK 1 ?_;refine aK 2 ?_ (cK:=fF (sz:=3) 0 0);refine aK 3 ?_;refine aK 4 ?_;refine aL 5 ?_;refine aQ (fun w1 t=>aC0 g4 0 k (.slice B0 x.d.length c0) (.slice B1 x.c.length c1) (.slice B2 x.l.length c2) w1 (by simpa using(t.box (i:=7) rfl).at_ (j:=0) rfl) (by simpa using(t.box (i:=7) rfl).at_ (j:=1) rfl) (by simpa using(t.box (i:=7) rfl).at_ (j:=2) rfl)) ?_
 rotate_left
 have hc:=aFh k id y
 refine iZ [1,2,3,4] ?_;refine bJ 0 ?_;refine aK 1 ?_;refine aK 2 ?_ (cK:=fF (sz:=3) 1 3);refine aK 3 ?_;refine aK 4 ?_;refine aL 5 ?_;refine aQ (fun w1 t=>aC0 g4 3 k (.slice B3 y.d.length c3) (.slice B4 y.c.length c4) (.slice B5 y.l.length c5) w1 (by simpa using(t.box (i:=7) rfl).at_ (j:=3) rfl) (by simpa using(t.box (i:=7) rfl).at_ (j:=4) rfl) (by simpa using(t.box (i:=7) rfl).at_ (j:=5) rfl)) ?_
 all_goals
  refine cG ?_;refine aL 6 ?_;refine bE ?_;refine cG ?_;refine dX ?_;refine eJ ?_;refine aT [0,1,2,3,4,5,6,7,8] rfl (by decide) (fun _ h=>h) ?_;refine bM [(10,_),(7,pt g4),(6,pt g3),(5,pt g2)] ?_;refine aBn (fun e R H=>e=[(7,pt g4),(6,pt g3)]∧R=[qx,all w]∧H=[HP.own 4 1 (.slice B0 x.d.length c0) x.d.length (bF X.d),HP.own 4 1 (.slice B1 x.c.length c1) x.c.length (bF X.c),HP.own 4 1 (.slice B2 x.l.length c2) x.l.length (bF X.l),HP.own 4 1 (.slice B3 y.d.length c3) y.d.length (bF Y.d),HP.own 4 1 (.slice B4 y.c.length c4) y.c.length (bF Y.c),HP.own 4 1 (.slice B5 y.l.length c5) y.l.length (bF Y.l),HP.aE g2 50 [.int .u8 k,iv id],HP.aE g4 58 [.slice B0 x.d.length c0,.slice B1 x.c.length c1,.slice B2 x.l.length c2,.slice B3 y.d.length c3,.slice B4 y.c.length c4,.slice B5 y.l.length c5],HP.aE g3 58 [sn,sn,sn,sn,sn,sn]]) ?_ ?_
  ·clear hl;simp only[lH,lG,if_true,if_false,Nat.one_ne_zero] at hX hY;subst hX hY;obtain⟨h,h2⟩ | hc:=hc
   ·rw[h,h2];refine aA ?_;refine bX (t:=47) rfl (fun hid=>?_) (fun hid=>?_)
    ·refine aA ?_;refine aG rfl (fun h=>absurd h (by omega)) (fun _=>?_);refine aA ?_;exact nL ⟨rfl,rfl,rfl⟩
    ·refine aA ?_;exact nL ⟨rfl,rfl,rfl⟩
   rcases hc with⟨h,h2⟩ | ⟨h,h2⟩ | ⟨h,h2⟩
   all_goals
    rw[h,h2];dsimp only
    first | refine Rr 0 rfl rfl (by decide) ?_ | refine Rr 1 rfl rfl (by decide) ?_ | refine Rr 2 rfl rfl (by decide) ?_ | refine Rr 3 rfl rfl (by decide) ?_ | refine Rr 4 rfl rfl (by decide) ?_ | refine Rr 5 rfl rfl (by decide) ?_
    refine aA ?_;refine bX (t:=47) rfl (fun hid=>?_) (fun hid=>?_)
    ·refine aA ?_;refine aG rfl (fun aCM=>?_) (fun aCM=>?_)
     ·have hin:=And.intro hid aCM
      refine Xw 0 rfl (by omega) ?_;rintro⟨gb,rfl⟩;refine Ec 0 rfl fun cs jF hct hnc Fv=>?_;simp only[Nat.mul_one] at jF hct;dsimp only[List.set];refine iZ [1,2,3,4] ?_;refine bJ 0 ?_;refine aK 1 ?_;refine aK 2 ?_;refine aK 3 ?_;refine aK 4 ?_;refine aL 5 ?_;refine aQ (fun w1 t=>aCg k w1) ?_;refine bA ?_;refine aL 6 ?_;refine kd (dat id.toNat id.toNat) ?_;refine cG ?_;refine aL 7 ?_;refine eO rfl rfl ?_;dsimp only[List.set];refine cG ?_;refine dX ?_;refine aA ?_;refine By 0 (sz:=1) rfl (by simpa using jF) (aLX hct hin) hnc Fv ?_;dsimp only[List.set];exact nL ⟨rfl,rfl,rfl⟩
     ·rw[aFi _ fun h=>aCM h.2];refine aA ?_;exact nL ⟨rfl,rfl,rfl⟩
    ·rw[aFi _ fun h=>hid h.1];refine aA ?_;exact nL ⟨rfl,rfl,rfl⟩
  ·rintro _ _ _ ⟨rfl,rfl,rfl⟩;refine aT [7,8,0,1,2,3,4,5] rfl (by decide) (fun _ h=>h) ?_;refine aA ?_;refine dB [] [2,3,4,5,6,7] [0,1] (by simp) rfl (by decide) (by decide) fun q hq _ hfr=>?_;refine Gu rfl (n:=6) (vs:=[.slice B0 x.d.length c0,.slice B1 x.c.length c1,.slice B2 x.l.length c2,.slice B3 y.d.length c3,.slice B4 y.c.length c4,.slice B5 y.l.length c5]) (by kernel_rfl) rfl rfl (aM.whole 1 rfl) fun w1 st=>⟨⟨_,rfl,?_⟩,st.below (by simp)⟩
   have hle:=st.mQ (by simp) (hfr (by simp) (by simp))
   obtain⟨l1,l2,l3,l4,l5,l6⟩:=hl
   have hs:∀{A n c xs},(∃F,(HP.own 4 1 (.slice A n c) n xs).sat F q.w∧∀b,F b→q.Z b)→aH (fresh w w1) 1 A n xs:=fun h=>(aH.own h).le hle
   refine⟨B0,c0,B1,c1,B2,c2,B3,c3,B4,c4,B5,c5,?_,?_,?_,?_,?_,?_,?_⟩
   ·rw[l1,l2,l3,l4,l5,l6]
   ·rw[l1];exact hs (hq 2 _ (by simp) rfl)
   ·rw[l2];exact hs (hq 3 _ (by simp) rfl)
   ·rw[l3];exact hs (hq 4 _ (by simp) rfl)
   ·rw[l4];exact hs (hq 5 _ (by simp) rfl)
   ·rw[l5];exact hs (hq 6 _ (by simp) rfl)
   ·rw[l6];exact hs (hq 7 _ (by simp) rfl)
end
section
section
variable{h:Nat}{L:fQ}{s:aC}{z:cI}
theorem aGY{b:Nat}(hb:b < 2):(jI h L s z)[11+b*2]? =some (iv (yN z b)):=by
 obtain rfl | rfl:b=0∨b=1:=by omega
 ·rfl
 ·rfl
end
structure Eg(s:aC)(z:cI):Prop where
 la:z.last=0∨z.last=1
 u0:nB z.w0
 u1:nB z.w1
 n0:z.w0.length≤1000000
 n1:z.w1.length≤1000000
 sx:z.x.sm
 sy:z.y.sm
theorem Eg.box{s:aC}{z:cI}(h:Eg s z)(b:Nat):nB (kB z b)∧(kB z b).length≤1000000:=by
 unfold kB;split
 ·exact⟨h.u0,h.n0⟩
 ·exact⟨h.u1,h.n1⟩
def gI(s:aC)(x:aU)(z:cI)(a:Nat):Int×Int×Int:=oH s z.x z.y (mH s x) a (kB z a)
def wC(s:aC)(x:aU)(z:cI)(a:Nat):cI×Bool:=
 let d:=gI s x z a
 if d.2.1=0 then(yH s x {z with last:=a} a d.1,false)
 else({z with last:=a,x:=lH z.x a d.2.1 d.2.2,y:=lG z.y a d.2.1 d.2.2,at_:=a,kind:=d.2.1,id:=d.2.2},true)
def nF(s:aC)(x:aU)(z:cI):cI×Bool:=match sF z with
 | none=>(z,false)
 | some a=>wC s x z a
theorem aGU(f:Nat)(hL:HL)(s:aC)(z:cI)(x:aU)(hH:s.dJ)(aR:gB hL s)(hok:cT s x)(hz:Eg s z)(l a:Nat)(hl:z.last=(l:Int))(iB:l≤1)(ha:a < 2)(hab:(yN z (1 - l)=1∧a=1 - l)∨(yN z (1 - l)≠1∧a=l))(h1:yN z a=1)
  (hst:(gI s x z a).2.1=0→(gI s x z a).1=0→tD (kB z a)) (w:World) (F:Nat→Prop) (hp:(gJ f hL s z x).sat F w) (hF:∀b,F b→b < w.heap.size):
  Cz 90 #[pt f] w (Wr (.bool (wC s x z a).2) (gJ f hL s (wC s x z a).1 x) w F):=by
 have qF:=hH.t.nv
 unfold wC;generalize hdz:gI s x z a=dz at hst⊢;obtain⟨st,k,id⟩:=dz;dsimp only at hst⊢;obtain⟨hbu,hbn⟩:=hz.box a;refine cS func90 ntmps90 hp hF ?_;refine aX 0 0 ?_;refine iT 0 fun L=>?_
 have aGK:(jI hL.h L s z)[15]? =some (iv (l:Int)):=by rw[←hl];rfl
 refine eA ?_;refine fU ?_;refine bE ?_;refine fB ?_;refine eA ?_;refine fU ?_;refine bE ?_;refine bE ?_;refine bE ?_;refine kd (bH rfl (Rd.eL 0 rfl aGK)) ?_;refine kd (Mn rfl rfl (c:=((1 - l:Nat):Int)) (by rw[show(1:Int) - (l:Int)=((1 - l:Nat):Int) by omega];exact iW (by omega))) ?_;refine bE ?_;refine fB ?_;refine Ru (fun e R H=>e=[(3,iv (a:Int)),(0,pt f)]∧R=[⟨w,fun b=>b < w.heap.size∧¬F b⟩]∧H=[iG f hL.h L s z,HP.many [bU,dM hL s x]]) ?_ ?_
 ·refine eA ?_;refine fU ?_;refine bE ?_;refine bE ?_;refine bE ?_;refine bE ?_;refine kd (fF (1 - l) (11+(1 - l)*2)) ?_;refine bE ?_;refine kd (bH rfl (Rd.eL 0 rfl (aGY (by omega)))) ?_;refine bE ?_;refine fB ?_;rcases hab with⟨h2,rfl⟩ | ⟨h2,rfl⟩
  ·refine aG rfl (fun h=>absurd h2 h) (fun _=>?_);refine nV ?_;refine eJ ?_;exact nL ⟨rfl,rfl,rfl⟩
  ·refine aG rfl (fun _=>?_) (fun h=>absurd h2 h);refine fU ?_;refine bE ?_;refine bE ?_;refine bE ?_;refine kd (bH rfl (Rd.eL 0 rfl aGK)) ?_;refine bE ?_;refine fB ?_;exact nL ⟨rfl,rfl,rfl⟩
 rintro _ _ _ ⟨rfl,rfl,rfl⟩;refine aA ?_;refine kd (fF a (11+a*2)) ?_;refine aA ?_;refine kd (bH rfl (Rd.eL 0 rfl (aGY ha))) ?_;refine aA ?_;refine aG rfl (fun h=>absurd h1 h) (fun _=>?_);refine aA ?_;refine aX 0 0 ?_;refine eO rfl rfl ?_ (hs:=eK.mk 0 rfl cN.h rfl (by simp[jI]));dsimp only[List.set];rw[show(jI hL.h L s z).set (0+15) (iv (a:Int))=jI hL.h L s {z with last:=(a:Int)} from rfl];refine aJ 0 0 ?_
 change XK _ _ _ _ _ [iG f hL.h L s {z with last:=(a:Int)},HP.many [bU,dM hL s x]]
 generalize lZ:({z with last:=(a:Int)}:cI)=z1
 have e1:z1.x=z.x:=by rw[←lZ]
 have e2:z1.y=z.y:=by rw[←lZ]
 have e3:kB z1 a=kB z a:=by rw[←lZ];rfl
 refine aA ?_;refine kd (bH rfl (Rd.eL 0 rfl rfl)) ?_;refine aA ?_;refine lU (n:=s.aD.length) 8 (el:=3) (z:=iv 0) (by kernel_rfl) (by kernel_rfl) rfl rfl rfl (by omega) (by omega) (by decide) fun gm=>?_;refine aA ?_;refine aX 2 1 ?_
 rw[show List.replicate s.aD.length (Value.int .i64 0)=aN (kG (mH s x) ((mH s x).map fun _=>0) 0) by
  rw[Uh];refine List.ext_getElem? fun j=>?_;simp only[aN,mH,List.map_map,List.getElem?_replicate,List.getElem?_map]
  by_cases h:j < s.aD.length
  ·rw[if_pos h,List.getElem?_range h];rfl
  ·rw[if_neg h,List.getElem?_eq_none (by simp;omega)];rfl]
 refine bM [(46,iv 0),(45,iv s.aD.length),(4,.slice (some ⟨gm,0,none⟩) s.aD.length s.aD.length),(3,iv (a:Int)),(0,pt f)] ?_
 have wS:(mH s x).length=s.aD.length:=by simp[mH]
 refine eT (fun m e R H=>∃i:Nat,i≤s.aD.length∧m=s.aD.length - i∧e=[(46,iv i),(45,iv s.aD.length),(4,.slice (some ⟨gm,0,none⟩) s.aD.length s.aD.length),(3,iv (a:Int)),(0,pt f)]∧R=[⟨w,fun b=>b < w.heap.size∧¬F b⟩]∧H=[dM hL s x,HP.aE gm 3 (aN (kG (mH s x) ((mH s x).map fun _=>0) i)),iG f hL.h L s z1,HP.many [bU,bU]]) s.aD.length ⟨0,by omega,rfl,rfl,rfl,rfl⟩ fun m e R H hI=>?_;obtain⟨i,hi,rfl,rfl,rfl,rfl⟩:=hI
 have Vg:=Uj (vs:=mH s x) (old:=(mH s x).map fun _=>0) (n:=s.aD.length) wS (by simp[mH]) hi
 have jF:(aN (kG (mH s x) ((mH s x).map fun _=>0) i)).length=s.aD.length:=by simp[aN,Vg]
 refine aA ?_;refine aG rfl (fun hlt=>?_) (fun hge=>?_)
 ·have hlt:i < s.aD.length:=by omega
  have hwi:(mH s x)[i]? =some (oN x.wt i:Int):=by simp[mH,hlt]
  have lF:(aN (kG (mH s x) ((mH s x).map fun _=>0) i)).set i (iv (oN x.wt i:Nat))=aN (kG (mH s x) ((mH s x).map fun _=>0) (i+1)):=by
   rw[←Ui (by simp) hwi,aN,aN,List.map_set]
  refine aA ?_;refine kd (bH rfl (Rd.eL 2 rfl rfl)) ?_;refine aA ?_;refine aQ (fun w1 t=>aNO hL s x w1 i hlt (t.mB 0 rfl aR hok)) ?_;refine aA ?_;refine kd (dat i i) ?_;refine eO rfl rfl ?_;dsimp only[List.set];rw[lF];refine aA ?_;exact eR (s.aD.length - (i+1)) ⟨i+1,hlt,rfl,rfl,rfl,rfl⟩
 obtain rfl:i=s.aD.length:=by omega
 rw[Uk wS (by simp[mH])];refine aJ 2 1 ?_;refine aA ?_;refine aBn (fun e R H=>∃g7:Nat,e=[(7,pt g7),(6,.int .i32 st),(3,iv (a:Int)),(0,pt f)]∧R=[⟨w,fun b=>b < w.heap.size∧¬F b⟩]∧H=[HP.aE g7 50 [.int .u8 k,iv id],iG f hL.h L s z1,HP.many [bU,dM hL s x]]) ?_ ?_
 ·refine iZ [1,2,3,5,6,7,12,13,14,15,16,19,20] ?_;refine bJ 0 ?_;refine bJ 4 ?_;refine bJ 8 ?_;refine bJ 9 ?_;refine bJ 10 ?_;refine bJ 11 ?_;refine aK 1 ?_;refine aK 2 ?_;refine aK 3 ?_ (cK:=jN rfl (aM.eL 1 rfl (vs:=[.slice L.a1.1 s.aF.length L.a1.2,.slice L.a2.1 s.domains.length L.a2.2,.slice L.a3.1 s.aY.length L.a3.2,.slice L.a4.1 s.aD.length L.a4.2]) rfl));refine aK 5 ?_;refine aK 6 ?_;refine aK 7 ?_ (cK:=jN rfl (aM.eL 1 rfl (vs:=[.slice L.x1.1 z1.x.d.length L.x1.2,.slice L.x2.1 z1.x.c.length L.x2.2,.slice L.x3.1 z1.x.l.length L.x3.2,.slice L.y1.1 z1.y.d.length L.y1.2,.slice L.y2.1 z1.y.c.length L.y2.2,.slice L.y3.1 z1.y.l.length L.y3.2]) rfl));refine aK 12 ?_;refine aK 13 ?_;refine aK 14 ?_ (cK:=fF (sz:=2) a (11+a*2));refine aK 15 ?_;refine aK 16 ?_ (cK:=bH rfl (Rd.eL 1 rfl (v:=.slice (vI L a).1 (kB z1 a).length (vI L a).2) (by rw[show 11+a*2+1=12+a*2 by omega];exact aGZ ha)))
  have yM:∀H:List HP,H[H.length - 2]? =some (iG f hL.h L s z1)→(H.length=3∨H.length=4)→H[H.length - 3]? =some (HP.aE gm 3 (aN (mH s x)))→∀w1,St w [⟨w,fun b=>b < w.heap.size∧¬F b⟩] H w1→Cz 13 #[.agg #[.slice L.a1.1 s.aF.length L.a1.2,.slice L.a2.1 s.domains.length L.a2.2,.slice L.a3.1 s.aY.length L.a3.2,.slice L.a4.1 s.aD.length L.a4.2],.agg #[.slice L.x1.1 z1.x.d.length L.x1.2,.slice L.x2.1 z1.x.c.length L.x2.2,.slice L.x3.1 z1.x.l.length L.x3.2,.slice L.y1.1 z1.y.d.length L.y1.2,.slice L.y2.1 z1.y.c.length L.y2.2,.slice L.y3.1 z1.y.l.length L.y3.2],.slice (some ⟨gm,0,none⟩) s.aD.length s.aD.length,iv (a:Int),.slice (vI L a).1 (kB z1 a).length (vI L a).2] w1 (Rt (aDB (st,k,id)) w1):=fun H h2 _ h3 w1 t=>by
   have kf:=t.Dq _ h2
   have:=aPX (all w1) (all w1) s _ _ _ _ _ L.a1.2 _ L.a2.2 _ L.a3.2 _ L.a4.2 _ _ _ _ _ _ _ L.x1.2 _ L.x2.2 _ L.x3.2 _ L.y1.2 _ L.y2.2 _ L.y3.2 z1.x z1.y (some ⟨gm,0,none⟩) s.aD.length s.aD.length (mH s x) a _ _ (vI L a).2 (kB z1 a) w1 kf.so hH.t (Piece.Le.refl _) kf.stR (Piece.Le.refl _) (t.uS h3 (by simp[aN,wS])) wS.symm ha (kf.box ha) rfl (by rw[e3];exact hbn) (by rw[e3];exact hbu)
   rw[show oH s z1.x z1.y (mH s x) a (kB z1 a)=(st,k,id) by rw[e1,e2,e3];exact hdz] at this;exact this
  refine zC 17 21 rfl rfl (by kernel_rfl) ?_ ?_
  ·refine aQ (fun w1 t=>yM _ rfl (.inl rfl) rfl w1 t) ?_;refine bA ?_;refine bJ 18 ?_;refine aK 19 ?_;refine aK 20 ?_;refine aL 21 ?_;refine bY fun g7=>?_;refine bA ?_;refine aL 22 ?_;refine bE ?_;refine bA ?_;refine aL 23 ?_;refine lP 0 rfl ?_;dsimp only[List.set];refine cG ?_;refine dX ?_;refine eJ ?_;refine aT [0,2,3] rfl (by decide) (fun _ h=>h) ?_;exact nL ⟨g7,rfl,rfl,rfl⟩
  ·refine bY fun g7=>?_;refine bA ?_;refine aL 17 ?_;refine aQ (fun w1 t=>yM _ rfl (.inr rfl) rfl w1 t) ?_;refine bA ?_;refine bJ 18 ?_;refine aK 19 ?_;refine aK 20 ?_;refine aL 22 ?_;refine bE ?_;refine bA ?_;refine aL 23 ?_;refine lP 0 rfl ?_;dsimp only[List.set];refine cG ?_;refine dX ?_;refine eJ ?_;refine aT [0,2,3] rfl (by decide) (fun _ h=>h) ?_;exact nL ⟨g7,rfl,rfl,rfl⟩
 rintro _ _ _ ⟨g7,rfl,rfl,rfl⟩;refine aA ?_;refine aG rfl (fun hk=>?_) (fun hk=>?_)
 ·have hk:k=0:=hk
  rw[if_pos hk];refine cP 1 (fun L:fQ=>iG f hL.h L s z1) L ?_;refine aT [1,0,2] rfl (by decide) (fun _ h=>h) ?_;refine aJ 1 0 ?_;refine aA ?_;refine bT 1 (gJ f hL s (yH s x z1 a st) x) (fun w1 F1 t h1 h2 h3=>aDg f hL s z1 x hH aR hok a ha st (fun h0=>by rw[e3];exact hst hk h0) w1 F1 h1 h2) ?_;refine aA ?_;exact bO 1 hF
 ·rw[if_neg hk];rw[show({z with last:=(a:Int),x:=lH z.x a k id,y:=lG z.y a k id,at_:=(a:Int),kind:=k,id:=id}:cI)={z1 with x:=lH z1.x a k id,y:=lG z1.y a k id,at_:=(a:Int),kind:=k,id:=id} by rw[←lZ]];refine aA ?_;refine iZ [2,3,4,6] ?_;refine bJ 0 ?_;refine bJ 1 ?_;refine bJ 5 ?_;refine aK 2 ?_;refine aK 3 ?_;refine aK 4 ?_ (cK:=jN rfl (aM.eL 1 rfl (vs:=[.slice L.x1.1 z1.x.d.length L.x1.2,.slice L.x2.1 z1.x.c.length L.x2.2,.slice L.x3.1 z1.x.l.length L.x3.2,.slice L.y1.1 z1.y.d.length L.y1.2,.slice L.y2.1 z1.y.c.length L.y2.2,.slice L.y3.1 z1.y.l.length L.y3.2]) rfl));refine aK 6 ?_;refine aL 7 ?_
  refine kA [] (fun v w w'=>tB (fresh w w') (lH z1.x a k id) (lG z1.y a k id) v) (fun w1 t=>by
   have kf:=t.Dq 1 rfl
   exact aPu (all w1) _ _ _ _ _ _ L.x1.2 L.x2.2 L.x3.2 L.y1.2 L.y2.2 L.y3.2 z1.x z1.y a k id w1 (Piece.Le.refl _) ha (by rw[e1];exact hz.sx) (by rw[e2];exact hz.sy) kf.st.1 kf.st.2.1 kf.st.2.2.1 kf.st.2.2.2.1 kf.st.2.2.2.2.1 kf.st.2.2.2.2.2) ?_
  rintro _ w2 q2 aN0 vB _ Iv
  have Iv:=Iv (by simp)
  obtain⟨x1,x2,x3,y1,y2,y3,rfl,Lo⟩:=aN0.P
  have Lo:=pH.le _ _ vB (Lo L.a1 L.a2 L.a3 L.a4 L.b0 L.b1)
  refine Jq (Φ:=pH ⟨L.a1,L.a2,L.a3,L.a4,x1,x2,x3,y1,y2,y3,L.b0,L.b1⟩ (lH z1.x a k id) (lG z1.y a k id)) (hm:=pH.le) Iv (fun p hp b hb=>by simp at hp;subst hp;exact hb.1) Lo ?_;refine cG ?_;refine aL 8 ?_;refine bE ?_;refine cG ?_;refine aL 9 ?_;refine bE ?_;refine cG ?_;refine aL 10 ?_;refine aX 2 0 ?_;refine pY 0 (t:=175) rfl rfl rfl (by kernel_rfl) (by simp[Value.cells,Value.oneCell',wI]) (by simp[Value.cells,jI]) ?_;dsimp only[List.set];rw[show fS (jI hL.h L s z1) (0+5) (Value.agg #[wI x1 (lH z1.x a k id).d.length,wI x2 (lH z1.x a k id).c.length,wI x3 (lH z1.x a k id).l.length,wI y1 (lG z1.y a k id).d.length,wI y2 (lG z1.y a k id).c.length,wI y3 (lG z1.y a k id).l.length]).cells.toList=jI hL.h ⟨L.a1,L.a2,L.a3,L.a4,x1,x2,x3,y1,y2,y3,L.b0,L.b1⟩ s {z1 with x:=lH z1.x a k id,y:=lG z1.y a k id} from rfl];refine cG ?_;refine dX ?_;refine eJ ?_;refine aX 3 2 ?_;refine aT [1,2,3,4,5] rfl (by decide) (R':=[⟨w,fun b=>b < w.heap.size∧¬F b⟩]) (by simp) ?_;refine aT [1,0,2,3,4] rfl (by decide) (fun _ h=>h) ?_;refine aJ 2 2 ?_;generalize oY:({z1 with x:=lH z1.x a k id,y:=lG z1.y a k id}:cI)=z2;rw[show({z1 with x:=lH z1.x a k id,y:=lG z1.y a k id,at_:=(a:Int),kind:=k,id:=id}:cI)={z2 with at_:=(a:Int),kind:=k,id:=id} by rw[←oY]];generalize Dk:(⟨L.a1,L.a2,L.a3,L.a4,x1,x2,x3,y1,y2,y3,L.b0,L.b1⟩:fQ)=L2;refine eA ?_;refine aBn (fun e R H=>e=[(0,pt f)]∧R=[⟨w,fun b=>b < w.heap.size∧¬F b⟩]∧H=[HP.aE f 175 (jI hL.h L2 s {z2 with at_:=(a:Int),kind:=k,id:=id}),HP.aE g7 50 [.int .u8 k,iv id],HP.many [bU,HP.bR (uM L s) (uM.le (L:=L) (s:=s)),HP.bR (pH L2 (lH z1.x a k id) (lG z1.y a k id)) (pH.le (L:=L2) (x:=lH z1.x a k id) (y:=lG z1.y a k id)),HP.bR (eD L.b0 z1.w0) (eD.le (a:=L.b0) (l:=z1.w0)),HP.bR (eD L.b1 z1.w1) (eD.le (a:=L.b1) (l:=z1.w1))],HP.many [bU,dM hL s x]]) ?_ ?_
  ·refine iZ [] ?_;refine bJ 0 ?_;refine bJ 1 ?_;refine bJ 2 ?_
   repeat' (first
    | (refine dX ?_;refine eJ ?_;exact nL ⟨rfl,rfl,rfl⟩)
    | refine zC 3 4 rfl rfl (by decide+kernel) ?_ ?_
    | refine zC 3 5 rfl rfl (by decide+kernel) ?_ ?_
    | refine zC 3 6 rfl rfl (by decide+kernel) ?_ ?_
    | refine aL 3 ?_
    | refine aL 4 ?_
    | refine aL 5 ?_
    | refine aL 6 ?_
    | refine aL 7 ?_
    | refine aL 8 ?_
    | refine aL 9 ?_
    | refine cG ?_
    | refine bE ?_
    | (refine eO rfl rfl ?_ (hs:=eK.mk 0 rfl cN.h rfl (by simp[jI]));dsimp only[List.set];rw[show(jI hL.h L2 s z2).set (0+16) (iv (a:Int))=jI hL.h L2 s {z2 with at_:=(a:Int)} from rfl])
    | (refine pY 0 (t:=175) rfl rfl rfl (by kernel_rfl) (by simp[Value.cells,Value.oneCell']) (by simp[Value.cells,jI]) ?_;dsimp only[List.set];rw[show fS (jI hL.h L2 s {z2 with at_:=(a:Int)}) (0+17) (Value.agg #[.int .u8 k,iv id]).cells.toList=jI hL.h L2 s {z2 with at_:=(a:Int),kind:=k,id:=id} from rfl]))
  rintro _ _ _ ⟨rfl,rfl,rfl⟩;refine aJ 1 0 ?_;subst Dk;subst oY;refine uK 1 (f:=fun L:fQ=>iG f hL.h L s {({z1 with x:=lH z1.x a k id,y:=lG z1.y a k id}:cI) with at_:=(a:Int),kind:=k,id:=id}) ⟨L.a1,L.a2,L.a3,L.a4,x1,x2,x3,y1,y2,y3,L.b0,L.b1⟩ rfl ?_;dsimp only[List.set];refine aT [1,0,2] rfl (by decide) (fun _ h=>h) ?_;refine aJ 1 0 ?_;refine aA ?_;exact bO 1 hF
theorem aGV(f:Nat)(hL:HL)(s:aC)(z:cI)(x:aU)(hH:s.dJ)(aR:gB hL s)(hok:cT s x)(hz:Eg s z)(hst:∀a,sF z=some a→(gI s x z a).2.1=0→(gI s x z a).1=0→tD (kB z a))(w:World)(F:Nat→Prop)(hp:(gJ f hL s z x).sat F w)(hF:∀b,F b→b < w.heap.size):
  Cz 90 #[pt f] w (Wr (.bool (nF s x z).2) (gJ f hL s (nF s x z).1 x) w F):=by
 unfold nF;cases hn:sF z with
 | none=>exact aO4 f hL s z x hz.la hn w F hp hF
 | some a =>
  obtain⟨l,hl,iB⟩:∃l:Nat,z.last=(l:Int)∧l≤1:=by
   rcases hz.la with h | h
   ·exact⟨0,h,by omega⟩
   ·exact⟨1,h,by omega⟩
  have hn2:=hn
  unfold sF at hn;rw[show(1 - z.last).toNat=1 - l by omega,show z.last.toNat=l by omega] at hn
  by_cases h2:yN z (1 - l)=1
  ·rw[if_pos h2] at hn;obtain rfl:=Option.some.inj hn;exact aGU f hL s z x hH aR hok hz l _ hl iB (by omega) (.inl ⟨h2,rfl⟩) h2 (hst _ hn2) w F hp hF
  ·rw[if_neg h2] at hn
   by_cases h3:yN z l=1
   ·rw[if_pos h3] at hn;obtain rfl:=Option.some.inj hn;exact aGU f hL s z x hH aR hok hz l _ hl iB (by omega) (.inr ⟨h2,rfl⟩) h3 (hst _ hn2) w F hp hF
   ·rw[if_neg h3] at hn;cases hn
end
end Go.Proofs.YtkgekojkboingaaGreatDoor
