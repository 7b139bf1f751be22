/- package bus: addresses; something is posted. -/
import Derived.Test.YtkgekojkboingaaGreatDoorWorldRepliesK4
namespace Go.Proofs.YtkgekojkboingaaGreatDoor
set_option linter.all false
set_option maxHeartbeats 4000000
set_option maxRecDepth 20000
open Go.RowKit Go.Proofs.Tryz
section
theorem aA7(w0 low many:Int)(w:World)(hok:okF low many)(hr:0≤cK w0 low many∧cK w0 low many < 4294967296):
  Cz 270 #[.int .u32 w0,iv low,iv many] w (Rt (iv (cK w0 low many)) w):=by
 refine aN func270 ntmps270 ?_;refine aA ?_;refine aU (fun w1 t=>aGp w0 low many w1 hok) ?_;refine aA ?_;refine kd (Iv (ds:=.int .u32) (kd:=.i64) (c:=cK w0 low many) (by kernel_rfl) (by kernel_rfl) rfl (iT (by omega))) ?_;refine aA ?_;exact dI
theorem aAq(w low many:Int):0≤cK w low many∧cK w low many < 4294967296:=Nk _
theorem aHm(a dev bY:Int)(h0:cK a 0 2=0)(h1:cK a 24 8=0)(h2:cK a 16 8=dev)(h3:cK a 2 14=bY)(w:World):
  Cz 268 #[.int .u32 a] w (Rt (.tuple #[iv dev,iv bY]) w):=by
 refine aN func268 ntmps268 ?_;refine aA ?_;refine aU (fun w1 t=>aA7 a 0 2 w1 (by unfold okF;omega) (aAq _ _ _)) ?_;rw[h0];refine aA ?_;refine aU (fun w1 t=>aA7 a 24 8 w1 (by unfold okF;omega) (aAq _ _ _)) ?_;rw[h1];refine aA ?_;refine aU (fun w1 t=>aA7 a 16 8 w1 (by unfold okF;omega) (aAq _ _ _)) ?_;rw[h2];refine aA ?_;refine aU (fun w1 t=>aA7 a 2 14 w1 (by unfold okF;omega) (aAq _ _ _)) ?_;rw[h3];refine aA ?_;exact fQ rfl rfl rfl fun w1 t=>⟨rfl,t.below (by simp)⟩
def Ra(dev bY:Int):Int:=(wN (wN 0 16 8 dev).1 2 14 bY).1
structure aRZ(dev bY:Int):Prop where
 p1:(wN 0 16 8 dev).2=0
 p2:(wN (wN 0 16 8 dev).1 2 14 bY).2=0
 z0:cK (Ra dev bY) 0 2=0
 z1:cK (Ra dev bY) 24 8=0
 z2:cK (Ra dev bY) 16 8=dev
 z3:cK (Ra dev bY) 2 14=bY
theorem aH1{dev bY:Int}(h1:0≤dev∧dev < 4)(h2:0≤bY∧bY < 4):aRZ dev bY:=by
 have hd:dev=0∨dev=1∨dev=2∨dev=3:=by omega
 have hr:bY=0∨bY=1∨bY=2∨bY=3:=by omega
 rcases hd with rfl | rfl | rfl | rfl<;>rcases hr with rfl | rfl | rfl | rfl<;>exact⟨by decide+kernel,by decide+kernel,by decide+kernel,by decide+kernel,by decide+kernel,by decide+kernel⟩
theorem aQv(dev bY:Int)(hd:0≤dev∧dev < 4)(hr:0≤bY∧bY < 4)(w:World):
  Cz 266 #[iv dev,iv bY] w (Rt (.tuple #[.int .u32 (Ra dev bY),iv 0]) w):=by
 have ha:=aH1 hd hr
 refine aN func266 ntmps266 ?_;refine aA ?_;refine bT (t:=10) rfl (fun h=>absurd h (by omega)) (fun _=>?_);refine aA ?_;refine bT (t:=14) rfl (fun h=>absurd h (by omega)) (fun _=>?_);refine aA ?_;refine bT (t:=18) rfl (fun h=>absurd h (by omega)) (fun _=>?_);refine aA ?_;refine aG rfl (fun h=>absurd h (by omega)) (fun _=>?_);refine aA ?_;refine kd (Iv (ds:=.int .i64) (kd:=.u32) (c:=dev) (by kernel_rfl) (by kernel_rfl) rfl (wrap_u32 (by omega))) ?_;refine aU (fun w1 t=>aBC 0 16 8 dev w1 (by unfold okF;omega)) ?_;rw[ha.p1];refine aA ?_;refine kd (Iv (ds:=.int .i64) (kd:=.u32) (c:=bY) (by kernel_rfl) (by kernel_rfl) rfl (wrap_u32 (by omega))) ?_;refine aU (fun w1 t=>aBC _ 2 14 bY w1 (by unfold okF;omega)) ?_;rw[ha.p2];refine aA ?_;exact fQ rfl rfl rfl fun w1 t=>⟨rfl,t.below (by simp)⟩
theorem aQt(L:BL)(ms:List Int)(ws:List (Option iY))(bB:Int)(i:Nat)(hi:i < ms.length)(hml:ms.length≤6)(hw:ws.length=ms.length)(h0:(ws[i]?).join=none)(a bY:Int)(z0:cK a 0 2=0)(z1:cK a 24 8=0)(z2:cK a 16 8=i)(z3:cK a 2 14=bY)(m:Int)(hm:ms[i]? =some m)(hr:0≤bY∧bY < m)(b:Bool)(v:Int)(mP:0≤bB∧bB≤1000000000)(w:World)(F:Nat→Prop)(hp:(xW L ms ws bB).sat F w)(hF:∀b,F b→b < w.heap.size):
  Cz 269 #[.pointer (some ⟨L.b,0,none⟩),.int .u32 a,.bool b,.int .u32 v] w (Wr (.tuple #[iv bB,iv 0]) (xW L ms (ws.set i (some ⟨bB,b,bY,v⟩)) (bB+1)) w F):=by
 have hin:bZ ms.length (i:Int)=true:=decide_eq_true (by omega)
 have hmi:(aM ms)[i]? =some (iv m):=by simp[aM,hm]
 refine cS func269 ntmps269 hp hF ?_;generalize cN:(⟨w,fun b=>b < w.heap.size∧¬F b⟩:Piece)=R0;refine aA ?_;refine aU (fun w1 t=>aHm a i bY z0 z1 z2 z3 w1) ?_;refine aA ?_;refine aU (fun w1 st=>aA8 L ms ws bB i w1 (st.aHn 0 rfl)) ?_;rw[hin];refine aHI 0 i rfl hi fun vs hv=>?_;rw[h0];dsimp only[List.set];refine aV 4 1 ?_;refine aRu (p:=∃A,vs.getD i undef=.slice A 0 0) 1 rfl fun⟨A,hA⟩=>?_
 have Ub:vs[i]? =some (.slice A 0 0):=by
  obtain⟨u,h1⟩:=get_some (l:=vs) (i:=i) (by omega);rw[List.getD_eq_getElem?_getD,h1] at hA;rw[h1];exact congrArg some hA
 refine aA ?_;refine bT (t:=26) rfl (fun h=>absurd h (by omega)) (fun _=>?_);refine aA ?_;refine kd (dat i i) ?_;refine aA ?_;refine kd (bH rfl (Rd.aE 0 rfl hmi)) ?_;refine aA ?_;refine aG rfl (fun h=>absurd h (by omega)) (fun _=>?_);refine aA ?_;refine kd (dat i i) ?_;refine aA ?_;refine kd (bH rfl (Rd.aE 2 rfl Ub)) ?_;refine aA ?_;refine eN rfl rfl ?_ (hs:=eJ.mk 4 rfl cO.h rfl (by simp[Wo]));dsimp only[List.set];rw[show(Wo L ms bB).set (0+2) (iv (bB+1))=Wo L ms (bB+1) from rfl];refine aA ?_;refine iX [1,2,3,6,7,8,10,11] ?_;refine bJ 0 ?_;refine aK 1 ?_;refine aK 2 ?_;refine aK 3 ?_;refine bJ 4 ?_;refine bJ 5 ?_;refine aK 6 ?_;refine aK 7 ?_;refine aK 8 ?_;refine bJ 9 ?_;refine aK 10 ?_ (hi:=rfl) (cM:=dat i i);refine aK 11 ?_ (hi:=rfl) (cM:=bH rfl (Rd.aE 2 rfl Ub));refine bJ 12 ?_;refine bJ 13 ?_;refine bJ 14 ?_;refine bJ 15 ?_;refine aL 16 ?_;refine kd (iN rfl) ?_;refine aZ ?_;refine aL 17 ?_;refine eK fun g4=>?_;refine aZ ?_;refine aL 18 ?_;refine aIU 4 32 1 (el:=306) (by kernel_rfl) (by kernel_rfl) (by decide) rfl rfl (mM 0 rfl rfl) (by simp[Value.oneCell']) (by decide) (by decide) (by decide) (by decide) fun An cn=>?_;refine aZ ?_;refine aL 19 ?_;refine kd (dat i i) ?_;refine cE ?_;refine aL 20 ?_;refine eN rfl rfl ?_ (hs:=eJ.mk 4 rfl cO.h rfl (by omega));dsimp only[List.set];refine cE ?_;refine dW ?_;refine aA ?_;refine aT [2,0,4,5,6,7] rfl (by decide) (fun _ h=>h) ?_;refine aJ 4 1 ?_;refine aHN (v:=.slice An 1 cn) (q:=some ⟨bB,b,bY,v⟩) 0 i rfl hi hv hw ?_;dsimp only[List.set];subst cN;exact fQ rfl rfl rfl fun w1 st=>⟨rfl,st.turns hF (by simp) (i:=0) rfl⟩
end
section
def xL(s:aC)(x:aS)(i:Nat):Bool:=match s.aD[i]? with
 | some d=>tO s x.ck d.clock&&(decide (sC x.dm d.domain=49)&& !Ig x.ln d.reset)
 | none=>false
def wF(x:aS)(i:Nat):Int:=((x.dv[i]?).map fun p=>oO p.2.at_).getD 0
theorem aBc{w0:World}{R:List Piece}{H:List HP}{b o:Nat}{vs:List Value}{v:Value}(j:Nat)(h:aO w0 R H b o vs)(hv:vs[j]? =some v):Rd w0 R H b (o+j) v:=fun w st=>h w st j v hv
section
variable(L:HL)(s:aC)(x:aS)(w:World)
theorem aGf(hH:s.dJ)(i:Int)(hR:tH w L s x):Cz 179 #[.pointer (some ⟨L.h,0,none⟩),iv i] w (Rt (.bool (tO s x.ck i)) w):=by
 have k0:=hR.r0.at_ (j:=0) rfl
 refine aN func179 ntmps179 ?_;refine aA ?_;refine aU (fun w1 t=>Ay L s x w1 (hR.below (t.below (by simp)))) ?_;refine aA ?_;refine aU (fun w1 t=>Wl L.T s x.ck hH i w1 (hR.tree.below (t.below (by simp)))) ?_;refine aA ?_;exact dI
theorem aGk(hH:s.dJ)(aQ:fZ L s)(hok:cT s x)(i:Nat)(hi:i < s.aD.length)(hR:tH w L s x):Cz 93 #[.pointer (some ⟨L.h,0,none⟩),iv (i:Int)] w (Rt (.bool (xL s x i)) w):=by
 have k0:=hR.r0.at_ (j:=0) rfl
 have k1:=hR.r0.at_ (j:=1) rfl
 have k2:=hR.r0.at_ (j:=2) rfl
 have k4:=hR.r0.at_ (j:=4) rfl
 have hls:=aQ.ds
 obtain⟨d,cY⟩:=get_some hi;obtain⟨l,iA⟩:=get_some (l:=L.ds) (i:=i) (by omega);obtain⟨b,off,hA,hr⟩:=aI.row hR.rows (rows:=vG s.aD L.ds) (fun r hr=>aCT r hr) (aCU cY iA) hi
 have hin:bZ s.aD.length (i:Int)=true:=decide_eq_true (by omega)
 have hal:xL s x i=(tO s x.ck d.clock&&(decide (sC x.dm d.domain=49)&& !Ig x.ln d.reset)):=by
  unfold xL;rw[cY]
 rw[hal];refine aN func93 ntmps93 ?_;refine aA ?_;refine aU (fun w1 t=>Pn L s x w1 i (hR.below (t.below (by simp)))) ?_;rw[hin];refine aA ?_;refine kd (dat i (off+i*6) (hx:=by rw[←hA];rfl)) ?_;refine aB ?_;refine bX fun g1=>?_;refine aA ?_;refine lV ?_;refine jC ?_;refine sZ (fun w1 t=>Wl L.T s x.ck hH d.clock w1 (hR.tree.below (t.below (by simp)))) ?_;cases hrun:tO s x.ck d.clock
 ·refine iV ?_;refine aA ?_;exact dI
 ·refine jC ?_;refine sZ (fun w1 t=>aFe L.G s x.dm hok.dm d.domain w1 (Bv.below hR.aCH (t.below (by simp)))) ?_;refine jC ?_;refine Mi 32 rfl (fun hp=>?_) (fun hp=>?_)
  ·rw[decide_eq_true hp];refine jC ?_;refine sZ (fun w1 t=>aEL L.R s x.ln d.reset w1 (hR.lines.below (t.below (by simp)))) ?_;refine iV ?_;refine aA ?_;exact dI
  ·rw[decide_eq_false hp];refine iV ?_;refine aA ?_;exact dI
theorem aGe(aQ:fZ L s)(hok:cT s x)(i:Nat)(hi:i < s.aD.length)(dD:Rv w)(hR:tH w L s x):Cz 174 #[.pointer (some ⟨L.h,0,none⟩),iv (i:Int)] w (Rt (.int .u8 (wF x i)) w):=by
 have k4:=hR.r0.at_ (j:=4) rfl
 have hls:=aQ.ds
 have lB:=hok.dv
 obtain⟨d,cY⟩:=get_some hi;obtain⟨l,iA⟩:=get_some (l:=L.ds) (i:=i) (by omega);obtain⟨p,gE⟩:=get_some (l:=x.dv) (i:=i) (by omega);obtain⟨b,off,hA,hr⟩:=aI.row hR.rows (rows:=vG s.aD L.ds) (fun r hr=>aCT r hr) (aCU cY iA) hi
 have k5:=hr.at_ (j:=5) rfl
 have hin:bZ s.aD.length (i:Int)=true:=decide_eq_true (by omega)
 have hst:wF x i=oO p.2.at_:=by
  unfold wF;rw[gE];rfl
 rw[hst];refine aN func174 ntmps174 ?_;refine aA ?_;refine aU (fun w1 t=>Pn L s x w1 i (hR.below (t.below (by simp)))) ?_;rw[hin];refine aA ?_;refine kd (dat i (off+i*6) (hx:=by rw[←hA];rfl)) ?_;refine aA ?_;refine aU (fun w1 t=>aFb l.2 p.2 (hok.each i d p cY gE).2 w1 (dD.below (t.below (by simp))) ((hR.below (t.below (by simp))).each i d l p cY iA gE).2) ?_;refine aA ?_;exact dI
def Gf(x:aS)(i:Nat):aS:={x with dv:=match x.dv[i]? with | some p=>x.dv.set i (p.1,(sX p.2).2) | none=>x.dv}
def yK(x:aS)(i:Nat):aS:={x with dv:=match x.dv[i]? with | some p=>x.dv.set i (p.1,(oH p.2).2) | none=>x.dv}
theorem aGj(hH:s.dJ)(aQ:fZ L s)(hok:cT s x)(i:Nat)(hi:i < s.aD.length)(F:Nat→Prop)(hp:(dM L s x).sat F w)(hF:∀b,F b→b < w.heap.size):
  Cz 207 #[.pointer (some ⟨L.h,0,none⟩),iv (i:Int)] w (fun y w'=>∃r:Int,y=.returned (iv r)∧True∧∃F',(dM L s (Gf x i)).sat F' w'∧iC w w' F F'):=by
 have hls:=aQ.ds
 have lB:=hok.dv
 obtain⟨d,cY⟩:=get_some hi;obtain⟨l,iA⟩:=get_some (l:=L.ds) (i:=i) (by omega);obtain⟨p,gE⟩:=get_some (l:=x.dv) (i:=i) (by omega)
 have hin:bZ s.aD.length (i:Int)=true:=decide_eq_true (by omega)
 have hX:Gf x i={x with dv:=x.dv.set i (p.1,(sX p.2).2)}:=by
  unfold Gf;rw[gE]
 rw[hX];refine cS func207 ntmps207 hp hF ?_;refine aA ?_;refine aU (fun w1 t=>Pn L s x w1 i (t.mG 0 rfl aQ hok)) ?_;rw[hin];refine aA ?_;refine kd (bH rfl (pJ 0 rfl rfl)) ?_;refine Mj 0 rfl aQ hok (by omega) fun b off hA=>?_;refine aA ?_;refine kd (dat i (off+i*6) (hx:=by rw[←hA];rfl)) ?_;refine aA ?_;refine kd (bH rfl (aBc (vs:=Ir d l) 5 (aO.dev 0 rfl aQ hok hA cY iA rfl) rfl)) ?_;refine Rf 0 i rfl cY iA gE ?_;dsimp only[List.set];refine aV 0 1 ?_;refine bU 0 (tF l.2 (sX p.2).2) (fun w1 F1 t h1 h2 h3=>aLk h1 h2) ?_;refine aJ 0 1 ?_;refine Rm 0 i rfl cY iA gE (p':=(p.1,(sX p.2).2)) ?_;dsimp only[List.set];refine aA ?_;exact mI rfl rfl fun w1 t=>⟨_,rfl,trivial,t.turns hF (by simp) (i:=0) rfl⟩
theorem aC9(hH:s.dJ)(aQ:fZ L s)(hok:cT s x)(i:Nat)(hi:i < s.aD.length)(F:Nat→Prop)(hp:(dM L s x).sat F w)(hF:∀b,F b→b < w.heap.size):
  Cz 175 #[.pointer (some ⟨L.h,0,none⟩),iv (i:Int)] w (fun y w'=>∃r:Int,y=.returned (iv r)∧True∧∃F',(dM L s (yK x i)).sat F' w'∧iC w w' F F'):=by
 have hls:=aQ.ds
 have lB:=hok.dv
 obtain⟨d,cY⟩:=get_some hi;obtain⟨l,iA⟩:=get_some (l:=L.ds) (i:=i) (by omega);obtain⟨p,gE⟩:=get_some (l:=x.dv) (i:=i) (by omega)
 have hin:bZ s.aD.length (i:Int)=true:=decide_eq_true (by omega)
 have hX:yK x i={x with dv:=x.dv.set i (p.1,(oH p.2).2)}:=by
  unfold yK;rw[gE]
 rw[hX];refine cS func175 ntmps175 hp hF ?_;refine aA ?_;refine aU (fun w1 t=>Pn L s x w1 i (t.mG 0 rfl aQ hok)) ?_;rw[hin];refine aA ?_;refine kd (bH rfl (pJ 0 rfl rfl)) ?_;refine Mj 0 rfl aQ hok (by omega) fun b off hA=>?_;refine aA ?_;refine kd (dat i (off+i*6) (hx:=by rw[←hA];rfl)) ?_;refine aA ?_;refine kd (bH rfl (aBc (vs:=Ir d l) 5 (aO.dev 0 rfl aQ hok hA cY iA rfl) rfl)) ?_;refine Rf 0 i rfl cY iA gE ?_;dsimp only[List.set];refine aV 0 1 ?_;refine bU 0 (tF l.2 (oH p.2).2) (fun w1 F1 t h1 h2 h3=>aLj h1 h2) ?_;refine aJ 0 1 ?_;refine Rm 0 i rfl cY iA gE (p':=(p.1,(oH p.2).2)) ?_;dsimp only[List.set];refine aA ?_;exact mI rfl rfl fun w1 t=>⟨_,rfl,trivial,t.turns hF (by simp) (i:=0) rfl⟩
end
end
section
def gZ(m t p k:Int):Int×Int:=
 if(fU 0 0 8 m).2≠0 then(0,(fU 0 0 8 m).2)
 else if(fU (fU 0 0 8 m).1 8 2 t).2≠0 then(0,(fU (fU 0 0 8 m).1 8 2 t).2)
 else if(fU (fU (fU 0 0 8 m).1 8 2 t).1 10 8 p).2≠0 then(0,(fU (fU (fU 0 0 8 m).1 8 2 t).1 10 8 p).2)
 else if(fU (fU (fU (fU 0 0 8 m).1 8 2 t).1 10 8 p).1 18 10 k).2≠0 then(0,(fU (fU (fU (fU 0 0 8 m).1 8 2 t).1 10 8 p).1 18 10 k).2)
 else((fU (fU (fU (fU 0 0 8 m).1 8 2 t).1 10 8 p).1 18 10 k).1,0)
def Li(m t p k:Int):List Value:=[iv m,iv t,iv p,iv k]
def Ka(w:Int):List Value:=if cK w 28 4≠0 then Li 0 0 0 0 else Li (cK w 0 8) (cK w 8 2) (cK w 10 8) (cK w 18 10)
def Cg(w:Int):Int:=if cK w 28 4≠0 then 2 else 0
theorem Gz(l:List Int):∀u∈dY l,u.oneCell'=true:=by
 intro u hu;simp only[dY,List.mem_map] at hu;obtain⟨_,_,rfl⟩:=hu;rfl
def aAZ(l:List Int)(v:Value)(w w':World):Prop:=∃A c,v=.slice A l.length c∧aI (fresh w w') 1 A l.length (dY l)
theorem aFi(m t p k:Int)(w:World):
  Cz 51 #[.agg #[iv m,iv t,iv p,iv k]] w (Rt (.tuple #[.int .u32 (gZ m t p k).1,iv (gZ m t p k).2]) w):=by
 refine aN func51 ntmps51 ?_;refine aB ?_;refine bN fun g1=>?_;refine aB ?_;refine cZ (fun w1 st=>Zb 0 0 8 m w1 (by unfold okF;omega)) ?_;refine aB ?_;refine aG rfl (fun h1=>?_) (fun h1=>?_)
 ·
  refine aB ?_;refine fQ rfl rfl rfl fun w1 st=>⟨by rw[gZ,if_pos h1];rfl,st.below (by simp)⟩
 ·
  refine aB ?_;refine cZ (fun w1 st=>Zb (fU 0 0 8 m).1 8 2 t w1 (by unfold okF;omega)) ?_;refine aB ?_;refine aG rfl (fun h2=>?_) (fun h2=>?_)
  ·
   refine aB ?_;refine fQ rfl rfl rfl fun w1 st=>⟨by rw[gZ,if_neg h1,if_pos h2];rfl,st.below (by simp)⟩
  ·
   refine aB ?_;refine cZ (fun w1 st=>Zb (fU (fU 0 0 8 m).1 8 2 t).1 10 8 p w1 (by unfold okF;omega)) ?_;refine aB ?_;refine aG rfl (fun h3=>?_) (fun h3=>?_)
   ·
    refine aB ?_;refine fQ rfl rfl rfl fun w1 st=>⟨by rw[gZ,if_neg h1,if_neg h2,if_pos h3];rfl,st.below (by simp)⟩
   ·
    refine aB ?_;refine cZ (fun w1 st=>Zb (fU (fU (fU 0 0 8 m).1 8 2 t).1 10 8 p).1 18 10 k w1 (by unfold okF;omega)) ?_;refine aB ?_;refine aG rfl (fun h4=>?_) (fun h4=>?_)
    ·
     refine aB ?_;refine fQ rfl rfl rfl fun w1 st=>⟨by rw[gZ,if_neg h1,if_neg h2,if_neg h3,if_pos h4];rfl,st.below (by simp)⟩
    ·
     refine aB ?_;refine fQ rfl rfl rfl fun w1 st=>⟨by rw[gZ,if_neg h1,if_neg h2,if_neg h3,if_neg h4];rfl,st.below (by simp)⟩
theorem aEu(w0:Int)(w:World):
  Cz 78 #[.int .u32 w0] w (Rt (.tuple #[.agg (Ka w0).toArray,iv (Cg w0)]) w):=by
 refine aN func78 ntmps78 ?_;refine aA ?_;refine bX fun g1=>?_;refine aA ?_;refine cZ (fun w1 st=>Tp w0 28 4 w1 (by unfold okF;omega)) ?_;refine aA ?_;refine aG rfl (fun h=>?_) (fun h=>?_)
 ·
  refine aA ?_;refine kd (iN rfl) ?_;refine rU rfl rfl ?_;simp only[fP,Value.cells,List.set,List.take,List.drop,List.nil_append,List.append_nil,List.length_cons,List.length_nil,List.cons_append,Nat.reduceAdd];refine aA ?_;refine yY rfl (n:=4) (vs:=Li 0 0 0 0) (by kernel_rfl) rfl rfl (aO.whole 0 rfl) rfl fun w1 st=>⟨by rw[Ka,Cg,if_pos h,if_pos h],st.below (by simp)⟩
 ·
  refine aA ?_;refine cZ (fun w1 st=>Tp w0 0 8 w1 (by unfold okF;omega)) ?_;refine aA ?_;refine cZ (fun w1 st=>Tp w0 8 2 w1 (by unfold okF;omega)) ?_;refine aA ?_;refine cZ (fun w1 st=>Tp w0 10 8 w1 (by unfold okF;omega)) ?_;refine aA ?_;refine cZ (fun w1 st=>Tp w0 18 10 w1 (by unfold okF;omega)) ?_;refine kd (iN rfl) ?_;refine rU rfl rfl ?_;simp only[fP,Value.cells,List.set,List.take,List.drop,List.nil_append,List.append_nil,List.length_cons,List.length_nil,List.cons_append,Nat.reduceAdd];refine aA ?_;refine yY rfl (n:=4) (vs:=Li (cK w0 0 8) (cK w0 8 2) (cK w0 10 8) (cK w0 18 10)) (by kernel_rfl) rfl rfl (aO.whole 0 rfl) rfl fun w1 st=>⟨by rw[Ka,Cg,if_neg h,if_neg h],st.below (by simp)⟩
theorem aKI(w0:Int)(A:Option Addr)(n c:Nat)(zs:List Int)(w:World)(hs:aI (all w) 1 A n (dY zs))(hn:n=zs.length)(hn2:n≤1000000):Cz 52 #[.int .u32 w0,.slice A n c] w (fun y w'=>(∃x,y=.returned x∧aAZ (w0::zs) x w w')∧Below w.heap.size w w'):=by
 refine aN func52 ntmps52 ?_;refine aB ?_;refine aBi 1 4 (el:=37) (c:=n+1) (k0:=1) (oP:=.i64) (by kernel_rfl) (by kernel_rfl) rfl (by rw[Int.natCast_add];rfl) (by omega) (by omega) (by decide) fun g1=>?_;refine aB ?_;refine eK fun g2=>?_;refine iF 1 1 4 1 (n':=1) (el:=37) (by kernel_rfl) (by kernel_rfl) (by decide) rfl rfl rfl (mM 0 rfl rfl) (by simp[Value.oneCell']) rfl (by omega) (by omega) (by decide) fun A1 c1=>?_;dsimp only[List.set];refine aB ?_;refine iF 1 1 4 n (n':=n+1) (el:=37) (by kernel_rfl) (by kernel_rfl) (by decide) rfl rfl rfl (sA (by simp) hs) (Gz _) (by omega) (by omega) (by omega) (by decide) fun A2 c2=>?_;dsimp only[List.set];refine aB ?_;refine dF [] [1] [] (by simp) rfl (by decide) (by decide) fun q hq _ hfr=>?_;obtain⟨F2,wJ,vQ⟩:=hq 1 _ (by simp) rfl;obtain⟨Am,cm,hBm,dP⟩:=zF (Y:=q.Z) wJ vQ;cases hBm;subst hn;refine mI rfl rfl fun w1 st=>⟨⟨_,rfl,A2,c2,rfl,?_⟩,st.below (by simp)⟩
 exact aI.le dP (st.mT (by simp) (hfr (by simp) (by simp)))
def aBg(l:List Int)(v:Value)(w w':World):Prop:=∃A c,v=.tuple #[.slice A l.length c,iv 0]∧aI (fresh w w') 1 A l.length (dY l)
theorem aP7(m t p k:Int)(A:Option Addr)(n c:Nat)(zs:List Int)(w:World)(hs:aI (all w) 1 A n (dY zs))(hn:n=zs.length)(hn2:n≤1000000)(hok:(gZ m t p k).2=0):Cz 24 #[.agg #[iv m,iv t,iv p,iv k],.slice A n c] w (fun y w'=>(∃x,y=.returned x∧aBg ((gZ m t p k).1::zs) x w w')∧Below w.heap.size w w'):=by
 refine aN func24 ntmps24 ?_;refine aB ?_;refine bN fun g1=>?_;refine aB ?_;refine cZ (fun w1 st=>aFi m t p k w1) ?_;refine aB ?_;refine aG rfl (fun h=>?_) (fun h=>?_)
 ·
  refine aB ?_;exact absurd hok h
 ·
  refine aB ?_;refine jN [] (aAZ ((gZ m t p k).1::zs)) (fun w1 st=>aKI (gZ m t p k).1 A n c zs w1 (hs.le (st.le (by simp))) hn hn2) ?_;rintro _ w1 q1 ⟨A1,c1,rfl,h1⟩ hf _ sO
  have sO:=sO (by simp)
  have h1:=h1.le hf
  clear hf;refine aB ?_;refine fQ rfl rfl rfl fun w1 st=>⟨⟨_,rfl,A1,c1,rfl,aI.le h1 (st.mT (by simp) sO)⟩,st.below (by simp)⟩
theorem aJa(pr m id v k:Int)(w:World)(hok:(gZ m 0 pr k).2=0):Cz 170 #[.agg #[iv pr,iv m,.int .u32 id,.int .u32 v],iv k] w (fun y w'=>(∃x,y=.returned x∧aBg [(gZ m 0 pr k).1,id,v] x w w')∧Below w.heap.size w w'):=by
 refine aN func170 ntmps170 ?_;refine aB ?_;refine bN fun g1=>?_;refine aB ?_;refine eK fun g2=>?_;refine jN [] (aBg ((gZ m 0 pr k).1::[id,v])) (fun w1 st=>aP7 m 0 pr k (some ⟨g2,0,none⟩) 2 2 [id,v] w1 (st.uU (i:=0) rfl rfl) rfl (by omega) hok) ?_;rintro _ w1 q1 ⟨A1,c1,rfl,h1⟩ hf _ sO
 have sO:=sO (by simp)
 have h1:=h1.le hf
 clear hf;refine aB ?_;refine fQ rfl rfl rfl fun w1 st=>⟨⟨_,rfl,A1,c1,rfl,aI.le h1 (st.mT (by simp) sO)⟩,st.below (by simp)⟩
end
section
def aBa(l:List Int)(v:Value)(hs:List HP)(_:Piece):Prop:=∃A c,v=.slice A l.length c∧hs=[HP.own 37 1 (.slice A l.length c) l.length (dY l)]
theorem aKK(w0:Int)(A:Option Addr)(n c:Nat)(zs:List Int)(w:World)(hs:aI (all w) 1 A n (dY zs))(hn:n=zs.length)(hn2:n≤1000000):Cz 52 #[.int .u32 w0,.slice A n c] w (fun y w'=>(∃v hs q,y=.returned v∧q.w=w'∧aBa (w0::zs) v hs q∧gI w hs q)∧Below w.heap.size w w'):=by
 refine aN func52 ntmps52 ?_;refine aB ?_;refine aBi 1 4 (el:=37) (c:=n+1) (k0:=1) (oP:=.i64) (by kernel_rfl) (by kernel_rfl) rfl (by rw[Int.natCast_add];rfl) (by omega) (by omega) (by decide) fun g1=>?_;refine aB ?_;refine eK fun g2=>?_;refine iF 1 1 4 1 (n':=1) (el:=37) (by kernel_rfl) (by kernel_rfl) (by decide) rfl rfl rfl (mM 0 rfl rfl) (by simp[Value.oneCell']) rfl (by omega) (by omega) (by decide) fun A1 c1=>?_;dsimp only[List.set];refine aB ?_;refine iF 1 1 4 n (n':=n+1) (el:=37) (by kernel_rfl) (by kernel_rfl) (by decide) rfl rfl rfl (sA (by simp) hs) (Gz _) (by omega) (by omega) (by omega) (by decide) fun A2 c2=>?_;dsimp only[List.set];refine aB ?_;subst hn;refine aT [1] rfl (by decide) (fun _ h=>h) ?_;refine dF [] [] [0] (by simp) rfl (by decide) (by decide) fun q _ _ hfr=>?_;exact aP (h:=fun w1 t=>⟨_,_,⟨w1,q.Z⟩,rfl,rfl,⟨A2,c2,rfl,rfl⟩,t.newR (by simp) (by simp) (hfr (by simp) (by simp))⟩)
theorem aQA(w0 st st':Int)(hst:IntKind.u32.wrap st=st')(A:Option Addr)(n c:Nat)(zs:List Int)(w:World)(hs:aI (all w) 1 A n (dY zs))(hn:n=zs.length)(hn2:n≤1000):
  Cz 145 #[.int .u32 w0,.int .i32 st,.slice A n c] w (fun y w'=>(∃v hs q,y=.returned v∧q.w=w'∧aBa (w0::st'::zs) v hs q∧gI w hs q)∧Below w.heap.size w w'):=by
 subst hn;refine aN func145 ntmps145 ?_;refine aA ?_;refine Cc (ds:=.int .i32) (by kernel_rfl) (by kernel_rfl) rfl hst (by decide) ?_;refine eK fun g1=>?_;refine eX (aBa [w0,st']) (fun w1 t=>aKK w0 _ 1 1 [st'] w1 (t.uU (i:=0) rfl rfl) rfl (by omega)) ?_;rintro _ _ q1 ⟨A1,c1,rfl,rfl⟩ _;dsimp only[List.cons_append,List.nil_append];refine aA ?_;refine iF 0 1 4 zs.length (n':=zs.length+2) (el:=37) (by kernel_rfl) (by kernel_rfl) (by decide) rfl rfl rfl (sA (by simp) hs) (Gz _) (by simp;omega) (by omega) (by omega) (by decide) fun A2 c2=>?_;dsimp only[List.set];refine aA ?_;refine aT [0] rfl (by decide) (R':=[all w]) (by simp) ?_;refine dF [] [] [0] (by simp) rfl (by decide) (by decide) fun q _ _ hfr=>?_;exact aP (h:=fun w1 t=>⟨_,_,⟨w1,q.Z⟩,rfl,rfl,⟨A2,c2,rfl,rfl⟩,t.newR (by simp) (by simp) (hfr (by simp) (by simp))⟩)
theorem Oq(i:Int)(w:World):Cz 97 #[iv i] w (Rt (.bool (bZ 2 i)) w):=by
 refine aN func97 ntmps97 ?_;refine aA ?_;refine bT (t:=5) rfl (fun h=>?_) (fun h=>?_)
 ·refine aA ?_;refine jI (by simp) ?_;unfold bZ
  congr 1
  simp;omega
 ·refine aA ?_;refine jI (by simp) ?_
  have:bZ 2 i=false:=decide_eq_false (by omega)
  rw[this]
def Ho(p:Int):Int:=if p=48 then 0 else if p=49 then 1 else if p=116 then 2 else 3
theorem aOg(p:Int)(w:World):Cz 183 #[.int .u8 p] w (Rt (.int .u32 (Ho p)) w):=by
 refine aN func183 ntmps183 ?_;refine aA ?_;refine aG rfl (fun h=>?_) (fun h=>?_)
 ·refine aA ?_;exact dI (by rw[Ho,if_pos h])
 ·refine aA ?_;refine aG rfl (fun h1=>?_) (fun h1=>?_)
  ·refine aA ?_;exact dI (by rw[Ho,if_neg h,if_pos h1])
  ·refine aA ?_;refine aG rfl (fun h2=>?_) (fun h2=>?_)
   ·refine aA ?_;exact dI (by rw[Ho,if_neg h,if_neg h1,if_pos h2])
   ·refine aA ?_;exact dI (by rw[Ho,if_neg h,if_neg h1,if_neg h2])
end
section
def nS(p:Piece)(x y:dR)(v:Value):Prop:=∃A1 k1 A2 k2 A3 k3 B1 m1 B2 m2 B3 m3,v=.agg #[.slice A1 x.d.length k1,.slice A2 x.c.length k2,.slice A3 x.l.length k3,.slice B1 y.d.length m1,.slice B2 y.c.length m2,.slice B3 y.l.length m3]∧
 aI p 1 A1 x.d.length (bG x.d)∧aI p 1 A2 x.c.length (bG x.c)∧aI p 1 A3 x.l.length (bG x.l)∧aI p 1 B1 y.d.length (bG y.d)∧aI p 1 B2 y.c.length (bG y.c)∧aI p 1 B3 y.l.length (bG y.l)
theorem nS.le{p q:Piece}{x y:dR}{v:Value}(h:nS p x y v)(hl:p.Le q):nS q x y v:=by
 obtain⟨A1,k1,A2,k2,A3,k3,B1,m1,B2,m2,B3,m3,h0,h1,h2,h3,h4,h5,h6⟩:=h;exact⟨A1,k1,A2,k2,A3,k3,B1,m1,B2,m2,B3,m3,h0,h1.le hl,h2.le hl,h3.le hl,h4.le hl,h5.le hl,h6.le hl⟩
def Mr(s:aC)(p:Piece):Nat→List Value→Prop
 | 0,cs=>cs=[.slice none 0 0,.slice none 0 0,.slice none 0 0,.slice none 0 0,.slice none 0 0,.slice none 0 0]
 | 1,cs=>∃a b c,cs=[a,b,c,.slice none 0 0,.slice none 0 0,.slice none 0 0]∧zD p (fI s) (.agg #[a,b,c])
 | _,cs=>∃a b c a' b' c',cs=[a,b,c,a',b',c']∧zD p (fI s) (.agg #[a,b,c])∧zD p (fI s) (.agg #[a',b',c'])
theorem Mr.len{s:aC}{p:Piece}:∀{i:Nat} {cs:List Value},Mr s p i cs→cs.length=6
 | 0,_,h=>by rw[show _=_ from h];rfl
 | 1,_,⟨_,_,_,h,_⟩=>by rw[h];rfl
 | _+2,_,⟨_,_,_,_,_,_,h,_⟩=>by rw[h];rfl
theorem Mr.next{s:aC}{p q:Piece}(hl:p.Le q){a b c:Value}(hw:zD q (fI s) (.agg #[a,b,c])){i:Nat}{cs:List Value}(hi:i < 2)(h:Mr s p i cs):Mr s q (i+1) (fP cs (i*3) [a,b,c]):=by
 obtain rfl | rfl:i=0∨i=1:=by omega
 ·have h0:cs=[sn,sn,sn,sn,sn,sn]:=h
  subst h0;exact⟨a,b,c,rfl,hw⟩
 ·obtain⟨a1,b1,c1,h0,h1⟩:=h;subst h0;exact⟨a1,b1,c1,a,b,c,rfl,zD.le h1 hl,hw⟩
theorem aB0(s:aC)(A1 A2 A3 A4:Option Addr)(k1 k2 k3 k4:Nat)(w:World)(hm:s.qH):
  Cz 14 #[.agg #[.slice A1 s.aF.length k1,.slice A2 s.domains.length k2,.slice A3 s.bA.length k3,.slice A4 s.aD.length k4]] w (Rp (fun v w w'=>nS (fresh w w') (fI s) (fI s) v) w):=by
 have hn9:=hm.nc
 have uA:=hm.nd
 have sL:=hm.nr
 refine aN func14 ntmps14 ?_;refine aB ?_;refine bN fun g1=>?_;refine bX fun g2=>?_;refine aB ?_;refine bX fun g3=>?_;refine aB ?_;refine bL [(5,iv 0),(3,pt g3),(2,pt g2),(1,pt g1)] ?_;refine yZ ⟨w,fun _=>False⟩ (by simp) (fun _ h=>h.elim) ?_;refine aB ?_;refine eV (fun m e R H=>∃(i:Nat) (cs:List Value) (qs:Piece),i≤2∧m=2 - i∧Mr s qs i cs∧qS w qs∧e=[(5,iv i),(3,pt g3),(2,pt g2),(1,pt g1)]∧R=[qs,all w]∧H=[HP.aE g3 58 cs,HP.aE g2 58 [sn,sn,sn,sn,sn,sn],HP.aE g1 30 [.slice A1 s.aF.length k1,.slice A2 s.domains.length k2,.slice A3 s.bA.length k3,.slice A4 s.aD.length k4]]) 2 ⟨0,_,⟨w,fun _=>False⟩,by omega,rfl,rfl,(fun _ h=>h.elim),rfl,rfl,rfl⟩ fun m e R H hI=>?_;obtain⟨i,cs,qs,hi2,rfl,hcs,aGb,rfl,rfl,rfl⟩:=hI;refine aB ?_;refine aG rfl (fun h=>?_) (fun h=>?_)
 ·
  refine oA ?_;refine eB ?_;refine eA ?_;refine xN ?_;refine eA ?_;refine fR ?_;refine dN rfl (by decide) ?_;refine jM rfl (by decide) ?_;refine fD ?_;refine qP 15 (by kernel_rfl) (by kernel_rfl) ?_;refine fX 0 rfl rfl rfl (lS rfl) ?_;refine fX 1 rfl rfl rfl (Dr (off:=1) (by kernel_rfl) rfl) ?_;refine fX 2 rfl rfl rfl (Iu rfl) ?_;refine fX 3 rfl rfl rfl (Ma (el:=88) (by kernel_rfl) rfl) ?_;refine fX 5 rfl rfl rfl (Dr (off:=0) (by kernel_rfl) rfl) ?_;refine fX 6 rfl rfl rfl (Iu rfl) ?_;refine fX 7 rfl rfl rfl (Ma (el:=86) (by kernel_rfl) rfl) ?_;refine fX 9 rfl rfl rfl (Dr (off:=2) (by kernel_rfl) rfl) ?_;refine fX 10 rfl rfl rfl (Iu rfl) ?_;refine fX 11 rfl rfl rfl (Ma (el:=90) (by kernel_rfl) rfl) ?_;refine fX 14 rfl rfl rfl (Dr (off:=0) (by kernel_rfl) rfl) ?_;refine aHS (fuel:=3) [4,8,12] [[4,8,12]] (fun i=>match i with | 4=>⟨12,4,List.replicate s.domains.length (.bool false),fun g=>.slice (some ⟨g,0,none⟩) s.domains.length s.domains.length⟩ | 8=>⟨16,4,List.replicate s.aF.length (.bool false),fun g=>.slice (some ⟨g,0,none⟩) s.aF.length s.aF.length⟩ | _=>⟨20,4,List.replicate s.bA.length (.bool false),fun g=>.slice (some ⟨g,0,none⟩) s.bA.length s.bA.length⟩) (fun i hi=>?_) (by show[12,16,20].Nodup;decide) (by kernel_rfl) (fun _ h=>h) (fun sub hsub hex g=>?_)
  ·simp only[List.mem_cons,List.not_mem_nil,or_false] at hi;rcases hi with rfl | rfl | rfl
   ·exact Eg.of rfl rfl rfl (Ol 1 (el:=4) (z:=.bool false) (by kernel_rfl) (by kernel_rfl) rfl rfl rfl (by omega) (by omega)) (Nat.le_of_ble_eq_true rfl) rfl
   ·exact Eg.of rfl rfl rfl (Ol 1 (el:=4) (z:=.bool false) (by kernel_rfl) (by kernel_rfl) rfl rfl rfl (by omega) (by omega)) (Nat.le_of_ble_eq_true rfl) rfl
   ·exact Eg.of rfl rfl rfl (Ol 1 (el:=4) (z:=.bool false) (by kernel_rfl) (by kernel_rfl) rfl rfl rfl (by omega) (by omega)) (Nat.le_of_ble_eq_true rfl) rfl
  have jB:sub=[4,8,12]:=by simpa using hex
  have er:∀n:Nat,List.replicate n (Value.bool false)=bG (List.replicate n false):=fun n=>by simp[bG]
  have hi:i < 2:=by have h':(i:Int) < 2:=h;omega
  have hlen:=hcs.len
  subst jB;dsimp only[rF,vD,lA,List.map,List.foldr,List.cons_append,List.nil_append,List.length_cons,List.length_nil,Nat.reduceAdd,Nat.reduceSub];refine fH 13 rfl rfl rfl (by decide) (kS (zs:=[sn,sn,sn]) (L:=[(0,1),(1,1),(2,1)]) (gY (by kernel_rfl)) (by kernel_rfl) rfl (by simp[fB,gB,Value.cells];rfl)) (by kernel_rfl) (fun _ _ _ h=>h) (fun _ h=>h.tail.tail.tail) ?_;refine cJ 15 ?_;refine aEk i (i*3) (el:=55) (sz:=3) (by kernel_rfl) (by kernel_rfl) rfl rfl rfl hi (by omega) (by decide) ?_;refine eR ?_;refine cJ 16 ?_;refine qC 3 rfl rfl rfl (by kernel_rfl) (by simp[Value.cells,Value.oneCell']) (by simp[Value.cells];omega) ?_;dsimp only[List.set];rw[show(Value.agg [.slice (some ⟨g 4,0,none⟩) s.domains.length s.domains.length,.slice (some ⟨g 8,0,none⟩) s.aF.length s.aF.length,.slice (some ⟨g 12,0,none⟩) s.bA.length s.bA.length].toArray).cells.toList=[.slice (some ⟨g 4,0,none⟩) s.domains.length s.domains.length,.slice (some ⟨g 8,0,none⟩) s.aF.length s.aF.length,.slice (some ⟨g 12,0,none⟩) s.bA.length s.bA.length] from rfl];refine eR ?_;refine kJ ?_;refine eB ?_;refine fR ?_;refine Ei rfl rfl (iT (by omega)) (by decide) ?_;refine dN rfl (by decide) ?_;refine fD ?_;refine dF [qs] [0,1,2] [3,4,5] (by simp) rfl (by decide) (by decide) fun qn Pd hle hfr=>?_
  have hfn:=hfr (by simp) (fun p hp=>by simp only[List.mem_cons,List.not_mem_nil,or_false] at hp;subst hp;exact aGb)
  have b1:aI qn 1 (some ⟨g 4,0,none⟩) (s.domains.length) (List.replicate (s.domains.length) (Value.bool false)):=qR (n:=s.domains.length) (sz:=1) (c:=0) (Pd 0 _ (by simp) rfl).choose_spec.1 (Pd 0 _ (by simp) rfl).choose_spec.2 (by simp)
  have b2:aI qn 1 (some ⟨g 8,0,none⟩) (s.aF.length) (List.replicate (s.aF.length) (Value.bool false)):=qR (n:=s.aF.length) (sz:=1) (c:=0) (Pd 1 _ (by simp) rfl).choose_spec.1 (Pd 1 _ (by simp) rfl).choose_spec.2 (by simp)
  have b3:aI qn 1 (some ⟨g 12,0,none⟩) (s.bA.length) (List.replicate (s.bA.length) (Value.bool false)):=qR (n:=s.bA.length) (sz:=1) (c:=0) (Pd 2 _ (by simp) rfl).choose_spec.1 (Pd 2 _ (by simp) rfl).choose_spec.2 (by simp)
  rw[er] at b1 b2 b3
  have hww:zD qn (fI s) (.agg #[.slice (some ⟨g 4,0,none⟩) s.domains.length s.domains.length,.slice (some ⟨g 8,0,none⟩) s.aF.length s.aF.length,.slice (some ⟨g 12,0,none⟩) s.bA.length s.bA.length]):=by
   unfold zD fI;simp only[List.length_replicate];exact⟨_,_,_,_,_,_,rfl,b1,b2,b3⟩
  refine vK (R':=[qn,all w]) (by simp) ?_;exact eP (2 - (i+1)) ⟨i+1,_,qn,by omega,rfl,Mr.next (hle qs (by simp)) hww hi hcs,hfn,rfl,rfl,rfl⟩
 ·
  refine aDw ?_;refine eB ?_;refine eA ?_
  have hie:i=2:=by have h':¬(i:Int) < 2:=h;omega
  subst hie;obtain⟨a,b,c,a',b',c',rfl,hw1,hw2⟩:=hcs;obtain⟨D1,d1,D2,d2,D3,d3,e1,x1,x2,x3⟩:=hw1;obtain⟨F1,f1,F2,f2,F3,f3,e2,y1,y2,y3⟩:=hw2;cases e1;cases e2;refine fR ?_;refine aIM 6 rfl ?_;refine rU rfl rfl ?_;simp only[fP,Value.cells,List.set,List.take,List.drop,List.nil_append,List.append_nil,List.length_cons,List.length_nil,List.cons_append,Nat.reduceAdd];refine aB ?_
  exact Ml rfl (by kernel_rfl) rfl rfl (aO.whole 1 rfl) fun w1 st=>⟨⟨_,rfl,by
   have hl:=st.mT (by simp) aGb
   exact⟨_,_,_,_,_,_,_,_,_,_,_,_,rfl,x1.le hl,x2.le hl,x3.le hl,y1.le hl,y2.le hl,y3.le hl⟩⟩,st.below (by simp)⟩
end
section
def pQ(k:Int):Prop:=k=117∨k=99∨k=114
instance(k:Int):Decidable (pQ k):=by unfold pQ;infer_instance
def Ah(s:aC)(p:Int):Nat:=if p=17 then s.domains.length else if p=20 then s.aF.length else if p=22 then s.bA.length else 0
def gD(k:Int)(v0 v1 v2:Value):Value:=if k=117∨k=100∨k=107 then v0 else if k=99∨k=111 then v1 else if k=114∨k=97 then v2 else sn
def Hw(k:Int)(x:dR):List Bool:=if k=117∨k=100∨k=107 then x.d else if k=99∨k=111 then x.c else if k=114∨k=97 then x.l else[]
def qV(x:dR)(k id:Int):Bool:=decide (0≤id)&&hasB (Hw k x) id.toNat
theorem fS.thn{w w':World}{g o:Nat}{v:Value}(h:fS w g o v)(hb:Below w.heap.size w w'):fS w' g o v:=⟨Nat.lt_of_lt_of_le h.1 hb.size,(hb.cell (p:=⟨g,o,none⟩) h.1).trans h.2⟩
def Xi(w:World)(g o:Nat)(x:dR):Prop:=∃A1 k1 A2 k2 A3 k3,fS w g o (.slice A1 x.d.length k1)∧fS w g (o+1) (.slice A2 x.c.length k2)∧fS w g (o+2) (.slice A3 x.l.length k3)∧
 aI (all w) 1 A1 x.d.length (bG x.d)∧aI (all w) 1 A2 x.c.length (bG x.c)∧aI (all w) 1 A3 x.l.length (bG x.l)
theorem aME{w:World}{x:dR}{A1 A2 A3:Option Addr}{k1 k2 k3:Nat}(h1:aI (all w) 1 A1 x.d.length (bG x.d))(h2:aI (all w) 1 A2 x.c.length (bG x.c))(h3:aI (all w) 1 A3 x.l.length (bG x.l))(k:Int):
  ∃A c,gD k (.slice A1 x.d.length k1) (.slice A2 x.c.length k2) (.slice A3 x.l.length k3)=.slice A (Hw k x).length c∧aI (all w) 1 A (Hw k x).length (bG (Hw k x)):=by
 unfold gD Hw;split
 ·exact⟨_,_,rfl,h1⟩
 ·split
  ·exact⟨_,_,rfl,h2⟩
  ·split
   ·exact⟨_,_,rfl,h3⟩
   ·exact⟨_,_,rfl,aI.nil _ _⟩
theorem aBM(k:Int)(w:World):
  Cz 30 #[.int .u8 k] w (Rt (.bool (decide (pQ k))) w):=by
 refine aN func30 ntmps30 ?_;refine aB ?_
 (first | refine bT (t:=5) rfl (fun hg=>?_) (fun hg=>?_) | refine qD (t:=5) rfl (fun hg=>?_) (fun hg=>?_))
 ·
  refine aB ?_;exact aP (h:=fun _ _=>by simp_all [pQ])
 ·
  refine aB ?_
  (first | refine bT (t:=9) rfl (fun hg=>?_) (fun hg=>?_) | refine qD (t:=9) rfl (fun hg=>?_) (fun hg=>?_))
  ·
   refine aB ?_;exact aP (h:=fun _ _=>by simp_all [pQ])
  ·
   refine aB ?_;exact aP (h:=fun _ _=>by simp_all [pQ])
theorem aLU(s:aC)(A1 A2 A3 A4:Option Addr)(k1 k2 k3 k4:Nat)(p:Int)(w:World):
  Cz 80 #[.agg #[.slice A1 s.aF.length k1,.slice A2 s.domains.length k2,.slice A3 s.bA.length k3,.slice A4 s.aD.length k4],iv p] w (Rt (iv (Ah s p)) w):=by
 refine aN func80 ntmps80 ?_;refine aB ?_;refine bN fun g1=>?_;refine aB ?_;refine aG rfl (fun h=>?_) (fun h=>?_)
 ·
  refine aB ?_;exact aP (h:=fun _ _=>by simp_all [Ah])
 ·
  refine aB ?_;refine aG rfl (fun h=>?_) (fun h=>?_)
  ·
   refine aB ?_;exact aP (h:=fun _ _=>by simp_all [Ah])
  ·
   refine aB ?_;refine aG rfl (fun h=>?_) (fun h=>?_)
   ·
    refine aB ?_;exact aP (h:=fun _ _=>by simp_all [Ah])
   ·
    refine aB ?_;exact aP (h:=fun _ _=>by simp_all [Ah])
theorem aCh(g o:Nat)(k:Int)(v0 v1 v2:Value)(w:World)(h0:fS w g o v0)(h1:fS w g (o+1) v1)(h2:fS w g (o+2) v2):
  Cz 82 #[.pointer (some ⟨g,o,none⟩),.int .u8 k] w (Rt (gD k v0 v1 v2) w):=by
 refine aN func82 ntmps82 ?_;refine aB ?_;refine aG rfl (fun h=>?_) (fun h=>?_)
 ·
  refine aB ?_;refine aG rfl (fun h=>?_) (fun h=>?_)
  ·
   refine aB ?_;exact aP (h:=fun _ _=>by simp_all [gD])
  ·
   refine aB ?_;refine aG rfl (fun h=>?_) (fun h=>?_)
   ·
    refine aB ?_;refine aG rfl (fun h=>?_) (fun h=>?_)
    ·
     refine aB ?_;exact aP (h:=fun _ _=>by simp_all [gD])
    ·
     refine aB ?_;refine aG rfl (fun h=>?_) (fun h=>?_)
     ·
      refine aB ?_;refine aG rfl (fun h=>?_) (fun h=>?_)
      ·
       refine aB ?_;exact aP (h:=fun _ _=>by simp_all [gD])
      ·
       refine aB ?_;exact aP (h:=fun _ _=>by simp_all [gD])
     ·
      refine aB ?_;refine aG rfl (fun h=>?_) (fun h=>?_)
      ·
       refine aB ?_;exact aP (h:=fun _ _=>by simp_all [gD])
      ·
       refine aB ?_;exact aP (h:=fun _ _=>by simp_all [gD])
   ·
    refine aB ?_;refine aG rfl (fun h=>?_) (fun h=>?_)
    ·
     refine aB ?_;exact aP (h:=fun _ _=>by simp_all [gD])
    ·
     refine aB ?_;refine aG rfl (fun h=>?_) (fun h=>?_)
     ·
      refine aB ?_;refine aG rfl (fun h=>?_) (fun h=>?_)
      ·
       refine aB ?_;exact aP (h:=fun _ _=>by simp_all [gD])
      ·
       refine aB ?_;exact aP (h:=fun _ _=>by simp_all [gD])
     ·
      refine aB ?_;refine aG rfl (fun h=>?_) (fun h=>?_)
      ·
       refine aB ?_;exact aP (h:=fun _ _=>by simp_all [gD])
      ·
       refine aB ?_;exact aP (h:=fun _ _=>by simp_all [gD])
 ·
  refine aB ?_;refine aG rfl (fun h=>?_) (fun h=>?_)
  ·
   refine aB ?_;refine aG rfl (fun h=>?_) (fun h=>?_)
   ·
    refine aB ?_;exact aP (h:=fun _ _=>by simp_all [gD])
   ·
    refine aB ?_;refine aG rfl (fun h=>?_) (fun h=>?_)
    ·
     refine aB ?_;refine aG rfl (fun h=>?_) (fun h=>?_)
     ·
      refine aB ?_;exact aP (h:=fun _ _=>by simp_all [gD])
     ·
      refine aB ?_;refine aG rfl (fun h=>?_) (fun h=>?_)
      ·
       refine aB ?_;refine aG rfl (fun h=>?_) (fun h=>?_)
       ·
        refine aB ?_;exact aP (h:=fun _ _=>by simp_all [gD])
       ·
        refine aB ?_;exact aP (h:=fun _ _=>by simp_all [gD])
      ·
       refine aB ?_;refine aG rfl (fun h=>?_) (fun h=>?_)
       ·
        refine aB ?_;exact aP (h:=fun _ _=>by simp_all [gD])
       ·
        refine aB ?_;exact aP (h:=fun _ _=>by simp_all [gD])
    ·
     refine aB ?_;refine aG rfl (fun h=>?_) (fun h=>?_)
     ·
      refine aB ?_;exact aP (h:=fun _ _=>by simp_all [gD])
     ·
      refine aB ?_;refine aG rfl (fun h=>?_) (fun h=>?_)
      ·
       refine aB ?_;refine aG rfl (fun h=>?_) (fun h=>?_)
       ·
        refine aB ?_;exact aP (h:=fun _ _=>by simp_all [gD])
       ·
        refine aB ?_;exact aP (h:=fun _ _=>by simp_all [gD])
      ·
       refine aB ?_;refine aG rfl (fun h=>?_) (fun h=>?_)
       ·
        refine aB ?_;exact aP (h:=fun _ _=>by simp_all [gD])
       ·
        refine aB ?_;exact aP (h:=fun _ _=>by simp_all [gD])
  ·
   refine aB ?_;refine aG rfl (fun h=>?_) (fun h=>?_)
   ·
    refine aB ?_;exact aP (h:=fun _ _=>by simp_all [gD])
   ·
    refine aB ?_;refine aG rfl (fun h=>?_) (fun h=>?_)
    ·
     refine aB ?_;refine aG rfl (fun h=>?_) (fun h=>?_)
     ·
      refine aB ?_;exact aP (h:=fun _ _=>by simp_all [gD])
     ·
      refine aB ?_;refine aG rfl (fun h=>?_) (fun h=>?_)
      ·
       refine aB ?_;refine aG rfl (fun h=>?_) (fun h=>?_)
       ·
        refine aB ?_;exact aP (h:=fun _ _=>by simp_all [gD])
       ·
        refine aB ?_;exact aP (h:=fun _ _=>by simp_all [gD])
      ·
       refine aB ?_;refine aG rfl (fun h=>?_) (fun h=>?_)
       ·
        refine aB ?_;exact aP (h:=fun _ _=>by simp_all [gD])
       ·
        refine aB ?_;exact aP (h:=fun _ _=>by simp_all [gD])
    ·
     refine aB ?_;refine aG rfl (fun h=>?_) (fun h=>?_)
     ·
      refine aB ?_;exact aP (h:=fun _ _=>by simp_all [gD])
     ·
      refine aB ?_;refine aG rfl (fun h=>?_) (fun h=>?_)
      ·
       refine aB ?_;refine aG rfl (fun h=>?_) (fun h=>?_)
       ·
        refine aB ?_;exact aP (h:=fun _ _=>by simp_all [gD])
       ·
        refine aB ?_;exact aP (h:=fun _ _=>by simp_all [gD])
      ·
       refine aB ?_;refine aG rfl (fun h=>?_) (fun h=>?_)
       ·
        refine aB ?_;exact aP (h:=fun _ _=>by simp_all [gD])
       ·
        refine aB ?_;exact aP (h:=fun _ _=>by simp_all [gD])
theorem aBp(g ag:Nat)(x:dR)(k id:Int)(w:World)(hag:ag < 2)(hM:Xi w g (ag*3) x):
  Cz 29 #[pt g,iv (ag:Int),.int .u8 k,iv id] w (Rt (.bool (qV x k id)) w):=by
 obtain⟨A1,k1,A2,k2,A3,k3,h1,h2,h3,s1,s2,s3⟩:=hM;obtain⟨A,c,hL,hS⟩:=aME (k1:=k1) (k2:=k2) (k3:=k3) s1 s2 s3 k;refine aN func29 ntmps29 ?_;refine aA ?_;refine aEk (ag) (ag*3) (n:=2) (el:=55) (sz:=3) (by kernel_rfl) (by kernel_rfl) rfl rfl (by omega) (by omega) (by omega) (by decide) ?_;refine aB ?_;refine cZ (fun w1 st=>aCh g (ag*3) k _ _ _ w1 (h1.thn (st.below (by simp))) (h2.thn (st.below (by simp))) (h3.thn (st.below (by simp)))) ?_;rw[hL];refine aB ?_
 (first | refine bT (t:=19) rfl (fun hg=>?_) (fun hg=>?_) | refine qD (t:=19) rfl (fun hg=>?_) (fun hg=>?_))
 ·
  refine aB ?_
  (first | refine bT (t:=25) rfl (fun hg=>?_) (fun hg=>?_) | refine qD (t:=25) rfl (fun hg=>?_) (fun hg=>?_))
  ·
   obtain⟨i,rfl⟩:∃i:Nat,id=(i:Int):=⟨id.toNat,by omega⟩
   have hil:i < (Hw k x).length:=by omega
   obtain⟨b,off,rfl,hz,hc⟩:=hS.2 (by omega);obtain⟨v,hv⟩:∃v,(Hw k x)[i]? =some v:=⟨_,List.getElem?_eq_getElem hil⟩
   refine jA rfl rfl ?_;refine dN rfl (by decide) ?_;refine jA rfl rfl ?_;refine dN rfl (by decide) ?_;refine jA rfl rfl ?_;refine kd (dat (i) (off+i)) ?_;refine jA rfl rfl ?_;refine kV (by kernel_rfl) rfl (Rd.ro (p:=all w) (by simp) hz (hc i _ (aHo hv))) (by decide) ?_
   (first | refine rX rfl rfl (by decide) ?_ | refine rY rfl rfl (by decide) ?_)
   refine jM rfl (by decide) ?_;refine fD ?_;refine Re ?_;refine eB ?_;exact aP (h:=fun _ _=>by simp[qV,hasB,hv])
  ·
   refine aB ?_
   have hn:hasB (Hw k x) id.toNat=false:=by rw[hasB,List.getElem?_eq_none (by omega)];rfl
   exact aP (h:=fun _ _=>by simp[qV,hn])
 ·
  refine aB ?_
  have hn:decide (0≤id)=false:=by simp;omega
  exact aP (h:=fun _ _=>by simp[qV,hn])
end
section
def StM(w:World)(g:Nat)(x y:dR):Prop:=∀i,i < 2→Xi w g (i*3) (if i=0 then x else y)
def tM(x y:dR)(k id:Int):Bool:=qV x k id||qV y k id
theorem Xi.thn{w w':World}{g o:Nat}{x:dR}(h:Xi w g o x)(hb:Below w.heap.size w w'):Xi w' g o x:=by
 obtain⟨A1,k1,A2,k2,A3,k3,h1,h2,h3,s1,s2,s3⟩:=h
 have hl:(all w).Le (all w'):=fun b hb'=>⟨Nat.lt_of_lt_of_le hb' hb.size,hb.block b hb'⟩
 exact⟨A1,k1,A2,k2,A3,k3,h1.thn hb,h2.thn hb,h3.thn hb,s1.le hl,s2.le hl,s3.le hl⟩
theorem aBq(g:Nat)(x y:dR)(k id:Int)(w:World)(hM:StM w g x y):
  Cz 31 #[pt g,.int .u8 k,iv id] w (Rt (.bool (tM x y k id)) w):=by
 refine aN func31 ntmps31 ?_;refine aB ?_;refine bL [(8,iv 0),(2,iv id),(1,.int .u8 k),(0,pt g)] ?_;refine aB ?_;refine eV (fun m e R H=>∃(i:Nat),i≤2∧m=2 - i∧(∀j,j < i→qV (if j=0 then x else y) k id=false)∧e=[(8,iv i),(2,iv id),(1,.int .u8 k),(0,pt g)]∧R=[all w]∧H=[]) 2 ⟨0,by omega,rfl,(fun j hj=>absurd hj (Nat.not_lt_zero j)),rfl,rfl,rfl⟩ fun m e R H hI=>?_;obtain⟨i,hi,rfl,hno,rfl,rfl,rfl⟩:=hI;refine aB ?_;refine aG rfl (fun h=>?_) (fun h=>?_)
 ·
  refine aB ?_
  have hi2:i < 2:=by have h':(i:Int) < 2:=h;omega
  refine cZ (fun w1 st=>aBp g i (if i=0 then x else y) k id w1 hi2 ((hM i hi2).thn (st.below (by simp)))) ?_;refine aB ?_;refine pE rfl (fun hw=>?_) (fun hw=>?_)
  ·
   refine aB ?_
   have hr:tM x y k id=true:=by
    unfold tM;rcases(by omega:i=0∨i=1) with rfl | rfl
    ·simp at hw;simp[hw]
    ·simp at hw;simp[hw]
   exact aP (h:=fun _ _=>by rw[hr])
  ·
   refine aB ?_
   exact eP (2 - (i+1)) ⟨i+1,by omega,rfl,(fun j hj=>by
    rcases Nat.lt_or_ge j i with h1 | h1
    ·exact hno j h1
    ·obtain rfl:j=i:=by omega
     exact hw),rfl,rfl,rfl⟩
 ·
  refine aB ?_
  have hi2:i=2:=by have h':¬(i:Int) < 2:=h;omega
  subst hi2
  have e0:=hno 0 (by omega)
  have e1:=hno 1 (by omega)
  have hr:tM x y k id=false:=by
   unfold tM;simp at e0 e1;simp[e0,e1]
  exact aP (h:=fun _ _=>by rw[hr])
theorem aJD(k:Int)(A:Option Addr)(n c:Nat)(r m d l:Int)(w:World):
  Cz 81 #[.agg #[.int .u8 k,.slice A n c,.int .u64 r,iv m,iv d,iv l]] w (Rt (.bool (decide (k=112∨k=103))) w):=by
 refine aN func81 ntmps81 ?_;refine aB ?_;refine bN fun g1=>?_;refine aB ?_
 (first | refine bT (t:=6) rfl (fun hg=>?_) (fun hg=>?_) | refine qD (t:=6) rfl (fun hg=>?_) (fun hg=>?_))
 ·
  refine aB ?_;exact aP (h:=fun _ _=>by simp_all)
 ·
  refine aB ?_;exact aP (h:=fun _ _=>by simp_all)
end
section
def kP(p:Int×Int):Value:=.agg #[.int .i64 p.1,.int .i64 p.2]
def Jm(w:World)(r:Nat)(l:List ((Int×Int)×Value)):Prop:=∃es clock,w.heap[r]? =some (.map es clock)∧es.toList.map (fun x=>(x.key,x.val))=l.map fun p=>(kP p.1,p.2)
def kN(l:List ((Int×Int)×Value))(k:Int×Int):Option Value:=(l.find? fun p=>decide (p.1=k)).map (·.2)
theorem Kq(a:Int×Int)(b:Value)(l:List ((Int×Int)×Value))(k:Int×Int):kN ((a,b)::l) k=if a=k then some b else kN l k:=by
 unfold kN;rw[List.find?_cons]
 by_cases h:a=k<;>simp[h]
section
variable{P:Program}{w:World}{kt:TypeId}
theorem aOy(hfl:∀a b c d:Int,Pz P kt [.int .i64 a,.int .i64 b] [.int .i64 c,.int .i64 d]=true)(p q:Int×Int):(Op.equal kt (kP p) (kP q)).run P w=.ok (decide (q=p)) w:=by
 obtain⟨h,_⟩:=aKq (P:=P) (w:=w) (hfl p.1 p.2 q.1 q.2);rw[show kP p=.agg [Value.int .i64 p.1,.int .i64 p.2].toArray from rfl,show kP q=.agg [Value.int .i64 q.1,.int .i64 q.2].toArray from rfl,h]
 congr 1
 obtain⟨a,b⟩:=p;obtain⟨c,d⟩:=q;simp only[Qc,eqV,Prod.mk.injEq]
 by_cases h1:a=c
 ·subst h1
  by_cases h2:b=d
  ·subst h2;simp
  ·have h3:¬d=b:=fun e=>h2 e.symm
   simp[h2,h3]
 ·have h3:¬c=a:=fun e=>h1 e.symm
  simp[h1,h3]
theorem aHs(hfl:∀a b c d:Int,Pz P kt [.int .i64 a,.int .i64 b] [.int .i64 c,.int .i64 d]=true)(k:Int×Int):∀(es:List MapEntry) (l:List ((Int×Int)×Value)) (i:Nat),es.map (fun x=>(x.key,x.val))=l.map (fun p=>(kP p.1,p.2))→
  ∃q,(Instr.findAsking kt (kP k) es i).run P w=.ok q w∧q.map (·.2)=kN l k
 | [],l,i,h=>by
  cases l with
  | nil=>exact⟨none,by simp[Instr.findAsking],rfl⟩
  | cons _ _=>cases h
 | e :: es, l, i, h => by
  cases l with
  | nil=>cases h
  | cons p l =>
   simp only[List.map_cons,List.cons.injEq,Prod.mk.injEq] at h;obtain⟨⟨h1,h2⟩,h3⟩:=h;obtain⟨q,Fi,vC⟩:=aHs hfl k es l (i+1) h3;obtain⟨a,b⟩:=p
   have he:=aOy (w:=w) hfl k a
   rw[←h1] at he
   by_cases hk:a=k
   ·refine⟨some (i,e.val),?_,?_⟩
    ·unfold Instr.findAsking;simp[Sem.run_bind,he,hk]
    ·rw[Kq,if_pos hk];simp[h2]
   ·refine⟨q,?_,?_⟩
    ·unfold Instr.findAsking;simp[Sem.run_bind,he,hk,Fi]
    ·rw[Kq,if_neg hk];exact vC
theorem aHh{f0 f1:Field}{k0 k1:IntKind}(hk:P.underlying kt=some (.struct #[f0,f1]))(h0:P.underlying f0.type=some (.int k0))(h1:P.underlying f1.type=some (.int k1))(o0:f0.offset=0)(o1:f1.offset=1)(p:Int×Int)(b:Bool):(Instr.checkKey b 10000 kt (kP p)).run P w=.ok () w:=by
 have e0:=Yr (P:=P) (w:=w) (cs:=#[.int .i64 p.1,.int .i64 p.2]) (i:=0) (v:=.int .i64 p.1) h0 (.inl ⟨_,rfl⟩) rfl
 have e1:=Yr (P:=P) (w:=w) (cs:=#[.int .i64 p.1,.int .i64 p.2]) (i:=1) (v:=.int .i64 p.2) h1 (.inl ⟨_,rfl⟩) rfl
 have c0:(Instr.checkKey b 9999 f0.type (.int .i64 p.1)).run P w=.ok () w:=by
  unfold Instr.checkKey;simp[Sem.run_bind,run_underlying h0]
 have c1:(Instr.checkKey b 9999 f1.type (.int .i64 p.2)).run P w=.ok () w:=by
  unfold Instr.checkKey;simp[Sem.run_bind,run_underlying h1]
 unfold Instr.checkKey kP
 by_cases n0:f0.name= "_" <;>by_cases n1:f1.name= "_" <;>simp[Sem.run_bind,run_underlying hk,n0,n1,o0,o1,e0,e1,c0,c1]
end
structure Bw(P:Program)(kt:TypeId):Prop where
 st:∃f0 f1 k0 k1,P.underlying kt=some (.struct #[f0,f1])∧P.underlying f0.type=some (.int k0)∧P.underlying f1.type=some (.int k1)∧f0.offset=0∧f1.offset=1
 fl:∀a b c d:Int,Pz P kt [.int .i64 a,.int .i64 b] [.int .i64 c,.int .i64 d]=true
theorem Bw.of{P:Program}{kt:TypeId}{f0 f1:Field}{k0 k1:IntKind}(h:P.underlying kt=some (.struct #[f0,f1]))(h0:P.underlying f0.type=some (.int k0))(h1:P.underlying f1.type=some (.int k1))(o0:f0.offset=0)(o1:f1.offset=1)(fl:∀a b c d:Int,Pz P kt [.int .i64 a,.int .i64 b] [.int .i64 c,.int .i64 d]=true):Bw P kt:=⟨⟨f0,f1,k0,k1,h,h0,h1,o0,o1⟩,fl⟩
section
variable{P:Program}{w:World}{t kt et:TypeId}{r:Nat}{l:List ((Int×Int)×Value)}
theorem aG3(hk:Bw P kt)(k:Int×Int)(es:List MapEntry)(h:es.map (fun x=>(x.key,x.val))=l.map (fun p=>(kP p.1,p.2))):∃q,(Instr.findKey kt (kP k) es).run P w=.ok q w∧q.map (·.2)=kN l k:=by
 obtain⟨f0,f1,k0,k1,hu,_⟩:=hk.st;obtain⟨q,h1,h2⟩:=aHs (w:=w) hk.fl k es l 0 h;cases es with
 | nil=>
  cases l with
  | cons _ _=>cases h
  | nil=>exact⟨none,by simp[Instr.findKey,Sem.run_bind,run_underlying hu,Instr.findNow],rfl⟩
 | cons e es =>
  refine⟨q,?_,h2⟩;unfold Instr.findKey
  have:Instr.findNow (.struct #[f0,f1]) (kP k) (e::es) 0=none:=by
   unfold Instr.findNow Instr.sameNow;rfl
  simp[Sem.run_bind,run_underlying hu,this,h1]
theorem aKk{z:Value}(ht:P.underlying t=some (.map kt et))(hk:Bw P kt)(hz:∀w,(zeroValue et).run P w=.ok z w)(h:Jm w r l)(k:Int×Int)(ok:Bool):
  (Instr.lookup t (.map (some r)) (kP k) ok).run P w=.ok (if ok then .tuple #[(kN l k).getD z,.bool (kN l k).isSome] else(kN l k).getD z) w:=by
 obtain⟨es,c,h1,h2⟩:=h;obtain⟨q,hf,vC⟩:=aG3 (w:=w) hk k es.toList h2;obtain⟨f0,f1,k0,k1,hu,u0,u1,o0,o1⟩:=hk.st
 have hc:=fun b=>aHh (w:=w) hu u0 u1 o0 o1 k b
 unfold Instr.lookup;rw[←vC];cases q with
 | none=>cases ok<;>simp[Sem.run_bind,run_underlying ht,run_getObj_map h1,hc,hf,hz]
 | some x=>obtain⟨j,v⟩:=x;cases ok<;>simp[Sem.run_bind,run_underlying ht,run_getObj_map h1,hc,hf]
theorem aKm(ht:P.underlying t=some (.map kt et))(hk:Bw P kt)(h:Jm w r l)(k:Int×Int)(v:Value)(hno:kN l k=none):
  ∃es c,(Instr.mapUpdate t (.map (some r)) (kP k) v).run P w=.ok () {w with heap:=w.heap.setIfInBounds r (.map es c)}∧es.toList.map (fun x=>(x.key,x.val))=(l++[(k,v)]).map fun p=>(kP p.1,p.2):=by
 obtain⟨es,c,h1,h2⟩:=h;obtain⟨q,hf,vC⟩:=aG3 (w:=w) hk k es.toList h2;obtain⟨f0,f1,k0,k1,hu,u0,u1,o0,o1⟩:=hk.st
 have hc:=fun b=>aHh (w:=w) hu u0 u1 o0 o1 k b
 have lK:∀o,(setObj r o).run P w=.ok () {w with heap:=w.heap.setIfInBounds r o}:=fun o=>by simp[setObj,Sem.run,h1]
 rw[hno] at vC;obtain rfl:q=none:=by cases q with | none=>rfl | some x=>cases vC
 refine⟨es.push {key:=kP k,val:=v,born:=c},c+1,?_,?_⟩
 ·unfold Instr.mapUpdate;simp[Sem.run_bind,run_underlying ht,run_getObj_map h1,hc,hf,lK]
 ·rw[Array.toList_push,List.map_append,h2];simp
end
def HP.tV(r:Nat)(l:List ((Int×Int)×Value)):HP:=⟨fun F w=>F r∧Jm w r l,fun F w w' h hk=>⟨h.1,by
 obtain⟨es,c,h1,h2⟩:=h.2
 exact⟨es,c,(hk r h.1).trans h1,h2⟩⟩⟩
theorem Jm.lt{w:World}{r:Nat}{l:List ((Int×Int)×Value)}(h:Jm w r l):r < w.heap.size:=by
 obtain⟨es,c,h1,_⟩:=h;rcases Nat.lt_or_ge r w.heap.size with h | h
 ·exact h
 ·rw[Array.getElem?_eq_none h] at h1;cases h1
section
variable{P:Program}{N:cF}{w0 w:World}{e:Env}{R:List Piece}{H:List HP}{Q:Exit→Act→World→Prop}{ops:Array Oper}{rest:List Oper}
variable{d:Nat}{ty:TypeId}{pos:String}{aH:Array Edge}
theorem St.tV(st:St w0 R H w){i r:Nat}{l:List ((Int×Int)×Value)}(hi:H[i]? =some (HP.tV r l)):Jm w r l:=(st.sat hi).choose_spec.2
theorem aIH{t:TypeId}(hd:d < N.n)(k:∀g,XK N w0 (wpList P ops Q rest) ((d,.map (some g))::e) R (HP.tV g []::H)):XK N w0 (wpList P ops Q (⟨some d,.makeMap t none,ty,pos,aH,none⟩::rest)) e R H:=
 rW rfl fun a w hr st=>⟨.map (some w.heap.size),w.alloc (.map #[] 0),by simp[execOp,Instr.makeMap],k w.heap.size _ _ (hr.put hd _) (st.new (Qy w _) ⟨⟨Nat.le_refl _,by simp⟩,#[],0,heap_alloc_new w _,rfl⟩)⟩
theorem aIL{x y:Operand}{t kt et:TypeId}{z:Value}{r:Nat}{l:List ((Int×Int)×Value)}{k:Int×Int}(ok:Bool)(ht:P.underlying t=some (.map kt et))(hk:Bw P kt)(hz:(P.info? et).bind (·.zero)=some z)
  (hx:e.ev x=some (.map (some r))) (hy:e.ev y=some (kP k)) (hm:∀w,St w0 R H w→Jm w r l) (hd:d < N.n)
  (kk:XK N w0 (wpList P ops Q rest) ((d,if ok then .tuple #[(kN l k).getD z,.bool (kN l k).isSome] else(kN l k).getD z)::e) R H):XK N w0 (wpList P ops Q (⟨some d,.lookup t x y ok,ty,pos,aH,none⟩::rest)) e R H:=
 rW rfl fun a w hr st=>⟨_,w,by simp only[execOp,hr.ev hx,hr.ev hy,Sem.run_bind,aKk ht hk (zeroV hz) (hm w st),Result.andThen_ok,Sem.run_pure],kk _ _ (hr.put hd _) st⟩
theorem aBj{x y:Operand}{t kt et:TypeId}{z v:Value}{r:Nat}{l:List ((Int×Int)×Value)}{k:Int×Int}{b:Bool}(ht:P.underlying t=some (.map kt et))(hk:Bw P kt)(hz:(P.info? et).bind (·.zero)=some z)
  (hx:e.ev x=some (.map (some r))) (hy:e.ev y=some (kP k)) (hm:∀w,St w0 R H w→Jm w r l) (hv:(kN l k).getD z=v) (hb:(kN l k).isSome=b) (hd:d < N.n)
  (kk:XK N w0 (wpList P ops Q rest) ((d,.tuple #[v,.bool b])::e) R H):XK N w0 (wpList P ops Q (⟨some d,.lookup t x y true,ty,pos,aH,none⟩::rest)) e R H:=
 aIL true ht hk hz hx hy hm hd (by subst hv;subst hb;exact kk)
theorem aIO(i:Nat){x y u:Operand}{t kt et:TypeId}{r:Nat}{l:List ((Int×Int)×Value)}{k:Int×Int}{v:Value}(ht:P.underlying t=some (.map kt et))(hk:Bw P kt)(hi:H[i]? =some (HP.tV r l))(hno:kN l k=none)
  (hx:e.ev x=some (.map (some r))) (hy:e.ev y=some (kP k)) (hu:e.ev u=some v) (kk:XK N w0 (wpList P ops Q rest) e R (H.set i (HP.tV r (l++[(k,v)])))):XK N w0 (wpList P ops Q (⟨none,.insert t x y u,ty,pos,aH,none⟩::rest)) e R H:=
 aBh rfl rfl fun a w hr st=>by
  have hm:=st.tV hi
  have hlt:=hm.lt
  obtain⟨es,c,hrun,hl⟩:=aKm (P:=P) ht hk hm k v hno;refine⟨{w with heap:=w.heap.setIfInBounds r (.map es c)},by simp only[execOp,hr.ev hx,hr.ev hy,hr.ev hu,Sem.run_bind,hrun,Result.andThen_ok,Sem.run_pure],kk _ _ hr ?_⟩;refine st.wA hi (by simp) rfl rfl rfl fun F hF hb=>⟨F,⟨hF.1,es,c,by simp[Array.getElem?_setIfInBounds,hlt],hl⟩,fun b h=>⟨.inl h,by simpa using hb b h⟩,fun b hb hnb=>?_⟩
  rw[Array.getElem?_setIfInBounds];split
  ·rename_i he;exact absurd (he▸hF.1) hnb
  ·rfl
end
end
section
theorem aF5:∀(sub:List Nat) (l:Array Bool),(lA sub l).size=l.size
 | [],l=>rfl
 | i::sub,l=>by
  show((lA sub l).setIfInBounds i true).size=_
  rw[Array.size_setIfInBounds,aF5 sub l]
theorem aCd:∀(sub:List Nat) (l:Array Bool) (i:Nat) (b:Bool),i∈sub→i < l.size→(lA sub l).getD i b=true
 | j :: sub, l, i, b, h, hi => by
  show((lA sub l).setIfInBounds j true).getD i b=true
  by_cases e:j=i
  ·subst e
   have:j < (lA sub l).size:=by rw[aF5];exact hi
   simp[this]
  ·rw[getD_set_ne b e];rcases List.mem_cons.1 h with h | h
   ·exact absurd h.symm e
   ·exact aCd sub l i b h hi
theorem Tw:∀(sub:List Nat) (l:Array Bool) (i:Nat) (b:Bool),i∉sub→(lA sub l).getD i b=l.getD i b
 | [],l,i,b,_=>rfl
 | j::sub,l,i,b,h=>by
  show((lA sub l).setIfInBounds j true).getD i b=_
  have e:j≠i:=fun e=>h (by simp[e])
  rw[getD_set_ne b e];exact Tw sub l i b fun h2=>h (by simp[h2])
theorem aM1{sub:List Nat}{l:Array Bool}{i:Nat}(h:l.getD i false=true):(lA sub l).getD i false=true:=by
 by_cases hi:i∈sub
 ·refine aCd sub l i false hi ?_;rcases Nat.lt_or_ge i l.size with h1 | h1
  ·exact h1
  ·simp[Array.getElem?_eq_none h1] at h
 ·rw[Tw sub l i false hi];exact h
def aCo(ops:Array Oper)(I:List Nat)(listed:Array Bool):Bool:=
 I.all (fun i=>decide (i < listed.size)&& !(listed.getD i true)&&match ops[i]? with
  | some o=>o.after.toList.all fun x=> !(Region.binds .any x)||listed.getD x.on false
  | none=>false)&&
 (List.range ops.size).all fun j=>I.contains j||listed.getD j true||match ops[j]? with
  | some o=>I.all fun i=>o.after.toList.any fun x=>Region.binds .any x&&x.on==i
  | none=>true
theorem aKY{ops:Array Oper}{I sub:List Nat}{listed:Array Bool}(hB:aCo ops I listed=true)(hsub:∀i∈sub,i∈I){i0:Nat}(nP:i0∈I)(hn0:i0∉sub):
  Region.ready .any ops (lA sub listed)≠[]∧∀j∈Region.ready .any ops (lA sub listed),j∈I∧j∉sub:=by
 unfold aCo at hB;rw[Bool.and_eq_true,List.all_eq_true,List.all_eq_true] at hB;obtain⟨hA,hC⟩:=hB
 have h0:=hA i0 nP
 simp only[Bool.and_eq_true,decide_eq_true_eq,Bool.not_eq_true'] at h0;obtain⟨⟨h1,h2⟩,h3⟩:=h0;constructor
 ·cases ho:ops[i0]? with
  | none=>rw[ho] at h3;cases h3
  | some o =>
   rw[ho] at h3;simp only[List.all_eq_true] at h3
   have:i0∈Region.ready .any ops (lA sub listed):=mem_ready.2 ⟨by rw[Tw _ _ _ _ hn0];exact h2,o,ho,fun x hx hb=>by
    have:=h3 x (by simpa using hx)
    rw[hb] at this
    exact aM1 (by simpa using this)⟩
   intro he;rw[he] at this;cases this
 ·intro j hj;obtain⟨g1,o,ho,g2⟩:=mem_ready.1 hj
  have hjn:j∉sub:=fun h=>by
   have pV:=hA j (hsub j h)
   simp only[Bool.and_eq_true,decide_eq_true_eq] at pV;rw[aCd sub listed j true h pV.1.1] at g1;cases g1
  refine⟨?_,hjn⟩;rw[Tw _ _ _ _ hjn] at g1
  have hlt:j < ops.size:=(Array.getElem?_eq_some_iff.1 ho).1
  have hc:=hC j (List.mem_range.2 hlt)
  rw[g1,ho] at hc;simp only[Bool.or_false,Bool.or_eq_true] at hc;rcases hc with hc | hc
  ·simpa using hc
  ·exfalso;rw[List.all_eq_true] at hc
   have:=hc i0 nP
   rw[List.any_eq_true] at this;obtain⟨x,hx,hb⟩:=this;simp only[Bool.and_eq_true,beq_iff_eq] at hb
   have:=g2 x (by simpa using hx) hb.1
   rw[hb.2,Tw _ _ _ _ hn0] at this
   have h4:listed.getD i0 true=listed.getD i0 false:=by simp[h1]
   rw[h4,this] at h2;cases h2
theorem aFh{I sub:List Nat}(hI:I.Nodup)(hn:sub.Nodup)(hin:∀i∈sub,i∈I):(I.filter fun i=>sub.contains i).Perm sub:=by
 rw[List.perm_iff_count];intro a;rw[(hI.sublist List.filter_sublist).count,hn.count]
 by_cases ha:a∈sub
 ·rw[if_pos ha,if_pos (by simp[ha,hin a ha])]
 ·rw[if_neg ha,if_neg (by simp[ha])]
theorem aMr{l1 l2:List ((Int×Int)×Value)}(h:l1.Perm l2)(hn:(l1.map (·.1)).Nodup)(k:Int×Int):kN l1 k=kN l2 k:=by
 induction h with
 | nil=>rfl
 | cons x _ ih=>
  obtain⟨a,b⟩:=x;rw[Kq,Kq,ih (List.nodup_cons.1 hn).2]
 | swap x y s =>
  obtain⟨a,b⟩:=x;obtain⟨c,d⟩:=y
  have hne:c≠a:=fun e=>(List.nodup_cons.1 hn).1 (by rw[e];simp)
  simp only[Kq]
  by_cases h1:a=k
  ·have:c≠k:=fun e=>hne (e.trans h1.symm)
   simp[h1,this]
  ·simp[h1]
 | trans h1 h2 i1 i2=>exact(i1 hn).trans (i2 ((h1.map _).nodup_iff.1 hn))
theorem aMs{l:List ((Int×Int)×Value)}{k:Int×Int}(h:k∉l.map (·.1)):kN l k=none:=by
 induction l with
 | nil=>rfl
 | cons x l ih=>
  obtain⟨a,b⟩:=x;rw[List.map_cons,List.mem_cons,not_or] at h;rw[Kq,if_neg (fun e=>h.1 e.symm)];exact ih h.2
section
variable{P:Program}{N:cF}{w0 w:World}{e:Env}{R R0:List Piece}{H H0:List HP}{Q:Exit→Act→World→Prop}{ops:Array Oper}{m fuel:Nat}{listed:Array Bool}
def Lays(P:Program)(ops:Array Oper)(e:Env)(r:Nat)(i:Nat)(p:(Int×Int)×Value):Prop:=∃x y u ty pos aH t kt et,ops[i]? =some ⟨none,.insert t x y u,ty,pos,aH,none⟩∧P.underlying t=some (.map kt et)∧Bw P kt∧e.ev x=some (.map (some r))∧e.ev y=some (kP p.1)∧e.ev u=some p.2
theorem aRJ(I:List Nat)(Ly:Nat→(Int×Int)×Value)(r:Nat)(hI:I.Nodup)(hop:∀i∈I,Lays P ops e r i (Ly i))(hkeys:(I.map fun i=>(Ly i).1).Nodup)(hB:aCo ops I listed=true)
  (hS:∀l w,St w0 R (HP.tV r l::H) w→St w0 R0 H0 w)
  (k:∀sub:List Nat,sub.Perm I→XA P N w0 ops Q R0 H0 m fuel (lA sub listed) e R (HP.tV r (sub.reverse.map Ly)::H)):XA P N w0 ops Q R0 H0 m (fuel+I.length) listed e R (HP.tV r []::H):=by
 have key : ∀ (n : Nat) (sub : List Nat), sub.Nodup → (∀ i ∈ sub, i ∈ I) → sub.length + n = I.length → XA P N w0 ops Q R0 H0 m (fuel + n) (lA sub listed) e R (HP.tV r (sub.reverse.map Ly) :: H) := by
  intro n
  induction n with
  | zero=>
   intro sub hn hin hl
   have hp:=aFh hI hn hin
   have hf:(I.filter fun i=>sub.contains i)=I:=List.filter_sublist.eq_of_length (by have:=hp.length_eq;omega)
   rw[hf] at hp;exact k sub hp.symm
  | succ n ih =>
   intro sub hn hin hl
   obtain⟨i0,nP,hn0⟩:∃i,i∈I∧i∉sub:=Classical.byContradiction fun hno=>by
    have hp:=aFh hI hn hin
    have hf:(I.filter fun i=>sub.contains i)=I:=List.filter_eq_self.2 fun i hi=>by
     rcases Classical.em (i∈sub) with h | h
     ·simpa using h
     ·exact absurd ⟨i,hi,h⟩ hno
    rw[hf] at hp
    have:=hp.length_eq
    omega
   obtain⟨r1,r2⟩:=aKY hB hin nP hn0;intro up a w cQ st;refine⟨fun h=>absurd h r1,fun i hi=>?_⟩;obtain⟨hiI,Uq⟩:=r2 i hi;obtain⟨x,y,u,ty,pos,aH,t,kt,et,ho,ht,hk,hx,hy,hu⟩:=hop i hiI
   have hno:kN (sub.reverse.map Ly) (Ly i).1=none:=aMs fun hm=>by
    simp only[List.map_map,List.mem_map,List.mem_reverse,Function.comp] at hm;obtain⟨j,hj,he⟩:=hm
    have hji:j≠i:=fun e=>Uq (e▸hj)
    exact hji (Classical.byContradiction fun hne=>by
     have h1:=List.pairwise_map.1 hkeys
     exact absurd he (by
      obtain⟨a,ha⟩:=List.getElem?_of_mem (hin j hj);obtain⟨b,hb⟩:=List.getElem?_of_mem hiI
      have hal:=(List.getElem?_eq_some_iff.1 ha).1
      have hbl:=(List.getElem?_eq_some_iff.1 hb).1
      have hav:=(List.getElem?_eq_some_iff.1 ha).2
      have Vi:=(List.getElem?_eq_some_iff.1 hb).2
      have h2:=List.pairwise_iff_getElem.1 h1
      rcases Nat.lt_trichotomy a b with h | h | h
      ·have:=h2 a b hal hbl h;rw[hav,Vi] at this;exact this
      ·subst h;exact absurd (hav.symm.trans Vi) hji
      ·have:=h2 b a hbl hal h;rw[hav,Vi] at this;exact fun e=>this e.symm))
   refine Cd ho (fun a w h=>⟨h.1,h.2 (up.kY hi)⟩) (K:=rM P w0 ops Q R0 H0 m (fuel+n) (lA sub listed) i) ?_
   have:=aIO (P:=P) (N:=N) (w0:=w0) (R:=R) (H:=HP.tV r (sub.reverse.map Ly)::H) (Q:=Exit.then (rM P w0 ops Q R0 H0 m (fuel+n) (lA sub listed) i) Q) (ops:=ops) (rest:=[]) (ty:=ty) (pos:=pos) (aH:=aH) 0 ht hk rfl hno hx hy hu
    (gX (gP (kK (hS _) (by
     have:=ih (i::sub) (List.nodup_cons.2 ⟨Uq,hn⟩) (fun j hj=>by
      rcases List.mem_cons.1 hj with rfl | hj
      ·exact hiI
      ·exact hin j hj) (by simp only[List.length_cons];omega)
     rw[List.reverse_cons,List.map_append] at this
     exact this))))
   exact this a w cQ st
 exact key I.length [] List.nodup_nil (fun _ h=>by cases h) (by simp)
end
end
section
theorem aG5(L:List (Nat×Nat))(place:Nat→Option (Nat×Nat))(hp:∀i x,L[i]? =some x→place i=some x):∀(ps:List (Nat×Value)) (cs cs':List Value),fB L cs ps=some cs'→Instr.fill place cs.toArray ps=some cs'.toArray
 | [],cs,cs',h=>by cases h;rfl
 | (i, v) :: rest, cs, cs', h => by
  unfold fB at h;unfold Instr.fill;split at h
  ·rename_i off sz hL
   rw[hp _ _ hL];split at h
   ·rename_i hc
    have e1:(decide (v.cells.size≠sz)||decide (off+v.cells.size>cs.toArray.size))=false:=by simp;omega
    simp only[e1,Bool.false_eq_true,if_false]
    have:=aB4 v.cells.toList cs off 0
    rw[show v.cells.zipIdx.foldl (fun cs (c,j)=>cs.setIfInBounds (off+j) c) cs.toArray=(gB cs off v.cells.toList).toArray by
     rw[←Array.foldl_toList,Array.toList_zipIdx];exact this]
    exact aG5 L place hp rest _ cs' h
   ·cases h
  ·cases h
section
variable{P:Program}{N:cF}{w0:World}{e:Env}{R:List Piece}{H:List HP}{d:Nat}{ty:TypeId}{pos:String}{aH:Array Edge}
theorem aCX{t el:TypeId}{n sz:Nat}{ps:List (Nat×Operand)}{vs:List (Nat×Value)}{zs cs:List Value}(hz:Cb P t zs)(ht:P.underlying t=some (.array n el))(hsz:(P.info? el).map (·.size)=some sz)(hp:e.parts ps=some vs)(hf:fB ((List.range n).map fun i=>(i*sz,sz)) zs vs=some cs):bQ P N w0 e R H ⟨some d,.build t ps.toArray,ty,pos,aH,none⟩ (.agg cs.toArray):=
 gT (fun a w hr => by
  have:=hr.parts hp
  obtain⟨i,z,hi,Ct,rfl⟩:=hz;obtain⟨j,hj,rfl⟩:=Option.map_eq_some_iff.1 hsz
  have hfl:=aG5 _ (fun i=>some (i*j.size,j.size)) (fun i x hx=>by
   rw[List.getElem?_map] at hx;obtain⟨q,hq,rfl⟩:=Option.map_eq_some_iff.1 hx
   have hlt:i < n:=by
    rcases Nat.lt_or_ge i n with h | h
    ·exact h
    ·rw[List.getElem?_eq_none (by simpa using h)] at hq;cases hq
   rw[List.getElem?_range hlt] at hq;cases hq
   rfl) vs z.cells.toList cs hf
  simp at hfl;simp only[execOp,List.map_toArray,this]
  simp[Instr.build,zeroValue,typeInfo,sizeOf,hi,hj,Ct,run_underlying ht,hfl])
end
def qL(n m a b c:Int):Value:=.agg #[iv n,iv m,.int .u8 a,.int .u8 b,.int .u8 c]
theorem Zk:Bw Tryz.prog 164:=Bw.of Tryz.underlying164 Tryz.underlying3 Tryz.underlying3 rfl rfl (fun _ _ _ _=>by kernel_rfl)
def yQ:Nat→(Int×Int)×Value
 | 3=>((16,0),qL 0 0 0 0 0) | 6=>((17,0),qL 0 0 0 0 0) | 9=>((20,0),qL 0 0 0 0 0) | 12=>((22,0),qL 0 0 0 0 0) | 15=>((16,1),qL 0 0 0 0 0)
 | 19=>((17,4),qL 2 3 100 117 107) | 22=>((17,5),qL 1 0 0 0 0) | 25=>((20,6),qL 1 0 0 0 0) | 29=>((20,7),qL 2 2 111 99 0) | _=>((22,4),qL 2 2 114 97 0)
def Lu:List Nat:=[3,6,9,12,15,19,22,25,29,33]
def aCK:List ((Int×Int)×Value):=Lu.map yQ
def aDL(v:Value)(hs:List HP)(_:Piece):Prop:=∃(g:Nat) (sub:List Nat),v=.map (some g)∧sub.Perm Lu∧hs=[HP.tV g (sub.reverse.map yQ)]
theorem aGu(w:World):Cz 79 #[] w (fun y w'=>(∃v hs q,y=.returned v∧q.w=w'∧aDL v hs q∧gI w hs q)∧Below w.heap.size w w'):=by
 refine aN func79 ntmps79 ?_;refine eA ?_;refine fR ?_;refine jM rfl (by decide) ?_;refine fD ?_;refine eA ?_;refine qP 34 (by kernel_rfl) (by kernel_rfl) ?_;refine fH 1 rfl rfl rfl (by decide) (kS (zs:=[iv 0,iv 0]) (L:=[(0,1),(1,1)]) (gY (by kernel_rfl)) (by kernel_rfl) rfl (by simp[fB,gB,Value.cells];rfl)) (by kernel_rfl) (fun _ _ _ h=>h) (fun _ h=>h) ?_;refine fH 2 rfl rfl rfl (by decide) (kS (zs:=[iv 0,iv 0,.int .u8 0,.int .u8 0,.int .u8 0]) (L:=[(0,1),(1,1),(2,3)]) (gY (by kernel_rfl)) (by kernel_rfl) rfl (by simp[fB,gB,Value.cells];rfl)) (by kernel_rfl) (fun _ _ _ h=>h) (fun _ h=>h) ?_;refine fH 4 rfl rfl rfl (by decide) (kS (zs:=[iv 0,iv 0]) (L:=[(0,1),(1,1)]) (gY (by kernel_rfl)) (by kernel_rfl) rfl (by simp[fB,gB,Value.cells];rfl)) (by kernel_rfl) (fun _ _ _ h=>h) (fun _ h=>h) ?_;refine fH 5 rfl rfl rfl (by decide) (kS (zs:=[iv 0,iv 0,.int .u8 0,.int .u8 0,.int .u8 0]) (L:=[(0,1),(1,1),(2,3)]) (gY (by kernel_rfl)) (by kernel_rfl) rfl (by simp[fB,gB,Value.cells];rfl)) (by kernel_rfl) (fun _ _ _ h=>h) (fun _ h=>h) ?_;refine fH 7 rfl rfl rfl (by decide) (kS (zs:=[iv 0,iv 0]) (L:=[(0,1),(1,1)]) (gY (by kernel_rfl)) (by kernel_rfl) rfl (by simp[fB,gB,Value.cells];rfl)) (by kernel_rfl) (fun _ _ _ h=>h) (fun _ h=>h) ?_;refine fH 8 rfl rfl rfl (by decide) (kS (zs:=[iv 0,iv 0,.int .u8 0,.int .u8 0,.int .u8 0]) (L:=[(0,1),(1,1),(2,3)]) (gY (by kernel_rfl)) (by kernel_rfl) rfl (by simp[fB,gB,Value.cells];rfl)) (by kernel_rfl) (fun _ _ _ h=>h) (fun _ h=>h) ?_;refine fH 10 rfl rfl rfl (by decide) (kS (zs:=[iv 0,iv 0]) (L:=[(0,1),(1,1)]) (gY (by kernel_rfl)) (by kernel_rfl) rfl (by simp[fB,gB,Value.cells];rfl)) (by kernel_rfl) (fun _ _ _ h=>h) (fun _ h=>h) ?_;refine fH 11 rfl rfl rfl (by decide) (kS (zs:=[iv 0,iv 0,.int .u8 0,.int .u8 0,.int .u8 0]) (L:=[(0,1),(1,1),(2,3)]) (gY (by kernel_rfl)) (by kernel_rfl) rfl (by simp[fB,gB,Value.cells];rfl)) (by kernel_rfl) (fun _ _ _ h=>h) (fun _ h=>h) ?_;refine fH 13 rfl rfl rfl (by decide) (kS (zs:=[iv 0,iv 0]) (L:=[(0,1),(1,1)]) (gY (by kernel_rfl)) (by kernel_rfl) rfl (by simp[fB,gB,Value.cells];rfl)) (by kernel_rfl) (fun _ _ _ h=>h) (fun _ h=>h) ?_;refine fH 14 rfl rfl rfl (by decide) (kS (zs:=[iv 0,iv 0,.int .u8 0,.int .u8 0,.int .u8 0]) (L:=[(0,1),(1,1),(2,3)]) (gY (by kernel_rfl)) (by kernel_rfl) rfl (by simp[fB,gB,Value.cells];rfl)) (by kernel_rfl) (fun _ _ _ h=>h) (fun _ h=>h) ?_;refine fH 16 rfl rfl rfl (by decide) (kS (zs:=[iv 0,iv 0]) (L:=[(0,1),(1,1)]) (gY (by kernel_rfl)) (by kernel_rfl) rfl (by simp[fB,gB,Value.cells];rfl)) (by kernel_rfl) (fun _ _ _ h=>h) (fun _ h=>h) ?_;refine fH 17 rfl rfl rfl (by decide) (aCX (n:=3) (sz:=1) (el:=5) (zs:=[.int .u8 0,.int .u8 0,.int .u8 0]) (gY (by kernel_rfl)) (by kernel_rfl) (by kernel_rfl) rfl (by simp[fB,gB,Value.cells,List.range_succ,List.set];rfl)) (by kernel_rfl) (fun _ _ _ h=>h) (fun _ h=>h) ?_;refine fH 18 rfl rfl rfl (by decide) (kS (zs:=[iv 0,iv 0,.int .u8 0,.int .u8 0,.int .u8 0]) (L:=[(0,1),(1,1),(2,3)]) (gY (by kernel_rfl)) (by kernel_rfl) rfl (by simp[fB,gB,Value.cells];rfl)) (by kernel_rfl) (fun _ _ _ h=>h) (fun _ h=>h) ?_;refine fH 20 rfl rfl rfl (by decide) (kS (zs:=[iv 0,iv 0]) (L:=[(0,1),(1,1)]) (gY (by kernel_rfl)) (by kernel_rfl) rfl (by simp[fB,gB,Value.cells];rfl)) (by kernel_rfl) (fun _ _ _ h=>h) (fun _ h=>h) ?_;refine fH 21 rfl rfl rfl (by decide) (kS (zs:=[iv 0,iv 0,.int .u8 0,.int .u8 0,.int .u8 0]) (L:=[(0,1),(1,1),(2,3)]) (gY (by kernel_rfl)) (by kernel_rfl) rfl (by simp[fB,gB,Value.cells];rfl)) (by kernel_rfl) (fun _ _ _ h=>h) (fun _ h=>h) ?_;refine fH 23 rfl rfl rfl (by decide) (kS (zs:=[iv 0,iv 0]) (L:=[(0,1),(1,1)]) (gY (by kernel_rfl)) (by kernel_rfl) rfl (by simp[fB,gB,Value.cells];rfl)) (by kernel_rfl) (fun _ _ _ h=>h) (fun _ h=>h) ?_;refine fH 24 rfl rfl rfl (by decide) (kS (zs:=[iv 0,iv 0,.int .u8 0,.int .u8 0,.int .u8 0]) (L:=[(0,1),(1,1),(2,3)]) (gY (by kernel_rfl)) (by kernel_rfl) rfl (by simp[fB,gB,Value.cells];rfl)) (by kernel_rfl) (fun _ _ _ h=>h) (fun _ h=>h) ?_;refine fH 26 rfl rfl rfl (by decide) (kS (zs:=[iv 0,iv 0]) (L:=[(0,1),(1,1)]) (gY (by kernel_rfl)) (by kernel_rfl) rfl (by simp[fB,gB,Value.cells];rfl)) (by kernel_rfl) (fun _ _ _ h=>h) (fun _ h=>h) ?_;refine fH 27 rfl rfl rfl (by decide) (aCX (n:=3) (sz:=1) (el:=5) (zs:=[.int .u8 0,.int .u8 0,.int .u8 0]) (gY (by kernel_rfl)) (by kernel_rfl) (by kernel_rfl) rfl (by simp[fB,gB,Value.cells,List.range_succ,List.set];rfl)) (by kernel_rfl) (fun _ _ _ h=>h) (fun _ h=>h) ?_;refine fH 28 rfl rfl rfl (by decide) (kS (zs:=[iv 0,iv 0,.int .u8 0,.int .u8 0,.int .u8 0]) (L:=[(0,1),(1,1),(2,3)]) (gY (by kernel_rfl)) (by kernel_rfl) rfl (by simp[fB,gB,Value.cells];rfl)) (by kernel_rfl) (fun _ _ _ h=>h) (fun _ h=>h) ?_;refine fH 30 rfl rfl rfl (by decide) (kS (zs:=[iv 0,iv 0]) (L:=[(0,1),(1,1)]) (gY (by kernel_rfl)) (by kernel_rfl) rfl (by simp[fB,gB,Value.cells];rfl)) (by kernel_rfl) (fun _ _ _ h=>h) (fun _ h=>h) ?_;refine fH 31 rfl rfl rfl (by decide) (aCX (n:=3) (sz:=1) (el:=5) (zs:=[.int .u8 0,.int .u8 0,.int .u8 0]) (gY (by kernel_rfl)) (by kernel_rfl) (by kernel_rfl) rfl (by simp[fB,gB,Value.cells,List.range_succ,List.set];rfl)) (by kernel_rfl) (fun _ _ _ h=>h) (fun _ h=>h) ?_;refine fH 32 rfl rfl rfl (by decide) (kS (zs:=[iv 0,iv 0,.int .u8 0,.int .u8 0,.int .u8 0]) (L:=[(0,1),(1,1),(2,3)]) (gY (by kernel_rfl)) (by kernel_rfl) rfl (by simp[fB,gB,Value.cells];rfl)) (by kernel_rfl) (fun _ _ _ h=>h) (fun _ h=>h) ?_;refine cJ 0 ?_;refine aIH (by decide) fun g1=>?_;refine mV ?_;refine aRJ (fuel:=2) Lu yQ g1 (by decide) (fun i hi=>?_) (by decide) (by kernel_rfl) (fun l w1 h=>h.tail) (fun sub hsub=>?_)
 ·simp only[Lu,List.mem_cons,List.not_mem_nil,or_false] at hi;rcases hi with rfl | rfl | rfl | rfl | rfl | rfl | rfl | rfl | rfl | rfl
  all_goals exact⟨_,_,_,_,_,_,_,_,_,rfl,Tryz.underlying161,Zk,rfl,rfl,rfl⟩
 rw[Zp hsub];refine cJ 34 ?_;refine dN rfl (by decide) ?_;refine eR ?_;refine cJ 35 ?_;refine jM rfl (by decide) ?_;refine eR ?_;refine kJ ?_;refine eB ?_;refine Re ?_;refine eB ?_;refine dF [] [] [0] (by simp) rfl (by decide) (by decide) fun q _ _ hfr=>?_;exact aP (h:=fun w1 st=>⟨_,_,⟨w1,q.Z⟩,rfl,rfl,⟨g1,sub,rfl,hsub,rfl⟩,st.newR (by simp) (by simp) (hfr (by simp) (by simp))⟩)
end
section
def eI(w:Int):Int:=if cK w 28 4≠0 then 0 else cK w 0 8
def Pt(w:Int):Int:=if cK w 28 4≠0 then 0 else cK w 8 2
def dX(w:Int):Int:=if cK w 28 4≠0 then 0 else cK w 10 8
def aAn(w:Int):Int:=if cK w 28 4≠0 then 0 else cK w 18 10
theorem aJy(w:Int):Ka w=Li (eI w) (Pt w) (dX w) (aAn w):=by
 unfold Ka eI Pt dX aAn;split<;>rfl
structure mX where
 n:Int
 m:Int
 a:Int
 b:Int
 c:Int
def mX.v(f:mX):Value:=qL f.n f.m f.a f.b f.c
def mX.act(f:mX)(v:Int):Int:=if v=0 then f.a else if v=1 then f.b else f.c
def uE(p m:Int):Option mX:=
 if m=0 then(if p=16∨p=17∨p=20∨p=22 then some ⟨0,0,0,0,0⟩ else none)
 else if m=1 then(if p=16 then some ⟨0,0,0,0,0⟩ else none)
 else if m=4 then(if p=17 then some ⟨2,3,100,117,107⟩ else if p=22 then some ⟨2,2,114,97,0⟩ else none)
 else if m=5 then(if p=17 then some ⟨1,0,0,0,0⟩ else none)
 else if m=6 then(if p=20 then some ⟨1,0,0,0,0⟩ else none)
 else if m=7 then(if p=20 then some ⟨2,2,111,99,0⟩ else none)
 else none
theorem aNX(p m:Int):kN aCK (p,m)=(uE p m).map mX.v:=by
 unfold aCK Lu uE;simp only[List.map_cons,List.map_nil,yQ,Kq,Prod.mk.injEq]
 by_cases h0:m=0
 ·subst h0
  by_cases vF:p=16
  ·subst vF;simp[mX.v]
  ·by_cases Be:p=17
   ·subst Be;simp[mX.v]
   ·by_cases wZ:p=20
    ·subst wZ;simp[mX.v]
    ·by_cases Lp:p=22
     ·subst Lp;simp[mX.v]
     ·simp[vF,Be,wZ,Lp,kN,Ne.symm vF,Ne.symm Be,Ne.symm wZ,Ne.symm Lp]
 ·by_cases h1:m=1
  ·subst h1
   by_cases vF:p=16
   ·subst vF;simp[mX.v]
   ·simp[vF,Ne.symm vF,kN]
  ·by_cases h4:m=4
   ·subst h4
    by_cases Be:p=17
    ·subst Be;simp[mX.v]
    ·by_cases Lp:p=22
     ·subst Lp;simp[mX.v]
     ·simp[Be,Lp,Ne.symm Be,Ne.symm Lp,kN]
   ·by_cases h5:m=5
    ·subst h5
     by_cases Be:p=17
     ·subst Be;simp[mX.v]
     ·simp[Be,Ne.symm Be,kN]
    ·by_cases h6:m=6
     ·subst h6
      by_cases wZ:p=20
      ·subst wZ;simp[mX.v]
      ·simp[wZ,Ne.symm wZ,kN]
     ·by_cases h7:m=7
      ·subst h7
       by_cases wZ:p=20
       ·subst wZ;simp[mX.v]
       ·simp[wZ,Ne.symm wZ,kN]
      ·simp[h0,h1,h4,h5,h6,h7,Ne.symm h0,Ne.symm h1,Ne.symm h4,Ne.symm h5,Ne.symm h6,Ne.symm h7,kN]
def eG(p m:Int):mX:=(uE p m).getD ⟨0,0,0,0,0⟩
theorem aNW{sub:List Nat}(h:sub.Perm Lu)(p m:Int):kN (sub.reverse.map yQ) (p,m)=(uE p m).map mX.v:=by
 rw[←aNX]
 have hp:(sub.reverse.map yQ).Perm aCK:=((List.reverse_perm sub).trans h).map yQ
 refine aMr hp ?_ _;exact((hp.map (·.1)).nodup_iff).2 (by decide)
theorem Pw{sub:List Nat}(h:sub.Perm Lu)(p m:Int):(kN (sub.reverse.map yQ) (p,m)).getD (qL 0 0 0 0 0)=(eG p m).v∧(kN (sub.reverse.map yQ) (p,m)).isSome=(uE p m).isSome:=by
 rw[aNW h];unfold eG;cases uE p m<;>exact⟨rfl,rfl⟩
theorem aGs(p m : Int) : ((eG p m).n = 0 ∨ (eG p m).n = 1 ∨ (eG p m).n = 2) ∧ 0 ≤ (eG p m).m ∧ (eG p m).m ≤ 3 ∧ (∀ v, 0 ≤ v → v < (eG p m).m → (eG p m).act v = 107 → p = 17) ∧
  ((eG p m).m≠0→p=17∨p=20∨p=22):=by
 unfold eG uE
 by_cases h0:m=0
 ·by_cases h:p=16∨p=17∨p=20∨p=22<;>simp[h0,h]<;>omega
 ·by_cases h1:m=1
  ·by_cases h:p=16<;>simp[h1,h]<;>omega
  ·by_cases h4:m=4
   ·by_cases h:p=17
    ·simp[h4,h]
    ·by_cases h':p=22
     ·subst h4 h';simp only[mX.act];refine⟨by simp,by simp,by simp,fun v h1 h2 h3=>?_,by simp⟩;simp at h2 h3;split at h3
      ·omega
      ·split at h3<;>omega
     ·simp[h4,h,h'];omega
   ·by_cases h5:m=5
    ·by_cases h:p=17<;>simp[h5,h]<;>omega
    ·by_cases h6:m=6
     ·by_cases h:p=20<;>simp[h6,h]<;>omega
     ·by_cases h7:m=7
      ·by_cases h:p=20
       ·subst h7 h;simp only[mX.act];refine⟨by simp,by simp,by simp,fun v h1 h2 h3=>?_,by simp⟩;simp at h2 h3;split at h3
        ·omega
        ·split at h3<;>omega
       ·simp[h7,h];omega
      ·simp[h0,h1,h4,h5,h6,h7];omega
def Te(s:aC)(k:Nat):Bool:=(s.domains[k]?).any (·.ret)
def kindOf(s:aC)(k:Nat):Int:=((s.aF[k]?).map (·.kind)).getD 0
def Ym(s:aC)(k:Nat):Prop:=kindOf s k=112∨kindOf s k=103
instance(s:aC)(k:Nat):Decidable (Ym s k):=inferInstanceAs (Decidable (_∨_))
def Ob(s:aC)(p k:Int)(id:Nat):Prop:=(k=107∧Te s id=false)∨(p=20∧¬Ym s id)
instance(s:aC)(p k:Int)(id:Nat):Decidable (Ob s p k id):=inferInstanceAs (Decidable (_∨_))
def Dv(s:aC)(p:Int)(f:mX)(id v:Int):Int×Int×Int:=
 if(Ah s p:Int)≤id then(-4,0,0) else if f.m=0 then(0,0,0) else if f.m≤v then(-2,0,0) else if Ob s p (f.act v) id.toNat then(-2,0,0) else(0,f.act v,id)
def dH(s:aC)(l:List Int):Int×Int×Int:=
 match l with
 | []=>(-10,0,0)
 | w::r=>
  if Cg w≠0∨Pt w≠0 then(-10,0,0)
  else if(uE (dX w) (eI w)).isSome=false then(-1,0,0)
  else if(r.length:Int)≠(eG (dX w) (eI w)).n then(-10,0,0)
  else if(eG (dX w) (eI w)).n=0 then(0,0,0)
  else Dv s (dX w) (eG (dX w) (eI w)) (r.getD 0 0) (r.getD ((eG (dX w) (eI w)).n.toNat - 1) 0)
def Rc(a:Int×Int×Int):Value:=.tuple #[.int .i32 a.1,.agg #[.int .u8 a.2.1,iv a.2.2]]
def mW(l:List Int):Prop:=∀x∈l,0≤x∧x < 4294967296
theorem aI.u32{w:World}{A:Option Addr}{n:Nat}{l:List Int}(h:aI (all w) 1 A n (dY l))(hn:0 < n):∃b off,A=some ⟨b,off,none⟩∧∀(i:Nat) (x:Int),l[i]? =some x→fS w b (off+i) (.int .u32 x):=by
 obtain⟨b,off,hA,hb,hc⟩:=h.2 hn;refine⟨b,off,hA,fun i x hx=>⟨hb,hc i _ ?_⟩⟩;simp only[dY,List.getElem?_map,hx,Option.map_some]
section
variable{P:Program}{N:mX}{w0:World}{e:Env}{R:List Piece}{H:List HP}
theorem aRj{nn:Nat}{fn:Func}{Post:Ending→World→Prop}{t u n b:Nat}{s:TypeId}{vs:List Value}{v':Value}(hr:fn.results=#[.tmp u,.cell t s])(hs:Cl P s n=true)(hn:vs.length=n)(ht:e.get t=some (pt b))(hrd:aO w0 R H b 0 vs)(hu:e.get u=some v')(h:∀w,St w0 R H w→Post (.returned (.tuple #[v',.agg vs.toArray])) w):XK ⟨nn,[]⟩ w0 (bodyPost P fn Post .ret) e R H:=fun a w cQ st=>by
 have hl:=Sy (P:=P) hs hn (hrd w st)
 refine bodyPost_ret (v:=.tuple #[v',.agg vs.toArray]) ?_ cQ.defers (h w st)
 have ha:=cQ.get t _ ht
 have hb:=cQ.get u _ hu
 simp only[Instr.loadAt,Instr.sureAddr,Sem.run_bind,Sem.run_pure,Result.andThen_ok] at hl;simp only[results,hr];simp[ha,hb,asAddr,hl]
end
end
section
theorem aLV(s:aC)(A1 A2 A3 A4:Option Addr)(n1 k1 n2 k2 n3 k3 n4 k4:Nat)(p:Int){w0:World}(w:World)(hS:iD w0 s A1 n1 A2 n2 A3 n3 A4 n4):Cz 80 #[.agg #[.slice A1 n1 k1,.slice A2 n2 k2,.slice A3 n3 k3,.slice A4 n4 k4],iv p] w (Rt (iv (Ah s p)) w):=by
 obtain⟨h1,h2,h3,h4⟩:=And.intro hS.qZ (And.intro hS.qY (And.intro hS.tW hS.sI));subst h1 h2 h3 h4;exact aLU s A1 A2 A3 A4 k1 k2 k3 k4 p w
theorem oB{nn:Nat}{w:World}{e:Env}{R:List Piece}{H:List HP}{fn:Func}{t u n b:Nat}{s:TypeId}{vs:List Value}{v v':Value}(hv:v=.tuple #[v',.agg vs.toArray])(hr:fn.results=#[.tmp u,.cell t s]:=by rfl)(hs:Cl Tryz.prog s n=true:=by kernel_rfl)(ht:e.get t=some (pt b):=by rfl)(hrd:aO w R H b 0 vs:=by first | exact aO.whole 0 rfl | exact aO.whole 1 rfl | exact aO.whole 2 rfl | exact aO.whole 3 rfl)(hn:vs.length=n:=by rfl)(hu:e.get u=some v':=by rfl)(hR:all w∈R:=by simp):XK ⟨nn,[]⟩ w (bodyPost Tryz.prog fn (Rt v w) .ret) e R H:=
 aRj hr hs hn ht hrd hu fun w9 st=>⟨by rw[hv],st.below hR⟩
theorem aLc(s:aC)(A1 A2 A3 A4:Option Addr)(n1 k1 n2 k2 n3 k3 n4 k4:Nat)(A:Option Addr)(n c:Nat)(l:List Int)(w:World)(hS:iD w s A1 n1 A2 n2 A3 n3 A4 n4)(hl:aI (all w) 1 A n (dY l))(hn:n=l.length)(hn2:n≤1000000)(hu:mW l):
  Cz 28 #[.agg #[.slice A1 n1 k1,.slice A2 n2 k2,.slice A3 n3 k3,.slice A4 n4 k4],.slice A n c] w (Rt (Rc (dH s l)) w):=by
 refine aN func28 ntmps28 ?_;refine aB ?_;refine bN fun g1=>?_;refine aB ?_;refine bX fun g2=>?_;refine aB ?_;refine aG rfl (fun h=>?_) (fun h=>?_)
 ·obtain rfl:l=[]:=List.eq_nil_of_length_eq_zero (by omega);refine aB ?_
  (refine oB ?_;rfl)
 obtain⟨b,off,rfl,hcell⟩:=hl.u32 (by omega)
 obtain⟨w1,r,rfl⟩:∃x r,l=x::r:=by
  cases l with
  | nil=>exact absurd (by simpa using hn) (show ¬n=0 by omega)
  | cons x r=>exact⟨x,r,rfl⟩
 have hw1:=hcell 0 w1 rfl
 have hlen:n=r.length+1:=by simpa using hn
 refine aB ?_;refine aU (v:=.tuple #[.agg #[iv (eI w1),iv (Pt w1),iv (dX w1),iv (aAn w1)],iv (Cg w1)]) (fun w2 st=>(aEu w1 w2).mono fun x w3 hx=>aDD hx (by rw[aJy];rfl)) ?_;refine aB ?_;refine bX fun g3=>?_;refine aB ?_;refine bT (t:=26) rfl (fun hg=>?_) (fun hg=>?_)
 ·refine aB ?_
  (refine oB ?_;rw[dH,if_pos (.inl hg)];rfl)
 refine aB ?_;refine aG rfl (fun h4=>?_) (fun h5=>?_)
 ·refine aB ?_
  (refine oB ?_;rw[dH,if_pos (.inr h4)];rfl)
 have h4:¬(Cg w1≠0∨Pt w1≠0):=fun hh=>hh.elim hg h5
 refine oA ?_;refine eB ?_;refine Gl (α:=Nat) (fun g4=>[(9,.bool (uE (dX w1) (eI w1)).isSome),(8,pt g4),(7,iv (Cg w1)),(6,pt g3),(5,pt g2),(2,pt g1),(1,.slice (some ⟨b,off,none⟩) n c)]) (fun g4=>[HP.aE g4 159 [iv (eG (dX w1) (eI w1)).n,iv (eG (dX w1) (eI w1)).m,.int .u8 (eG (dX w1) (eI w1)).a,.int .u8 (eG (dX w1) (eI w1)).b,.int .u8 (eG (dX w1) (eI w1)).c],HP.aE g3 83 [iv (eI w1),iv (Pt w1),iv (dX w1),iv (aAn w1)],HP.aE g2 50 [.int .u8 0,iv 0],HP.aE g1 30 [.slice A1 n1 k1,.slice A2 n2 k2,.slice A3 n3 k3,.slice A4 n4 k4]]) (fun _=>True) ?_ fun g4 _=>?_
 ·skip
  refine qP 12 (by kernel_rfl) (by kernel_rfl) ?_;refine fX 1 rfl rfl rfl (Dr (off:=2) (by kernel_rfl) rfl) ?_;refine fX 2 rfl rfl rfl (Iu rfl) ?_;refine fX 3 rfl rfl rfl (Dr (off:=0) (by kernel_rfl) rfl) ?_;refine fX 4 rfl rfl rfl (Iu rfl) ?_;refine fX 5 rfl rfl rfl (kS (zs:=[iv 0,iv 0]) (L:=[(0,1),(1,1)]) (gY (by kernel_rfl)) (by kernel_rfl) rfl (by simp[fB,gB,Value.cells];rfl)) ?_;refine Ji 0 10 rfl rfl (by kernel_rfl) ?_ ?_
  ·refine eX aDL (fun w2 _=>aGu w2) ?_;rintro _ _ q1 ⟨gm,sub,rfl,hsub,rfl⟩ _;simp only[List.cons_append,List.nil_append];refine gX ?_;refine gP ?_;refine kK (fun _ h=>h.aY.tail) ?_;refine Ji 6 10 rfl rfl (by kernel_rfl) ?_ ?_
   ·refine aBj (v:=.agg #[iv (eG (dX w1) (eI w1)).n,iv (eG (dX w1) (eI w1)).m,.int .u8 (eG (dX w1) (eI w1)).a,.int .u8 (eG (dX w1) (eI w1)).b,.int .u8 (eG (dX w1) (eI w1)).c]) (et:=159) (l:=sub.reverse.map yQ) Tryz.underlying161 Zk (z:=qL 0 0 0 0 0) (by kernel_rfl) rfl (k:=(dX w1,eI w1)) rfl (fun w2 st=>st.tV (i:=0) rfl) (Pw hsub _ _).1 (Pw hsub _ _).2 (by decide) ?_;refine gX ?_;refine gP ?_;refine kK (fun _ h=>h.aY.tail) ?_;refine fH 7 rfl rfl rfl (by decide) (lS rfl) (by kernel_rfl) (fun _ _ _ h=>h) (fun _ h=>h.aY.tail) ?_;refine fH 8 rfl rfl rfl (by decide) (Bm rfl rfl) (by kernel_rfl) (fun _ _ _ h=>h) (fun _ h=>h.aY.tail) ?_;refine fH 9 rfl rfl rfl (by decide) (Bm rfl rfl) (by kernel_rfl) (fun _ _ _ h=>h) (fun _ h=>h.aY.tail) ?_;refine cJ 10 ?_;refine bX fun g4=>?_;refine gX ?_;refine gP ?_;refine kK (fun _ h=>h.aY.tail.tail) ?_;refine cJ 11 ?_;refine rU rfl rfl ?_;simp only[fP,Value.cells,List.set,List.take,List.drop,List.nil_append,List.append_nil,List.length_cons,List.length_nil,List.cons_append,Nat.reduceAdd];refine gX ?_;refine gP ?_;refine kK (fun _ h=>h.aY.tail.tail) ?_;refine cJ 12 ?_;refine jM rfl (by decide) ?_;refine eR ?_;refine kJ ?_;refine eB ?_;exact dG g4
   ·refine bX fun g4=>?_;refine gX ?_;refine gP ?_;refine kK (fun _ h=>h.aY.tail.tail) ?_;refine cJ 6 ?_;refine aBj (v:=.agg #[iv (eG (dX w1) (eI w1)).n,iv (eG (dX w1) (eI w1)).m,.int .u8 (eG (dX w1) (eI w1)).a,.int .u8 (eG (dX w1) (eI w1)).b,.int .u8 (eG (dX w1) (eI w1)).c]) (et:=159) (l:=sub.reverse.map yQ) Tryz.underlying161 Zk (z:=qL 0 0 0 0 0) (by kernel_rfl) rfl (k:=(dX w1,eI w1)) rfl (fun w2 st=>st.tV (i:=1) rfl) (Pw hsub _ _).1 (Pw hsub _ _).2 (by decide) ?_;refine gX ?_;refine gP ?_;refine kK (fun _ h=>h.aY.tail.tail) ?_;refine fH 7 rfl rfl rfl (by decide) (lS rfl) (by kernel_rfl) (fun _ _ _ h=>h) (fun _ h=>h.aY.tail.tail) ?_;refine fH 8 rfl rfl rfl (by decide) (Bm rfl rfl) (by kernel_rfl) (fun _ _ _ h=>h) (fun _ h=>h.aY.tail.tail) ?_;refine fH 9 rfl rfl rfl (by decide) (Bm rfl rfl) (by kernel_rfl) (fun _ _ _ h=>h) (fun _ h=>h.aY.tail.tail) ?_;refine cJ 11 ?_;refine rU rfl rfl ?_;simp only[fP,Value.cells,List.set,List.take,List.drop,List.nil_append,List.append_nil,List.length_cons,List.length_nil,List.cons_append,Nat.reduceAdd];refine gX ?_;refine gP ?_;refine kK (fun _ h=>h.aY.tail.tail) ?_;refine cJ 12 ?_;refine jM rfl (by decide) ?_;refine eR ?_;refine kJ ?_;refine eB ?_;exact dG g4
  ·refine bX fun g4=>?_;refine gX ?_;refine gP ?_;refine kK (fun _ h=>h.tail) ?_;refine cJ 0 ?_;refine eX aDL (fun w2 _=>aGu w2) ?_;rintro _ _ q1 ⟨gm,sub,rfl,hsub,rfl⟩ _;simp only[List.cons_append,List.nil_append];refine gX ?_;refine gP ?_;refine kK (fun _ h=>h.aY.tail.tail) ?_;refine cJ 6 ?_;refine aBj (v:=.agg #[iv (eG (dX w1) (eI w1)).n,iv (eG (dX w1) (eI w1)).m,.int .u8 (eG (dX w1) (eI w1)).a,.int .u8 (eG (dX w1) (eI w1)).b,.int .u8 (eG (dX w1) (eI w1)).c]) (et:=159) (l:=sub.reverse.map yQ) Tryz.underlying161 Zk (z:=qL 0 0 0 0 0) (by kernel_rfl) rfl (k:=(dX w1,eI w1)) rfl (fun w2 st=>st.tV (i:=0) rfl) (Pw hsub _ _).1 (Pw hsub _ _).2 (by decide) ?_;refine gX ?_;refine gP ?_;refine kK (fun _ h=>h.aY.tail.tail) ?_;refine fH 7 rfl rfl rfl (by decide) (lS rfl) (by kernel_rfl) (fun _ _ _ h=>h) (fun _ h=>h.aY.tail.tail) ?_;refine fH 8 rfl rfl rfl (by decide) (Bm rfl rfl) (by kernel_rfl) (fun _ _ _ h=>h) (fun _ h=>h.aY.tail.tail) ?_;refine fH 9 rfl rfl rfl (by decide) (Bm rfl rfl) (by kernel_rfl) (fun _ _ _ h=>h) (fun _ h=>h.aY.tail.tail) ?_;refine cJ 11 ?_;refine rU rfl rfl ?_;simp only[fP,Value.cells,List.set,List.take,List.drop,List.nil_append,List.append_nil,List.length_cons,List.length_nil,List.cons_append,Nat.reduceAdd];refine gX ?_;refine gP ?_;refine kK (fun _ h=>h.aY.tail.tail) ?_;refine cJ 12 ?_;refine jM rfl (by decide) ?_;refine eR ?_;refine kJ ?_;refine eB ?_;exact dG g4
 obtain⟨sO,Il,hF3,hF4,hF5⟩:=aGs (dX w1) (eI w1);refine aB ?_;cases h7:(uE (dX w1) (eI w1)).isSome
 ·refine aB ?_
  (refine oB ?_;rw[dH,if_neg h4,if_pos h7];rfl)
 have h7':¬(uE (dX w1) (eI w1)).isSome=false:=by rw[h7];simp
 refine aB ?_;refine aG rfl (fun h9=>?_) (fun h9=>?_)
 ·refine aB ?_
  (refine oB ?_;rw[dH,if_neg h4,if_neg h7',if_pos (by omega)];rfl)
 have h9':¬(r.length:Int)≠(eG (dX w1) (eI w1)).n:=by omega
 refine aB ?_;refine aG rfl (fun h11=>?_) (fun h11=>?_)
 ·refine aB ?_
  (refine oB ?_;rw[dH,if_neg h4,if_neg h7',if_neg h9',if_pos h11];rfl)
 obtain⟨id,hid⟩:∃x,r[0]? =some x:=⟨r[0]'(by omega),List.getElem?_eq_getElem _⟩
 obtain⟨v,hv⟩:∃x,r[(eG (dX w1) (eI w1)).n.toNat - 1]? =some x:=⟨r[(eG (dX w1) (eI w1)).n.toNat - 1]'(by omega),List.getElem?_eq_getElem _⟩
 have aNk:r.getD 0 0=id:=by rw[List.getD_eq_getElem?_getD,hid];rfl
 have hv':r.getD ((eG (dX w1) (eI w1)).n.toNat - 1) 0=v:=by rw[List.getD_eq_getElem?_getD,hv];rfl
 have aSr:=hu id (List.mem_cons_of_mem _ (List.mem_of_getElem? hid))
 have Vi:=hu v (List.mem_cons_of_mem _ (List.mem_of_getElem? hv))
 have aSq:=hcell 1 id (by simpa using hid)
 have Vg:=hcell (eG (dX w1) (eI w1)).n.toNat v (by
  obtain⟨t,ht⟩:∃t,(eG (dX w1) (eI w1)).n.toNat=t+1:=⟨(eG (dX w1) (eI w1)).n.toNat - 1,by omega⟩
  rw[ht] at hv⊢;simpa using hv)
 have hread:dH s (w1::r)=Dv s (dX w1) (eG (dX w1) (eI w1)) id v:=by rw[dH,if_neg h4,if_neg h7',if_neg h9',if_neg h11,aNk,hv']
 refine aB ?_;refine aU (fun w2 st=>aLV s A1 A2 A3 A4 n1 k1 n2 k2 n3 k3 n4 k4 (dX w1) w2 hS) ?_;refine aB ?_;refine aG rfl (fun yP=>?_) (fun yP=>?_)
 ·refine aB ?_
  (refine oB ?_;rw[hread,Dv,if_pos yP];rfl)
 refine aB ?_;refine aG rfl (fun vF=>?_) (fun vF=>?_)
 ·refine aB ?_
  (refine oB ?_;rw[hread,Dv,if_neg yP,if_pos vF];rfl)
 refine aB ?_;refine aG rfl (fun Vm=>?_) (fun Vm=>?_)
 ·refine aB ?_
  (refine oB ?_;rw[hread,Dv,if_neg yP,if_neg vF,if_pos Vm];rfl)
 have hact:([iv (eG (dX w1) (eI w1)).n,iv (eG (dX w1) (eI w1)).m,.int .u8 (eG (dX w1) (eI w1)).a,.int .u8 (eG (dX w1) (eI w1)).b,.int .u8 (eG (dX w1) (eI w1)).c]:List Value)[2+v.toNat]? =some (.int .u8 ((eG (dX w1) (eI w1)).act v)):=by
  unfold mX.act;rcases(by omega:v=0∨v=1∨v=2) with rfl | rfl | rfl<;>rfl
 have aNd:=hF4 v Vi.1 (by omega)
 generalize hk:(eG (dX w1) (eI w1)).act v=k at *;refine aB ?_;refine kd (bH rfl (Rd.aE 0 rfl hact)) ?_;refine aB ?_;refine bX fun g5=>?_;refine kO 0 rfl ?_;dsimp only[List.set];refine fD ?_;refine Gl (α:=Unit) (fun _=>[(12,pt g5),(5,pt g2)]) (fun _=>[HP.aE g5 50 [.int .u8 k,iv id],HP.aE g2 50 [.int .u8 0,iv 0]]) (fun _=>¬Ob s (dX w1) k id.toNat) ?_ fun _ nO=>?_
 ·refine aB ?_;refine bT (t:=91) rfl (fun hg=>?_) (fun hg=>?_)
  ·have hp:=aNd hg
   obtain⟨dm,sM⟩:∃d,s.domains[id.toNat]? =some d:=⟨s.domains[id.toNat]'(by rw[hp] at yP;simp only[Ah,if_true] at yP;omega),List.getElem?_eq_getElem _⟩
   obtain⟨bD,oD,rD,rfl,_,rfl,hRD⟩:=hS.dom.row sM
   have aAe:Te s id.toNat=dm.ret:=by rw[Te,sM];rfl
   have hlD:=hS.qY
   have aSi:=(List.getElem?_eq_some_iff.1 sM).1
   have Ll:=hRD.at_ (j:=2) rfl
   cases hr:dm.ret
   all_goals
    rw[hr] at Ll aAe;refine aB ?_
   ·(refine oB ?_;rw[hread,Dv,if_neg yP,if_neg vF,if_neg Vm,hk,if_pos (.inl ⟨hg,aAe⟩)];rfl)
   ·refine bT (t:=104) rfl (fun wZ=>by omega) (fun wZ=>?_);refine aB ?_;exact dG () (hg:=fun h=>by simp_all [Ob])
  ·refine aB ?_;refine bT (t:=104) rfl (fun hp=>?_) (fun hp=>?_)
   ·obtain⟨ck,Ba⟩:∃d,s.aF[id.toNat]? =some d:=⟨s.aF[id.toNat]'(by rw[hp] at yP;simp only[Ah,if_true] at yP;simp at yP;omega),List.getElem?_eq_getElem _⟩
    obtain⟨bC,oC,rC,rfl,_,⟨cA,cn,aSx,rfl,_⟩,hC⟩:=hS.sU.row Ba
    have aNi:kindOf s id.toNat=ck.kind:=by rw[kindOf,Ba];rfl
    have hlC:=hS.qZ
    have aSj:=(List.getElem?_eq_some_iff.1 Ba).1
    refine aB ?_;refine aU (fun w2 st=>aJD ck.kind _ _ _ _ _ _ _ w2) ?_
    by_cases rB:ck.kind=112∨ck.kind=103
    ·rw[decide_eq_true rB];refine aB ?_;exact dG () (hg:=fun h=>by simp_all [Ob,Ym])
    ·rw[decide_eq_false rB];refine aB ?_
     (refine oB ?_;rw[hread,Dv,if_neg yP,if_neg vF,if_neg Vm,hk,if_pos (.inr ⟨hp,fun hc=>rB (by rw[←aNi];exact hc)⟩)];rfl)
   ·refine aB ?_;exact dG () (hg:=fun h=>by simp_all [Ob])
 refine aB ?_;refine Xe [2] ?_;refine aB ?_
 (refine oB ?_;rw[hread,Dv,if_neg yP,if_neg vF,if_neg Vm,hk,if_neg nO];rfl)
end
section
def Gt(l:List Nat)(v:Value)(w w':World):Prop:=∃A c,v=.slice A l.length c∧aI (fresh w w') 1 A l.length (aM (dO l))
theorem aMa{l:List Nat}{k i:Nat}(h:l[k]? =some i):(aM (dO l))[k]? =some (iv (i:Int)):=by simp[aM,dO,h]
theorem aA3(q : Piece)(s : aC)(A1 A2 A3 A4 : Option Addr)(n1 k1 n2 k2 n3 k3 n4 k4 : Nat)(c : Nat)(w : World)(nD : qA q s A1 n1 A2 n2 A3 n3 A4 n4)(hm : s.qH)(hq : q.Le (all w))(hc : c < s.aF.length) :
    Cz 84 #[.agg #[.slice A1 n1 k1,.slice A2 n2 k2,.slice A3 n3 k3,.slice A4 n4 k4],iv (c:Int)] w (Rp (Gt (mH s c)) w):=by
  obtain⟨rfl,rfl,rfl,rfl⟩:=nD.len;refine aN func84 ntmps84 ?_;refine yZ q (by simp) hq ?_;refine aB ?_;refine bN fun g1=>?_;refine aB ?_;refine lU 3 1 ?_;refine bL [(1,iv (c:Int)),(5,sn),(2,pt g1)] ?_;refine aB ?_;refine eV (fun m e R H=>∃(cur:Nat) (l:List Nat) (A:Option Addr) (k:Nat),cur < s.aF.length∧l.length≤s.aF.length∧m=s.aF.length - l.length∧mH s c=l++sW s (s.aF.length - l.length) cur∧e=[(1,iv (cur:Int)),(5,.slice A l.length k),(2,pt g1)]∧R=[q,all w]∧H=[HP.own 3 1 (.slice A l.length k) l.length (aM (dO l)),HP.aE g1 30 [.slice A1 s.aF.length k1,.slice A2 s.domains.length k2,.slice A3 s.bA.length k3,.slice A4 s.aD.length k4]]) s.aF.length ⟨c,[],none,0,hc,by simp,rfl,rfl,rfl,rfl,rfl⟩ fun m e R H hI=>?_;obtain⟨cur,l,A,k,aN5,nW,rfl,oX,rfl,rfl,rfl⟩:=hI;refine eA ?_;refine aDy 22 (l.length < s.aF.length) ?_ ?_
  · skip
    refine fR ?_;refine dN rfl (by decide) ?_;refine aIQ rfl rfl (by decide) ?_;refine dN rfl (by decide) ?_;refine bT (t:=8) rfl (fun hg=>?_) (fun hg=>?_)
    ·
      refine jA rfl rfl ?_;refine dN rfl (by decide) ?_;refine jA rfl rfl ?_;refine xY (off:=0) (by kernel_rfl) rfl (by decide) ?_;refine jA rfl rfl ?_;refine Nh rfl ?_;refine jA rfl rfl ?_;refine Js (el:=86) (by kernel_rfl) rfl (by decide) ?_;refine jA rfl rfl ?_;refine Yb rfl rfl (by decide) ?_
      (first | refine rX rfl rfl (by decide) ?_ | refine rY rfl rfl (by decide) ?_)
      refine dN rfl (by decide) ?_;refine bT (t:=15) rfl (fun hg=>?_) (fun hg=>?_)
      ·
        refine jA rfl rfl ?_;refine dN rfl (by decide) ?_;refine jA rfl rfl ?_;refine Js (el:=3) (by kernel_rfl) rfl (by decide) ?_;refine jA rfl rfl ?_;refine xY (off:=0) (by kernel_rfl) rfl (by decide) ?_;refine jA rfl rfl ?_;refine Nh rfl ?_;refine jA rfl rfl ?_;refine Js (el:=86) (by kernel_rfl) rfl (by decide) ?_;refine jA rfl rfl ?_;refine Yb rfl rfl (by decide) ?_
        (first | refine rX rfl rfl (by decide) ?_ | refine rY rfl rfl (by decide) ?_)
        refine fD ?_;exact aAP (by repeat (first | exact trivial | refine⟨rfl,?_⟩)) (aAo rfl (by omega))
      ·
        refine jL rfl rfl rfl (by decide) ?_;refine jL rfl rfl rfl (by decide) ?_;refine jL rfl rfl rfl (by decide) ?_;refine jL rfl rfl rfl (by decide) ?_;refine jL rfl rfl rfl (by decide) ?_;refine jL rfl rfl rfl (by decide) ?_
        (first | refine rX rfl rfl (by decide) ?_ | refine rY rfl rfl (by decide) ?_)
        refine fD ?_;exact aAP (by repeat (first | exact trivial | refine⟨rfl,?_⟩)) (aCI rfl (by omega))
    ·
      refine jL rfl rfl rfl (by decide) ?_;refine jL rfl rfl rfl (by decide) ?_;refine jL rfl rfl rfl (by decide) ?_;refine jL rfl rfl rfl (by decide) ?_;refine jL rfl rfl rfl (by decide) ?_
      (first | refine rX rfl rfl (by decide) ?_ | refine rY rfl rfl (by decide) ?_)
      refine dN rfl (by decide) ?_;refine jL rfl rfl rfl (by decide) ?_;refine jL rfl rfl rfl (by decide) ?_;refine jL rfl rfl rfl (by decide) ?_;refine jL rfl rfl rfl (by decide) ?_;refine jL rfl rfl rfl (by decide) ?_;refine jL rfl rfl rfl (by decide) ?_
      (first | refine rX rfl rfl (by decide) ?_ | refine rY rfl rfl (by decide) ?_)
      refine fD ?_;exact aAP (by repeat (first | exact trivial | refine⟨rfl,?_⟩)) (aCI rfl (by omega))
  refine aG rfl (fun h=>?_) (fun h=>?_)
  ·
    refine aB ?_
    have hlt:l.length < s.aF.length:=h
    obtain⟨x,hx⟩:∃x,s.aF[cur]? =some x:=⟨_,List.getElem?_eq_getElem aN5⟩
    obtain⟨k0,hk0⟩:∃k0,s.aF.length - l.length=k0+1:=⟨s.aF.length - l.length - 1,by omega⟩
    rw[hk0,aQg hx] at oX
    have hn9:=hm.nc
    have hfit:=(hm.aF cur x hx).1
    refine aB ?_;refine eK fun g2=>?_;refine iF 1 1 8 1 (n':=l.length+1) (el:=3) (by kernel_rfl) (by kernel_rfl) (by decide) rfl rfl rfl (mM 0 rfl rfl) (by simp[Value.oneCell']) rfl (by omega) (by omega) (by decide) fun A' k'=>?_;dsimp only[List.set];rw[show aM (dO l)++[Value.int .i64 (cur:Int)]=aM (dO (l++[cur])) by simp[aM,dO]];refine aT [1,2] rfl (by decide) (R':=[q,all w]) (by simp) ?_;refine jM rfl (by decide) ?_;refine fD ?_;refine eA ?_;refine eA ?_;obtain⟨bC,oC,rC,rfl,Zz,_,hR,hcC⟩:=nD.sU.tP hx;obtain⟨As,ns,ks,rfl,rfl,Ue⟩:=hR;refine fR ?_;refine xY (off:=0) (by kernel_rfl) rfl (by decide) ?_;refine Nh rfl ?_;refine dN rfl (by decide) ?_;refine kd (dat (cur) (oC+cur*6)) ?_;refine xY (off:=1) (by kernel_rfl) rfl (by decide) ?_;refine kV (by kernel_rfl) rfl (Rd.ro (p:=q) (by simp) Zz (hcC 1 _ rfl)) (by decide) ?_;refine Js (el:=3) (by kernel_rfl) rfl (by decide) ?_;refine aEf rfl rfl (by decide) ?_;refine fD ?_;refine aG rfl (fun h0=>?_) (fun h0=>?_)
    ·
      refine aB ?_
      have hs0:x.src=[]:=List.eq_nil_of_length_eq_zero (by have:((x.src.length:Nat):Int)=0:=h0;omega)
      rw[hs0] at oX
      have vE:(l++[cur])=mH s c:=oX.symm
      refine dF [] [0] [] (by simp) rfl (by decide) (by decide) fun qf Uj _ hfr=>?_;obtain⟨Ff,sf,zf⟩:=Uj 0 _ (by simp) rfl;obtain⟨Av,cv,hv,tX⟩:=zF (Y:=qf.Z) sf zf
      exact mI rfl rfl fun w1 st=>⟨⟨_,rfl,by
        rw[←vE];unfold Gt;rw[hv]
        exact⟨Av,cv,by simp,by simpa using aI.le tX (st.mT (by simp) (hfr (by simp) (by simp)))⟩⟩,st.below (by simp)⟩
    ·
      refine oA ?_;refine eB ?_
      obtain⟨f,fs,hs0⟩:∃f fs,x.src=f::fs:=by
        cases hs0:x.src with
        | nil=>exact absurd (by rw[hs0];rfl) h0
        | cons f fs=>exact⟨f,fs,rfl⟩
      have hf:=hfit f (by rw[hs0];simp)
      obtain⟨f',rfl⟩:∃f':Nat,f=(f':Int):=⟨f.toNat,by omega⟩
      rw[hs0] at oX;obtain⟨bS,oS,rfl,hzS,hcS⟩:=Ue.2 (by rw[hs0];simp);refine fR ?_;refine xY (off:=0) (by kernel_rfl) rfl (by decide) ?_;refine Nh rfl ?_;refine dN rfl (by decide) ?_;refine kd (dat (cur) (oC+cur*6)) ?_;refine xY (off:=1) (by kernel_rfl) rfl (by decide) ?_;refine kV (by kernel_rfl) rfl (Rd.ro (p:=q) (by simp) Zz (hcC 1 _ rfl)) (by decide) ?_;refine aIT 0 oS (el:=3) (sz:=1) (by kernel_rfl) (by kernel_rfl) rfl rfl rfl (by rw[hs0];simp) (by omega) (by decide) ?_;refine kV (by kernel_rfl) rfl (Rd.ro (p:=q) (by simp) hzS (hcS 0 _ (by rw[hs0];rfl))) (by decide) ?_;refine aB ?_;exact bL [(1,iv (f':Int)),(5,.slice A' (l.length+1) k'),(2,pt g1)] (gQ (s.aF.length - (l.length+1)) (by omega) ⟨f',l++[cur],A',k',by omega,by simp;omega,by simp,by rw[oX];simp[show s.aF.length - (l.length+1)=k0 by omega],by simp,rfl,by simp⟩)
  ·
    refine aB ?_
    have hge:¬l.length < s.aF.length:=h
    rw[show s.aF.length - l.length=0 by omega] at oX
    have vE:l=mH s c:=by rw[oX];simp[sW]
    refine dF [] [0] [] (by simp) rfl (by decide) (by decide) fun qf Uj _ hfr=>?_;obtain⟨Ff,sf,zf⟩:=Uj 0 _ (by simp) rfl;obtain⟨Av,cv,hv,tX⟩:=zF (Y:=qf.Z) sf zf
    exact mI rfl rfl fun w1 st=>⟨⟨_,rfl,by
      rw[←vE];unfold Gt;rw[hv]
      exact⟨Av,cv,rfl,aI.le tX (st.mT (by simp) (hfr (by simp) (by simp)))⟩⟩,st.below (by simp)⟩
 in
end
section
def Kt(l:List Int)(x:Int):Int:=if x∈l then(l.idxOf x:Int) else -1
theorem aMQ{l:List Int}{x:Int}{i:Nat}(hno:∀j y,j < i→l[j]? =some y→y≠x)(h:l[i]? =some x):Kt l x=i:=by
 have hm:x∈l:=List.mem_of_getElem? h
 rw[Kt,if_pos hm]
 have h2:l.idxOf x=i:=by
  induction l generalizing i with
  | nil=>simp at h
  | cons a r ih =>
   cases i with
   | zero=>simp at h;subst h;simp
   | succ i=>
    have ha:a≠x:=hno 0 a (by omega) rfl
    simp at h
    have hmr:x∈r:=List.mem_of_getElem? h
    have hi:=ih (fun j y hj hy=>hno (j+1) y (by omega) (by simpa using hy)) h hmr
    have hb:(a==x)=false:=by simpa using ha
    rw[List.idxOf_cons,hb];simp[hi]
 rw[h2]
theorem aMO{l:List Int}{x:Int}(hno:∀(j:Nat) (y:Int),l[j]? =some y→y≠x):Kt l x= -1:=by
 rw[Kt,if_neg];intro hm;obtain⟨j,hj⟩:=List.getElem?_of_mem hm;exact hno j x hj rfl
theorem aMP(l:List Int)(x:Int):decide (0≤Kt l x)=decide (x∈l):=by
 unfold Kt
 by_cases h:x∈l<;>simp[h]
def yV(s:aC)(c id:Int):Bool:=decide (id∈dO (mH s c.toNat))
def Aj(s:aC)(k id:Int)(d:cH):Bool:=
 if k=100∨k=107 then decide (d.domain=id) else if k=111 then yV s d.clock id else if k=97 then decide (d.reset=id) else false
def Ge(s:aC)(wt:List Int)(k id:Int)(i:Nat):Bool:=decide (0 < (wt[i]?).getD 0)&&((s.aD[i]?).any fun d=>Aj s k id d)
def Me(s:aC)(wt:List Int)(k id:Int):Bool:=(List.range s.aD.length).any (Ge s wt k id)
theorem aA6{s:aC}{wt:List Int}{k id:Int}{i:Nat}(hi:i < s.aD.length)(h:Ge s wt k id i=true):Me s wt k id=true:=by
 rw[Me,List.any_eq_true];exact⟨i,List.mem_range.2 hi,h⟩
theorem aQq{s:aC}{wt:List Int}{k id:Int}(h:∀i,i < s.aD.length→Ge s wt k id i=false):Me s wt k id=false:=by
 rw[Me,List.any_eq_false];intro i hi;simp[h i (List.mem_range.1 hi)]
def Fm(s:aC)(x y:dR)(k id:Int)(i:Nat):Bool:=
 if k=100∨k=107 then((s.domains[i]?).any fun d=>decide (d.above=id))&&tM x y k i
 else decide ((i:Int)≠id)&&(tM x y k i&&yV s i id)
def Ik(s:aC)(k:Int):Nat:=if k=100∨k=107 then s.domains.length else if k=111 then s.aF.length else 0
def Pq(s:aC)(x y:dR)(k id:Int):Bool:=(List.range (Ik s k)).any (Fm s x y k id)
theorem aGn{s:aC}{x y:dR}{k id:Int}{i:Nat}(hi:i < Ik s k)(h:Fm s x y k id i=true):Pq s x y k id=true:=by
 rw[Pq,List.any_eq_true];exact⟨i,List.mem_range.2 hi,h⟩
theorem aCC{s:aC}{x y:dR}{k id:Int}(h:∀i,i < Ik s k→Fm s x y k id i=false):Pq s x y k id=false:=by
 rw[Pq,List.any_eq_false];intro i hi;simp[h i (List.mem_range.1 hi)]
def Qn(s:aC)(x y:dR)(ag:Nat)(k id:Int):Bool:=qV (if ag=0 then y else x) k id||Pq s x y k id
def jO(s:aC)(x y:dR)(wt:List Int)(ag:Nat)(l:List Int):Int×Int×Int:=
 if(dH s l).1≠0∨(dH s l).2.1=0∨qV (if ag=0 then x else y) (dH s l).2.1 (dH s l).2.2=decide (pQ (dH s l).2.1) then((dH s l).1,0,0)
 else if pQ (dH s l).2.1 then
  (if(dH s l).2.1=117∧(s.domains[(dH s l).2.2.toNat]?).any (fun d=>decide (d.above≠ -1)&& !tM x y 117 d.above)=true then(-3,0,0) else(0,(dH s l).2))
 else if Qn s x y ag (dH s l).2.1 (dH s l).2.2 then(-3,0,0)
 else if Me s wt (dH s l).2.1 (dH s l).2.2 then(-6,0,0)
 else(0,(dH s l).2)
def Ot(k:Int):Int:=if k=117∨k=100∨k=107 then 17 else if k=99∨k=111 then 20 else 22
def Ty(k:Int):Prop:=k=117∨k=100∨k=107∨k=99∨k=111∨k=114∨k=97
theorem aNY(p m:Int)(v:Int)(h0:0≤v)(hv:v < (eG p m).m):Ot ((eG p m).act v)=p∧Ty ((eG p m).act v):=by
 have h1:∀f:mX,uE p m=some f→v < f.m→Ot (f.act v)=p∧Ty (f.act v):=by
  intro f hf hv;unfold uE at hf
  have hv3:f.m≤3:=by
   have:=(aGs p m).2.2.1
   unfold eG uE at this;rw[hf] at this;exact this
  rcases(by omega:v=0∨v=1∨v=2) with rfl | rfl | rfl<;>
  ·repeat' split at hf
   all_goals first
    | (cases hf;done)
    | (cases hf;simp at hv;done)
    | (cases hf;simp_all [Ot,Ty,mX.act])
 unfold eG at hv⊢;cases h:uE p m with
 | none=>rw[h] at hv;simp at hv;omega
 | some f=>rw[h] at hv;exact h1 f h hv
theorem aFa{s : aC}{l : List Int}(hu : mW l) : ((dH s l).2.1 = 0 ∧ (dH s l).2.2 = 0) ∨ ((dH s l).1 = 0 ∧ Ty (dH s l).2.1 ∧ 0 ≤ (dH s l).2.2 ∧ (dH s l).2.2 < (Ah s (Ot (dH s l).2.1) : Int) ∧
  ((dH s l).2.1=107→Te s (dH s l).2.2.toNat=true)∧(Ot (dH s l).2.1=20→Ym s (dH s l).2.2.toNat)):=by
 unfold dH;split
 ·exact .inl ⟨rfl,rfl⟩
 ·rename_i w r
  split
  ·exact .inl ⟨rfl,rfl⟩
  ·split
   ·exact .inl ⟨rfl,rfl⟩
   ·split
    ·exact .inl ⟨rfl,rfl⟩
    ·split
     ·exact .inl ⟨rfl,rfl⟩
     ·have hd : ∀ i, 0 ≤ r.getD i 0 := fun i => by
       rw[List.getD_eq_getElem?_getD];cases hi:r[i]? with
       | none=>exact Int.le_refl _
       | some x=>exact(hu x (List.mem_cons_of_mem _ (List.mem_of_getElem? hi))).1
      have hid:=hd 0
      have hv:=hd ((eG (dX w) (eI w)).n.toNat - 1)
      generalize r.getD 0 0=id at *;generalize r.getD ((eG (dX w) (eI w)).n.toNat - 1) 0=v at *;unfold Dv;split
      ·exact .inl ⟨rfl,rfl⟩
      ·split
       ·exact .inl ⟨rfl,rfl⟩
       ·split
        ·exact .inl ⟨rfl,rfl⟩
        ·split
         ·exact .inl ⟨rfl,rfl⟩
         ·rename_i h1 h2 h3 h4
          obtain⟨a1,a2⟩:=aNY (dX w) (eI w) v hv (by omega);refine .inr ⟨rfl,a2,hid,by dsimp only;rw[a1];omega,fun h5=>?_,fun h5=>?_⟩
          ·dsimp only at h5⊢;cases hr:Te s id.toNat with
           | true=>rfl
           | false=>exact absurd (.inl ⟨h5,hr⟩) h4
          ·dsimp only at h5⊢;rw[a1] at h5;exact Decidable.byContradiction fun hs=>h4 (.inr ⟨h5,hs⟩)
theorem aI.int{w:World}{A:Option Addr}{n:Nat}{l:List Int}(h:aI (all w) 1 A n (aM l))(hn:0 < n):∃b off,A=some ⟨b,off,none⟩∧∀(i:Nat) (x:Int),l[i]? =some x→fS w b (off+i) (iv x):=by
 obtain⟨b,off,hA,hb,hc⟩:=h.2 hn;refine⟨b,off,hA,fun i x hx=>⟨hb,hc i _ ?_⟩⟩;simp only[aM,List.getElem?_map,hx,Option.map_some]
end
section
section
variable{N:cF}{w0:World}{e e':Env}{R R' R0:List Piece}{H H' H0:List HP}{fuel:Nat}{listed:Array Bool}{Q:Exit→Act→World→Prop}
def Xx(ops:Array Oper):List Nat:=(List.range ops.size).filter fun i=>match ops[i]? with
 | some o=>Yy o.op||(o.guard.isSome&&aE2 o.op)
 | none=>false
theorem aHM{id:Nat}{l:List Oper}(k:XB Tryz.prog N w0 l.toArray Q R H (Xx l.toArray) fuel listed e' R' H')(hk:XB Tryz.prog N w0 l.toArray Q R H (Xx l.toArray) fuel listed e' R' H'→XL 0 N w0 l.toArray Q R H (Xx l.toArray) l.length (Array.replicate l.length false) e R H:=by
  intro h
  repeat (first | refine Wy ?_ | refine Wx ?_ | refine Wv ?_ | refine Ww ?_ | refine aAG ?_ | refine Wu ?_ | refine Wz ?_)
  exact h)(hm:Tryz.prog.follows .mixedOrders=true:=by kernel_rfl)(hs:Region.noSelect l.toArray=true:=by kernel_rfl):XK N w0 ((Code.region id l.toArray true).wp Tryz.prog Q) e R H:=iX (Xx l.toArray) (hk k) hm hs
theorem aD5{ops:Array Oper}{Z:List Nat}{p:Prop}[Decidable p](t:Nat)(ht:e.get t=some (.bool (decide p)))(h1:p→XB Tryz.prog N w0 ops Q R0 H0 Z fuel listed ((t,.bool true)::e) R H)(h2:¬p→XB Tryz.prog N w0 ops Q R0 H0 Z fuel listed ((t,.bool false)::e) R H):XB Tryz.prog N w0 ops Q R0 H0 Z fuel listed e R H:=by
 intro up a w hr st
 by_cases hp:p
 ·rw[decide_eq_true hp] at ht;exact h1 hp up a w (hr.as ht) st
 ·rw[decide_eq_false hp] at ht;exact h2 hp up a w (hr.as ht) st
theorem Gq{ops:Array Oper}{Z:List Nat}{d j t:Nat}{op:Op}{ty:TypeId}{pos:String}{aH:Array Edge}{want b:Bool}(i:Nat)(k:XB Tryz.prog N w0 ops Q R0 H0 Z fuel (listed.setIfInBounds i true) ((d,undef)::e) R H)(hr:Region.ready .any ops listed=[i]:=by decide+kernel)(hi:ops[i]? =some ⟨some d,op,ty,pos,aH,some (j,want)⟩:=by rfl)(hj:(ops[j]?).bind (·.dst)=some t:=by rfl)(ht:e.get t=some (.bool b):=by rfl)(hb:b= !want:=by rfl)(hd:d < N.n:=by decide)(hS:∀w,St w0 R H w→St w0 R0 H0 w:=by exact fun _ h=>h):XB Tryz.prog N w0 ops Q R0 H0 Z (fuel+1) listed e R H:=
 aL i (jL hj ht hb hd (aZ k hS)) hr hi
end
end
section
theorem aMN(A:Option Addr)(n c:Nat)(l:List Int)(x:Int)(w:World)(hs:aI (all w) 1 A n (aM l))(hn:n=l.length)(hn2:n≤1000000):
  Cz 130 #[.slice A n c,iv x] w (Rt (iv (Kt l x)) w):=by
 refine aN func130 ntmps130 ?_;refine aB ?_;refine bL [(8,iv 0),(7,iv n),(1,iv x),(0,.slice A n c)] ?_;refine aB ?_;refine eV (fun m e R H=>∃(i:Nat),i≤n∧m=n - i∧(∀(j:Nat) (y:Int),j < i→l[j]? =some y→y≠x)∧e=[(8,iv i),(7,iv n),(1,iv x),(0,.slice A n c)]∧R=[all w]∧H=[]) n ⟨0,by omega,rfl,(fun j y hj=>absurd hj (Nat.not_lt_zero j)),rfl,rfl,rfl⟩ fun m e R H hI=>?_;obtain⟨i,hi,rfl,hno,rfl,rfl,rfl⟩:=hI;refine aB ?_;refine aG rfl (fun h=>?_) (fun h=>?_)
 ·
  refine aB ?_
  have hil:i < n:=by have h':(i:Int) < (n:Int):=h;omega
  obtain⟨y,hy⟩:∃y,l[i]? =some y:=⟨l[i]'(by omega),List.getElem?_eq_getElem _⟩
  obtain⟨b,off,rfl,hc⟩:=hs.int (by omega)
  have hcy:=hc i y hy
  refine aB ?_;refine aG rfl (fun h2=>?_) (fun h2=>?_)
  ·
   refine aB ?_;exact aP (h:=fun _ _=>by rw[aMQ (i:=i) hno (h2▸hy)])
  ·
   refine aB ?_
   exact eP (n - (i+1)) ⟨i+1,by omega,rfl,(fun j y' hj hy'=>by
    rcases Nat.lt_or_ge j i with h1 | h1
    ·exact hno j y' h1 hy'
    ·have hji:j=i:=by omega
     subst hji;rw[hy] at hy';cases hy'
     exact fun h=>h2 h.symm),rfl,rfl,rfl⟩
 ·
  refine aB ?_
  have hin:i=n:=by have h':¬(i:Int) < (n:Int):=h;omega
  subst hin;exact aP (h:=fun _ _=>by rw[aMO (fun j y hy=>hno j y (by have:=(List.getElem?_eq_some_iff.1 hy).1;omega) hy)])
theorem aGY(A:Option Addr)(n c:Nat)(l:List Int)(x:Int)(w:World)(hs:aI (all w) 1 A n (aM l))(hn:n=l.length)(hn2:n≤1000000):
  Cz 83 #[.slice A n c,iv x] w (Rt (.bool (decide (x∈l))) w):=by
 refine aN func83 ntmps83 ?_;refine aB ?_;refine cZ (fun w1 st=>aMN A n c l x w1 (hs.le (st.le (by simp))) hn hn2) ?_;refine aB ?_;exact aP (h:=fun _ _=>by rw[←aMP])
theorem aQp(q:Piece)(s:aC)(A1 A2 A3 A4:Option Addr)(n1 k1 n2 k2 n3 k3 n4 k4:Nat)(Aw:Option Addr)(nw cw:Nat)(wt:List Int)(k id:Int)(w:World)(nD:qA q s A1 n1 A2 n2 A3 n3 A4 n4)(hm:s.qH)(hq:q.Le (all w))(hw:aI (all w) 1 Aw nw (aM wt))(hnw:nw=wt.length):
  Cz 33 #[.agg #[.slice A1 n1 k1,.slice A2 n2 k2,.slice A3 n3 k3,.slice A4 n4 k4],.slice Aw nw cw,.agg #[.int .u8 k,iv id]] w (Rt (.bool (Me s wt k id)) w):=by
 obtain⟨rfl,rfl,rfl,rfl⟩:=nD.len;refine aN func33 ntmps33 ?_;refine yZ q (by simp) hq ?_;refine aB ?_;refine bN fun g1=>?_;refine aB ?_;refine bN fun g2=>?_;refine aB ?_;refine tA (α:=Unit) (fun _=>[]) (fun _=>[]) (fun _=>∀j,j < s.aD.length→Ge s wt k id j=false) ?_ fun _ hno=>?_
 ·refine rK (α:=Unit) (fun i _=>[(12,iv i),(11,iv s.aD.length),(10,.slice A4 s.aD.length k4),(5,pt g2),(3,pt g1),(1,.slice Aw nw cw)]) (fun _ _=>[HP.aE g2 50 [.int .u8 k,iv id],HP.aE g1 30 [.slice A1 s.aF.length k1,.slice A2 s.domains.length k2,.slice A3 s.bA.length k3,.slice A4 s.aD.length k4]]) (fun i _=>∀j,j < i→Ge s wt k id j=false) s.aD.length () (fun j hj=>absurd hj (Nat.not_lt_zero j)) fun i _ hi hno=>?_
  have Lg:Ge s wt k id i=false→∀j,j < i+1→Ge s wt k id j=false:=fun h j hj=>by
   rcases(by omega:j < i∨j=i) with hj | rfl
   ·exact hno j hj
   ·exact h
  have hnc:=hm.nc
  have hnd:=hm.nd
  have rE:=hm.nv
  refine aB ?_;refine aG rfl (fun h=>?_) (fun h=>?_)
  ·have hil:i < s.aD.length:=by omega
   obtain⟨d,hd⟩:=get_some hil;obtain⟨hx1,Ey,hx3,hx4,hx5,hx6,_⟩:=hm.aD i d hd;obtain⟨bV,oV,rV,rfl,hzV,_,hR,Vh⟩:=nD.dev.tP hd;obtain⟨Ar,nr,kr,An,nn,kn,rfl,_⟩:=hR;obtain⟨xc,hxc⟩:∃xc:Nat,d.clock=(xc:Int):=⟨d.clock.toNat,by omega⟩
   rw[hxc] at Vh
   have hk:=dU.le hzV Vh hq
   have wX:Ge s wt k id i=(decide (0 < (wt[i]?).getD 0)&&Aj s k id d):=by rw[Ge,hd];rfl
   refine aB ?_;refine bX fun g3=>?_;refine aB ?_;refine bT (t:=21) rfl (fun h2=>?_) (fun h2=>?_)
   ·refine aB ?_;exact jW () (hg:=Lg (by rw[wX,List.getElem?_eq_none (by omega)];rfl))
   obtain⟨y,hy⟩:=get_some (l:=wt) (i:=i) (by omega);obtain⟨bW,oW,rfl,hcW⟩:=hw.int (by omega)
   have hcy:=hcW i y hy
   rw[hy] at wX;refine aB ?_;refine aG rfl (fun h3=>?_) (fun h3=>?_)
   ·refine aB ?_;exact jW () (hg:=Lg (by rw[wX,decide_eq_false (by simpa using h3)];rfl))
   rw[decide_eq_true (show 0 < (some y).getD 0 by simpa using h3)] at wX;refine aB ?_;refine bT (t:=30) rfl (fun hA=>?_) (fun hA=>?_)
   ·refine aB ?_;refine aG rfl (fun h4=>?_) (fun h4=>?_)
    ·refine aB ?_;exact dI (by rw[aA6 hil (by rw[wX];unfold Aj yV;simp_all)])
    ·refine aB ?_;exact jW () (hg:=Lg (by rw[wX];unfold Aj yV;simp_all))
   refine aB ?_;refine bT (t:=30) rfl (fun hB=>?_) (fun hB=>?_)
   ·refine aB ?_;refine aG rfl (fun h4=>?_) (fun h4=>?_)
    ·refine aB ?_;exact dI (by rw[aA6 hil (by rw[wX];unfold Aj yV;simp_all)])
    ·refine aB ?_;exact jW () (hg:=Lg (by rw[wX];unfold Aj yV;simp_all))
   refine aB ?_;refine bT (t:=38) rfl (fun hC=>?_) (fun hC=>?_)
   ·refine aB ?_;refine uL ?_;refine aL 3 ?_;refine jN [q] (Gt (mH s xc)) (fun w2 st=>aA3 q s _ _ _ _ _ k1 _ k2 _ k3 _ k4 xc w2 nD hm (st.le (by simp)) (by omega)) ?_;rintro _ w2 q1 ⟨Ac,cc,rfl,oX⟩ hf hle _
    have oX:=oX.le hf
    have aN7:=aA4 s s.aF.length xc
    refine aZ ?_ (hS:=fun _ h=>h.aY);refine aL 6 ?_;refine aU (fun w3 st=>aGY Ac _ cc (dO (mH s xc)) id w3 (oX.le (st.le (by simp))) (by simp[dO]) (by unfold mH;omega)) ?_;refine cE ?_;refine dW ?_;refine aB ?_;refine aG rfl (fun h4=>?_) (fun h4=>?_)
    ·refine aB ?_;exact dI (by rw[aA6 hil (by rw[wX];unfold Aj yV;simp_all)])
    ·refine aB ?_;exact jW () (hg:=Lg (by rw[wX];unfold Aj yV;simp_all))
   refine aB ?_;refine bT (t:=47) rfl (fun hD=>?_) (fun hD=>?_)
   ·refine aB ?_;refine aG rfl (fun h4=>?_) (fun h4=>?_)
    ·refine aB ?_;exact dI (by rw[aA6 hil (by rw[wX];unfold Aj yV;simp_all)])
    ·refine aB ?_;exact jW () (hg:=Lg (by rw[wX];unfold Aj yV;simp_all))
   refine aB ?_;exact jW () (hg:=Lg (by rw[wX];unfold Aj yV;simp_all))
  ·refine aB ?_;exact dG () (hg:=fun j hj=>hno j (by omega))
 ·refine aB ?_;exact dI (by rw[aQq hno])
theorem nS.box{q:Piece}{x y:dR}{A1 A2 A3 B1 B2 B3:Option Addr}{n1 k1 n2 k2 n3 k3 m1 l1 m2 l2 m3 l3:Nat}{w:World}{g:Nat}
  (hx:nS q x y (.agg #[.slice A1 n1 k1,.slice A2 n2 k2,.slice A3 n3 k3,.slice B1 m1 l1,.slice B2 m2 l2,.slice B3 m3 l3])) (hq:q.Le (all w)) (hg:dU w g 0 [.slice A1 n1 k1,.slice A2 n2 k2,.slice A3 n3 k3,.slice B1 m1 l1,.slice B2 m2 l2,.slice B3 m3 l3]):StM w g x y:=by
 obtain⟨C1,j1,C2,j2,C3,j3,D1,i1,D2,i2,D3,i3,he,s1,s2,s3,s4,s5,s6⟩:=hx;simp only[Value.agg.injEq,Array.mk.injEq,List.cons.injEq,Value.slice.injEq] at he;obtain⟨⟨rfl,rfl,rfl⟩,⟨rfl,rfl,rfl⟩,⟨rfl,rfl,rfl⟩,⟨rfl,rfl,rfl⟩,⟨rfl,rfl,rfl⟩,⟨rfl,rfl,rfl⟩,_⟩:=he;intro i hi;rcases(by omega:i=0∨i=1) with rfl | rfl
 ·exact⟨A1,k1,A2,k2,A3,k3,by simpa using hg.at_ (j:=0) rfl,by simpa using hg.at_ (j:=1) rfl,by simpa using hg.at_ (j:=2) rfl,s1.le hq,s2.le hq,s3.le hq⟩
 ·exact⟨B1,l1,B2,l2,B3,l3,by simpa using hg.at_ (j:=3) rfl,by simpa using hg.at_ (j:=4) rfl,by simpa using hg.at_ (j:=5) rfl,s4.le hq,s5.le hq,s6.le hq⟩
theorem aPt(q qx:Piece)(s:aC)(A1 A2 A3 A4:Option Addr)(n1 k1 n2 k2 n3 k3 n4 k4:Nat)(X1 X2 X3 Y1 Y2 Y3:Option Addr)(zP vX zO vW zN vV zM vT zL vS zK vR:Nat)(x y:dR)(ag:Nat)(k id:Int)(w:World)(nD:qA q s A1 n1 A2 n2 A3 n3 A4 n4)(hm:s.qH)(hq:q.Le (all w))(Ln:nS qx x y (.agg #[.slice X1 zP vX,.slice X2 zO vW,.slice X3 zN vV,.slice Y1 zM vT,.slice Y2 zL vS,.slice Y3 zK vR]))(Fh:qx.Le (all w))(hag:ag < 2):
  Cz 32 #[.agg #[.slice A1 n1 k1,.slice A2 n2 k2,.slice A3 n3 k3,.slice A4 n4 k4],.agg #[.slice X1 zP vX,.slice X2 zO vW,.slice X3 zN vV,.slice Y1 zM vT,.slice Y2 zL vS,.slice Y3 zK vR],iv (ag:Int),.agg #[.int .u8 k,iv id]] w (Rt (.bool (Qn s x y ag k id)) w):=by
 obtain⟨rfl,rfl,rfl,rfl⟩:=nD.len
 have hnc:=hm.nc
 have hnd:=hm.nd
 have nx:∀{i:Nat} {p:Nat→Prop},(∀j,j < i→p j)→p i→∀j,j < i+1→p j:=fun {i p} h1 h2 j hj=>by
  rcases(by omega:j < i∨j=i) with hj | rfl
  ·exact h1 j hj
  ·exact h2
 refine aN func32 ntmps32 ?_;refine yZ qx (by simp) Fh ?_;refine yZ q (by simp) hq ?_;refine aB ?_;refine bN fun g1=>?_;refine aB ?_;refine bN fun g2=>?_;refine aB ?_;refine bN fun g3=>?_;refine aB ?_;refine tA (α:=Unit) (fun _=>[(7,pt g3),(5,pt g2),(4,pt g1)]) (fun _=>[HP.aE g3 50 [.int .u8 k,iv id],HP.aE g2 58 [.slice X1 zP vX,.slice X2 zO vW,.slice X3 zN vV,.slice Y1 zM vT,.slice Y2 zL vS,.slice Y3 zK vR],HP.aE g1 30 [.slice A1 s.aF.length k1,.slice A2 s.domains.length k2,.slice A3 s.bA.length k3,.slice A4 s.aD.length k4]]) (fun _=>qV (if ag=0 then y else x) k id=false) ?_ fun _ aCz=>?_
 ·refine rK (α:=Unit) (fun i _=>[(13,iv i),(7,pt g3),(5,pt g2),(4,pt g1),(2,iv (ag:Int))]) (fun _ _=>[HP.aE g3 50 [.int .u8 k,iv id],HP.aE g2 58 [.slice X1 zP vX,.slice X2 zO vW,.slice X3 zN vV,.slice Y1 zM vT,.slice Y2 zL vS,.slice Y3 zK vR],HP.aE g1 30 [.slice A1 s.aF.length k1,.slice A2 s.domains.length k2,.slice A3 s.bA.length k3,.slice A4 s.aD.length k4]]) (fun i _=>∀j:Nat,j < i→¬(j:Int)=ag→qV (if j=0 then x else y) k id=false) 2 () (fun j hj=>absurd hj (Nat.not_lt_zero j)) fun i _ hi hno=>?_;refine aB ?_;refine aG rfl (fun h=>?_) (fun h=>?_)
  ·have hi2:i < 2:=by omega
   refine aB ?_;refine bT (t:=19) rfl (fun h1=>?_) (fun h1=>?_)
   ·refine aB ?_;refine aU (fun w1 st=>aBp g2 i (if i=0 then x else y) k id w1 hi2 (nS.box Ln (st.le (by simp)) (st.box (i:=1) rfl) i hi2)) ?_;cases hb:qV (if i=0 then x else y) k id
    ·refine aB ?_;exact jW () (hg:=nx hno fun _=>hb)
    ·refine aB ?_;refine jI (by simp) ?_
     have aCz:qV (if ag=0 then y else x) k id=true:=by
      rcases(by omega:(i=0∧ag=1)∨(i=1∧ag=0)) with⟨rfl,rfl⟩ | ⟨rfl,rfl⟩<;>simpa using hb
     rw[Qn,aCz];rfl
   ·refine aB ?_;exact jW () (hg:=nx hno fun hc=>absurd hc h1)
  ·obtain rfl:i=2:=by omega
   refine aB ?_;refine dG () (hg:=?_);rcases(by omega:ag=0∨ag=1) with rfl | rfl
   ·simpa using hno 1 (by omega) (by omega)
   ·simpa using hno 0 (by omega) (by omega)
 have Ve:Qn s x y ag k id=Pq s x y k id:=by rw[Qn,aCz,Bool.false_or]
 refine eA ?_;refine eA ?_;refine fR ?_;refine bE ?_;refine bE ?_;refine fD ?_;refine xN ?_;refine Gl (α:=Bool) (fun b=>[(30,.bool b),(29,.int .u8 k),(7,pt g3),(5,pt g2),(4,pt g1)]) (fun _=>[HP.aE g3 50 [.int .u8 k,iv id],HP.aE g2 58 [.slice X1 zP vX,.slice X2 zO vW,.slice X3 zN vV,.slice Y1 zM vT,.slice Y2 zL vS,.slice Y3 zK vR],HP.aE g1 30 [.slice A1 s.aF.length k1,.slice A2 s.domains.length k2,.slice A3 s.bA.length k3,.slice A4 s.aD.length k4]]) (fun b=>b=true↔k=100∨k=107) ?_ fun b hb=>?_
 ·refine aB ?_;refine bT (t:=30) rfl (fun hA=>?_) (fun hA=>?_)
  ·refine aB ?_;exact dG true (hg:=by simp[hA])
  ·refine aB ?_;refine bT (t:=30) rfl (fun hB=>?_) (fun hB=>?_)
   ·exact dG true (hg:=by simp[hB])
   ·exact dG false (hg:=by simp[hA,hB])
 cases b
 ·have Pf:¬(k=100∨k=107):=fun hh=>by simpa using hb.2 hh
  refine aB ?_;refine bT (t:=53) rfl (fun hC=>?_) (fun hC=>?_)
  ·have Us:Ik s k=s.aF.length:=by rw[Ik,if_neg Pf,if_pos hC]
   refine aB ?_;refine rK (α:=Unit) (fun i _=>[(58,iv i),(57,iv s.aF.length),(7,pt g3),(5,pt g2),(4,pt g1)]) (fun _ _=>[HP.aE g3 50 [.int .u8 k,iv id],HP.aE g2 58 [.slice X1 zP vX,.slice X2 zO vW,.slice X3 zN vV,.slice Y1 zM vT,.slice Y2 zL vS,.slice Y3 zK vR],HP.aE g1 30 [.slice A1 s.aF.length k1,.slice A2 s.domains.length k2,.slice A3 s.bA.length k3,.slice A4 s.aD.length k4]]) (fun i _=>∀j,j < i→Fm s x y k id j=false) s.aF.length () (fun j hj=>absurd hj (Nat.not_lt_zero j)) fun i _ hi hno=>?_;refine aB ?_;refine aG rfl (fun h=>?_) (fun h=>?_)
   ·have hil:i < s.aF.length:=by omega
    have dV:Fm s x y k id i=(decide ((i:Int)≠id)&&(tM x y k i&&decide (id∈dO (mH s i)))):=by rw[Fm,if_neg Pf,yV,Int.toNat_natCast]
    refine aB ?_;refine aHM ?_;refine aD5 65 rfl (fun h1=>?_) (fun h1=>?_)
    ·rw[decide_eq_true h1] at dV;refine qQ 5 ?_;refine aL 8 ?_;refine aB ?_;refine aU (fun w1 st=>aBq g2 x y k i w1 (nS.box Ln (st.le (by simp)) (st.box (i:=1) rfl))) ?_;cases hw:tM x y k i
     all_goals
      rw[hw] at dV;refine aZ ?_;refine qQ 9 ?_
     ·refine Gq 13 ?_;refine qQ 14 ?_;refine Gq 16 ?_;refine qQ 17 ?_;refine dW ?_;refine aB ?_;exact jW () (hg:=nx hno (by rw[dV];rfl))
     ·refine aL 13 ?_;refine aB ?_;refine jN [q] (Gt (mH s i)) (fun w2 st=>aA3 q s _ _ _ _ _ k1 _ k2 _ k3 _ k4 i w2 nD hm (st.le (by simp)) (by omega)) ?_;rintro _ w2 q1 ⟨Ac,cc,rfl,oX⟩ hf hle _
      have oX:=oX.le hf
      have aN7:=aA4 s s.aF.length i
      refine aZ ?_ (hS:=fun _ h=>h.aY);refine aL 16 ?_;refine aB ?_;refine aU (fun w3 st=>aGY Ac _ cc (dO (mH s i)) id w3 (oX.le (st.le (by simp))) (by simp[dO]) (by unfold mH;omega)) ?_;refine aZ ?_ (hS:=fun _ h=>h.aY);refine kU 17 ?_;refine dW ?_;refine aB ?_;refine aG rfl (fun h4=>?_) (fun h4=>?_)
      ·refine aB ?_;exact dI (by rw[Ve,aGn (by rw[Us];exact hil) (by rw[dV,decide_eq_true h4];rfl)])
      ·refine aB ?_;exact jW () (hg:=nx hno (by rw[dV,decide_eq_false h4];rfl))
    ·refine qQ 5 ?_;refine Gq 8 ?_;refine qQ 9 ?_;refine Gq 13 ?_;refine qQ 14 ?_;refine Gq 16 ?_;refine qQ 17 ?_;refine dW ?_;refine aB ?_;exact jW () (hg:=nx hno (by rw[dV,decide_eq_false h1];rfl))
   ·refine aB ?_;exact dI (by rw[Ve,aCC (by rw[Us];exact fun j hj=>hno j (by omega))])
  ·refine aB ?_;exact dI (by rw[Ve,aCC (by rw[Ik,if_neg Pf,if_neg hC];exact fun j hj=>absurd hj (Nat.not_lt_zero j))])
 ·have Pf:k=100∨k=107:=hb.1 rfl
  have Us:Ik s k=s.domains.length:=by rw[Ik,if_pos Pf]
  refine aB ?_;refine rK (α:=Unit) (fun i _=>[(36,iv i),(35,iv s.domains.length),(34,.slice A2 s.domains.length k2),(7,pt g3),(5,pt g2),(4,pt g1)]) (fun _ _=>[HP.aE g3 50 [.int .u8 k,iv id],HP.aE g2 58 [.slice X1 zP vX,.slice X2 zO vW,.slice X3 zN vV,.slice Y1 zM vT,.slice Y2 zL vS,.slice Y3 zK vR],HP.aE g1 30 [.slice A1 s.aF.length k1,.slice A2 s.domains.length k2,.slice A3 s.bA.length k3,.slice A4 s.aD.length k4]]) (fun i _=>∀j,j < i→Fm s x y k id j=false) s.domains.length () (fun j hj=>absurd hj (Nat.not_lt_zero j)) fun i _ hi hno=>?_;refine aB ?_;refine aG rfl (fun h=>?_) (fun h=>?_)
  ·have hil:i < s.domains.length:=by omega
   obtain⟨d,hd⟩:=get_some hil;obtain⟨bD,oD,rD,rfl,Tz,_,rfl,Ll⟩:=nD.dom.tP hd
   have hk:=dU.le Tz Ll hq
   have dV:Fm s x y k id i=(decide (d.above=id)&&tM x y k i):=by rw[Fm,if_pos Pf,hd];rfl
   refine aB ?_;refine bX fun g4=>?_;refine aB ?_;refine bT (t:=46) rfl (fun h1=>?_) (fun h1=>?_)
   ·rw[decide_eq_true h1] at dV;refine aB ?_;refine aU (fun w1 st=>aBq g2 x y k i w1 (nS.box Ln (st.le (by simp)) (st.box (i:=2) rfl))) ?_;cases hw:tM x y k i
    all_goals
     rw[hw] at dV;refine aB ?_
    ·exact jW () (hg:=nx hno dV)
    ·exact dI (by rw[Ve,aGn (by rw[Us];exact hil) dV])
   ·refine aB ?_;exact jW () (hg:=nx hno (by rw[dV,decide_eq_false h1];rfl))
  ·refine aB ?_;exact dI (by rw[Ve,aCC (by rw[Us];exact fun j hj=>hno j (by omega))])
end
section
theorem aAz(q qx:Piece)(s:aC)(A1 A2 A3 A4:Option Addr)(n1 k1 n2 k2 n3 k3 n4 k4:Nat)(X1 X2 X3 Y1 Y2 Y3:Option Addr)(zP vX zO vW zN vV zM vT zL vS zK vR:Nat)(x y:dR)(Aw:Option Addr)(nw cw:Nat)(wt:List Int)(ag:Nat)(Al:Option Addr)(nl cl:Nat)(l:List Int)(w:World)(nD:qA q s A1 n1 A2 n2 A3 n3 A4 n4)(hm:s.qH)(hq:q.Le (all w))(Ln:nS qx x y (.agg #[.slice X1 zP vX,.slice X2 zO vW,.slice X3 zN vV,.slice Y1 zM vT,.slice Y2 zL vS,.slice Y3 zK vR]))(Fh:qx.Le (all w))(hw:aI (all w) 1 Aw nw (aM wt))(hnw:nw=wt.length)(hag:ag < 2)(hl:aI (all w) 1 Al nl (dY l))(fL:nl=l.length)(aFU:nl≤1000000)(hu:mW l):
  Cz 13 #[.agg #[.slice A1 n1 k1,.slice A2 n2 k2,.slice A3 n3 k3,.slice A4 n4 k4],.agg #[.slice X1 zP vX,.slice X2 zO vW,.slice X3 zN vV,.slice Y1 zM vT,.slice Y2 zL vS,.slice Y3 zK vR],.slice Aw nw cw,iv (ag:Int),.slice Al nl cl] w (Rt (Rc (jO s x y wt ag l)) w):=by
 generalize hrd:dH s l=rd;obtain⟨st,k,id⟩:=rd;refine aN func13 ntmps13 ?_;refine yZ qx (by simp) Fh ?_;refine yZ q (by simp) hq ?_;refine aB ?_;refine bN fun g1=>?_;refine aB ?_;refine bN fun g2=>?_;refine aB ?_;refine bX fun g3=>?_;refine aB ?_;refine bT (t:=17) rfl (fun h=>absurd h (by omega)) (fun _=>?_);refine aB ?_;refine bT (t:=21) rfl (fun h=>absurd h (by omega)) (fun _=>?_);refine aB ?_;refine aU (v:=iv 0) (fun w1 st=>(aA1 s A1 A2 A3 A4 n1 k1 n2 k2 n3 k3 n4 k4 w1 (nD.W (st.le (by simp)) hm.small)).mono fun _ _ h=>aDD h (by rw[hm.Qs])) ?_;refine aB ?_;refine aU (v:=.tuple #[.int .i32 st,.agg #[.int .u8 k,iv id]]) (fun w1 st=>(aLc s A1 A2 A3 A4 n1 k1 n2 k2 n3 k3 n4 k4 Al nl cl l w1 (nD.W (st.le (by simp)) hm.small) (hl.le (st.le (by simp))) fL aFU hu).mono fun _ _ h=>aDD h (by rw[hrd];rfl)) ?_;refine aB ?_;refine bX fun g4=>?_;refine aB ?_;refine aHM ?_;refine aD5 35 rfl (fun h1=>?_) (fun h1=>?_)
 ·refine qQ 3 ?_;refine Gq 13 ?_;refine qQ 14 ?_;refine Gq 16 ?_;refine qQ 17 ?_;refine dW ?_;refine aB ?_
  (refine oB ?_;rw[jO,hrd];dsimp only;rw[if_pos (.inl h1)];rfl)
 refine qQ 3 ?_;refine aD5 40 rfl (fun h2=>?_) (fun h2=>?_)
 ·refine qQ 8 ?_;refine Gq 13 ?_;refine qQ 14 ?_;refine Gq 16 ?_;refine qQ 17 ?_;refine dW ?_;refine aB ?_
  (refine oB ?_;rw[jO,hrd];dsimp only;rw[if_pos (.inr (.inl h2))];rfl)
 refine qQ 8 ?_;refine aL 13 ?_;refine aB ?_;refine aU (fun w1 st=>aBp g2 ag (if ag=0 then x else y) k id w1 hag (nS.box Ln (st.le (by simp)) (st.box (i:=2) rfl) ag hag)) ?_;refine aZ ?_;refine qQ 14 ?_;refine aL 16 ?_;refine aB ?_;refine aU (fun w1 st=>aBM k w1) ?_;refine aZ ?_;refine qQ 17 ?_;refine dW ?_;refine aB ?_;refine pE rfl (fun h3=>?_) (fun h3=>?_)
 ·refine aB ?_
  (refine oB ?_;rw[jO,hrd];dsimp only;rw[if_pos (.inr (.inr (by simpa using h3)))];rfl)
 have Ky:st=0:=by omega
 have h4:¬(st≠0∨k=0∨qV (if ag=0 then x else y) k id=decide (pQ k)):=fun hh=>by
  rcases hh with hh | hh | hh
  ·exact hh Ky
  ·exact h2 hh
  ·rw[hh] at h3;simp at h3
 refine aB ?_;refine aU (fun w1 st=>aBM k w1) ?_;refine aB ?_;refine aG rfl (fun h6=>?_) (fun h6=>?_)
 ·refine aB ?_;refine aG rfl (fun h7=>?_) (fun h7=>?_)
  ·subst h7
   have hok:=aFa (s:=s) hu
   rw[hrd] at hok
   have hid:=hok.resolve_left (fun hh=>by have:=hh.1;simp at this)
   have aSl:0≤id:=hid.2.2.1
   have aSk:id < (s.domains.length:Int):=hid.2.2.2.1
   obtain⟨d,hd⟩:=get_some (l:=s.domains) (i:=id.toNat) (by omega);obtain⟨rfl,rfl,rfl,rfl⟩:=nD.len;obtain⟨bD,oD,rD,rfl,Tz,_,rfl,Ll⟩:=nD.dom.tP hd
   have hk:=dU.le Tz Ll hq
   have ha:=hk.at_ (j:=0) rfl
   have hab:(s.domains[id.toNat]?).any (fun d=>decide (d.above≠ -1)&& !tM x y 117 d.above)=(decide (d.above≠ -1)&& !tM x y 117 d.above):=by rw[hd];rfl
   refine aB ?_;refine bT (t:=69) rfl (fun h8=>?_) (fun h8=>?_)
   ·rw[decide_eq_true h8] at hab;refine aB ?_;refine aU (fun w1 st=>aBq g2 x y 117 d.above w1 (nS.box Ln (st.le (by simp)) (st.box (i:=2) rfl))) ?_;cases hw9:tM x y 117 d.above
    all_goals
     rw[hw9] at hab;refine aB ?_
    ·(refine oB ?_;rw[jO,hrd];dsimp only;rw[if_neg h4,if_pos h6,if_pos ⟨rfl,hab⟩];rfl)
    ·refine Xe [2] ?_;refine aB ?_
     (refine oB ?_;rw[jO,hrd];dsimp only;rw[if_neg h4,if_pos h6,if_neg (fun hh=>by have h':=hh.2;rw[hab] at h';cases h')];rfl)
   ·rw[decide_eq_false h8] at hab;refine aB ?_;refine Xe [2] ?_;refine aB ?_
    (refine oB ?_;rw[jO,hrd];dsimp only;rw[if_neg h4,if_pos h6,if_neg (fun hh=>by have h':=hh.2;rw[hab] at h';cases h')];rfl)
  ·refine aB ?_;refine Xe [2] ?_;refine aB ?_
   (refine oB ?_;rw[jO,hrd];dsimp only;rw[if_neg h4,if_pos h6,if_neg (fun hh=>h7 hh.1)];rfl)
 ·refine aB ?_;refine aU (fun w1 st=>aPt q qx s A1 A2 A3 A4 n1 k1 n2 k2 n3 k3 n4 k4 X1 X2 X3 Y1 Y2 Y3 zP vX zO vW zN vV zM vT zL vS zK vR x y ag k id w1 nD hm (st.le (by simp)) Ln (st.le (by simp)) hag) ?_;cases hde:Qn s x y ag k id
  ·refine aB ?_;refine aU (fun w1 st=>aQp q s A1 A2 A3 A4 n1 k1 n2 k2 n3 k3 n4 k4 Aw nw cw wt k id w1 nD hm (st.le (by simp)) (hw.le (st.le (by simp))) hnw) ?_;cases hbu:Me s wt k id
   ·refine aB ?_;refine Xe [2] ?_;refine aB ?_
    (refine oB ?_;rw[jO,hrd];dsimp only;rw[if_neg h4,if_neg h6,hde,if_neg (by simp),hbu,if_neg (by simp)];rfl)
   ·refine aB ?_
    (refine oB ?_;rw[jO,hrd];dsimp only;rw[if_neg h4,if_neg h6,hde,if_neg (by simp),hbu,if_pos rfl];rfl)
  ·refine aB ?_
   (refine oB ?_;rw[jO,hrd];dsimp only;rw[if_neg h4,if_neg h6,hde,if_pos rfl];rfl)
end
section
def yG(l:List Bool)(id:Int)(b:Bool):List Bool:=if 0≤id∧id < (l.length:Int) then l.set id.toNat b else l
theorem aEC{l:List Bool}{id:Int}(b:Bool)(h:¬(0≤id∧id < (l.length:Int))):yG l id b=l:=if_neg h
theorem Nr(l:List Bool)(id:Int)(b:Bool):(yG l id b).length=l.length:=by unfold yG;split<;>simp
def oN(x:dR)(k id:Int):dR:=
 if k=117∨k=100∨k=107 then⟨yG x.d id (decide (pQ k)),x.c,x.l⟩
 else if k=99∨k=111 then⟨x.d,yG x.c id (decide (pQ k)),x.l⟩
 else if k=114∨k=97 then⟨x.d,x.c,yG x.l id (decide (pQ k))⟩ else x
def lD(x:dR)(ag:Nat)(k id:Int):dR:=if ag=0 then oN x k id else x
def lC(y:dR)(ag:Nat)(k id:Int):dR:=if ag=0 then y else oN y k id
theorem aQ2{l:List Bool}{id:Int}(b:Bool)(h:0≤id∧id < (l.length:Int)):(bG l).set id.toNat (.bool b)=bG (yG l id b):=by
 rw[yG,if_pos h];simp[bG,List.map_set]
section
variable{N:cF}{w0 w:World}{e:Env}{R:List Piece}{H:List HP}{K:Act→World→Prop}
theorem St.aL2(st:St w0 R H w){i n c sz:Nat}{t:TypeId}{A:Option Addr}{xs:List Value}(hi:H[i]? =some (HP.own t sz (.slice A n c) n xs))(hn:0 < n):∃g,A=some ⟨g,0,none⟩:=by
 obtain⟨_,h2⟩:=st.own hi;rcases h2 with⟨h2,h3⟩ | ⟨g',cap,cur,hv,_⟩
 ·omega
 ·injection hv with h4 h5 h6
  exact⟨g',h4⟩
theorem aRn(i:Nat){n c sz:Nat}{t:TypeId}{A:Option Addr}{xs:List Value}(hi:H[i]? =some (HP.own t sz (.slice A n c) n xs))(h:n≤c→XK N w0 K e R H):XK N w0 K e R H:=fun a w hr st=>by
 obtain⟨_,h2⟩:=st.own hi;refine h ?_ a w hr st;rcases h2 with⟨_,h3⟩ | ⟨g',cap,cur,hv,_,_,h3,_⟩
 ·omega
 ·injection hv with h4 h5 h6
  omega
theorem aAM(i:Nat){n c sz:Nat}{t:TypeId}{A:Option Addr}{xs:List Value}(hi:H[i]? =some (HP.own t sz (.slice A n c) n xs))(hn:0 < n)(h:(∃g,A=some ⟨g,0,none⟩)→XK N w0 K e R H):XK N w0 K e R H:=fun a w hr st=>h (st.aL2 hi hn) a w hr st
end
end
section
structure gA where
 a1:AC
 a2:AC
 a3:AC
 a4:AC
 x1:AC
 x2:AC
 x3:AC
 y1:AC
 y2:AC
 y3:AC
 b0:AC
 b1:AC
structure cI where
 x:dR
 y:dR
 h0:Int
 h1:Int
 w0:List Int
 w1:List Int
 last:Int
 at_:Int
 kind:Int
 id:Int
def sP(s:aC):cI:=⟨fI s,fI s,0,0,[],[],1,-1,0,0⟩
def wI(a:AC)(n:Nat):Value:=.slice a.1 n a.2
def jH(h:Nat)(L:gA)(s:aC)(z:cI):List Value:=[pt h,.slice L.a1.1 s.aF.length L.a1.2,.slice L.a2.1 s.domains.length L.a2.2,.slice L.a3.1 s.bA.length L.a3.2,.slice L.a4.1 s.aD.length L.a4.2,
 .slice L.x1.1 z.x.d.length L.x1.2,.slice L.x2.1 z.x.c.length L.x2.2,.slice L.x3.1 z.x.l.length L.x3.2,.slice L.y1.1 z.y.d.length L.y1.2,.slice L.y2.1 z.y.c.length L.y2.2,.slice L.y3.1 z.y.l.length L.y3.2,
 iv z.h0,.slice L.b0.1 z.w0.length L.b0.2,iv z.h1,.slice L.b1.1 z.w1.length L.b1.2,iv z.last,iv z.at_,.int .u8 z.kind,iv z.id]
def uO(L:gA)(s:aC)(p:Piece):Prop:=qA p s L.a1.1 s.aF.length L.a2.1 s.domains.length L.a3.1 s.bA.length L.a4.1 s.aD.length
theorem uO.le{L:gA}{s:aC}(p q:Piece)(hl:p.Le q)(h:uO L s p):uO L s q:=qA.le h hl
def pG(L:gA)(x y:dR)(p:Piece):Prop:=aI p 1 L.x1.1 x.d.length (bG x.d)∧aI p 1 L.x2.1 x.c.length (bG x.c)∧aI p 1 L.x3.1 x.l.length (bG x.l)∧aI p 1 L.y1.1 y.d.length (bG y.d)∧aI p 1 L.y2.1 y.c.length (bG y.c)∧aI p 1 L.y3.1 y.l.length (bG y.l)
theorem pG.le{L:gA}{x y:dR}(p q:Piece)(hl:p.Le q)(h:pG L x y p):pG L x y q:=⟨h.1.le hl,h.2.1.le hl,h.2.2.1.le hl,h.2.2.2.1.le hl,h.2.2.2.2.1.le hl,h.2.2.2.2.2.le hl⟩
def eD(a:AC)(l:List Int)(p:Piece):Prop:=aI p 1 a.1 l.length (dY l)
theorem eD.le{a:AC}{l:List Int}(p q:Piece)(hl:p.Le q)(h:eD a l p):eD a l q:=aI.le h hl
theorem nS.P{q:Piece}{x y:dR}{v:Value}(h:nS q x y v):∃x1 x2 x3 y1 y2 y3:AC,v=.agg #[wI x1 x.d.length,wI x2 x.c.length,wI x3 x.l.length,wI y1 y.d.length,wI y2 y.c.length,wI y3 y.l.length]∧∀a1 a2 a3 a4 b0 b1:AC,pG ⟨a1,a2,a3,a4,x1,x2,x3,y1,y2,y3,b0,b1⟩ x y q:=by
 obtain⟨A1,k1,A2,k2,A3,k3,B1,m1,B2,m2,B3,m3,e,a1,a2,a3,b1,b2,b3⟩:=h;exact⟨(A1,k1),(A2,k2),(A3,k3),(B1,m1),(B2,m2),(B3,m3),e,fun _ _ _ _ _ _=>⟨a1,a2,a3,b1,b2,b3⟩⟩
def iE(f h:Nat)(L:gA)(s:aC)(z:cI):HP:=HP.many [HP.aE f 175 (jH h L s z),HP.bR (uO L s) (uO.le (L:=L) (s:=s)),HP.bR (pG L z.x z.y) (pG.le (L:=L) (x:=z.x) (y:=z.y)),HP.bR (eD L.b0 z.w0) (eD.le (a:=L.b0) (l:=z.w0)),HP.bR (eD L.b1 z.w1) (eD.le (a:=L.b1) (l:=z.w1))]
def By(f h:Nat)(s:aC)(z:cI):HP:=HP.ex fun L:gA=>iE f h L s z
structure Jo(w:World)(f h:Nat)(L:gA)(s:aC)(z:cI):Prop where
 r0:dU w f 0 (jH h L s z)
 so:uO L s (all w)
 st:pG L z.x z.y (all w)
 b0:eD L.b0 z.w0 (all w)
 b1:eD L.b1 z.w1 (all w)
theorem aI3{f h:Nat}{L:gA}{s:aC}{z:cI}{F:Nat→Prop}{w:World}(k:(iE f h L s z).sat F w)(hF:∀b,F b→b < w.heap.size):Jo w f h L s z:=by
 obtain⟨G,g1,g2,_⟩:=k
 have hl:∀i,(⟨w,G i⟩:Piece).Le (all w):=fun i b hb=>⟨hF b (g2 i b hb),rfl⟩
 exact⟨uI (g1 0 _ rfl).2,uO.le _ _ (hl 1) (g1 1 _ rfl),pG.le _ _ (hl 2) (g1 2 _ rfl),eD.le _ _ (hl 3) (g1 3 _ rfl),eD.le _ _ (hl 4) (g1 4 _ rfl)⟩
theorem St.Dm{w0 w:World}{R:List Piece}{H:List HP}{f h:Nat}{L:gA}{s:aC}{z:cI}(t:St w0 R H w)(i:Nat)(hi:H[i]? =some (iE f h L s z)):Jo w f h L s z:=by
 obtain⟨F,h1,h2,_⟩:=t.chunk hi;exact aI3 h1 h2
def aI2(h:Nat)(s:aC)(v:Value)(hs:List HP)(_:Piece):Prop:=∃f,v=.tuple #[pt f,iv 0]∧hs=[By f h s (sP s)]
theorem aAt{w:World}(a:AC)(ha:a=(none,0)):(HP.bR (eD a []) (eD.le (a:=a) (l:=[]))).sat (fun _=>False) w:=by
 subst ha;exact⟨rfl,fun h=>absurd h (by simp)⟩
theorem aOn(h:Nat)(s:aC)(hH:s.dJ)(A1 A2 A3 A4:Option Addr)(n1 k1 n2 k2 n3 k3 n4 k4:Nat)(w:World)(hW:iD w s A1 n1 A2 n2 A3 n3 A4 n4):
  Cz 49 #[pt h,.agg #[.slice A1 n1 k1,.slice A2 n2 k2,.slice A3 n3 k3,.slice A4 n4 k4]] w (fun y w'=>(∃v hs q,y=.returned v∧q.w=w'∧aI2 h s v hs q∧gI w hs q)∧Below w.heap.size w w'):=by
 obtain rfl:=hW.qZ;obtain rfl:=hW.qY;obtain rfl:=hW.tW;obtain rfl:=hW.sI;refine aN func49 ntmps49 ?_;refine aA ?_;refine bN fun g1=>?_;refine aA ?_;refine aU (fun w1 t=>Qt s A1 A2 A3 A4 _ k1 _ k2 _ k3 _ k4 w1 (hW.le (t.started (by simp))) hH.t.Qs) ?_;refine aA ?_;refine iX [1,3] ?_;refine bJ 0 ?_;refine aK 1 ?_;refine aK 3 ?_;refine aL 2 ?_
 refine jN [] (fun v w w'=>aBf s v w w') (fun w1 t=>aDe s A1 A2 A3 A4 _ k1 _ k2 _ k3 _ k4 w1 (hW.le (t.started (by simp))) (fun d hd=>by
  obtain⟨j,hj⟩:=List.getElem?_of_mem hd
  have:=(hH.t.aD j d hj).2.2.2.2.2.2.2.2.1
  omega)) ?_
 rintro _ w1 q1 ⟨cs,rfl,hcs⟩ Fi _ sO
 have sO:=sO (by simp)
 obtain⟨B1,m1,j1,B2,m2,j2,B3,m3,j3,B4,m4,j4,rfl,hsp⟩:=uN.P hcs
 have hsp:=hsp.le Fi
 obtain⟨rfl,rfl,rfl,rfl⟩:=hsp.len;refine Jd (Φ:=uO ⟨(B1,j1),(B2,j2),(B3,j3),(B4,j4),(none,0),(none,0),(none,0),(none,0),(none,0),(none,0),(none,0),(none,0)⟩ s) (hm:=uO.le) sO (by simp[all]) hsp ?_;refine aZ ?_;refine aL 4 ?_;refine jN [] (fun v w w'=>nS (fresh w w') (fI s) (fI s) v) (fun w1 st=>aB0 s A1 A2 A3 A4 k1 k2 k3 k4 w1 hH.t) ?_;rintro _ w2 q2 hst vC _ Il
 have Il:=Il (by simp)
 obtain⟨x1,x2,x3,y1,y2,y3,rfl,Kz⟩:=hst.P
 have Kz:=pG.le _ _ vC (Kz (B1,j1) (B2,j2) (B3,j3) (B4,j4) (none,0) (none,0))
 refine Jd (Φ:=pG ⟨(B1,j1),(B2,j2),(B3,j3),(B4,j4),x1,x2,x3,y1,y2,y3,(none,0),(none,0)⟩ (fI s) (fI s)) (hm:=pG.le) Il (by simp[all]) Kz ?_;refine aZ ?_;refine aL 5 ?_;refine kd (iN rfl) ?_;refine cE ?_;refine aL 6 ?_;refine bN fun f=>?_;refine cE ?_;refine aL 7 ?_;refine bE ?_;refine cE ?_;refine dW ?_;refine aA ?_;refine oF (p:=HP.bR (eD (none,0) []) (eD.le (a:=(none,0)) (l:=[]))) (fun w=>aAt _ rfl) ?_;refine oF (p:=HP.bR (eD (none,0) []) (eD.le (a:=(none,0)) (l:=[]))) (fun w=>aAt _ rfl) ?_;refine aT [2,4,3,0,1] rfl (by decide) (R':=[all w]) (by simp) ?_;refine mU ?_;refine qN ?_;refine qN ?_;refine qN ?_;refine uK 0 (f:=fun L:gA=>iE f h L s (sP s)) ⟨(B1,j1),(B2,j2),(B3,j3),(B4,j4),x1,x2,x3,y1,y2,y3,(none,0),(none,0)⟩ rfl ?_;dsimp only[List.set];refine dF [] [] [0] (by simp) rfl (by decide) (by decide) fun q _ _ hfr=>?_;exact fQ rfl rfl rfl fun w1 t=>⟨⟨_,_,⟨w1,q.Z⟩,rfl,rfl,⟨f,rfl,rfl⟩,t.newR (by simp) (by simp) (hfr (by simp) (by simp))⟩,t.below (by simp)⟩
end
section
section
variable{N:cF}{w0 w:World}{e:Env}{R:List Piece}{H:List HP}{K:Act→World→Prop}{f h:Nat}{s:aC}{z:cI}
theorem Xb(i:Nat)(hi:H[i]? =some (By f h s z))(k:∀L:gA,XK N w0 K e R (HP.aE f 175 (jH h L s z)::H.set i (HP.many [cG,HP.bR (uO L s) (uO.le (L:=L) (s:=s)),HP.bR (pG L z.x z.y) (pG.le (L:=L) (x:=z.x) (y:=z.y)),HP.bR (eD L.b0 z.w0) (eD.le (a:=L.b0) (l:=z.w0)),HP.bR (eD L.b1 z.w1) (eD.le (a:=L.b1) (l:=z.w1))]))):XK N w0 K e R H:=by
 have hlt:=wU hi
 refine aAN i hi fun L=>?_;refine qM i 0 (by rw[List.getElem?_set_self hlt];rfl) rfl ?_
 simpa[List.set_set] using k L
theorem zB(L:gA)(i:Nat)(hi:H[i]? =some (HP.many [cG,HP.bR (uO L s) (uO.le (L:=L) (s:=s)),HP.bR (pG L z.x z.y) (pG.le (L:=L) (x:=z.x) (y:=z.y)),HP.bR (eD L.b0 z.w0) (eD.le (a:=L.b0) (l:=z.w0)),HP.bR (eD L.b1 z.w1) (eD.le (a:=L.b1) (l:=z.w1))]))(k:XK N w0 K e R (H.set i (By f h s z))):XK N w0 K e R (HP.aE f 175 (jH h L s z)::H):=by
 have hlt:=wU hi
 refine qO i 0 hi rfl ?_;refine uK i (f:=fun L:gA=>iE f h L s z) L (by rw[List.getElem?_set_self hlt];rfl) ?_;rw[List.set_set];exact k
end
def iG(z:cI)(a:Int)(l:List Int):Int×cI:=
 if bZ 2 a=false then(4,z) else if a=0 then(if z.h0≠0 then(7,z) else(0,{z with h0:=1,w0:=l})) else(if z.h1≠0 then(7,z) else(0,{z with h1:=1,w1:=l}))
theorem aGx(f h:Nat)(s:aC)(z:cI)(a:Int)(A:Option Addr)(n c:Nat)(l:List Int)(w:World)(F:Nat→Prop)(hp:(By f h s z).sat F w)(hF:∀b,F b→b < w.heap.size)(hs:aI ⟨w,fun b=>b < w.heap.size∧¬F b⟩ 1 A n (dY l))(hn:n=l.length)(hn2:n≤1000000):
  Cz 96 #[pt f,iv a,.slice A n c] w (Wr (iv (iG z a l).1) (By f h s (iG z a l).2) w F):=by
 subst hn;cases hin:bZ 2 a
 ·have hr:iG z a l=(4,z):=by simp[iG,hin]
  rw[hr];refine cS func96 ntmps96 hp hF ?_;refine aA ?_;refine aU (fun w1 t=>Oq a w1) ?_;rw[hin];refine aA ?_;exact bO 0 hF
 ·obtain rfl | rfl:a=0∨a=1:=by have:=of_decide_eq_true hin;omega
  ·refine cS func96 ntmps96 hp hF ?_;refine Xb 0 rfl fun L=>?_;dsimp only[List.set,jH];refine aA ?_;refine aU (fun w1 t=>Oq 0 w1) ?_;refine aA ?_;refine kd (fN 0 11) ?_;refine aA ?_;refine aG rfl (fun hb=>?_) (fun hb=>?_)
   ·have hr:iG z 0 l=(7,z):=by simp[iG,bZ,hb]
    rw[hr];refine aA ?_;refine zB L 0 rfl ?_;dsimp only[List.set];exact bO 0 hF
   ·have hr:iG z 0 l=(0,{z with h0:=1,w0:=l}):=by simp[iG,bZ];simpa using hb
    rw[hr];refine aA ?_;refine iX [5,6] ?_;refine bJ 0 ?_;refine bJ 1 ?_;refine bJ 2 ?_;refine aK 5 ?_;refine aK 6 ?_;refine aL 3 ?_;refine eX (Xv l.length (dY l)) (fun w1 t=>aA0 A _ c _ w1 (hs.le (t.le (by simp))) (Gz _) hn2) ?_;rintro _ _ q1 ⟨An,cn,rfl,rfl⟩ _;dsimp only[List.cons_append,List.nil_append];refine aZ ?_;refine aL 4 ?_;refine kd (iN rfl) ?_;refine aZ ?_;refine aL 7 ?_;refine kd (fN 0 11) ?_;refine cE ?_;refine aL 8 ?_;refine qC 1 (t:=175) rfl rfl rfl (by kernel_rfl) (by simp[Value.cells,Value.oneCell']) (by simp[Value.cells]) ?_;dsimp only[List.set,Value.cells,fP];refine cE ?_;refine dW ?_;refine aA ?_;refine xM 0 (Φ:=eD (An,cn) l) (hm:=eD.le) rfl (fun p hp=>hp) ?_;refine aV 2 3 ?_;refine aT [1,2,3] rfl (by decide) (fun _ h=>h) ?_;refine aJ 1 3 ?_;refine zB (h:=h) (s:=s) (z:={z with h0:=1,w0:=l}) {L with b0:=(An,cn)} 0 rfl ?_;dsimp only[List.set];exact bO 0 hF
  ·refine cS func96 ntmps96 hp hF ?_;refine Xb 0 rfl fun L=>?_;dsimp only[List.set,jH];refine aA ?_;refine aU (fun w1 t=>Oq 1 w1) ?_;refine aA ?_;refine kd (fN 1 13) ?_;refine aA ?_;refine aG rfl (fun hb=>?_) (fun hb=>?_)
   ·have hr:iG z 1 l=(7,z):=by simp[iG,bZ,hb]
    rw[hr];refine aA ?_;refine zB L 0 rfl ?_;dsimp only[List.set];exact bO 0 hF
   ·have hr:iG z 1 l=(0,{z with h1:=1,w1:=l}):=by simp[iG,bZ];simpa using hb
    rw[hr];refine aA ?_;refine iX [5,6] ?_;refine bJ 0 ?_;refine bJ 1 ?_;refine bJ 2 ?_;refine aK 5 ?_;refine aK 6 ?_;refine aL 3 ?_;refine eX (Xv l.length (dY l)) (fun w1 t=>aA0 A _ c _ w1 (hs.le (t.le (by simp))) (Gz _) hn2) ?_;rintro _ _ q1 ⟨An,cn,rfl,rfl⟩ _;dsimp only[List.cons_append,List.nil_append];refine aZ ?_;refine aL 4 ?_;refine kd (iN rfl) ?_;refine aZ ?_;refine aL 7 ?_;refine kd (fN 1 13) ?_;refine cE ?_;refine aL 8 ?_;refine qC 1 (t:=175) rfl rfl rfl (by kernel_rfl) (by simp[Value.cells,Value.oneCell']) (by simp[Value.cells]) ?_;dsimp only[List.set,Value.cells,fP];refine cE ?_;refine dW ?_;refine aA ?_;refine xM 0 (Φ:=eD (An,cn) l) (hm:=eD.le) rfl (fun p hp=>hp) ?_;refine aV 2 4 ?_;refine aT [1,2,3] rfl (by decide) (fun _ h=>h) ?_;refine aJ 1 4 ?_;refine zB (h:=h) (s:=s) (z:={z with h1:=1,w1:=l}) {L with b1:=(An,cn)} 0 rfl ?_;dsimp only[List.set];exact bO 0 hF
def lP(z:cI)(a:Int):Option (List Int):=if a=0 then(if z.h0=2 then some z.w0 else none) else if a=1 then(if z.h1=2 then some z.w1 else none) else none
def kM(z:cI)(a:Int):cI:=if a=0 then(if z.h0=2 then {z with h0:=0,w0:=[]} else z) else if a=1 then(if z.h1=2 then {z with h1:=0,w1:=[]} else z) else z
def Nx(l:Option (List Int))(a:AC):Value:=match l with
 | some l=>.tuple #[.slice a.1 l.length a.2,.bool true]
 | none=>.tuple #[.slice none 0 0,.bool false]
def Et(f h:Nat)(s:aC)(z:cI)(l:List Int)(c:AC):HP:=HP.many [By f h s z,HP.bR (eD c l) (eD.le (a:=c) (l:=l))]
theorem aCN(f h:Nat)(s:aC)(z:cI)(a:Int)(w:World)(F:Nat→Prop)(hp:(By f h s z).sat F w)(hF:∀b,F b→b < w.heap.size):
  Cz 39 #[pt f,iv a] w (fun y w'=>∃c:AC,y=.returned (Nx (lP z a) c)∧True∧∃F',(Et f h s (kM z a) ((lP z a).getD []) c).sat F' w'∧iC w w' F F'):=by
 have Vb:∀w:World,(HP.bR (eD (none,0) []) (eD.le (a:=(none,0)) (l:=[]))).sat (fun _=>False) w:=fun w=>aAt _ rfl
 cases hin:bZ 2 a
 ·have h0:a≠0:=fun h=>by subst h;cases hin
  have h1:a≠1:=fun h=>by subst h;cases hin
  have hr:lP z a=none:=by simp[lP,h0,h1]
  have hz:kM z a=z:=by simp[kM,h0,h1]
  rw[hr,hz];unfold Et;refine cS func39 ntmps39 hp hF ?_;refine aA ?_;refine aU (fun w1 t=>Oq a w1) ?_;rw[hin];refine aA ?_;refine oF (p:=HP.bR (eD (none,0) []) (eD.le (a:=(none,0)) (l:=[]))) Vb ?_;refine aT [1,0] rfl (by decide) (fun _ h=>h) ?_;refine mU ?_;exact fQ rfl rfl rfl fun w1 t=>⟨(none,0),rfl,trivial,t.turns hF (by simp) (i:=0) rfl⟩
 ·obtain rfl | rfl:a=0∨a=1:=by have:=of_decide_eq_true hin;omega
  ·refine cS func39 ntmps39 hp hF ?_;refine Xb 0 rfl fun L=>?_;dsimp only[List.set,jH];refine aA ?_;refine aU (fun w1 t=>Oq 0 w1) ?_;refine aA ?_;refine kd (fN 0 11) ?_;refine aA ?_;refine aG rfl (fun hb=>?_) (fun hb=>?_)
   ·have hr:lP z 0=none:=by simp[lP,hb]
    have hz:kM z 0=z:=by simp[kM,hb]
    rw[hr,hz];unfold Et;dsimp only[Option.getD];refine aA ?_;refine zB L 0 rfl ?_;dsimp only[List.set];refine oF (p:=HP.bR (eD (none,0) []) (eD.le (a:=(none,0)) (l:=[]))) Vb ?_;refine aT [1,0] rfl (by decide) (fun _ h=>h) ?_;refine mU ?_;exact fQ rfl rfl rfl fun w1 t=>⟨(none,0),rfl,trivial,t.turns hF (by simp) (i:=0) rfl⟩
   ·have eF:z.h0=2:=by simpa using hb
    have hr:lP z 0=some z.w0:=by simp[lP,eF]
    have hz:kM z 0={z with h0:=0,w0:=[]}:=by simp[kM,eF]
    rw[hr,hz];unfold Et;dsimp only[Option.getD];refine aA ?_;refine kd (fN 0 11) ?_;refine aA ?_;refine kd (iN rfl) ?_;refine aA ?_;refine kd (fN 0 11) ?_;refine qC 0 (t:=175) rfl rfl rfl (by kernel_rfl) (by simp[Value.cells,Value.oneCell']) (by simp[Value.cells]) ?_;dsimp only[List.set,Value.cells,fP];refine aA ?_;refine aV 1 3 ?_;refine oF (p:=HP.bR (eD (none,0) []) (eD.le (a:=(none,0)) (l:=[]))) Vb ?_;refine aT [0,2,3,1] rfl (by decide) (fun _ h=>h) ?_;refine aJ 1 3 ?_;refine zB (h:=h) (s:=s) (z:={z with h0:=0,w0:=[]}) {L with b0:=(none,0)} 0 rfl ?_;dsimp only[List.set];refine mU ?_;exact fQ rfl rfl rfl fun w1 t=>⟨L.b0,rfl,trivial,t.turns hF (by simp) (i:=0) rfl⟩
  ·refine cS func39 ntmps39 hp hF ?_;refine Xb 0 rfl fun L=>?_;dsimp only[List.set,jH];refine aA ?_;refine aU (fun w1 t=>Oq 1 w1) ?_;refine aA ?_;refine kd (fN 1 13) ?_;refine aA ?_;refine aG rfl (fun hb=>?_) (fun hb=>?_)
   ·have hr:lP z 1=none:=by simp[lP,hb]
    have hz:kM z 1=z:=by simp[kM,hb]
    rw[hr,hz];unfold Et;dsimp only[Option.getD];refine aA ?_;refine zB L 0 rfl ?_;dsimp only[List.set];refine oF (p:=HP.bR (eD (none,0) []) (eD.le (a:=(none,0)) (l:=[]))) Vb ?_;refine aT [1,0] rfl (by decide) (fun _ h=>h) ?_;refine mU ?_;exact fQ rfl rfl rfl fun w1 t=>⟨(none,0),rfl,trivial,t.turns hF (by simp) (i:=0) rfl⟩
   ·have eF:z.h1=2:=by simpa using hb
    have hr:lP z 1=some z.w1:=by simp[lP,eF]
    have hz:kM z 1={z with h1:=0,w1:=[]}:=by simp[kM,eF]
    rw[hr,hz];unfold Et;dsimp only[Option.getD];refine aA ?_;refine kd (fN 1 13) ?_;refine aA ?_;refine kd (iN rfl) ?_;refine aA ?_;refine kd (fN 1 13) ?_;refine qC 0 (t:=175) rfl rfl rfl (by kernel_rfl) (by simp[Value.cells,Value.oneCell']) (by simp[Value.cells]) ?_;dsimp only[List.set,Value.cells,fP];refine aA ?_;refine aV 1 4 ?_;refine oF (p:=HP.bR (eD (none,0) []) (eD.le (a:=(none,0)) (l:=[]))) Vb ?_;refine aT [0,2,3,1] rfl (by decide) (fun _ h=>h) ?_;refine aJ 1 4 ?_;refine zB (h:=h) (s:=s) (z:={z with h1:=0,w1:=[]}) {L with b1:=(none,0)} 0 rfl ?_;dsimp only[List.set];refine mU ?_;exact fQ rfl rfl rfl fun w1 t=>⟨L.b1,rfl,trivial,t.turns hF (by simp) (i:=0) rfl⟩
end
section
def Bi(c:eW)(r:Int):Int:=if c.kind=112 then(if 1099511627776 < r*c.mul / c.div then 1099511627776 else r*c.mul / c.div) else if c.kind=100 then r / c.div else r
def Lw(s:aC):Nat→Nat→Int
 | 0,_=>0
 | k + 1, i => match s.aF[i]? with
  | none=>0
  | some c=>if c.kind=111 then c.rate else Bi c (match c.src with
   | []=>0
   | f::_=>Lw s k f.toNat)
def pW(s:aC)(i:Nat):Int:=Lw s (i+1) i
def Hj(s:aC)(st:List eM)(i:Int):Int:=if tO s st i then pW s i.toNat else 0
theorem aOs{s:aC}(hf:Fits eW.fit s.aF):∀(c k:Nat),c < k→Lw s k c=Lw s (c+1) c:=by
 intro c
 induction c using Nat.strongRecOn with
 | _ c ih =>
  intro k hk;obtain⟨k,rfl⟩:=Nat.exists_eq_add_of_lt hk;rw[show c+k+1=(c+k)+1 from rfl];unfold Lw;cases hc:s.aF[c]? with
  | none=>rfl
  | some x =>
   dsimp only;cases hs:x.src with
   | nil=>rfl
   | cons f fs=>
    have hfit:=(hf c x hc).1 f (by rw[hs];simp)
    have h1:f.toNat < c:=by omega
    dsimp only;rw[ih f.toNat h1 (c+k) (by omega),ih f.toNat h1 c h1]
theorem aG7{s:aC}(hf:Fits eW.fit s.aF){i:Nat}{c:eW}(hc:s.aF[i]? =some c):pW s i=if c.kind=111 then c.rate else Bi c (match c.src with
  | []=>0
  | f::_=>pW s f.toNat):=by
 unfold pW;rw[Lw,hc];dsimp only;cases hs:c.src with
 | nil=>rfl
 | cons f fs=>
  have hfit:=(hf i c hc).1 f (by rw[hs];simp)
  dsimp only;rw[aOs hf f.toNat i (by omega)]
theorem aOr{s:aC}(hf:Fits eW.fit s.aF):∀i:Nat,0≤pW s i∧pW s i≤1099511627776:=by
 intro i
 induction i using Nat.strongRecOn with
 | _ i ih =>
  cases hc:s.aF[i]? with
  | none=>unfold pW Lw;rw[hc];exact⟨Int.le_refl 0,by show(0:Int)≤1099511627776;omega⟩
  | some c =>
   rw[aG7 hf hc];obtain⟨hsrc,hfit⟩:=hf i c hc
   have hr:0≤(match c.src with | []=>0 | f::_=>pW s f.toNat)∧(match c.src with | []=>0 | f::_=>pW s f.toNat)≤1099511627776:=by
    cases hs:c.src with
    | nil=>exact⟨Int.le_refl 0,by show(0:Int)≤1099511627776;omega⟩
    | cons f fs=>
     have:=hsrc f (by rw[hs];simp)
     exact ih f.toNat (by omega)
   generalize (match c.src with | []=>0 | f::_=>pW s f.toNat)=r at hr;rcases hfit with⟨hk,_,h1,h2,_⟩ | ⟨hk,_,_,h1,h2,h3,h4,_⟩ | ⟨hk,_,_,_,h1,h2,_⟩ | ⟨hk,_⟩ | ⟨hk,_⟩
   ·rw[if_pos hk];omega
   ·rw[if_neg (by omega),Bi,if_pos hk]
    have:0≤r*c.mul / c.div:=Int.ediv_nonneg (Int.mul_nonneg hr.1 (by omega)) (by omega)
    split<;>omega
   ·rw[if_neg (by omega),Bi,if_neg (by omega),if_pos hk]
    have h5:0≤r / c.div:=Int.ediv_nonneg hr.1 (by omega)
    have h6:r / c.div≤r:=Int.ediv_le_self _ hr.1
    omega
   ·rw[if_neg (by omega),Bi,if_neg (by omega),if_neg (by omega)];exact hr
   ·rw[if_neg (by omega),Bi,if_neg (by omega),if_neg (by omega)];exact hr
theorem aG8(n:Int)(h1:1≤n)(h2:n≤1000)(w:World):Cz 222 #[iv n] w (Rt (.bool true) w):=by
 refine aN func222 ntmps222 ?_;refine aA ?_;refine bT (t:=5) rfl (fun _=>?_) (fun h=>absurd h1 h);refine aA ?_;refine jI (by simp) ?_;rw[decide_eq_true h2]
theorem aKb(r m d:Int)(hr:0≤r∧r≤1099511627776)(hm:1≤m∧m≤8)(hd:1≤d∧d≤4)(w:World):Cz 221 #[.int .u64 r,iv m,iv d] w (Rt (.tuple #[.int .u64 (if 1099511627776 < r*m / d then 0 else r*m / d),iv (if 1099511627776 < r*m / d then 3 else 0)]) w):=by
 have hmul:0≤r*m∧r*m≤1099511627776*8:=⟨Int.mul_nonneg hr.1 (by omega),Int.mul_le_mul hr.2 hm.2 (by omega) (by omega)⟩
 have hq:0≤r*m / d∧r*m / d≤r*m:=⟨Int.ediv_nonneg hmul.1 (by omega),Int.ediv_le_self _ hmul.1⟩
 refine aN func221 ntmps221 ?_;refine aA ?_;refine bT (t:=11) rfl (fun h=>absurd h (by omega)) (fun _=>?_);refine aA ?_;refine aU (fun w1 t=>aG8 m hm.1 (by omega) w1) ?_;refine aA ?_;refine aU (fun w1 t=>aG8 d hd.1 (by omega) w1) ?_;refine aA ?_;refine Cc (ds:=.int .i64) (kd:=.u64) (by kernel_rfl) (by kernel_rfl) rfl (wrap_u64 (by omega)) (by decide) ?_;refine aIF rfl rfl (c:=r*m) (wrap_u64 (by omega)) (by decide) ?_;refine aA ?_;refine Cc (ds:=.int .i64) (kd:=.u64) (by kernel_rfl) (by kernel_rfl) rfl (wrap_u64 (by omega)) (by decide) ?_;refine aEa rfl rfl (c:=r*m / d) (by omega) (by rw[Int.tdiv_eq_ediv_of_nonneg hmul.1];exact wrap_u64 (by omega)) (by decide) ?_;refine aA ?_;refine aG rfl (fun h=>?_) (fun h=>?_)
 ·rw[if_pos h,if_pos h];refine aA ?_;exact fQ rfl rfl rfl fun w1 t=>⟨rfl,t.below (by simp)⟩
 ·rw[if_neg h,if_neg h];refine aA ?_;exact fQ rfl rfl rfl fun w1 t=>⟨rfl,t.below (by simp)⟩
theorem aPP(L:TL)(s:aC)(st:List eM)(hH:s.dJ)(b1 b2:Nat):∀(i:Nat),i < s.aF.length→∀w,vN w L s st→fS w b1 0 (.pointer (some ⟨L.t,0,none⟩))→fS w b2 0 (.func (.func 220) #[] #[pt b1,pt b2])→
  Cz 220 #[iv (i:Int),pt b1,pt b2] w (Rt (.int .u64 (pW s i)) w):=by
 intro i
 induction i using Nat.strongRecOn with
 | _ i ih =>
  intro hlt w hR sN eF;obtain⟨b,off,c,a,x,hc,hx,hA,hro,hs⟩:=hR.node hlt
  have Uz:=aG7 hH.t.aF hc
  have h0:=hR.r0
  rw[hA] at h0
  have k0:=hro.at_ (j:=0) rfl
  have k2:=hro.at_ (j:=2) rfl
  have k3:=hro.at_ (j:=3) rfl
  have k4:=hro.at_ (j:=4) rfl
  have k10:=hro.at_ (j:=10) rfl
  have Pv:∀{w1},Below w.heap.size w w1→fS w1 b1 0 (.pointer (some ⟨L.t,0,none⟩)):=fun hb=>⟨Nat.lt_of_lt_of_le sN.1 hb.size,(hb.cell (p:=⟨_,0,none⟩) sN.1).trans sN.2⟩
  have go2:∀{w1},Below w.heap.size w w1→fS w1 b2 0 (.func (.func 220) #[] #[pt b1,pt b2]):=fun hb=>⟨Nat.lt_of_lt_of_le eF.1 hb.size,(hb.cell (p:=⟨_,0,none⟩) eF.1).trans eF.2⟩
  obtain⟨hsrc,hfit⟩:=hH.t.aF i c hc;refine aN func220 ntmps220 ?_;refine aA ?_;refine kd (dat i (off+i*11)) ?_;rcases hfit with⟨hk,hs0,_⟩ | hfit
  ·rw[hk] at k0;rw[if_pos hk] at Uz;refine aA ?_;exact dI (by rw[Uz])
  obtain⟨f,fs,hf⟩:∃(f:Nat) (fs:List Int),c.src=(f:Int)::fs:=by
   cases hs0:c.src with
   | nil=>rw[hs0] at hfit;simp at hfit
   | cons f fs=>exact⟨f.toNat,fs,by have:=(hsrc f (by rw[hs0];simp)).1;rw[Int.toNat_of_nonneg this]⟩
  have Lh:f < i:=by have:=(hsrc f (by rw[hf];simp)).2;omega
  have nX:=aOr hH.t.aF f
  have aAm:∀w1,Below w.heap.size w w1→Cz 187 #[.pointer (some ⟨L.t,0,none⟩),iv (i:Int)] w1 (Rt (iv (f:Int)) w1):=fun w1 hb=>Qr L s st i f c fs w1 (hR.below hb) hc hf
  have aAl:∀w1,Below w.heap.size w w1→Cz 220 #[iv (f:Int),pt b1,pt b2] w1 (Rt (.int .u64 (pW s f)) w1):=fun w1 hb=>ih f Lh (by omega) w1 (hR.below hb) (Pv hb) (go2 hb)
  rw[hf] at Uz
  have Aq:pW s i=if c.kind=111 then c.rate else Bi c (pW s f):=Uz
  clear Uz;rcases hfit with⟨hk,_,_,hm1,hm2,cY,hd2,_⟩ | ⟨hk,_,_,_,cY,hd2,_⟩ | ⟨hk,_⟩ | ⟨hk,_⟩
  ·rw[hk] at k0;rw[if_neg (by omega),Bi,if_pos hk] at Aq;refine aA ?_;refine lV ?_;refine jC ?_;refine sZ (fun w1 t=>aAm w1 (t.below (by simp))) ?_;refine Gi (fi:=[]) (vs:=[iv (f:Int)]) (ca:=[pt b1,pt b2]) (fun w1 t=>aAl w1 (t.below (by simp))) ?_;refine iV ?_;refine aA ?_;refine lV ?_;refine jC ?_;refine sZ (fun w1 t=>aKb _ c.mul c.div nX ⟨hm1,hm2⟩ ⟨cY,hd2⟩ w1) ?_;refine iV ?_;refine aA ?_
   by_cases hq:1099511627776 < pW s f*c.mul / c.div
   ·rw[if_pos hq] at Aq;rw[if_pos hq,if_pos hq];refine aA ?_;exact dI (by rw[Aq])
   ·rw[if_neg hq] at Aq;rw[if_neg hq,if_neg hq];refine aA ?_;exact dI (by rw[Aq])
  ·rw[hk] at k0;rw[if_neg (by omega),Bi,if_neg (by omega),if_pos hk] at Aq
   have hby:byF c=c.div:=by rw[byF,if_pos hk]
   rw[hby] at k10
   have hq:0≤pW s f / c.div∧pW s f / c.div≤pW s f:=⟨Int.ediv_nonneg nX.1 (by omega),Int.ediv_le_self _ nX.1⟩
   refine aA ?_;refine lV ?_;refine jC ?_;refine sZ (fun w1 t=>aAm w1 (t.below (by simp))) ?_;refine Gi (fi:=[]) (vs:=[iv (f:Int)]) (ca:=[pt b1,pt b2]) (fun w1 t=>aAl w1 (t.below (by simp))) ?_;refine iV ?_;refine aA ?_;refine Cc (ds:=.int .i64) (kd:=.u64) (by kernel_rfl) (by kernel_rfl) rfl (wrap_u64 (by omega)) (by decide) ?_;refine aEa rfl rfl (c:=pW s f / c.div) (by omega) (by rw[Int.tdiv_eq_ediv_of_nonneg nX.1];exact wrap_u64 (by omega)) (by decide) ?_;refine aA ?_;exact dI (by rw[Aq])
  ·rw[hk] at k0;rw[if_neg (by omega),Bi,if_neg (by omega),if_neg (by omega)] at Aq;refine aA ?_;refine lV ?_;refine jC ?_;refine sZ (fun w1 t=>aAm w1 (t.below (by simp))) ?_;refine Gi (fi:=[]) (vs:=[iv (f:Int)]) (ca:=[pt b1,pt b2]) (fun w1 t=>aAl w1 (t.below (by simp))) ?_;refine iV ?_;refine aA ?_;exact dI (by rw[Aq])
  ·rw[hk] at k0;rw[if_neg (by omega),Bi,if_neg (by omega),if_neg (by omega)] at Aq;refine aA ?_;refine lV ?_;refine jC ?_;refine sZ (fun w1 t=>aAm w1 (t.below (by simp))) ?_;refine Gi (fi:=[]) (vs:=[iv (f:Int)]) (ca:=[pt b1,pt b2]) (fun w1 t=>aAl w1 (t.below (by simp))) ?_;refine iV ?_;refine aA ?_;exact dI (by rw[Aq])
theorem aPM(L:TL)(s:aC)(st:List eM)(hH:s.dJ)(i:Int)(w:World)(hR:vN w L s st):
  Cz 212 #[.pointer (some ⟨L.t,0,none⟩),iv i] w (Rt (.int .u64 (Hj s st i)) w):=by
 unfold Hj;cases hr:tO s st i
 ·rw[if_neg (by decide)];refine aN func212 ntmps212 ?_;refine aA ?_;refine bN fun g1=>?_;refine aA ?_;refine aU (fun w1 t=>Wl L s st hH i w1 (hR.below (t.below (by simp)))) ?_;rw[hr];refine aA ?_;exact dI
 ·rw[if_pos rfl]
  have hi:bZ s.aF.length i=true:=by
   unfold tO at hr;exact(Bool.and_eq_true _ _▸hr).1
  obtain⟨n,rfl⟩:∃n:Nat,i=n:=⟨i.toNat,by have:=of_decide_eq_true hi;omega⟩
  have hlt:n < s.aF.length:=by have:=of_decide_eq_true hi;omega
  refine aN func212 ntmps212 ?_;refine aA ?_;refine bN fun g1=>?_;refine aA ?_;refine aU (fun w1 t=>Wl L s st hH n w1 (hR.below (t.below (by simp)))) ?_;rw[hr];refine aA ?_;refine bX fun g2=>?_;refine aA ?_;refine kA (vf:=[]) (vc:=[pt g1,pt g2]) rfl rfl (by decide) ?_;refine aA ?_;refine Zw (fi:=[]) (vs:=[iv (n:Int)]) (ca:=[pt g1,pt g2]) (fun w1 t=>aPP L s st hH g1 g2 n hlt w1 (hR.below (t.below (by simp))) ((t.box (i:=1) rfl).at_ (j:=0) rfl) ((t.box (i:=0) rfl).at_ (j:=0) rfl)) ?_;refine aA ?_;exact dI
end
section
def nM(s:aC)(x:aS)(l:List Int):List Int:=
 let w:=l.headD 0
 if cK w 0 8=0 then[131072]
 else if cK w 10 8=16∧cK w 0 8=1 then[IntKind.u32.wrap (s.domains.length+s.aF.length*256+s.bA.length*65536+s.aD.length*16777216)]
 else if cK w 10 8=17∧cK w 0 8=5 then[Ho (sC x.dm (l.getD 1 0))]
 else if cK w 10 8=20∧cK w 0 8=6 then[IntKind.u32.wrap (Hj s x.ck (l.getD 1 0)),IntKind.u32.wrap (Hj s x.ck (l.getD 1 0) / 4294967296)] else[]
theorem aNy(L:HL)(s:aC)(x:aS)(w:World)(hH:s.dJ)(i:Int)(hR:tH w L s x):Cz 184 #[.pointer (some ⟨L.h,0,none⟩),iv i] w (Rt (.int .u64 (Hj s x.ck i)) w):=by
 have k0:=hR.r0.at_ (j:=0) rfl
 refine aN func184 ntmps184 ?_;refine aA ?_;refine aU (fun w1 t=>Ay L s x w1 (hR.below (t.below (by simp)))) ?_;refine aA ?_;refine aU (fun w1 t=>aPM L.T s x.ck hH i w1 (hR.tree.below (t.below (by simp)))) ?_;refine aA ?_;exact dI
theorem aHk{α:Type}{cs vs:List α}{o:Nat}(hv:(cs.drop o).take vs.length=vs){j:Nat}{v:α}(hj:vs[j]? =some v):cs[o+j]? =some v:=by
 have hlt:=(List.getElem?_eq_some_iff.1 hj).1
 rw[←hv,List.getElem?_take_of_lt hlt,List.getElem?_drop] at hj;exact hj
theorem aOh(f:Nat)(L:gA)(s:aC)(z:cI)(hL:HL)(x:aS)(hH:s.dJ)(sM:tJ s x.dm)(A:Option Addr)(c:Nat)(v:Int)(l:List Int)(w:World)(hR:Jo w f hL.h L s z)(hh:tH w hL s x)(hs:aI (all w) 1 A (v::l).length (dY (v::l)))
  (hu:cK v 28 4=0) (Cx:(cK v 10 8=17∧cK v 0 8=5)∨(cK v 10 8=20∧cK v 0 8=6)→∃i,l=[i]∧0≤i∧i < 4294967296):
  Cz 144 #[pt f,.slice A (v::l).length c] w (fun y w'=>(∃r,y=.returned r∧aAZ (nM s x (v::l)) r w w')∧Below w.heap.size w w'):=by
 obtain⟨b,off,rfl,hro⟩:=aI.u32 hs (by simp)
 have k0:=hro 0 v rfl
 have hlen:(v::l).length=l.length+1:=rfl
 have hE:Cg v=0:=by rw[Cg,if_neg (by simp[hu])]
 have hU:Ka v=Li (cK v 0 8) (cK v 8 2) (cK v 10 8) (cK v 18 10):=by rw[Ka,if_neg (by simp[hu])]
 have kf:=hR.r0.at_ (j:=0) rfl
 have k4:dU w f 1 [.slice L.a1.1 s.aF.length L.a1.2,.slice L.a2.1 s.domains.length L.a2.2,.slice L.a3.1 s.bA.length L.a3.2,.slice L.a4.1 s.aD.length L.a4.2]:=⟨hR.r0.1,fun j v hj=>by
  have:=hR.r0.2 (1+j) v (aHk rfl hj)
  rwa [Nat.zero_add] at this⟩
 have hnc:=hH.t.nc
 have hnd:=hH.t.nd
 have gF:=hH.t.nr
 have rE:=hH.t.nv
 refine aN func144 ntmps144 ?_;refine aB ?_;refine aU (fun w1 t=>aEu v w1) ?_;rw[hE,hU];dsimp only[Li];refine aA ?_;refine bX fun g1=>?_;refine aA ?_;refine aG rfl (fun h1=>?_) (fun h1=>?_)
 ·have hm:nM s x (v::l)=[131072]:=if_pos (by simpa using h1)
  rw[hm];refine aA ?_;refine eK fun g2=>?_;refine aA ?_;refine dF [] [0] [] (by simp) rfl (by decide) (by decide) fun q hq _ hfr=>?_;obtain⟨F2,wJ,vQ⟩:=hq 0 _ (by simp) rfl
  have dP:=qR (Y:=q.Z) (sz:=1) (n:=1) (c:=1) wJ vQ rfl
  exact aP (h:=fun w1 st=>⟨_,rfl,_,_,rfl,aI.le dP (st.mT (by simp) (hfr (by simp) (by simp)))⟩)
 ·have n1:cK v 0 8≠0:=by simpa using h1
  refine aA ?_;refine bT (t:=26) rfl (fun h2=>?_) (fun h2=>?_)
  ·have p1:cK v 10 8=16:=by simpa using h2
   refine aA ?_;refine aG rfl (fun h3=>?_) (fun h3=>?_)
   ·have m1:cK v 0 8=1:=by simpa using h3
    have hm:nM s x (v::l)=[IntKind.u32.wrap (s.domains.length+s.aF.length*256+s.bA.length*65536+s.aD.length*16777216)]:=(if_neg n1).trans (if_pos ⟨p1,m1⟩)
    rw[hm];refine aA ?_;refine bX fun g2=>?_;refine aA ?_;refine Ng rfl rfl (c:=s.aF.length*256) (by decide) (by show IntKind.i64.wrap ((s.aF.length:Int)*256)=_;exact iT (by omega)) (by decide) ?_;refine aA ?_;refine Ng rfl rfl (c:=s.bA.length*65536) (by decide) (by show IntKind.i64.wrap ((s.bA.length:Int)*65536)=_;exact iT (by omega)) (by decide) ?_;refine aA ?_;refine Ng rfl rfl (c:=s.aD.length*16777216) (by decide) (by show IntKind.i64.wrap ((s.aD.length:Int)*16777216)=_;exact iT (by omega)) (by decide) ?_;refine aA ?_;refine Cc (ds:=.int .i64) (kd:=.u32) (by kernel_rfl) (by kernel_rfl) rfl rfl (by decide) ?_;refine eK fun g3=>?_;refine aA ?_;refine dF [] [0] [] (by simp) rfl (by decide) (by decide) fun q hq _ hfr=>?_;obtain⟨F2,wJ,vQ⟩:=hq 0 _ (by simp) rfl
    have dP:=qR (Y:=q.Z) (sz:=1) (n:=1) (c:=1) wJ vQ rfl
    exact aP (h:=fun w1 st=>⟨_,rfl,_,_,rfl,aI.le dP (st.mT (by simp) (hfr (by simp) (by simp)))⟩)
   ·have m1:cK v 0 8≠1:=by simpa using h3
    have hm:nM s x (v::l)=[]:=(if_neg n1).trans ((if_neg fun h=>m1 h.2).trans ((if_neg fun h=>by have:=h.1;simp[p1] at this).trans (if_neg fun h=>by have:=h.1;simp[p1] at this)))
    rw[hm];refine aA ?_;refine bT (t:=60) rfl (fun h4=>absurd h4 (by simp[p1])) (fun _=>?_);refine aA ?_;refine bT (t:=80) rfl (fun h4=>absurd h4 (by simp[p1])) (fun _=>?_);refine aA ?_;exact aP (h:=fun _ _=>⟨_,rfl,_,_,rfl,rfl,fun h=>absurd h (by simp)⟩)
  ·have p1:cK v 10 8≠16:=by simpa using h2
   refine aA ?_;refine bT (t:=60) rfl (fun h3=>?_) (fun h3=>?_)
   ·have p2:cK v 10 8=17:=by simpa using h3
    refine aA ?_;refine aG rfl (fun h4=>?_) (fun h4=>?_)
    ·have m1:cK v 0 8=5:=by simpa using h4
     obtain⟨i,rfl,hi1,hi2⟩:=Cx (.inl ⟨p2,m1⟩)
     have aNg:[v,i].length=2:=rfl
     have hm:nM s x [v,i]=[Ho (sC x.dm i)]:=(if_neg n1).trans ((if_neg fun h=>p1 h.1).trans (if_pos ⟨p2,m1⟩))
     have k1:=hro 1 i rfl
     rw[hm];refine aA ?_;refine iX [1,2,3,5,6,7] ?_;refine bJ 0 ?_;refine bJ 4 ?_;refine aK 1 ?_;refine aK 2 ?_;refine aK 3 ?_;refine aK 5 ?_ (cM:=dat (sz:=1) 1 (off+1));refine aK 6 ?_;refine aK 7 ?_ (cM:=Iv (ds:=.int .u32) (by kernel_rfl) (by kernel_rfl) rfl (iT (by omega)));refine aL 8 ?_;refine aU (fun w1 t=>aC8 hL s x w1 sM i (hh.below (t.below (by simp)))) ?_;refine cE ?_;refine aL 9 ?_;refine aU (fun w1 t=>aOg _ w1) ?_;refine cE ?_;refine aL 10 ?_;refine eK fun g2=>?_;refine cE ?_;refine aL 11 ?_;refine bE ?_;refine cE ?_;refine dW ?_;refine aA ?_;refine dF [] [0] [] (by simp) rfl (by decide) (by decide) fun q hq _ hfr=>?_;obtain⟨F2,wJ,vQ⟩:=hq 0 _ (by simp) rfl
     have dP:=qR (Y:=q.Z) (sz:=1) (n:=1) (c:=1) wJ vQ rfl
     exact aP (h:=fun w1 st=>⟨_,rfl,_,_,rfl,aI.le dP (st.mT (by simp) (hfr (by simp) (by simp)))⟩)
    ·have m1:cK v 0 8≠5:=by simpa using h4
     have hm:nM s x (v::l)=[]:=(if_neg n1).trans ((if_neg fun h=>p1 h.1).trans ((if_neg fun h=>m1 h.2).trans (if_neg fun h=>by have:=h.1;simp[p2] at this)))
     rw[hm];refine aA ?_;refine bT (t:=80) rfl (fun h4=>absurd h4 (by simp[p2])) (fun _=>?_);refine aA ?_;exact aP (h:=fun _ _=>⟨_,rfl,_,_,rfl,rfl,fun h=>absurd h (by simp)⟩)
   ·have p2:cK v 10 8≠17:=by simpa using h3
    refine aA ?_;refine bT (t:=80) rfl (fun h5=>?_) (fun h5=>?_)
    ·have p3:cK v 10 8=20:=by simpa using h5
     refine aA ?_;refine aG rfl (fun h6=>?_) (fun h6=>?_)
     ·have m1:cK v 0 8=6:=by simpa using h6
      obtain⟨i,rfl,hi1,hi2⟩:=Cx (.inr ⟨p3,m1⟩)
      have aNg:[v,i].length=2:=rfl
      have hm:nM s x [v,i]=[IntKind.u32.wrap (Hj s x.ck i),IntKind.u32.wrap (Hj s x.ck i / 4294967296)]:=(if_neg n1).trans ((if_neg fun h=>p1 h.1).trans ((if_neg fun h=>p2 h.1).trans (if_pos ⟨p3,m1⟩)))
      have k1:=hro 1 i rfl
      rw[hm];refine aA ?_;refine iX [1,2,3,5,6,7] ?_;refine bJ 0 ?_;refine bJ 4 ?_;refine aK 1 ?_;refine aK 2 ?_;refine aK 3 ?_;refine aK 5 ?_ (cM:=dat (sz:=1) 1 (off+1));refine aK 6 ?_;refine aK 7 ?_ (cM:=Iv (ds:=.int .u32) (by kernel_rfl) (by kernel_rfl) rfl (iT (by omega)));refine aL 8 ?_;refine aU (fun w1 t=>aNy hL s x w1 hH i (hh.below (t.below (by simp)))) ?_;refine cE ?_;refine aL 9 ?_;refine bE ?_;refine cE ?_;refine dW ?_;refine aA ?_;refine Cc (ds:=.int .u64) (kd:=.u32) (by kernel_rfl) (by kernel_rfl) rfl rfl (by decide) ?_;refine aA ?_;refine aID rfl rfl (c:=Hj s x.ck i / 4294967296) (by decide) (by show Int.fdiv _ (2 ^ 32)=_;rw[Int.fdiv_eq_ediv_of_nonneg _ (by decide)];rfl) (by decide) ?_;refine Cc (ds:=.int .u64) (kd:=.u32) (by kernel_rfl) (by kernel_rfl) rfl rfl (by decide) ?_;refine eK fun g2=>?_;refine aA ?_;refine dF [] [0] [] (by simp) rfl (by decide) (by decide) fun q hq _ hfr=>?_;obtain⟨F2,wJ,vQ⟩:=hq 0 _ (by simp) rfl
      have dP:=qR (Y:=q.Z) (sz:=1) (n:=2) (c:=2) wJ vQ rfl
      exact aP (h:=fun w1 st=>⟨_,rfl,_,_,rfl,aI.le dP (st.mT (by simp) (hfr (by simp) (by simp)))⟩)
     ·have m1:cK v 0 8≠6:=by simpa using h6
      have hm:nM s x (v::l)=[]:=(if_neg n1).trans ((if_neg fun h=>p1 h.1).trans ((if_neg fun h=>p2 h.1).trans (if_neg fun h=>m1 h.2)))
      rw[hm];refine aA ?_;exact aP (h:=fun _ _=>⟨_,rfl,_,_,rfl,rfl,fun h=>absurd h (by simp)⟩)
    ·have p3:cK v 10 8≠20:=by simpa using h5
     have hm:nM s x (v::l)=[]:=(if_neg n1).trans ((if_neg fun h=>p1 h.1).trans ((if_neg fun h=>p2 h.1).trans (if_neg fun h=>p3 h.1)))
     rw[hm];refine aA ?_;exact aP (h:=fun _ _=>⟨_,rfl,_,_,rfl,rfl,fun h=>absurd h (by simp)⟩)
end
section
def gJ(f:Nat)(hL:HL)(s:aC)(z:cI)(x:aS):HP:=HP.many [By f hL.h s z,dM hL s x]
def iQ(z:cI)(a:Nat):List Int:=if a=0 then z.w0 else z.w1
def Dx(s:aC)(x:aS)(l:List Int)(st:Int):List Int:=l.headD 0::IntKind.u32.wrap st::(if st=0 then nM s x l else[])
def aFc(z:cI)(a:Nat)(hs:Int)(l:List Int):cI:=if a=0 then {z with h0:=hs,w0:=l} else {z with h1:=hs,w1:=l}
def tQ(s:aC)(x:aS)(z:cI)(a:Nat)(st:Int):cI:=aFc z a 2 (Dx s x (iQ z a) st)
structure tE(l:List Int):Prop where
 ne:∃v r,l=v::r∧cK v 28 4=0∧((cK v 10 8=17∧cK v 0 8=5)∨(cK v 10 8=20∧cK v 0 8=6)→∃i,r=[i]∧0≤i∧i < 4294967296)
theorem aFz(s:aC)(x:aS)(l:List Int):(nM s x l).length≤2:=by
 unfold nM;dsimp only;split
 ·simp
 ·split
  ·simp
  ·split
   ·simp
   ·split<;>simp
section
variable{N:cF}{w0 w:World}{e:Env}{R:List Piece}{H:List HP}{K:Act→World→Prop}{f h:Nat}{L:gA}{s:aC}{z:cI}{v:Int}{r:List Int}
theorem eD.at_{a:AC}{w:World}(hb:eD a (v::r) (all w)):∃b off,a.1=some ⟨b,off,none⟩∧w.cell? ⟨b,off,none⟩=some (.int .u32 v):=by
 obtain⟨b,off,hA,hc⟩:=aI.u32 hb (by simp);exact⟨b,off,hA,by have:=(hc 0 v rfl).2;simpa using this⟩
end
section
variable{P:Program}{N:cF}{w0 w:World}{e:Env}{R:List Piece}{H:List HP}{K:Act→World→Prop}{f h:Nat}{L:gA}{s:aC}{z:cI}{Q:Exit→Act→World→Prop}
theorem Rd.dZ(i:Nat){o:Nat}{v:Value}(hi:H[i]? =some (iE f h L s z))(hv:(jH h L s z)[o]? =some v):Rd w0 R H f o v:=fun w t=>by
 have:=((t.Dm i hi).r0.at_ hv).2
 rwa [Nat.zero_add] at this
theorem aO.dZ(i:Nat){o:Nat}{vs:List Value}(hi:H[i]? =some (iE f h L s z))(hv:((jH h L s z).drop o).take vs.length=vs):aO w0 R H f o vs:=.of fun _ _ hj=>Rd.dZ i hi (aHk hv hj)
end
def vI(L:gA)(b:Nat):AC:=if b=0 then L.b0 else L.b1
section
variable{h:Nat}{L:gA}{s:aC}{z:cI}
theorem aG0{b:Nat}(hb:b < 2):(jH h L s z)[12+b*2]? =some (.slice (vI L b).1 (iQ z b).length (vI L b).2):=by
 obtain rfl | rfl:b=0∨b=1:=by omega
 ·rfl
 ·rfl
theorem Jo.box{w:World}{f:Nat}(k:Jo w f h L s z){b:Nat}(hb:b < 2):aI (all w) 1 (vI L b).1 (iQ z b).length (dY (iQ z b)):=by
 obtain rfl | rfl:b=0∨b=1:=by omega
 ·exact k.b0
 ·exact k.b1
theorem Jo.stR{w:World}{f:Nat}(k:Jo w f h L s z):nS (all w) z.x z.y (.agg #[.slice L.x1.1 z.x.d.length L.x1.2,.slice L.x2.1 z.x.c.length L.x2.2,.slice L.x3.1 z.x.l.length L.x3.2,.slice L.y1.1 z.y.d.length L.y1.2,.slice L.y2.1 z.y.c.length L.y2.2,.slice L.y3.1 z.y.l.length L.y3.2]):=
 ⟨_,_,_,_,_,_,_,_,_,_,_,_,rfl,k.st.1,k.st.2.1,k.st.2.2.1,k.st.2.2.2.1,k.st.2.2.2.2.1,k.st.2.2.2.2.2⟩
end
section
variable{N:cF}{w0 w:World}{e:Env}{R:List Piece}{H:List HP}{K:Act→World→Prop}{f h:Nat}{L:gA}{s:aC}{z:cI}{v:Int}{r:List Int}
theorem aR1{a:Nat}(ha:a < 2)(i:Nat)(hi:H[i]? =some (iE f h L s z))(hw:iQ z a=v::r)(k:∀b off,(vI L a).1=some ⟨b,off,none⟩→Rd w0 R H b off (.int .u32 v)→XK N w0 K e R H):XK N w0 K e R H:=fun a w hr st=>by
 obtain⟨b,off,hA,_⟩:=eD.at_ (hw▸(st.Dm i hi).box ha);refine k b off hA (fun w1 t=>?_) a w hr st;obtain⟨b',off',pV,hc⟩:=eD.at_ (hw▸(t.Dm i hi).box ha);rw[hA] at pV;cases pV;exact hc
end
theorem aCM(f:Nat)(hL:HL)(s:aC)(z:cI)(x:aS)(hH:s.dJ)(aQ:fZ hL s)(hok:cT s x)(a:Nat)(ha:a < 2)(st:Int)(hst:st=0→tE (iQ z a))(w:World)(F:Nat→Prop)(hp:(gJ f hL s z x).sat F w)(hF:∀b,F b→b < w.heap.size):
  Cz 92 #[pt f,iv (a:Int),.int .i32 st] w (Wr (.tuple #[]) (gJ f hL s (tQ s x z a st) x) w F):=by
 unfold tQ Dx;generalize hb:iQ z a=l at hst⊢;refine cS func92 ntmps92 hp hF ?_;refine aV 0 0 ?_;refine iW 0 fun L=>?_;refine aA ?_;refine kd (fN a (11+a*2)) ?_;refine aA ?_;refine kd (bH rfl (Rd.dZ 0 rfl (v:=.slice (vI L a).1 l.length (vI L a).2) (by rw[show 11+a*2+1=12+a*2 by omega,←hb];exact aG0 ha))) ?_;refine aB ?_;refine Jf (α:=Unit) (fun _=>[(7,.int .u32 (l.headD 0)),(6,.slice (vI L a).1 l.length (vI L a).2),(2,.int .i32 st),(1,iv (a:Int)),(0,pt f)]) (fun _=>[iE f hL.h L s z,HP.many [cG,dM hL s x]]) (fun _=>True) ?_ fun _ _=>?_
 ·refine aG rfl (fun h=>?_) (fun h=>?_)
  ·cases l with
   | nil=>simp at h
   | cons v r=>
    refine aR1 ha 0 rfl hb fun b off hA hrd=>?_;rw[hA];refine aB ?_;exact dG ()
  ·cases l with
   | nil=>
    refine aB ?_;exact dG ()
   | cons v r=>simp at h
 refine aB ?_;refine Jf (α:=AC) (fun q=>[(8,.slice q.1 (if st=0 then nM s x l else[]).length q.2),(7,.int .u32 (l.headD 0)),(2,.int .i32 st),(1,iv (a:Int)),(0,pt f)]) (fun q=>[HP.bR (eD q (if st=0 then nM s x l else[])) (eD.le (a:=q) (l:=if st=0 then nM s x l else[])),iE f hL.h L s z,HP.many [cG,dM hL s x]]) (fun _=>True) ?_ fun q _=>?_
 ·refine aG rfl (fun h=>?_) (fun h=>?_)
  ·rw[if_pos h];obtain⟨v,r,rfl,hu,Cx⟩:=(hst h).ne;refine aV 1 1 ?_;refine aB ?_
   refine jN [] (fun v' w w'=>aAZ (nM s x (v::r)) v' w w') (fun w1 t=>by
    have hf:=t.Dm 1 rfl
    have jF:=hf.box ha
    obtain⟨b,off,hA,_⟩:=eD.at_ (hb▸jF);rw[hb,hA] at jF
    have:=aOh f _ s z hL x hH hok.dm _ (vI L a).2 v r w1 hf (t.mG 0 rfl aQ hok) jF hu Cx
    rw[←hA] at this
    exact this) ?_
   rintro _ w3 q3 ⟨Am,cm,rfl,dP⟩ hq3 _ hF3
   have dP:=dP.le hq3
   refine aJ 1 1 ?_;refine Jd (Φ:=eD (Am,cm) (nM s x (v::r))) (hm:=eD.le) (hF3 (by simp)) (fun p hp b hb=>by simp at hp;subst hp;exact hb.1) dP ?_;refine aB ?_;exact dG (Am,cm)
  ·rw[if_neg h];refine oF (p:=HP.bR (eD (none,0) []) (eD.le (a:=(none,0)) (l:=[]))) (fun w=>aAt _ rfl) ?_;refine aB ?_;exact dG (none,0)
 have hml:(if st=0 then nM s x l else[]).length≤2:=by
  split
  ·exact aFz s x l
  ·simp
 generalize hM:(if st=0 then nM s x l else[])=M at hml⊢;refine aV 1 0 ?_;refine iX [7,8] ?_;refine bJ 0 ?_;refine bJ 1 ?_;refine bJ 2 ?_;refine bJ 3 ?_;refine bJ 4 ?_;refine aK 7 ?_;refine aK 8 ?_;refine aL 5 ?_;refine eX (aBa (l.headD 0::IntKind.u32.wrap st::M)) (fun w1 t=>aQA _ st _ rfl q.1 M.length q.2 M w1 (t.bR 1 rfl) rfl (by omega)) ?_;rintro _ _ q9 ⟨An,cn,rfl,rfl⟩ _;dsimp only[List.cons_append,List.nil_append];refine aZ ?_;refine aL 6 ?_;refine kd (iN rfl) ?_;refine aZ ?_;refine aL 9 ?_;refine kd (fN a (11+a*2)) ?_;refine cE ?_;refine aL 10 ?_;refine qC 1 (t:=175) rfl rfl rfl (by kernel_rfl) (by simp[Value.cells,Value.oneCell']) (by simp[Value.cells,jH];omega) ?_;dsimp only[List.set];refine cE ?_;refine dW ?_;refine xM 0 (Φ:=eD (An,cn) (l.headD 0::IntKind.u32.wrap st::M)) (hm:=eD.le) rfl (fun p hp=>hp) ?_;obtain rfl | rfl:a=0∨a=1:=by omega
 ·refine aV 3 3 ?_;refine aT [1,2,4,5] rfl (by decide) (R':=[⟨w,fun b=>b < w.heap.size∧¬F b⟩]) (by simp) ?_;refine aJ 1 3 ?_;refine zB (h:=hL.h) (s:=s) (z:={z with h0:=2,w0:=l.headD 0::IntKind.u32.wrap st::M}) {L with b0:=(An,cn)} 0 rfl ?_;dsimp only[List.set];refine aJ 0 0 ?_;exact fC 0 hF
 ·refine aV 3 4 ?_;refine aT [1,2,4,5] rfl (by decide) (R':=[⟨w,fun b=>b < w.heap.size∧¬F b⟩]) (by simp) ?_;refine aJ 1 4 ?_;refine zB (h:=hL.h) (s:=s) (z:={z with h1:=2,w1:=l.headD 0::IntKind.u32.wrap st::M}) {L with b1:=(An,cn)} 0 rfl ?_;dsimp only[List.set];refine aJ 0 0 ?_;exact fC 0 hF
end
section
def wY(z:cI)(a:Nat):Int:=if a=0 then z.h0 else z.h1
def qJ(z:cI):Option Nat:=if wY z (1 - z.last).toNat=1 then some (1 - z.last).toNat else if wY z z.last.toNat=1 then some z.last.toNat else none
def kW(s:aC)(x:aS):List Int:=(List.range s.aD.length).map fun i=>(oM x.wt i:Int)
theorem aNZ(f:Nat)(hL:HL)(s:aC)(z:cI)(x:aS)(hl:z.last=0∨z.last=1)(hn:qJ z=none)(w:World)(F:Nat→Prop)(hp:(gJ f hL s z x).sat F w)(hF:∀b,F b→b < w.heap.size):
  Cz 90 #[pt f] w (Wr (.bool false) (gJ f hL s z x) w F):=by
 have hno:z.h0≠1∧z.h1≠1:=by
  unfold qJ at hn;rcases hl with h | h<;>rw[h] at hn<;>simp[wY] at hn<;>by_cases p:z.h0=1<;>by_cases q:z.h1=1<;>simp[p,q] at hn⊢
 refine cS func90 ntmps90 hp hF ?_;refine aV 0 0 ?_;refine Xb 0 rfl fun L=>?_;dsimp only[List.set,jH];rcases hl with hl | hl<;>rw[hl]
 ·refine aA ?_;refine kd (fN 1 13) ?_;refine aA ?_;refine aG rfl (fun _=>?_) (fun h=>absurd h (by simp[hno.2]));refine aA ?_;refine kd (fN 0 11) ?_;refine aA ?_;refine aG rfl (fun _=>?_) (fun h=>absurd h (by simp[hno.1]));refine aA ?_;rw[←hl];refine zB (h:=hL.h) (s:=s) (z:=z) L 0 rfl ?_;dsimp only[List.set];refine aJ 0 0 ?_;exact bO 0 hF
 ·refine aA ?_;refine kd (fN 0 11) ?_;refine aA ?_;refine aG rfl (fun _=>?_) (fun h=>absurd h (by simp[hno.1]));refine aA ?_;refine kd (fN 1 13) ?_;refine aA ?_;refine aG rfl (fun _=>?_) (fun h=>absurd h (by simp[hno.2]));refine aA ?_;rw[←hl];refine zB (h:=hL.h) (s:=s) (z:=z) L 0 rfl ?_;dsimp only[List.set];refine aJ 0 0 ?_;exact bO 0 hF
end
section
def Xp(P:Program)(c:Code)(Q:Exit→Act→World→Prop):Nat→Act→World→Prop
 | 0=>fun _ _=>False
 | n+1=>c.wp P (Exit.then (Xp P c Q n) Q)
section
variable{P:Program}{N:cF}{w0:World}{e:Env}{R:List Piece}{H:List HP}{Q:Exit→Act→World→Prop}{c:Code}{n:Nat}
theorem aRh(n:Nat)(h:XK N w0 (Xp P c Q n) e R H):XK N w0 ((Code.loop c).wp P Q) e R H:=fun a w hr st=>by
 refine aBl (Xp P c Q) n (h a w hr st) fun n a w hI=>?_;cases n with
 | zero=>exact absurd hI (fun h=>h)
 | succ n=>
  refine wp_mono hI fun x a' w' hq=>?_;cases x with
  | normal=>exact⟨n,Nat.lt_succ_self n,hq⟩
  | _=>exact hq
theorem aAV{y:Code}{x:Code}(M:Env→List Piece→List HP→Prop)(h:XK N w0 (x.wp P (Exit.then (fun a' w'=>∃e' R' H',M e' R' H'∧eC N e' a'∧St w0 R' H' w') Q)) e R H)
  (hy:∀e' R' H',M e' R' H'→XK N w0 (y.wp P Q) e' R' H'):XK N w0 (x.wp P (Exit.then (y.wp P Q) Q)) e R H:=fun a w hr st=>
 wp_mono (h a w hr st) fun x a' w' hq=>by
  cases x with
  | normal=>
   obtain⟨e',R',H',hm,hr',st'⟩:=hq;exact hy e' R' H' hm a' w' hr' st'
  | _=>exact hq
theorem aDs(h:XK N w0 (c.wp P (Exit.then (Xp P c Q n) Q)) e R H):XK N w0 (Xp P c Q (n+1)) e R H:=h
end
theorem aOM(x y:dR)(ag:Nat)(k id:Int):(lD x ag k id).d.length=x.d.length∧(lD x ag k id).c.length=x.c.length∧(lD x ag k id).l.length=x.l.length∧(lC y ag k id).d.length=y.d.length∧(lC y ag k id).c.length=y.c.length∧(lC y ag k id).l.length=y.l.length:=by
 have h:∀z:dR,(oN z k id).d.length=z.d.length∧(oN z k id).c.length=z.c.length∧(oN z k id).l.length=z.l.length:=fun z=>by
  unfold oN;split
  ·exact⟨Nr _ _ _,rfl,rfl⟩
  ·split
   ·exact⟨rfl,Nr _ _ _,rfl⟩
   ·split
    ·exact⟨rfl,rfl,Nr _ _ _⟩
    ·exact⟨rfl,rfl,rfl⟩
 unfold lD lC;split
 ·exact⟨(h x).1,(h x).2.1,(h x).2.2,rfl,rfl,rfl⟩
 ·exact⟨rfl,rfl,rfl,(h y).1,(h y).2.1,(h y).2.2⟩
theorem aEB(k id:Int)(z:dR):((∀a b c,gD k a b c=sn)∧oN z k id=z)∨((∀a b c,gD k a b c=a)∧oN z k id=⟨yG z.d id (decide (pQ k)),z.c,z.l⟩)∨((∀a b c,gD k a b c=b)∧oN z k id=⟨z.d,yG z.c id (decide (pQ k)),z.l⟩)∨((∀a b c,gD k a b c=c)∧oN z k id=⟨z.d,z.c,yG z.l id (decide (pQ k))⟩):=by
 by_cases k0:k=117∨k=100∨k=107
 ·exact .inr (.inl ⟨fun a b c=>by rw[gD,if_pos k0],by rw[oN,if_pos k0]⟩)
 by_cases k1:k=99∨k=111
 ·exact .inr (.inr (.inl ⟨fun a b c=>by rw[gD,if_neg k0,if_pos k1],by rw[oN,if_neg k0,if_pos k1]⟩))
 by_cases k2:k=114∨k=97
 ·exact .inr (.inr (.inr ⟨fun a b c=>by rw[gD,if_neg k0,if_neg k1,if_pos k2],by rw[oN,if_neg k0,if_neg k1,if_pos k2]⟩))
 exact .inl ⟨fun a b c=>by rw[gD,if_neg k0,if_neg k1,if_neg k2],by rw[oN,if_neg k0,if_neg k1,if_neg k2]⟩
theorem aL1{l:List Bool}{id:Int}{n:Nat}{cs:List Value}{b:Bool}(h:cs.take n=bG l)(hi:0≤id∧id < (l.length:Int)):(cs.set id.toNat (.bool b)).take (n*1)=bG (yG l id b):=by
 rw[Nat.mul_one,←aQ2 _ hi,←h,List.take_set]
theorem Rh{N:cF}{w0:World}{e:Env}{R:List Piece}{H H':List HP}{K:Act→World→Prop}{t:TypeId}{A:Option Addr}{n c:Nat}{xs:List Value}(i:Nat)(he:e.get 10=some (.slice A n c))(hH:yH (i::(List.range 9).filter (· !=i)) H=some (HP.own t 1 (.slice A n c) n xs::H'))(hn:(i::(List.range 9).filter (· !=i)).Nodup)(h:XK N w0 K e R (HP.own t 1 (.slice A n c) n xs::H')):XK N w0 K e R H:=aT _ hH hn (fun _ h=>h) h
theorem aOO(qx:Piece)(X1 X2 X3 Y1 Y2 Y3:Option Addr)(vX vW vV vT vS vR:Nat)(x y:dR)(ag:Nat)(k id:Int)(w:World)(Fh:qx.Le (all w))(hag:ag < 2)(hbx:x.sm)(hby:y.sm)(s0:aI qx 1 X1 x.d.length (bG x.d))(s1:aI qx 1 X2 x.c.length (bG x.c))(s2:aI qx 1 X3 x.l.length (bG x.l))(s3:aI qx 1 Y1 y.d.length (bG y.d))(s4:aI qx 1 Y2 y.c.length (bG y.c))(s5:aI qx 1 Y3 y.l.length (bG y.l)):
  Cz 137 #[.agg #[.slice X1 x.d.length vX,.slice X2 x.c.length vW,.slice X3 x.l.length vV,.slice Y1 y.d.length vT,.slice Y2 y.c.length vS,.slice Y3 y.l.length vR],iv (ag:Int),.agg #[.int .u8 k,iv id]] w (Rp (fun v w w'=>nS (fresh w w') (lD x ag k id) (lC y ag k id) v) w):=by
 obtain⟨h0,h1,h2⟩:=hbx;obtain⟨h3,h4,h5⟩:=hby;refine aN func137 ntmps137 ?_;refine yZ qx (by simp) Fh ?_;refine aA ?_;refine bN fun g1=>?_;refine bN fun g2=>?_;refine bX fun g3=>?_;refine aA ?_;refine bX fun g4=>?_;refine aA ?_;refine aRh 3 ?_;refine aDs ?_;refine aA ?_;refine aEd 0 (len:=2) (n:=3) (by kernel_rfl) rfl rfl rfl (by decide) rfl (by decide) ?_;refine bX fun g5=>?_;refine aA ?_;refine iX [1,2,4,5,7,8,11] ?_;refine bJ 0 ?_;refine aK 1 ?_;refine aK 2 ?_;refine aK 4 ?_;refine aK 5 ?_;refine aK 7 ?_;refine aK 8 ?_;refine aK 11 ?_;refine aL 3 ?_;refine eX (Na x.d.length (bG x.d)) (fun w1 st=>Qp _ _ _ _ w1 (s0.le (st.le (by simp))) (Qx _) (by have:=h0;omega)) ?_;rintro _ _ q0 ⟨B0,c0,rfl,rfl⟩ _;dsimp only[List.cons_append,List.nil_append];refine aZ ?_ (hS:=fun _ h=>h.aY.tail);refine aL 6 ?_;refine eX (Na x.c.length (bG x.c)) (fun w1 st=>Qp _ _ _ _ w1 (s1.le (st.le (by simp))) (Qx _) (by have:=h1;omega)) ?_;rintro _ _ q1 ⟨B1,c1,rfl,rfl⟩ _;dsimp only[List.cons_append,List.nil_append];refine aZ ?_ (hS:=fun _ h=>h.aY.aY.tail.tail);refine aL 9 ?_;refine eX (Na x.l.length (bG x.l)) (fun w1 st=>Qp _ _ _ _ w1 (s2.le (st.le (by simp))) (Qx _) (by have:=h2;omega)) ?_;rintro _ _ q2 ⟨B2,c2,rfl,rfl⟩ _;dsimp only[List.cons_append,List.nil_append];refine aZ ?_ (hS:=fun _ h=>h.aY.aY.aY.tail.tail.tail);refine aL 10 ?_;refine kd (iN rfl) ?_;refine aZ ?_ (hS:=fun _ h=>h.aY.aY.aY.tail.tail.tail);refine aL 12 ?_;refine kd (fN (sz:=3) 0 0) ?_;refine cE ?_;refine aL 13 ?_;refine rU rfl rfl ?_;simp only[fP,Value.cells,List.set,List.take,List.drop,List.nil_append,List.append_nil,List.length_cons,List.length_nil,List.cons_append,Nat.reduceAdd];refine cE ?_;refine dW ?_;refine aA ?_;refine aT [2,1,0,4,5,6,7] rfl (by decide) (R':=[qx,all w]) (by simp) ?_;refine aDs ?_;refine aA ?_;refine aEd 1 (len:=2) (n:=3) (by kernel_rfl) rfl rfl rfl (by decide) rfl (by decide) ?_;refine bX fun g6=>?_;refine aA ?_;refine iX [1,2,4,5,7,8,11] ?_;refine bJ 0 ?_;refine aK 1 ?_;refine aK 2 ?_;refine aK 4 ?_;refine aK 5 ?_;refine aK 7 ?_;refine aK 8 ?_;refine aK 11 ?_;refine aL 3 ?_;refine eX (Na y.d.length (bG y.d)) (fun w1 st=>Qp _ _ _ _ w1 (s3.le (st.le (by simp))) (Qx _) (by have:=h3;omega)) ?_;rintro _ _ q3 ⟨B3,c3,rfl,rfl⟩ _;dsimp only[List.cons_append,List.nil_append];refine aZ ?_ (hS:=fun _ h=>h.aY.tail);refine aL 6 ?_;refine eX (Na y.c.length (bG y.c)) (fun w1 st=>Qp _ _ _ _ w1 (s4.le (st.le (by simp))) (Qx _) (by have:=h4;omega)) ?_;rintro _ _ q4 ⟨B4,c4,rfl,rfl⟩ _;dsimp only[List.cons_append,List.nil_append];refine aZ ?_ (hS:=fun _ h=>h.aY.aY.tail.tail);refine aL 9 ?_;refine eX (Na y.l.length (bG y.l)) (fun w1 st=>Qp _ _ _ _ w1 (s5.le (st.le (by simp))) (Qx _) (by have:=h5;omega)) ?_;rintro _ _ q5 ⟨B5,c5,rfl,rfl⟩ _;dsimp only[List.cons_append,List.nil_append];refine aZ ?_ (hS:=fun _ h=>h.aY.aY.aY.tail.tail.tail);refine aL 10 ?_;refine kd (iN rfl) ?_;refine aZ ?_ (hS:=fun _ h=>h.aY.aY.aY.tail.tail.tail);refine aL 12 ?_;refine kd (fN (sz:=3) 1 3) ?_;refine cE ?_;refine aL 13 ?_;refine rU rfl rfl ?_;simp only[fP,Value.cells,List.set,List.take,List.drop,List.nil_append,List.append_nil,List.length_cons,List.length_nil,List.cons_append,Nat.reduceAdd];refine cE ?_;refine dW ?_;refine aA ?_;refine aT [4,5,6,2,1,0,9,7,8] rfl (by decide) (R':=[qx,all w]) (by simp) ?_;refine aDs ?_;refine aA ?_;refine bT (t:=33) rfl (fun h=>absurd h (by omega)) (fun _=>?_);refine aA ?_;refine aG rfl (fun h=>absurd h (by omega)) (fun _=>?_);refine aA ?_;obtain⟨X,hX⟩:∃z,z=lD x ag k id:=⟨_,rfl⟩
 obtain⟨Y,hY⟩:∃z,z=lC y ag k id:=⟨_,rfl⟩
 have hl:=aOM x y ag k id
 rw[←hX,←hY] at hl⊢;obtain rfl | rfl:ag=0∨ag=1:=by omega
 have hc:=aEB k id x
 refine iX [1,2,3,4] ?_;refine bJ 0 ?_;refine aK 1 ?_;refine aK 2 ?_ (cM:=fN (sz:=3) 0 0);refine aK 3 ?_;refine aK 4 ?_;refine aL 5 ?_;refine aU (fun w1 t=>aCh g4 0 k (.slice B0 x.d.length c0) (.slice B1 x.c.length c1) (.slice B2 x.l.length c2) w1 (by simpa using(t.box (i:=7) rfl).at_ (j:=0) rfl) (by simpa using(t.box (i:=7) rfl).at_ (j:=1) rfl) (by simpa using(t.box (i:=7) rfl).at_ (j:=2) rfl)) ?_
 rotate_left
 have hc:=aEB k id y
 refine iX [1,2,3,4] ?_;refine bJ 0 ?_;refine aK 1 ?_;refine aK 2 ?_ (cM:=fN (sz:=3) 1 3);refine aK 3 ?_;refine aK 4 ?_;refine aL 5 ?_;refine aU (fun w1 t=>aCh g4 3 k (.slice B3 y.d.length c3) (.slice B4 y.c.length c4) (.slice B5 y.l.length c5) w1 (by simpa using(t.box (i:=7) rfl).at_ (j:=3) rfl) (by simpa using(t.box (i:=7) rfl).at_ (j:=4) rfl) (by simpa using(t.box (i:=7) rfl).at_ (j:=5) rfl)) ?_
 all_goals
  refine cE ?_;refine aL 6 ?_;refine bE ?_;refine cE ?_;refine dW ?_;refine eB ?_;refine aT [0,1,2,3,4,5,6,7,8] rfl (by decide) (fun _ h=>h) ?_;refine bL [(10,_),(7,pt g4),(6,pt g3),(5,pt g2)] ?_;refine aAV (fun e R H=>e=[(7,pt g4),(6,pt g3)]∧R=[qx,all w]∧H=[HP.own 4 1 (.slice B0 x.d.length c0) x.d.length (bG X.d),HP.own 4 1 (.slice B1 x.c.length c1) x.c.length (bG X.c),HP.own 4 1 (.slice B2 x.l.length c2) x.l.length (bG X.l),HP.own 4 1 (.slice B3 y.d.length c3) y.d.length (bG Y.d),HP.own 4 1 (.slice B4 y.c.length c4) y.c.length (bG Y.c),HP.own 4 1 (.slice B5 y.l.length c5) y.l.length (bG Y.l),HP.aE g2 50 [.int .u8 k,iv id],HP.aE g4 58 [.slice B0 x.d.length c0,.slice B1 x.c.length c1,.slice B2 x.l.length c2,.slice B3 y.d.length c3,.slice B4 y.c.length c4,.slice B5 y.l.length c5],HP.aE g3 58 [sn,sn,sn,sn,sn,sn]]) ?_ ?_
  ·clear hl;simp only[lD,lC,if_true,if_false,Nat.one_ne_zero] at hX hY;subst hX hY;obtain⟨h,h2⟩ | hc:=hc
   ·rw[h,h2];refine aA ?_;refine bT (t:=47) rfl (fun hid=>?_) (fun hid=>?_)
    ·refine aA ?_;refine aG rfl (fun h=>absurd h (by omega)) (fun _=>?_);refine aA ?_;exact nR ⟨rfl,rfl,rfl⟩
    ·refine aA ?_;exact nR ⟨rfl,rfl,rfl⟩
   rcases hc with⟨h,h2⟩ | ⟨h,h2⟩ | ⟨h,h2⟩
   all_goals
    rw[h,h2];dsimp only
    first | refine Rh 0 rfl rfl (by decide) ?_ | refine Rh 1 rfl rfl (by decide) ?_ | refine Rh 2 rfl rfl (by decide) ?_ | refine Rh 3 rfl rfl (by decide) ?_ | refine Rh 4 rfl rfl (by decide) ?_ | refine Rh 5 rfl rfl (by decide) ?_
    refine aA ?_;refine bT (t:=47) rfl (fun hid=>?_) (fun hid=>?_)
    ·refine aA ?_;refine aG rfl (fun aC2=>?_) (fun aC2=>?_)
     ·have hin:=And.intro hid aC2
      refine aAM 0 rfl (by omega) ?_;rintro⟨gb,rfl⟩;refine Gj 0 rfl fun cs jT hct hnc Lj=>?_;simp only[Nat.mul_one] at jT hct;dsimp only[List.set];refine iX [1,2,3,4] ?_;refine bJ 0 ?_;refine aK 1 ?_;refine aK 2 ?_;refine aK 3 ?_;refine aK 4 ?_;refine aL 5 ?_;refine aU (fun w1 t=>aBM k w1) ?_;refine aZ ?_;refine aL 6 ?_;refine kd (dat id.toNat id.toNat) ?_;refine cE ?_;refine aL 7 ?_;refine eN rfl rfl ?_;dsimp only[List.set];refine cE ?_;refine dW ?_;refine aA ?_;refine Ea 0 (sz:=1) rfl (by simpa using jT) (aL1 hct hin) hnc Lj ?_;dsimp only[List.set];exact nR ⟨rfl,rfl,rfl⟩
     ·rw[aEC _ fun h=>aC2 h.2];refine aA ?_;exact nR ⟨rfl,rfl,rfl⟩
    ·rw[aEC _ fun h=>hid h.1];refine aA ?_;exact nR ⟨rfl,rfl,rfl⟩
  ·rintro _ _ _ ⟨rfl,rfl,rfl⟩;refine aT [7,8,0,1,2,3,4,5] rfl (by decide) (fun _ h=>h) ?_;refine aA ?_;refine dF [] [2,3,4,5,6,7] [0,1] (by simp) rfl (by decide) (by decide) fun q hq _ hfr=>?_;refine Ml rfl (n:=6) (vs:=[.slice B0 x.d.length c0,.slice B1 x.c.length c1,.slice B2 x.l.length c2,.slice B3 y.d.length c3,.slice B4 y.c.length c4,.slice B5 y.l.length c5]) (by kernel_rfl) rfl rfl (aO.whole 1 rfl) fun w1 st=>⟨⟨_,rfl,?_⟩,st.below (by simp)⟩
   have hle:=st.mT (by simp) (hfr (by simp) (by simp))
   obtain⟨l1,l2,l3,l4,l5,l6⟩:=hl
   have hs:∀{A n c xs},(∃F,(HP.own 4 1 (.slice A n c) n xs).sat F q.w∧∀b,F b→q.Z b)→aI (fresh w w1) 1 A n xs:=fun h=>(aI.own h).le hle
   refine⟨B0,c0,B1,c1,B2,c2,B3,c3,B4,c4,B5,c5,?_,?_,?_,?_,?_,?_,?_⟩
   ·rw[l1,l2,l3,l4,l5,l6]
   ·rw[l1];exact hs (hq 2 _ (by simp) rfl)
   ·rw[l2];exact hs (hq 3 _ (by simp) rfl)
   ·rw[l3];exact hs (hq 4 _ (by simp) rfl)
   ·rw[l4];exact hs (hq 5 _ (by simp) rfl)
   ·rw[l5];exact hs (hq 6 _ (by simp) rfl)
   ·rw[l6];exact hs (hq 7 _ (by simp) rfl)
end
section
section
variable{h:Nat}{L:gA}{s:aC}{z:cI}
theorem aGz{b:Nat}(hb:b < 2):(jH h L s z)[11+b*2]? =some (iv (wY z b)):=by
 obtain rfl | rfl:b=0∨b=1:=by omega
 ·rfl
 ·rfl
end
structure Ee(s:aC)(z:cI):Prop where
 la:z.last=0∨z.last=1
 u0:mW z.w0
 u1:mW z.w1
 n0:z.w0.length≤1000000
 n1:z.w1.length≤1000000
 sx:z.x.sm
 sy:z.y.sm
theorem Ee.box{s:aC}{z:cI}(h:Ee s z)(b:Nat):mW (iQ z b)∧(iQ z b).length≤1000000:=by
 unfold iQ;split
 ·exact⟨h.u0,h.n0⟩
 ·exact⟨h.u1,h.n1⟩
def eT(s:aC)(x:aS)(z:cI)(a:Nat):Int×Int×Int:=jO s z.x z.y (kW s x) a (iQ z a)
def qF(s:aC)(x:aS)(z:cI)(a:Nat):cI×Bool:=
 let d:=eT s x z a
 if d.2.1=0 then(tQ s x {z with last:=a} a d.1,false)
 else({z with last:=a,x:=lD z.x a d.2.1 d.2.2,y:=lC z.y a d.2.1 d.2.2,at_:=a,kind:=d.2.1,id:=d.2.2},true)
def lN(s:aC)(x:aS)(z:cI):cI×Bool:=match qJ z with
 | none=>(z,false)
 | some a=>qF s x z a
theorem aGv(f:Nat)(hL:HL)(s:aC)(z:cI)(x:aS)(hH:s.dJ)(aQ:fZ hL s)(hok:cT s x)(hz:Ee s z)(l a:Nat)(hl:z.last=(l:Int))(iA:l≤1)(ha:a < 2)(hab:(wY z (1 - l)=1∧a=1 - l)∨(wY z (1 - l)≠1∧a=l))(h1:wY z a=1)
  (hst:(eT s x z a).2.1=0→(eT s x z a).1=0→tE (iQ z a)) (w:World) (F:Nat→Prop) (hp:(gJ f hL s z x).sat F w) (hF:∀b,F b→b < w.heap.size):
  Cz 90 #[pt f] w (Wr (.bool (qF s x z a).2) (gJ f hL s (qF s x z a).1 x) w F):=by
 have rE:=hH.t.nv
 unfold qF;generalize hdz:eT s x z a=dz at hst⊢;obtain⟨st,k,id⟩:=dz;dsimp only at hst⊢;obtain⟨hbu,hbn⟩:=hz.box a;refine cS func90 ntmps90 hp hF ?_;refine aV 0 0 ?_;refine iW 0 fun L=>?_
 have aGl:(jH hL.h L s z)[15]? =some (iv (l:Int)):=by rw[←hl];rfl
 refine eA ?_;refine fR ?_;refine bE ?_;refine fD ?_;refine eA ?_;refine fR ?_;refine bE ?_;refine bE ?_;refine bE ?_;refine kd (bH rfl (Rd.dZ 0 rfl aGl)) ?_;refine kd (Lz rfl rfl (c:=((1 - l:Nat):Int)) (by rw[show(1:Int) - (l:Int)=((1 - l:Nat):Int) by omega];exact iT (by omega))) ?_;refine bE ?_;refine fD ?_;refine Rj (fun e R H=>e=[(3,iv (a:Int)),(0,pt f)]∧R=[⟨w,fun b=>b < w.heap.size∧¬F b⟩]∧H=[iE f hL.h L s z,HP.many [cG,dM hL s x]]) ?_ ?_
 ·refine eA ?_;refine fR ?_;refine bE ?_;refine bE ?_;refine bE ?_;refine bE ?_;refine kd (fN (1 - l) (11+(1 - l)*2)) ?_;refine bE ?_;refine kd (bH rfl (Rd.dZ 0 rfl (aGz (by omega)))) ?_;refine bE ?_;refine fD ?_;rcases hab with⟨h2,rfl⟩ | ⟨h2,rfl⟩
  ·refine aG rfl (fun h=>absurd h2 h) (fun _=>?_);refine oA ?_;refine eB ?_;exact nR ⟨rfl,rfl,rfl⟩
  ·refine aG rfl (fun _=>?_) (fun h=>absurd h2 h);refine fR ?_;refine bE ?_;refine bE ?_;refine bE ?_;refine kd (bH rfl (Rd.dZ 0 rfl aGl)) ?_;refine bE ?_;refine fD ?_;exact nR ⟨rfl,rfl,rfl⟩
 rintro _ _ _ ⟨rfl,rfl,rfl⟩;refine aA ?_;refine kd (fN a (11+a*2)) ?_;refine aA ?_;refine kd (bH rfl (Rd.dZ 0 rfl (aGz ha))) ?_;refine aA ?_;refine aG rfl (fun h=>absurd h1 h) (fun _=>?_);refine aA ?_;refine aV 0 0 ?_;refine eN rfl rfl ?_ (hs:=eJ.mk 0 rfl cO.h rfl (by simp[jH]));dsimp only[List.set];rw[show(jH hL.h L s z).set (0+15) (iv (a:Int))=jH hL.h L s {z with last:=(a:Int)} from rfl];refine aJ 0 0 ?_
 change XK _ _ _ _ _ [iE f hL.h L s {z with last:=(a:Int)},HP.many [cG,dM hL s x]]
 generalize mE:({z with last:=(a:Int)}:cI)=z1
 have e1:z1.x=z.x:=by rw[←mE]
 have e2:z1.y=z.y:=by rw[←mE]
 have e3:iQ z1 a=iQ z a:=by rw[←mE];rfl
 refine aA ?_;refine kd (bH rfl (Rd.dZ 0 rfl rfl)) ?_;refine aA ?_;refine lY (n:=s.aD.length) 8 (el:=3) (z:=iv 0) (by kernel_rfl) (by kernel_rfl) rfl rfl rfl (by omega) (by omega) (by decide) fun gm=>?_;refine aA ?_;refine aV 2 1 ?_
 rw[show List.replicate s.aD.length (Value.int .i64 0)=aM (kF (kW s x) ((kW s x).map fun _=>0) 0) by
  rw[Ts];refine List.ext_getElem? fun j=>?_;simp only[aM,kW,List.map_map,List.getElem?_replicate,List.getElem?_map]
  by_cases h:j < s.aD.length
  ·rw[if_pos h,List.getElem?_range h];rfl
  ·rw[if_neg h,List.getElem?_eq_none (by simp;omega)];rfl]
 refine bL [(46,iv 0),(45,iv s.aD.length),(4,.slice (some ⟨gm,0,none⟩) s.aD.length s.aD.length),(3,iv (a:Int)),(0,pt f)] ?_
 have wR:(kW s x).length=s.aD.length:=by simp[kW]
 refine eV (fun m e R H=>∃i:Nat,i≤s.aD.length∧m=s.aD.length - i∧e=[(46,iv i),(45,iv s.aD.length),(4,.slice (some ⟨gm,0,none⟩) s.aD.length s.aD.length),(3,iv (a:Int)),(0,pt f)]∧R=[⟨w,fun b=>b < w.heap.size∧¬F b⟩]∧H=[dM hL s x,HP.aE gm 3 (aM (kF (kW s x) ((kW s x).map fun _=>0) i)),iE f hL.h L s z1,HP.many [cG,cG]]) s.aD.length ⟨0,by omega,rfl,rfl,rfl,rfl⟩ fun m e R H hI=>?_;obtain⟨i,hi,rfl,rfl,rfl,rfl⟩:=hI
 have Un:=Tu (vs:=kW s x) (old:=(kW s x).map fun _=>0) (n:=s.aD.length) wR (by simp[kW]) hi
 have jT:(aM (kF (kW s x) ((kW s x).map fun _=>0) i)).length=s.aD.length:=by simp[aM,Un]
 refine aA ?_;refine aG rfl (fun hlt=>?_) (fun hge=>?_)
 ·have hlt:i < s.aD.length:=by omega
  have hwi:(kW s x)[i]? =some (oM x.wt i:Int):=by simp[kW,hlt]
  have lK:(aM (kF (kW s x) ((kW s x).map fun _=>0) i)).set i (iv (oM x.wt i:Nat))=aM (kF (kW s x) ((kW s x).map fun _=>0) (i+1)):=by
   rw[←Tt (by simp) hwi,aM,aM,List.map_set]
  refine aA ?_;refine kd (bH rfl (Rd.dZ 2 rfl rfl)) ?_;refine aA ?_;refine aU (fun w1 t=>aNv hL s x w1 i hlt (t.mG 0 rfl aQ hok)) ?_;refine aA ?_;refine kd (dat i i) ?_;refine eN rfl rfl ?_;dsimp only[List.set];rw[lK];refine aA ?_;exact eP (s.aD.length - (i+1)) ⟨i+1,hlt,rfl,rfl,rfl,rfl⟩
 obtain rfl:i=s.aD.length:=by omega
 rw[Tv wR (by simp[kW])];refine aJ 2 1 ?_;refine aA ?_;refine aAV (fun e R H=>∃g7:Nat,e=[(7,pt g7),(6,.int .i32 st),(3,iv (a:Int)),(0,pt f)]∧R=[⟨w,fun b=>b < w.heap.size∧¬F b⟩]∧H=[HP.aE g7 50 [.int .u8 k,iv id],iE f hL.h L s z1,HP.many [cG,dM hL s x]]) ?_ ?_
 ·refine iX [1,2,3,5,6,7,12,13,14,15,16,19,20] ?_;refine bJ 0 ?_;refine bJ 4 ?_;refine bJ 8 ?_;refine bJ 9 ?_;refine bJ 10 ?_;refine bJ 11 ?_;refine aK 1 ?_;refine aK 2 ?_;refine aK 3 ?_ (cM:=kB rfl (aO.dZ 1 rfl (vs:=[.slice L.a1.1 s.aF.length L.a1.2,.slice L.a2.1 s.domains.length L.a2.2,.slice L.a3.1 s.bA.length L.a3.2,.slice L.a4.1 s.aD.length L.a4.2]) rfl));refine aK 5 ?_;refine aK 6 ?_;refine aK 7 ?_ (cM:=kB rfl (aO.dZ 1 rfl (vs:=[.slice L.x1.1 z1.x.d.length L.x1.2,.slice L.x2.1 z1.x.c.length L.x2.2,.slice L.x3.1 z1.x.l.length L.x3.2,.slice L.y1.1 z1.y.d.length L.y1.2,.slice L.y2.1 z1.y.c.length L.y2.2,.slice L.y3.1 z1.y.l.length L.y3.2]) rfl));refine aK 12 ?_;refine aK 13 ?_;refine aK 14 ?_ (cM:=fN (sz:=2) a (11+a*2));refine aK 15 ?_;refine aK 16 ?_ (cM:=bH rfl (Rd.dZ 1 rfl (v:=.slice (vI L a).1 (iQ z1 a).length (vI L a).2) (by rw[show 11+a*2+1=12+a*2 by omega];exact aG0 ha)))
  have yO:∀H:List HP,H[H.length - 2]? =some (iE f hL.h L s z1)→(H.length=3∨H.length=4)→H[H.length - 3]? =some (HP.aE gm 3 (aM (kW s x)))→∀w1,St w [⟨w,fun b=>b < w.heap.size∧¬F b⟩] H w1→Cz 13 #[.agg #[.slice L.a1.1 s.aF.length L.a1.2,.slice L.a2.1 s.domains.length L.a2.2,.slice L.a3.1 s.bA.length L.a3.2,.slice L.a4.1 s.aD.length L.a4.2],.agg #[.slice L.x1.1 z1.x.d.length L.x1.2,.slice L.x2.1 z1.x.c.length L.x2.2,.slice L.x3.1 z1.x.l.length L.x3.2,.slice L.y1.1 z1.y.d.length L.y1.2,.slice L.y2.1 z1.y.c.length L.y2.2,.slice L.y3.1 z1.y.l.length L.y3.2],.slice (some ⟨gm,0,none⟩) s.aD.length s.aD.length,iv (a:Int),.slice (vI L a).1 (iQ z1 a).length (vI L a).2] w1 (Rt (Rc (st,k,id)) w1):=fun H h2 _ h3 w1 t=>by
   have kf:=t.Dm _ h2
   have:=aAz (all w1) (all w1) s _ _ _ _ _ L.a1.2 _ L.a2.2 _ L.a3.2 _ L.a4.2 _ _ _ _ _ _ _ L.x1.2 _ L.x2.2 _ L.x3.2 _ L.y1.2 _ L.y2.2 _ L.y3.2 z1.x z1.y (some ⟨gm,0,none⟩) s.aD.length s.aD.length (kW s x) a _ _ (vI L a).2 (iQ z1 a) w1 kf.so hH.t (Piece.Le.refl _) kf.stR (Piece.Le.refl _) (t.uU h3 (by simp[aM,wR])) wR.symm ha (kf.box ha) rfl (by rw[e3];exact hbn) (by rw[e3];exact hbu)
   rw[show jO s z1.x z1.y (kW s x) a (iQ z1 a)=(st,k,id) by rw[e1,e2,e3];exact hdz] at this;exact this
  refine vM 17 21 rfl rfl (by kernel_rfl) ?_ ?_
  ·refine aU (fun w1 t=>yO _ rfl (.inl rfl) rfl w1 t) ?_;refine aZ ?_;refine bJ 18 ?_;refine aK 19 ?_;refine aK 20 ?_;refine aL 21 ?_;refine bX fun g7=>?_;refine aZ ?_;refine aL 22 ?_;refine bE ?_;refine aZ ?_;refine aL 23 ?_;refine kO 0 rfl ?_;dsimp only[List.set];refine cE ?_;refine dW ?_;refine eB ?_;refine aT [0,2,3] rfl (by decide) (fun _ h=>h) ?_;exact nR ⟨g7,rfl,rfl,rfl⟩
  ·refine bX fun g7=>?_;refine aZ ?_;refine aL 17 ?_;refine aU (fun w1 t=>yO _ rfl (.inr rfl) rfl w1 t) ?_;refine aZ ?_;refine bJ 18 ?_;refine aK 19 ?_;refine aK 20 ?_;refine aL 22 ?_;refine bE ?_;refine aZ ?_;refine aL 23 ?_;refine kO 0 rfl ?_;dsimp only[List.set];refine cE ?_;refine dW ?_;refine eB ?_;refine aT [0,2,3] rfl (by decide) (fun _ h=>h) ?_;exact nR ⟨g7,rfl,rfl,rfl⟩
 rintro _ _ _ ⟨g7,rfl,rfl,rfl⟩;refine aA ?_;refine aG rfl (fun hk=>?_) (fun hk=>?_)
 ·have hk:k=0:=hk
  rw[if_pos hk];refine cR 1 (fun L:gA=>iE f hL.h L s z1) L ?_;refine aT [1,0,2] rfl (by decide) (fun _ h=>h) ?_;refine aJ 1 0 ?_;refine aA ?_;refine bU 1 (gJ f hL s (tQ s x z1 a st) x) (fun w1 F1 t h1 h2 h3=>aCM f hL s z1 x hH aQ hok a ha st (fun h0=>by rw[e3];exact hst hk h0) w1 F1 h1 h2) ?_;refine aA ?_;exact bO 1 hF
 ·rw[if_neg hk];rw[show({z with last:=(a:Int),x:=lD z.x a k id,y:=lC z.y a k id,at_:=(a:Int),kind:=k,id:=id}:cI)={z1 with x:=lD z1.x a k id,y:=lC z1.y a k id,at_:=(a:Int),kind:=k,id:=id} by rw[←mE]];refine aA ?_;refine iX [2,3,4,6] ?_;refine bJ 0 ?_;refine bJ 1 ?_;refine bJ 5 ?_;refine aK 2 ?_;refine aK 3 ?_;refine aK 4 ?_ (cM:=kB rfl (aO.dZ 1 rfl (vs:=[.slice L.x1.1 z1.x.d.length L.x1.2,.slice L.x2.1 z1.x.c.length L.x2.2,.slice L.x3.1 z1.x.l.length L.x3.2,.slice L.y1.1 z1.y.d.length L.y1.2,.slice L.y2.1 z1.y.c.length L.y2.2,.slice L.y3.1 z1.y.l.length L.y3.2]) rfl));refine aK 6 ?_;refine aL 7 ?_
  refine jN [] (fun v w w'=>nS (fresh w w') (lD z1.x a k id) (lC z1.y a k id) v) (fun w1 t=>by
   have kf:=t.Dm 1 rfl
   exact aOO (all w1) _ _ _ _ _ _ L.x1.2 L.x2.2 L.x3.2 L.y1.2 L.y2.2 L.y3.2 z1.x z1.y a k id w1 (Piece.Le.refl _) ha (by rw[e1];exact hz.sx) (by rw[e2];exact hz.sy) kf.st.1 kf.st.2.1 kf.st.2.2.1 kf.st.2.2.2.1 kf.st.2.2.2.2.1 kf.st.2.2.2.2.2) ?_
  rintro _ w2 q2 aMV vC _ Il
  have Il:=Il (by simp)
  obtain⟨x1,x2,x3,y1,y2,y3,rfl,Kz⟩:=aMV.P
  have Kz:=pG.le _ _ vC (Kz L.a1 L.a2 L.a3 L.a4 L.b0 L.b1)
  refine Jd (Φ:=pG ⟨L.a1,L.a2,L.a3,L.a4,x1,x2,x3,y1,y2,y3,L.b0,L.b1⟩ (lD z1.x a k id) (lC z1.y a k id)) (hm:=pG.le) Il (fun p hp b hb=>by simp at hp;subst hp;exact hb.1) Kz ?_;refine cE ?_;refine aL 8 ?_;refine bE ?_;refine cE ?_;refine aL 9 ?_;refine bE ?_;refine cE ?_;refine aL 10 ?_;refine aV 2 0 ?_;refine qC 0 (t:=175) rfl rfl rfl (by kernel_rfl) (by simp[Value.cells,Value.oneCell',wI]) (by simp[Value.cells,jH]) ?_;dsimp only[List.set];rw[show fP (jH hL.h L s z1) (0+5) (Value.agg #[wI x1 (lD z1.x a k id).d.length,wI x2 (lD z1.x a k id).c.length,wI x3 (lD z1.x a k id).l.length,wI y1 (lC z1.y a k id).d.length,wI y2 (lC z1.y a k id).c.length,wI y3 (lC z1.y a k id).l.length]).cells.toList=jH hL.h ⟨L.a1,L.a2,L.a3,L.a4,x1,x2,x3,y1,y2,y3,L.b0,L.b1⟩ s {z1 with x:=lD z1.x a k id,y:=lC z1.y a k id} from rfl];refine cE ?_;refine dW ?_;refine eB ?_;refine aV 3 2 ?_;refine aT [1,2,3,4,5] rfl (by decide) (R':=[⟨w,fun b=>b < w.heap.size∧¬F b⟩]) (by simp) ?_;refine aT [1,0,2,3,4] rfl (by decide) (fun _ h=>h) ?_;refine aJ 2 2 ?_;generalize oQ:({z1 with x:=lD z1.x a k id,y:=lC z1.y a k id}:cI)=z2;rw[show({z1 with x:=lD z1.x a k id,y:=lC z1.y a k id,at_:=(a:Int),kind:=k,id:=id}:cI)={z2 with at_:=(a:Int),kind:=k,id:=id} by rw[←oQ]];generalize hL2:(⟨L.a1,L.a2,L.a3,L.a4,x1,x2,x3,y1,y2,y3,L.b0,L.b1⟩:gA)=L2;refine eA ?_;refine aAV (fun e R H=>e=[(0,pt f)]∧R=[⟨w,fun b=>b < w.heap.size∧¬F b⟩]∧H=[HP.aE f 175 (jH hL.h L2 s {z2 with at_:=(a:Int),kind:=k,id:=id}),HP.aE g7 50 [.int .u8 k,iv id],HP.many [cG,HP.bR (uO L s) (uO.le (L:=L) (s:=s)),HP.bR (pG L2 (lD z1.x a k id) (lC z1.y a k id)) (pG.le (L:=L2) (x:=lD z1.x a k id) (y:=lC z1.y a k id)),HP.bR (eD L.b0 z1.w0) (eD.le (a:=L.b0) (l:=z1.w0)),HP.bR (eD L.b1 z1.w1) (eD.le (a:=L.b1) (l:=z1.w1))],HP.many [cG,dM hL s x]]) ?_ ?_
  ·refine iX [] ?_;refine bJ 0 ?_;refine bJ 1 ?_;refine bJ 2 ?_
   repeat' (first
    | (refine dW ?_;refine eB ?_;exact nR ⟨rfl,rfl,rfl⟩)
    | refine vM 3 4 rfl rfl (by decide+kernel) ?_ ?_
    | refine vM 3 5 rfl rfl (by decide+kernel) ?_ ?_
    | refine vM 3 6 rfl rfl (by decide+kernel) ?_ ?_
    | refine aL 3 ?_
    | refine aL 4 ?_
    | refine aL 5 ?_
    | refine aL 6 ?_
    | refine aL 7 ?_
    | refine aL 8 ?_
    | refine aL 9 ?_
    | refine cE ?_
    | refine bE ?_
    | (refine eN rfl rfl ?_ (hs:=eJ.mk 0 rfl cO.h rfl (by simp[jH]));dsimp only[List.set];rw[show(jH hL.h L2 s z2).set (0+16) (iv (a:Int))=jH hL.h L2 s {z2 with at_:=(a:Int)} from rfl])
    | (refine qC 0 (t:=175) rfl rfl rfl (by kernel_rfl) (by simp[Value.cells,Value.oneCell']) (by simp[Value.cells,jH]) ?_;dsimp only[List.set];rw[show fP (jH hL.h L2 s {z2 with at_:=(a:Int)}) (0+17) (Value.agg #[.int .u8 k,iv id]).cells.toList=jH hL.h L2 s {z2 with at_:=(a:Int),kind:=k,id:=id} from rfl]))
  rintro _ _ _ ⟨rfl,rfl,rfl⟩;refine aJ 1 0 ?_;subst hL2;subst oQ;refine uK 1 (f:=fun L:gA=>iE f hL.h L s {({z1 with x:=lD z1.x a k id,y:=lC z1.y a k id}:cI) with at_:=(a:Int),kind:=k,id:=id}) ⟨L.a1,L.a2,L.a3,L.a4,x1,x2,x3,y1,y2,y3,L.b0,L.b1⟩ rfl ?_;dsimp only[List.set];refine aT [1,0,2] rfl (by decide) (fun _ h=>h) ?_;refine aJ 1 0 ?_;refine aA ?_;exact bO 1 hF
theorem aGw(f:Nat)(hL:HL)(s:aC)(z:cI)(x:aS)(hH:s.dJ)(aQ:fZ hL s)(hok:cT s x)(hz:Ee s z)(hst:∀a,qJ z=some a→(eT s x z a).2.1=0→(eT s x z a).1=0→tE (iQ z a))(w:World)(F:Nat→Prop)(hp:(gJ f hL s z x).sat F w)(hF:∀b,F b→b < w.heap.size):
  Cz 90 #[pt f] w (Wr (.bool (lN s x z).2) (gJ f hL s (lN s x z).1 x) w F):=by
 unfold lN;cases hn:qJ z with
 | none=>exact aNZ f hL s z x hz.la hn w F hp hF
 | some a =>
  obtain⟨l,hl,iA⟩:∃l:Nat,z.last=(l:Int)∧l≤1:=by
   rcases hz.la with h | h
   ·exact⟨0,h,by omega⟩
   ·exact⟨1,h,by omega⟩
  have hn2:=hn
  unfold qJ at hn;rw[show(1 - z.last).toNat=1 - l by omega,show z.last.toNat=l by omega] at hn
  by_cases h2:wY z (1 - l)=1
  ·rw[if_pos h2] at hn;obtain rfl:=Option.some.inj hn;exact aGv f hL s z x hH aQ hok hz l _ hl iA (by omega) (.inl ⟨h2,rfl⟩) h2 (hst _ hn2) w F hp hF
  ·rw[if_neg h2] at hn
   by_cases h3:wY z l=1
   ·rw[if_pos h3] at hn;obtain rfl:=Option.some.inj hn;exact aGv f hL s z x hH aQ hok hz l _ hl iA (by omega) (.inr ⟨h2,rfl⟩) h3 (hst _ hn2) w F hp hF
   ·rw[if_neg h3] at hn;cases hn
end
end Go.Proofs.YtkgekojkboingaaGreatDoor
