/- package count: how often devices were got; once more, in few steps. -/
import Derived.Test.YtdcdccmpcmjmhaaGreatDoorRpmOneK4
namespace Go.Proofs.YtdcdccmpcmjmhaaGreatDoor
set_option linter.all false
open Go.RowKit
section
set_option maxHeartbeats 4000000
set_option maxRecDepth 20000
structure Cn where
 l:List (Int×Int)
 kD:Bool
def pP(nd:Nat)(c:Cn)(dev:Int):Int×Cn:=if c.kD then(6,c) else if ¬(0≤dev∧dev < nd) then(4,c) else if 7≤gY c.l dev then(8,c) else(0,⟨xR c.l dev (IntKind.i64.wrap (gY c.l dev+1)),c.kD⟩)
def sC(nd:Nat)(c:Cn)(dev:Int):Int×Cn:=if c.kD then(6,c) else if ¬(0≤dev∧dev < nd) then(4,c) else if gY c.l dev≤0 then(6,c) else(0,⟨xR c.l dev (IntKind.i64.wrap (gY c.l dev - 1)),c.kD⟩)
def vB(c:Cn):Int×Cn:=if c.kD then(6,c) else(0,⟨c.l,true⟩)
def vC(c:Cn):Int×Cn:=if c.kD then(0,⟨c.l,false⟩) else(6,c)
def oZ(gc gm:Nat)(v:Value)(c:Cn):HP:=HP.many [HP.aB gc 160 [v,.map (some gm),.bool c.kD],HP.map gm (tH c.l)]
section
variable{N:bO}{w0:World}{e:Env}{R:List Piece}{H:List HP}{Q:Exit→Act→World→Prop}{ops:Array Oper}{rest:List Oper}{d:Nat}{ty:TypeId}{pos:String}{aF:Array Edge}
theorem Qp{x y:Operand}(i:Nat){r:Nat}{l:List (Int×Int)}{k:Int}(hi:H[i]? =some (HP.map r (tH l)))(kk:XK N w0 (wpList Tryz.prog ops Q rest) ((d,iv (gY l k))::e) R H)(hx:e.ev x=some (.map (some r)):=by rfl)(hy:e.ev y=some (iv k):=by rfl)(hd:d < N.n:=by decide):
  XK N w0 (wpList Tryz.prog ops Q (⟨some d,.lookup 158 x y false,ty,pos,aF,none⟩::rest)) e R H:=by
 refine Ut (kt:=3) (et:=3) (kd:=.i64) (z:=iv 0) (l:=tH l) false (by kernel_rfl) (by kernel_rfl) (by kernel_rfl) hx hy (fun w1 st=>st.map hi) hd ?_
 simp only[Bool.false_eq_true,if_false,aDK]
 exact kk
theorem aEa{x y u:Operand}(i:Nat){r:Nat}{l:List (Int×Int)}{k v:Int}(hi:H[i]? =some (HP.map r (tH l)))(kk:XK N w0 (wpList Tryz.prog ops Q rest) e R (H.set i (HP.map r (tH (xR l k v)))))(hx:e.ev x=some (.map (some r)):=by rfl)(hy:e.ev y=some (iv k):=by rfl)(hu:e.ev u=some (iv v):=by rfl):
  XK N w0 (wpList Tryz.prog ops Q (⟨none,.mapUpdate 158 x y u,ty,pos,aF,none⟩::rest)) e R H:=by
 refine Dw (kt:=3) (et:=3) (kd:=.i64) (l:=tH l) i (by kernel_rfl) (by kernel_rfl) hi hx hy hu ?_
 rw[aDG]
 exact kk
end
theorem aFp(gc n k:Nat)(A:Option Addr)(dev:Int)(w:World)(h0:eS w gc 0 (.slice A n k)):
  Calls Tryz.prog 64 #[pt gc,iv dev] w (Rt (.bool (bE n dev)) w):=by
 refine XK.en Tryz.func64 Tryz.ntmps64 ?_
 refine XK.go ?_
 refine aW (t:=7) rfl (fun h=>?_) (fun h=>?_)
 ·refine XK.go ?_
  refine XK.gN (by simp) ?_
  unfold bE
  congr 1
  simp;omega
 ·refine XK.go ?_
  refine XK.gN (by simp) ?_
  have:bE n dev=false:=decide_eq_false (by omega)
  rw[this]
section
variable(gc gm n k:Nat)(A:Option Addr)(c:Cn)(w:World)(F:Nat→Prop)
theorem aN0(dev:Int)(hp:(oZ gc gm (.slice A n k) c).sat F w)(hF:∀b,F b→b < w.heap.size):
  Calls Tryz.prog 25 #[pt gc,iv dev] w (fun y w'=>y=.returned (iv (pP n c dev).1)∧∃F',(oZ gc gm (.slice A n k) (pP n c dev).2).sat F' w'∧aV w w' F F'):=by
 refine XK.bY Tryz.func25 Tryz.ntmps25 hp hF ?_
 obtain⟨l,kD⟩:=c
 unfold oZ pP
 dsimp only
 refine XK.tk 0 0 ?_
 refine XK.tk 1 1 ?_
 cases kD
 ·refine XK.go ?_
  refine aJ (fun w1 t=>aFp gc n k A dev w1 ((sD (t.aB (i:=1) rfl)).at_ (j:=0) rfl)) ?_
  by_cases hin:0≤dev∧dev < (n:Int)
  ·rw[show bE n dev=true from decide_eq_true hin,if_neg (by simp),if_neg (by simpa using hin)]
   refine XK.go ?_
   refine Qp 0 rfl ?_
   refine XK.norm ?_
   refine XK.go ?_
   refine XK.if_ rfl (fun h7=>?_) (fun h7=>?_)
   ·rw[if_pos (by omega)]
    refine XK.go ?_
    refine XK.gv 1 1 ?_
    refine XK.gv 0 0 ?_
    exact XK.rT 0 hF
   ·rw[if_neg (by omega)]
    refine XK.go ?_
    refine Qp 0 rfl ?_
    refine kd (Jj rfl rfl rfl) ?_
    refine aEa 0 rfl ?_
    dsimp only[List.set]
    refine XK.go ?_
    refine XK.gv 1 1 ?_
    refine XK.gv 0 0 ?_
    exact XK.rT 0 hF
  ·rw[show bE n dev=false from decide_eq_false hin,if_neg (by simp),if_pos (by simpa using hin)]
   refine XK.go ?_
   refine XK.gv 1 1 ?_
   refine XK.gv 0 0 ?_
   exact XK.rT 0 hF
 ·rw[if_pos rfl]
  refine XK.go ?_
  refine XK.gv 1 1 ?_
  refine XK.gv 0 0 ?_
  exact XK.rT 0 hF
theorem aNy(dev:Int)(hp:(oZ gc gm (.slice A n k) c).sat F w)(hF:∀b,F b→b < w.heap.size):
  Calls Tryz.prog 28 #[pt gc,iv dev] w (fun y w'=>y=.returned (iv (sC n c dev).1)∧∃F',(oZ gc gm (.slice A n k) (sC n c dev).2).sat F' w'∧aV w w' F F'):=by
 refine XK.bY Tryz.func28 Tryz.ntmps28 hp hF ?_
 obtain⟨l,kD⟩:=c
 unfold oZ sC
 dsimp only
 refine XK.tk 0 0 ?_
 refine XK.tk 1 1 ?_
 cases kD
 ·refine XK.go ?_
  refine aJ (fun w1 t=>aFp gc n k A dev w1 ((sD (t.aB (i:=1) rfl)).at_ (j:=0) rfl)) ?_
  by_cases hin:0≤dev∧dev < (n:Int)
  ·rw[show bE n dev=true from decide_eq_true hin,if_neg (by simp),if_neg (by simpa using hin)]
   refine XK.go ?_
   refine Qp 0 rfl ?_
   refine XK.norm ?_
   refine XK.go ?_
   refine XK.if_ rfl (fun h7=>?_) (fun h7=>?_)
   ·rw[if_pos (by omega)]
    refine XK.go ?_
    refine XK.gv 1 1 ?_
    refine XK.gv 0 0 ?_
    exact XK.rT 0 hF
   ·rw[if_neg (by omega)]
    refine XK.go ?_
    refine Qp 0 rfl ?_
    refine kd (Jh rfl rfl rfl) ?_
    refine aEa 0 rfl ?_
    dsimp only[List.set]
    refine XK.go ?_
    refine XK.gv 1 1 ?_
    refine XK.gv 0 0 ?_
    exact XK.rT 0 hF
  ·rw[show bE n dev=false from decide_eq_false hin,if_neg (by simp),if_pos (by simpa using hin)]
   refine XK.go ?_
   refine XK.gv 1 1 ?_
   refine XK.gv 0 0 ?_
   exact XK.rT 0 hF
 ·rw[if_pos rfl]
  refine XK.go ?_
  refine XK.gv 1 1 ?_
  refine XK.gv 0 0 ?_
  exact XK.rT 0 hF
theorem aNw(hp:(oZ gc gm (.slice A n k) c).sat F w)(hF:∀b,F b→b < w.heap.size):
  Calls Tryz.prog 26 #[pt gc] w (fun y w'=>y=.returned (iv (vB c).1)∧∃F',(oZ gc gm (.slice A n k) (vB c).2).sat F' w'∧aV w w' F F'):=by
 refine XK.bY Tryz.func26 Tryz.ntmps26 hp hF ?_
 obtain⟨l,kD⟩:=c
 unfold oZ vB
 dsimp only
 refine XK.tk 0 0 ?_
 cases kD
 ·refine XK.go ?_
  refine XK.gv 0 0 ?_
  exact XK.rT 0 hF
 ·refine XK.go ?_
  refine XK.gv 0 0 ?_
  exact XK.rT 0 hF
theorem aNx(hp:(oZ gc gm (.slice A n k) c).sat F w)(hF:∀b,F b→b < w.heap.size):
  Calls Tryz.prog 27 #[pt gc] w (fun y w'=>y=.returned (iv (vC c).1)∧∃F',(oZ gc gm (.slice A n k) (vC c).2).sat F' w'∧aV w w' F F'):=by
 refine XK.bY Tryz.func27 Tryz.ntmps27 hp hF ?_
 obtain⟨l,kD⟩:=c
 unfold oZ vC
 dsimp only
 refine XK.tk 0 0 ?_
 cases kD
 ·refine XK.go ?_
  refine XK.gv 0 0 ?_
  exact XK.rT 0 hF
 ·refine XK.go ?_
  refine XK.gv 0 0 ?_
  exact XK.rT 0 hF
end
theorem aN1(gc:Nat)(b:Bool)(w:World)(h2:eS w gc 2 (.bool b)):Calls Tryz.prog 29 #[pt gc] w (Rt (.bool b) w):=by
 refine XK.en Tryz.func29 Tryz.ntmps29 ?_
 refine XK.go ?_
 exact XK.rE
end
section
set_option maxHeartbeats 4000000
set_option maxRecDepth 20000
theorem aOs{P:Program}{w:World}{t ty e:TypeId}{i:TypeInfo}(ht:P.underlying t=some (.slice e))(hi:P.info? e=some i)(A:Option Addr)(x:Value){m c:Nat}{B:Option Addr}(hx:x=.slice B m c)(hm:0 < m)(hb:m*i.bytes≤140737488355328):
  (Builtin.append_ #[t,t] ty #[.slice A 0 0,x]).run P w=(Builtin.append_ #[t,t] ty #[sn,x]).run P w:=by
 subst hx
 have h0:¬0+m≤0:=by omega
 have hn:Builtin.nextslicecap (0+m) 0=m:=by
  unfold Builtin.nextslicecap
  rw[Nat.zero_add]
  simp
  omega
 have hcap:¬(Builtin.nextslicecap (0+m) 0*i.bytes>2 ^ 48):=by
  rw[hn]
  omega
 have hm0:¬m=0:=by omega
 have mX:¬(281474976710656 < Builtin.nextslicecap m 0*i.bytes):=by
  rw[←Nat.zero_add m]
  simpa using hcap
 cases A with
 | none=>rfl
 | some a=>simp[Builtin.append_,run_underlying ht,sizeOf,typeInfo,hi,Builtin.lenOf,Builtin.firstCells,h0,hcap,hm0,mX,loadCells,loadCellsFrom]
section
variable{P:Program}{ops:Array Oper}{Q:Exit→Act→World→Prop}{N:bO}{w0:World}{e e':Env}{R R':List Piece}{H H':List HP}{rest:List Oper}{d:Nat}{ty:TypeId}{pos:String}{aF:Array Edge}
theorem aG6(sz bytes m:Nat){x y:Operand}{t el:TypeId}{c':Nat}{A0 A:Option Addr}{news:List Value}(ht:P.underlying t=some (.slice el))(hT:(P.info? el).map (fun i=>(i.zero.map (fun z=>z.cells.size),i.size,i.bytes))=some (some sz,sz,bytes))(hpos:0 < sz)
  (hx:e.ev x=some (.slice A0 0 0)) (hy:e.ev y=some (.slice A m c')) (hs:∀w,St w0 R H w→∃B,Sl w B sz A m news) (h1:∀u∈news,u.oneCell'=true) (hm:0 < m) (h63:(m:Int)≤9223372036854775807) (hbytes:m*bytes≤140737488355328) (hd:d < N.n)
  (k:∀A' k',XK N w0 (wpList P ops Q rest) ((d,.slice A' m k')::e) R (HP.own el sz (.slice A' m k') m news::H)):
  XK N w0 (wpList P ops Q (⟨some d,.call {callee:=.builtin .append,args:=#[x,y],argTypes:=#[t,t]},ty,pos,aF,none⟩::rest)) e R H:=by
 obtain⟨ti,z,Md,hz,hsz,hby,hzs⟩:=aAX hT
 refine rH rfl fun a w hr st=>?_
 obtain⟨B,mV⟩:=hs w st
 obtain⟨v',w',hrun,h2,h3,h4⟩:=aCV (P:=P) w w.heap.size t ty el ti z sz bytes ht Md hz hsz hby hzs hpos (sn) 0 [] (World.ownsRow_nil _ _ _ _) B A m c' news mV h1 (by unfold maxLen;omega) (by simpa using hbytes) (Nat.le_refl _)
 rw[Nat.zero_add,List.nil_append] at h2
 obtain⟨A',k',rfl,_⟩:=aDz h2
 rw[←aOs ht Md A0 (.slice A m c') rfl hm (by rw[hby];exact hbytes)] at hrun
 have hb:Below w.heap.size w w':=⟨h3.os,h3.tape,h3.output,h3.size,fun b hb=>h3.block b hb (fun he=>by cases he)⟩
 refine⟨_,w',by simp only[execOp,resolve,invoke,builtin,hr.ev hx,hr.ev hy,List.map_toArray,List.map_cons,List.map_nil,Sem.run_bind,Sem.run_pure,Result.andThen_ok,hrun],k A' k' _ _ (hr.put hd _) (st.new hb ⟨fun g hg=>?_,?_⟩)⟩
 ·have:=h2.lt _ hg
  exact this
 ·exact⟨h2.1,h2.2.imp id fun⟨g,cap,cur,e1,_,e3⟩=>⟨g,cap,cur,e1,Nat.zero_le _,e3⟩⟩
end
section
variable{N:bO}{w0:World}{e:Env}{R:List Piece}{H:List HP}{d:Nat}{ty:TypeId}{pos:String}{aF:Array Edge}
theorem aMS{x lo hi mx:Operand}{t el:TypeId}{A:Option Addr}{n c l h m sz:Nat}{kl kh km:IntKind}[hT:iI t el sz](hx:e.ev x=some (.slice A n c))(hl:e.ev lo=some (.int kl (l:Int)))(hh:e.ev hi=some (.int kh (h:Int)))(hm:e.ev mx=some (.int km (m:Int)))(h1:l≤h)(h2:h≤m)(h3:m≤c):
  aZ Tryz.prog N w0 e R H ⟨some d,.slice t x (some lo) (some hi) (some mx),ty,pos,aF,none⟩ (.slice (if m=l then A else A.map (·.add (l*sz))) (h - l) (m - l)):=fW fun a w hr=>by
 obtain⟨i0,lZ,hz⟩:=Option.map_eq_some_iff.1 hT.s
 simp[execOp,hr.ev hx,hr.ev hl,hr.ev hh,hr.ev hm,Instr.sliceAt,Instr.slice,Instr.sliceBounds,run_sliceBound,run_underlying hT.h,sizeOf,typeInfo,lZ,hz,h1,h2,h3]
theorem aFd{x lo:Operand}{t el:TypeId}{A:Option Addr}{n c l sz:Nat}{kl:IntKind}[hT:iI t el sz](hx:e.ev x=some (.slice A n c))(hl:e.ev lo=some (.int kl (l:Int)))(h1:l≤n):
  aZ Tryz.prog N w0 e R H ⟨some d,.slice t x (some lo) none none,ty,pos,aF,none⟩ (.slice (if c=l then A else A.map (·.add (l*sz))) (n - l) (c - l)):=fW fun a w hr=>by
 obtain⟨i0,lZ,hz⟩:=Option.map_eq_some_iff.1 hT.s
 simp[execOp,hr.ev hx,hr.ev hl,Instr.sliceAt,Instr.slice,Instr.sliceBounds,run_sliceBound,run_underlying hT.h,sizeOf,typeInfo,lZ,hz,h1]
theorem XK.aJn{K:Act→World→Prop}(i:Nat){n sz:Nat}{t:TypeId}{v:Value}{xs:List Value}(hi:H[i]? =some (HP.own t sz v n xs))(hn:0 < n)(h:∀g c,v=.slice (some ⟨g,0,none⟩) n c→n≤c→XK N w0 K e R H):XK N w0 K e R H:=fun a w hr st=>by
 obtain⟨_,h2⟩:=st.own hi
 rcases h2 with⟨_,h3⟩ | ⟨g',cap,cur,hv,_,_,h3,_⟩
 ·omega
 ·exact h g' cap hv h3 a w hr st
theorem XK.aMs{K:Act→World→Prop}(j i:Nat){p:Prop}{ps:List HP}(hj:H[j]? =some (HP.many ps))(hi:ps[i]? =some (HP.pure p))(h:p→XK N w0 K e R H):XK N w0 K e R H:=fun a w hr st=>by
 obtain⟨F,hF⟩:=(st.take hj hi).sat (i:=0) rfl
 exact h hF a w hr st
end
def wL(g n:Nat)(vs:List Value)(ws:List (Option gK)):List HP:=HP.aB g 267 vs::HP.pure (vs.length=n)::(List.range n).map fun i=>QH (vs.getD i undef) (ws[i]?).join
theorem aGM{g n i:Nat}{vs:List Value}{ws:List (Option gK)}(hi:i < n):(wL g n vs ws)[i+2]? =some (QH (vs.getD i undef) (ws[i]?).join):=by
 unfold wL
 rw[List.getElem?_cons_succ,List.getElem?_cons_succ,List.getElem?_map,List.getElem?_range hi]
 rfl
theorem aGN{g n i:Nat}{vs:List Value}{ws:List (Option gK)}{v:Value}{q:Option gK}(hi:i < n)(hv:vs.length=n)(hw:ws.length=n):
  (((((wL g n vs ws).set 0 HP.emp).set (i+2) HP.emp).set (i+2) (QH v q)).set 0 (HP.aB g 267 (vs.set i v)))=wL g n (vs.set i v) (ws.set i q):=by
 refine List.ext_getElem? fun k=>?_
 match k with
 | 0=>rfl
 | 1=>
  show some (HP.pure (vs.length=n))=some (HP.pure ((vs.set i v).length=n))
  rw[List.length_set]
 | k + 2 =>
  unfold wL
  simp only[List.set_cons_zero,List.set_cons_succ,List.getElem?_cons_succ,List.set_set,List.getElem?_map]
  rw[List.getElem?_set]
  by_cases h:i=k
  ·subst h
   rw[if_pos rfl,if_pos (by simpa using hi),List.getElem?_range hi]
   simp only[Option.map_some]
   rw[List.getD_eq_getElem?_getD,List.getElem?_set_self (by omega),List.getElem?_set_self (by omega)]
   rfl
  ·rw[if_neg h,List.getElem?_map]
   cases hr:(List.range n)[k]? with
   | none=>rfl
   | some j=>
    obtain⟨_,rfl⟩:=List.getElem?_eq_some_iff.1 hr
    simp only[List.getElem_range,Option.map_some]
    rw[List.getD_eq_getElem?_getD,List.getD_eq_getElem?_getD,List.getElem?_set_ne h,List.getElem?_set_ne h]
section
variable{N:bO}{w0:World}{e:Env}{R:List Piece}{H:List HP}{K:Act→World→Prop}{L:BL}{ms:List Int}{ws:List (Option gK)}{aQ:Int}
def Tw(L:BL)(ms:List Int)(aQ:Int):List Value:=[.slice (some ⟨L.gr,0,none⟩) ms.length ms.length,.slice (some ⟨L.gw,0,none⟩) ms.length ms.length,iv aQ]
def aCC(L:BL)(ms:List Int)(ws:List (Option gK))(vs:List Value)(i:Nat):HP:=HP.many (((wL L.gw ms.length vs ws).set 0 HP.emp).set (i+2) HP.emp)
theorem XK.aD4(j i:Nat)(hj:H[j]? =some (rB L ms ws aQ))(hi:i < ms.length)(h:∀vs:List Value,vs.length=ms.length→
      XK N w0 K e R (QH (vs.getD i undef) (ws[i]?).join::HP.aB L.gw 267 vs::aCC L ms ws vs i::HP.aB L.b 270 (Tw L ms aQ)::H.set j (HP.many [HP.emp,HP.aB L.gr 3 (aG ms),HP.emp]))):XK N w0 K e R H:=by
  have hlt:=(List.getElem?_eq_some_iff.1 hj).1
  refine XK.take j 0 hj rfl ?_
  refine XK.take (j+1) 2 (by rw[List.getElem?_cons_succ,List.getElem?_set_self hlt]) rfl ?_
  refine XK.Vx 0 rfl fun vs=>?_
  refine XK.aMs 0 1 rfl rfl fun hv=>?_
  refine XK.take 0 0 rfl rfl ?_
  refine XK.take 1 (i+2) rfl (p:=QH (vs.getD i undef) (ws[i]?).join) ?_ ?_
  · show((wL L.gw ms.length vs ws).set 0 HP.emp)[i+2]? =_
    rw[List.getElem?_set_ne (by omega),aGM hi]
  · have h:=h vs hv
    simp only[List.set_cons_succ,List.set_cons_zero,List.set_set]
    exact h
theorem XK.aFs(j i:Nat){vs:List Value}{v:Value}{q:Option gK}(hj:H[j]? =some (HP.many [HP.emp,HP.aB L.gr 3 (aG ms),HP.emp]))(hi:i < ms.length)(hv:vs.length=ms.length)(hw:ws.length=ms.length)
  (h:XK N w0 K e R (H.set j (rB L ms (ws.set i q) aQ))):XK N w0 K e R (QH v q::HP.aB L.gw 267 (vs.set i v)::aCC L ms ws vs i::HP.aB L.b 270 (Tw L ms aQ)::H):=by
 have hlt:=(List.getElem?_eq_some_iff.1 hj).1
 have hlen:(wL L.gw ms.length vs ws).length=ms.length+2:=by simp[wL]
 refine XK.nM 1 (i+2) rfl ?_ ?_
 ·rw[List.getElem?_set_self (by simp[hlen];omega)]
 dsimp only[List.set]
 refine XK.nM 0 0 rfl ?_ ?_
 ·rw[List.set_set,List.getElem?_set_ne (by omega),List.getElem?_set_self (by simp[hlen])]
 rw[aGN hi hv hw]
 dsimp only[List.set]
 refine XK.sV 0 (f:=fun vs:List Value=>HP.many (wL L.gw ms.length vs (ws.set i q))) (vs.set i v) rfl ?_
 dsimp only[List.set]
 refine XK.nM (j+1) 2 (by rw[List.getElem?_cons_succ];exact hj) rfl ?_
 dsimp only[List.set]
 refine XK.nM j 0 (by rw[List.getElem?_set_self hlt]) rfl ?_
 rw[List.set_set]
 exact h
end
theorem aOh(L:BL)(ms:List Int)(ws:List (Option gK))(aQ:Int)(i:Nat)(hi:i < ms.length)(hw:ws.length=ms.length)(t:gK)(ht:(ws[i]?).join=some t)(w:World)(F:Nat→Prop)(hp:(rB L ms ws aQ).sat F w)(hF:∀b,F b→b < w.heap.size):
  Calls Tryz.prog 108 #[.pointer (some ⟨L.b,0,none⟩),iv (i:Int)] w (fun y w'=>y=.returned (.tuple #[.agg #[iv t.id,.bool t.wr,iv t.bF,.int .u32 t.val],.bool true])∧∃F',(rB L ms (ws.set i none) aQ).sat F' w'∧aV w w' F F'):=by
 have hin:bE ms.length (i:Int)=true:=decide_eq_true (by omega)
 refine XK.bY Tryz.func108 Tryz.ntmps108 hp hF ?_
 generalize bN:(⟨w,fun b=>b < w.heap.size∧¬F b⟩:Piece)=R0
 refine XK.go ?_
 refine bB fun g1=>?_
 refine XK.go ?_
 refine aJ (fun w1 st=>Ys L ms ws aQ i w1 (st.aF7 1 rfl)) ?_
 rw[hin]
 refine XK.aD4 1 i rfl hi fun vs hv=>?_
 rw[ht]
 dsimp only[List.set]
 refine XK.aJn 0 rfl (by decide) fun g c hg hc=>?_
 have Qw:vs[i]? =some (.slice (some ⟨g,0,none⟩) 1 c):=by
  obtain⟨v,h1⟩:=get_some (l:=vs) (i:=i) (by omega)
  rw[List.getD_eq_getElem?_getD,h1] at hg
  rw[h1]
  exact congrArg some hg
 rw[hg]
 refine XK.go ?_
 refine kd (dat i i) ?_
 refine XK.go ?_
 refine kd (aX rfl (Rd.aB 1 rfl Qw)) ?_
 refine XK.go ?_
 refine kd (dat i i) ?_
 refine XK.go ?_
 refine kd (aX rfl (Rd.aB 1 rfl Qw)) ?_
 refine XK.go ?_
 refine XK.eU [1,2,3,7,9,10,11] ?_
 refine XB.mv 0 ?_
 refine XB.q 1 ?_
 refine XB.q 2 ?_
 refine XB.q 3 ?_
 refine XB.mv 4 ?_
 refine XB.mv 5 ?_
 refine XB.mv 6 ?_
 refine XB.q 7 ?_
 refine XB.mv 8 ?_
 refine XB.q 9 ?_
 refine XB.q 10 ?_ (hi:=rfl) (cY:=aMS (l:=1) (h:=1) (m:=1) rfl rfl rfl rfl (by omega) (by omega) hc)
 refine XB.q 11 ?_ (hi:=rfl) (cY:=dat i i)
 refine XB.next 12 rfl (by kernel_rfl) ?_
 refine dL rfl rfl ?_ (hs:=dK.mk 1 rfl bL.h rfl (by omega))
 dsimp only[List.set]
 refine XB.bt ?_
 refine XB.done (by kernel_rfl) ?_
 refine XK.go ?_
 refine kd (dat 0 0) ?_
 refine kd (mE rfl (aH.of fun j v hv=>by rw[Nat.zero_add];exact Rd.own 0 rfl hv)) ?_
 refine lM 4 rfl ?_
 dsimp only[List.set]
 refine XK.go ?_
 refine XK.reuse (q:=QH (.slice (some ⟨g,0,none⟩) 0 0) none) 0 rfl (fun _ _ _=>⟨_,rfl⟩) ?_
 refine XK.aFs 1 i rfl hi hv hw ?_
 dsimp only[List.set]
 subst bN
 exact XK.wA (vs:=[iv t.id,.bool t.wr,iv t.bF,.int .u32 t.val]) rfl (by kernel_rfl) rfl rfl (aH.whole 0 rfl) rfl fun w1 st=>⟨rfl,st.turns hF (by simp) (i:=1) rfl⟩
end
section
set_option maxHeartbeats 4000000
set_option maxRecDepth 20000
theorem Yr(w0 low many:Int)(w:World)(hok:okF low many)(hr:0≤bJ w0 low many∧bJ w0 low many < 4294967296):
  Calls Tryz.prog 296 #[.int .u32 w0,iv low,iv many] w (Rt (iv (bJ w0 low many)) w):=by
 refine XK.en Tryz.func296 Tryz.ntmps296 ?_
 refine XK.go ?_
 refine aJ (fun w1 t=>aEA w0 low many w1 hok) ?_
 refine XK.go ?_
 refine kd (Ga (ds:=.int .u32) (kd:=.i64) (c:=bJ w0 low many) (by kernel_rfl) (by kernel_rfl) rfl (eR (by omega))) ?_
 refine XK.go ?_
 exact XK.rE
theorem Yb(w low many:Int):0≤bJ w low many∧bJ w low many < 4294967296:=Km _
theorem aF6(a dev bF:Int)(h0:bJ a 0 2=0)(h1:bJ a 24 8=0)(h2:bJ a 16 8=dev)(h3:bJ a 2 14=bF)(w:World):
  Calls Tryz.prog 294 #[.int .u32 a] w (Rt (.tuple #[iv dev,iv bF]) w):=by
 refine XK.en Tryz.func294 Tryz.ntmps294 ?_
 refine XK.go ?_
 refine aJ (fun w1 t=>Yr a 0 2 w1 (by unfold okF;omega) (Yb _ _ _)) ?_
 rw[h0]
 refine XK.go ?_
 refine aJ (fun w1 t=>Yr a 24 8 w1 (by unfold okF;omega) (Yb _ _ _)) ?_
 rw[h1]
 refine XK.go ?_
 refine aJ (fun w1 t=>Yr a 16 8 w1 (by unfold okF;omega) (Yb _ _ _)) ?_
 rw[h2]
 refine XK.go ?_
 refine aJ (fun w1 t=>Yr a 2 14 w1 (by unfold okF;omega) (Yb _ _ _)) ?_
 rw[h3]
 refine XK.go ?_
 exact XK.dG rfl rfl rfl fun w1 t=>⟨rfl,t.below (by simp)⟩
def Oa(dev bF:Int):Int:=(wB (wB 0 16 8 dev).1 2 14 bF).1
structure aOQ(dev bF:Int):Prop where
 p1:(wB 0 16 8 dev).2=0
 p2:(wB (wB 0 16 8 dev).1 2 14 bF).2=0
 z0:bJ (Oa dev bF) 0 2=0
 z1:bJ (Oa dev bF) 24 8=0
 z2:bJ (Oa dev bF) 16 8=dev
 z3:bJ (Oa dev bF) 2 14=bF
theorem aFM{dev bF:Int}(h1:0≤dev∧dev < 4)(h2:0≤bF∧bF < 4):aOQ dev bF:=by
 have hd:dev=0∨dev=1∨dev=2∨dev=3:=by omega
 have hr:bF=0∨bF=1∨bF=2∨bF=3:=by omega
 rcases hd with rfl | rfl | rfl | rfl<;>rcases hr with rfl | rfl | rfl | rfl<;>exact⟨by decide+kernel,by decide+kernel,by decide+kernel,by decide+kernel,by decide+kernel,by decide+kernel⟩
theorem aOl(dev bF:Int)(hd:0≤dev∧dev < 4)(hr:0≤bF∧bF < 4)(w:World):
  Calls Tryz.prog 292 #[iv dev,iv bF] w (Rt (.tuple #[.int .u32 (Oa dev bF),iv 0]) w):=by
 have ha:=aFM hd hr
 refine XK.en Tryz.func292 Tryz.ntmps292 ?_
 refine XK.go ?_
 refine aW (t:=10) rfl (fun h=>absurd h (by omega)) (fun _=>?_)
 refine XK.go ?_
 refine aW (t:=14) rfl (fun h=>absurd h (by omega)) (fun _=>?_)
 refine XK.go ?_
 refine aW (t:=18) rfl (fun h=>absurd h (by omega)) (fun _=>?_)
 refine XK.go ?_
 refine XK.if_ rfl (fun h=>absurd h (by omega)) (fun _=>?_)
 refine XK.go ?_
 refine kd (Ga (ds:=.int .i64) (kd:=.u32) (c:=dev) (by kernel_rfl) (by kernel_rfl) rfl (wrap_u32 (by omega))) ?_
 refine aJ (fun w1 t=>aAv 0 16 8 dev w1 (by unfold okF;omega)) ?_
 rw[ha.p1]
 refine XK.go ?_
 refine kd (Ga (ds:=.int .i64) (kd:=.u32) (c:=bF) (by kernel_rfl) (by kernel_rfl) rfl (wrap_u32 (by omega))) ?_
 refine aJ (fun w1 t=>aAv _ 2 14 bF w1 (by unfold okF;omega)) ?_
 rw[ha.p2]
 refine XK.go ?_
 exact XK.dG rfl rfl rfl fun w1 t=>⟨rfl,t.below (by simp)⟩
theorem aOj(L:BL)(ms:List Int)(ws:List (Option gK))(aQ:Int)(i:Nat)(hi:i < ms.length)(hml:ms.length≤6)(hw:ws.length=ms.length)(h0:(ws[i]?).join=none)(a bF:Int)(z0:bJ a 0 2=0)(z1:bJ a 24 8=0)(z2:bJ a 16 8=i)(z3:bJ a 2 14=bF)(m:Int)(hm:ms[i]? =some m)(hr:0≤bF∧bF < m)(b:Bool)(v:Int)(lB:0≤aQ∧aQ≤1000000000)(w:World)(F:Nat→Prop)(hp:(rB L ms ws aQ).sat F w)(hF:∀b,F b→b < w.heap.size):
  Calls Tryz.prog 295 #[.pointer (some ⟨L.b,0,none⟩),.int .u32 a,.bool b,.int .u32 v] w (fun y w'=>y=.returned (.tuple #[iv aQ,iv 0])∧∃F',(rB L ms (ws.set i (some ⟨aQ,b,bF,v⟩)) (aQ+1)).sat F' w'∧aV w w' F F'):=by
 have hin:bE ms.length (i:Int)=true:=decide_eq_true (by omega)
 have hmi:(aG ms)[i]? =some (iv m):=by simp[aG,hm]
 refine XK.bY Tryz.func295 Tryz.ntmps295 hp hF ?_
 generalize bN:(⟨w,fun b=>b < w.heap.size∧¬F b⟩:Piece)=R0
 refine XK.go ?_
 refine aJ (fun w1 t=>aF6 a i bF z0 z1 z2 z3 w1) ?_
 refine XK.go ?_
 refine aJ (fun w1 st=>Ys L ms ws aQ i w1 (st.aF7 0 rfl)) ?_
 rw[hin]
 refine XK.aD4 0 i rfl hi fun vs hv=>?_
 rw[h0]
 dsimp only[List.set]
 refine XK.tk 4 1 ?_
 refine XK.fact (p:=∃A,vs.getD i undef=.slice A 0 0) 1 rfl fun⟨A,hA⟩=>?_
 have Qw:vs[i]? =some (.slice A 0 0):=by
  obtain⟨u,h1⟩:=get_some (l:=vs) (i:=i) (by omega)
  rw[List.getD_eq_getElem?_getD,h1] at hA
  rw[h1]
  exact congrArg some hA
 refine XK.go ?_
 refine aW (t:=26) rfl (fun h=>absurd h (by omega)) (fun _=>?_)
 refine XK.go ?_
 refine kd (dat i i) ?_
 refine XK.go ?_
 refine kd (aX rfl (Rd.aB 0 rfl hmi)) ?_
 refine XK.go ?_
 refine XK.if_ rfl (fun h=>absurd h (by omega)) (fun _=>?_)
 refine XK.go ?_
 refine kd (dat i i) ?_
 refine XK.go ?_
 refine kd (aX rfl (Rd.aB 2 rfl Qw)) ?_
 refine XK.go ?_
 refine dL rfl rfl ?_ (hs:=dK.mk 4 rfl bL.h rfl (by simp[Tw]))
 dsimp only[List.set]
 rw[show(Tw L ms aQ).set (0+2) (iv (aQ+1))=Tw L ms (aQ+1) from rfl]
 refine XK.go ?_
 refine XK.eU [1,2,3,6,7,8,10,11] ?_
 refine XB.mv 0 ?_
 refine XB.q 1 ?_
 refine XB.q 2 ?_
 refine XB.q 3 ?_
 refine XB.mv 4 ?_
 refine XB.mv 5 ?_
 refine XB.q 6 ?_
 refine XB.q 7 ?_
 refine XB.q 8 ?_
 refine XB.mv 9 ?_
 refine XB.q 10 ?_ (hi:=rfl) (cY:=dat i i)
 refine XB.q 11 ?_ (hi:=rfl) (cY:=aX rfl (Rd.aB 2 rfl Qw))
 refine XB.mv 12 ?_
 refine XB.mv 13 ?_
 refine XB.mv 14 ?_
 refine XB.mv 15 ?_
 refine XB.next 16 rfl (by kernel_rfl) ?_
 refine kd (eM rfl) ?_
 refine XB.bk ?_
 refine XB.next 17 rfl (by kernel_rfl) ?_
 refine dF fun g4=>?_
 refine XB.bk ?_
 refine XB.next 18 rfl (by kernel_rfl) ?_
 refine aG6 4 32 1 (el:=259) (by kernel_rfl) (by kernel_rfl) (by decide) rfl rfl (kX 0 rfl rfl) (by simp[Value.oneCell']) (by decide) (by decide) (by decide) (by decide) fun An cn=>?_
 refine XB.bk ?_
 refine XB.next 19 rfl (by kernel_rfl) ?_
 refine kd (dat i i) ?_
 refine XB.bt ?_
 refine XB.next 20 rfl (by kernel_rfl) ?_
 refine dL rfl rfl ?_ (hs:=dK.mk 4 rfl bL.h rfl (by omega))
 dsimp only[List.set]
 refine XB.bt ?_
 refine XB.done (by kernel_rfl) ?_
 refine XK.go ?_
 refine XK.weak [2,0,4,5,6,7] rfl (by decide) (fun _ h=>h) ?_
 refine XK.gv 4 1 ?_
 refine XK.aFs (v:=.slice An 1 cn) (q:=some ⟨aQ,b,bF,v⟩) 0 i rfl hi hv hw ?_
 dsimp only[List.set]
 subst bN
 exact XK.dG rfl rfl rfl fun w1 st=>⟨rfl,st.turns hF (by simp) (i:=0) rfl⟩
end
section
set_option maxHeartbeats 4000000
set_option maxRecDepth 20000
def Gh(s:aA)(x:aO)(i:Nat):Bool:=match s.aC[i]? with
 | some d=>rM s x.ck d.clock&&(decide (qB x.dm d.domain=49)&& !Fh x.ln d.reset)
 | none=>false
def uE(x:aO)(i:Nat):Int:=((x.dv[i]?).map fun p=>nH p.2.at_).getD 0
theorem Rd.Vy{w0:World}{R:List Piece}{H:List HP}{b o:Nat}{vs:List Value}{v:Value}(j:Nat)(h:aH w0 R H b o vs)(hv:vs[j]? =some v):Rd w0 R H b (o+j) v:=fun w st=>h w st j v hv
section
variable(L:HL)(s:aA)(x:aO)(w:World)
theorem aE1(hH:s.cI)(i:Int)(hR:qZ w L s x):Calls Tryz.prog 180 #[.pointer (some ⟨L.h,0,none⟩),iv i] w (Rt (.bool (rM s x.ck i)) w):=by
 have k0:=hR.r0.at_ (j:=0) rfl
 refine XK.en Tryz.func180 Tryz.ntmps180 ?_
 refine XK.go ?_
 refine aJ (fun w1 t=>yJ L s x w1 (hR.below (t.below (by simp)))) ?_
 refine XK.go ?_
 refine aJ (fun w1 t=>Tt L.T s x.ck hH i w1 (hR.tree.below (t.below (by simp)))) ?_
 refine XK.go ?_
 exact XK.rE
theorem aLs(hH:s.cI)(aM:fF L s)(hok:bR s x)(i:Nat)(hi:i < s.aC.length)(hR:qZ w L s x):Calls Tryz.prog 14 #[.pointer (some ⟨L.h,0,none⟩),iv (i:Int)] w (Rt (.bool (Gh s x i)) w):=by
 have k0:=hR.r0.at_ (j:=0) rfl
 have k1:=hR.r0.at_ (j:=1) rfl
 have k2:=hR.r0.at_ (j:=2) rfl
 have k4:=hR.r0.at_ (j:=4) rfl
 have hls:=aM.ds
 obtain⟨d,cF⟩:=get_some hi
 obtain⟨l,gA⟩:=get_some (l:=L.ds) (i:=i) (by omega)
 obtain⟨b,off,hA,hr⟩:=aE.row hR.rows (rows:=tG s.aC L.ds) (fun r hr=>aB9 r hr) (aBA cF gA) hi
 have hin:bE s.aC.length (i:Int)=true:=decide_eq_true (by omega)
 have hal:Gh s x i=(rM s x.ck d.clock&&(decide (qB x.dm d.domain=49)&& !Fh x.ln d.reset)):=by
  unfold Gh
  rw[cF]
 rw[hal]
 refine XK.en Tryz.func14 Tryz.ntmps14 ?_
 refine XK.go ?_
 refine aJ (fun w1 t=>Mn L s x w1 i (hR.below (t.below (by simp)))) ?_
 rw[hin]
 refine XK.go ?_
 refine kd (dat i (off+i*6) (hx:=by rw[←hA];rfl)) ?_
 refine XK.gw ?_
 refine bB fun g1=>?_
 refine XK.go ?_
 refine XK.jO ?_
 refine XQ.go ?_
 refine XQ.call (fun w1 t=>Tt L.T s x.ck hH d.clock w1 (hR.tree.below (t.below (by simp)))) ?_
 cases hrun:rM s x.ck d.clock
 ·refine XQ.end_ ?_
  refine XK.go ?_
  exact XK.rE
 ·refine XQ.go ?_
  refine XQ.call (fun w1 t=>aDw L.G s x.dm hok.dm d.domain w1 (zC.below hR.aBy (t.below (by simp)))) ?_
  refine XQ.go ?_
  refine XQ.split 32 rfl (fun hp=>?_) (fun hp=>?_)
  ·rw[decide_eq_true hp]
   refine XQ.go ?_
   refine XQ.call (fun w1 t=>aCW L.R s x.ln d.reset w1 (hR.lines.below (t.below (by simp)))) ?_
   refine XQ.end_ ?_
   refine XK.go ?_
   exact XK.rE
  ·rw[decide_eq_false hp]
   refine XQ.end_ ?_
   refine XK.go ?_
   exact XK.rE
theorem aE0(aM:fF L s)(hok:bR s x)(i:Nat)(hi:i < s.aC.length)(eB:Of w)(hR:qZ w L s x):Calls Tryz.prog 175 #[.pointer (some ⟨L.h,0,none⟩),iv (i:Int)] w (Rt (.int .u8 (uE x i)) w):=by
 have k4:=hR.r0.at_ (j:=4) rfl
 have hls:=aM.ds
 have kA:=hok.dv
 obtain⟨d,cF⟩:=get_some hi
 obtain⟨l,gA⟩:=get_some (l:=L.ds) (i:=i) (by omega)
 obtain⟨p,fI⟩:=get_some (l:=x.dv) (i:=i) (by omega)
 obtain⟨b,off,hA,hr⟩:=aE.row hR.rows (rows:=tG s.aC L.ds) (fun r hr=>aB9 r hr) (aBA cF gA) hi
 have k5:=hr.at_ (j:=5) rfl
 have hin:bE s.aC.length (i:Int)=true:=decide_eq_true (by omega)
 have hst:uE x i=nH p.2.at_:=by
  unfold uE
  rw[fI]
  rfl
 rw[hst]
 refine XK.en Tryz.func175 Tryz.ntmps175 ?_
 refine XK.go ?_
 refine aJ (fun w1 t=>Mn L s x w1 i (hR.below (t.below (by simp)))) ?_
 rw[hin]
 refine XK.go ?_
 refine kd (dat i (off+i*6) (hx:=by rw[←hA];rfl)) ?_
 refine XK.go ?_
 refine aJ (fun w1 t=>aDu l.2 p.2 (hok.each i d p cF fI).2 w1 (eB.below (t.below (by simp))) ((hR.below (t.below (by simp))).each i d l p cF gA fI).2) ?_
 refine XK.go ?_
 exact XK.rE
def Dm(x:aO)(i:Nat):aO:={x with dv:=match x.dv[i]? with | some p=>x.dv.set i (p.1,(qR p.2).2) | none=>x.dv}
def wD(x:aO)(i:Nat):aO:={x with dv:=match x.dv[i]? with | some p=>x.dv.set i (p.1,(mU p.2).2) | none=>x.dv}
theorem aE5(hH:s.cI)(aM:fF L s)(hok:bR s x)(i:Nat)(hi:i < s.aC.length)(F:Nat→Prop)(hp:(cP L s x).sat F w)(hF:∀b,F b→b < w.heap.size):
  Calls Tryz.prog 226 #[.pointer (some ⟨L.h,0,none⟩),iv (i:Int)] w (fun y w'=>∃r:Int,y=.returned (iv r)∧True∧∃F',(cP L s (Dm x i)).sat F' w'∧aV w w' F F'):=by
 have hls:=aM.ds
 have kA:=hok.dv
 obtain⟨d,cF⟩:=get_some hi
 obtain⟨l,gA⟩:=get_some (l:=L.ds) (i:=i) (by omega)
 obtain⟨p,fI⟩:=get_some (l:=x.dv) (i:=i) (by omega)
 have hin:bE s.aC.length (i:Int)=true:=decide_eq_true (by omega)
 have hX:Dm x i={x with dv:=x.dv.set i (p.1,(qR p.2).2)}:=by
  unfold Dm
  rw[fI]
 rw[hX]
 refine XK.bY Tryz.func226 Tryz.ntmps226 hp hF ?_
 refine XK.go ?_
 refine aJ (fun w1 t=>Mn L s x w1 i (t.kB 0 rfl aM hok)) ?_
 rw[hin]
 refine XK.go ?_
 refine kd (aX rfl (Rd.hard 0 rfl rfl)) ?_
 refine XK.rows 0 rfl aM hok (by omega) fun b off hA=>?_
 refine XK.go ?_
 refine kd (dat i (off+i*6) (hx:=by rw[←hA];rfl)) ?_
 refine XK.go ?_
 refine kd (aX rfl (Rd.Vy (vs:=Fw d l) 5 (aH.dev 0 rfl aM hok hA cF gA rfl) rfl)) ?_
 refine XK.Kz 0 i rfl cF gA fI ?_
 dsimp only[List.set]
 refine XK.tk 0 1 ?_
 refine cX 0 (qY l.2 (qR p.2).2) (fun w1 F1 t h1 h2 h3=>aIZ h1 h2) ?_
 dsimp only[List.set]
 refine XK.gv 0 1 ?_
 refine XK.Nn 0 i rfl cF gA fI (p':=(p.1,(qR p.2).2)) ?_
 dsimp only[List.set]
 refine XK.go ?_
 exact XK.jQ rfl rfl fun w1 t=>⟨_,rfl,trivial,t.turns hF (by simp) (i:=0) rfl⟩
theorem aBq(hH:s.cI)(aM:fF L s)(hok:bR s x)(i:Nat)(hi:i < s.aC.length)(F:Nat→Prop)(hp:(cP L s x).sat F w)(hF:∀b,F b→b < w.heap.size):
  Calls Tryz.prog 176 #[.pointer (some ⟨L.h,0,none⟩),iv (i:Int)] w (fun y w'=>∃r:Int,y=.returned (iv r)∧True∧∃F',(cP L s (wD x i)).sat F' w'∧aV w w' F F'):=by
 have hls:=aM.ds
 have kA:=hok.dv
 obtain⟨d,cF⟩:=get_some hi
 obtain⟨l,gA⟩:=get_some (l:=L.ds) (i:=i) (by omega)
 obtain⟨p,fI⟩:=get_some (l:=x.dv) (i:=i) (by omega)
 have hin:bE s.aC.length (i:Int)=true:=decide_eq_true (by omega)
 have hX:wD x i={x with dv:=x.dv.set i (p.1,(mU p.2).2)}:=by
  unfold wD
  rw[fI]
 rw[hX]
 refine XK.bY Tryz.func176 Tryz.ntmps176 hp hF ?_
 refine XK.go ?_
 refine aJ (fun w1 t=>Mn L s x w1 i (t.kB 0 rfl aM hok)) ?_
 rw[hin]
 refine XK.go ?_
 refine kd (aX rfl (Rd.hard 0 rfl rfl)) ?_
 refine XK.rows 0 rfl aM hok (by omega) fun b off hA=>?_
 refine XK.go ?_
 refine kd (dat i (off+i*6) (hx:=by rw[←hA];rfl)) ?_
 refine XK.go ?_
 refine kd (aX rfl (Rd.Vy (vs:=Fw d l) 5 (aH.dev 0 rfl aM hok hA cF gA rfl) rfl)) ?_
 refine XK.Kz 0 i rfl cF gA fI ?_
 dsimp only[List.set]
 refine XK.tk 0 1 ?_
 refine cX 0 (qY l.2 (mU p.2).2) (fun w1 F1 t h1 h2 h3=>aIY h1 h2) ?_
 dsimp only[List.set]
 refine XK.gv 0 1 ?_
 refine XK.Nn 0 i rfl cF gA fI (p':=(p.1,(mU p.2).2)) ?_
 dsimp only[List.set]
 refine XK.go ?_
 exact XK.jQ rfl rfl fun w1 t=>⟨_,rfl,trivial,t.turns hF (by simp) (i:=0) rfl⟩
end
end
section
set_option maxHeartbeats 4000000
set_option maxRecDepth 20000
def iR(m t p k:Int):Int×Int:=
 if(gE 0 0 8 m).2≠0 then(0,(gE 0 0 8 m).2)
 else if(gE (gE 0 0 8 m).1 8 2 t).2≠0 then(0,(gE (gE 0 0 8 m).1 8 2 t).2)
 else if(gE (gE (gE 0 0 8 m).1 8 2 t).1 10 8 p).2≠0 then(0,(gE (gE (gE 0 0 8 m).1 8 2 t).1 10 8 p).2)
 else if(gE (gE (gE (gE 0 0 8 m).1 8 2 t).1 10 8 p).1 18 10 k).2≠0 then(0,(gE (gE (gE (gE 0 0 8 m).1 8 2 t).1 10 8 p).1 18 10 k).2)
 else((gE (gE (gE (gE 0 0 8 m).1 8 2 t).1 10 8 p).1 18 10 k).1,0)
def Iq(m t p k:Int):List Value:=[iv m,iv t,iv p,iv k]
def Gy(w:Int):List Value:=if bJ w 28 4≠0 then Iq 0 0 0 0 else Iq (bJ w 0 8) (bJ w 8 2) (bJ w 10 8) (bJ w 18 10)
def zL(w:Int):Int:=if bJ w 28 4≠0 then 2 else 0
theorem Oq(l:List Int):∀u∈nF l,u.oneCell'=true:=by
 intro u hu
 simp only[nF,List.mem_map] at hu
 obtain⟨_,_,rfl⟩:=hu
 rfl
def Ui(l:List Int)(v:Value)(w w':World):Prop:=∃A c,v=.slice A l.length c∧aE (fresh w w') 1 A l.length (nF l)
theorem aJl(m t p k:Int)(w:World):
  Calls Tryz.prog 218 #[.agg #[iv m,iv t,iv p,iv k]] w (Rt (.tuple #[.int .u32 (iR m t p k).1,iv (iR m t p k).2]) w):=by
 refine XK.en Tryz.func218 Tryz.ntmps218 ?_
 refine XK.gw ?_
 refine aS fun g1=>?_
 refine XK.gw ?_
 refine cG (fun w1 st=>Vt 0 0 8 m w1 (by unfold okF;omega)) ?_
 refine XK.gw ?_
 refine XK.if_ rfl (fun h1=>?_) (fun h1=>?_)
 ·
  refine XK.gw ?_
  refine XK.dG rfl rfl rfl fun w1 st=>⟨by rw[iR,if_pos h1];rfl,st.below (by simp)⟩
 ·
  refine XK.gw ?_
  refine cG (fun w1 st=>Vt (gE 0 0 8 m).1 8 2 t w1 (by unfold okF;omega)) ?_
  refine XK.gw ?_
  refine XK.if_ rfl (fun h2=>?_) (fun h2=>?_)
  ·
   refine XK.gw ?_
   refine XK.dG rfl rfl rfl fun w1 st=>⟨by rw[iR,if_neg h1,if_pos h2];rfl,st.below (by simp)⟩
  ·
   refine XK.gw ?_
   refine cG (fun w1 st=>Vt (gE (gE 0 0 8 m).1 8 2 t).1 10 8 p w1 (by unfold okF;omega)) ?_
   refine XK.gw ?_
   refine XK.if_ rfl (fun h3=>?_) (fun h3=>?_)
   ·
    refine XK.gw ?_
    refine XK.dG rfl rfl rfl fun w1 st=>⟨by rw[iR,if_neg h1,if_neg h2,if_pos h3];rfl,st.below (by simp)⟩
   ·
    refine XK.gw ?_
    refine cG (fun w1 st=>Vt (gE (gE (gE 0 0 8 m).1 8 2 t).1 10 8 p).1 18 10 k w1 (by unfold okF;omega)) ?_
    refine XK.gw ?_
    refine XK.if_ rfl (fun h4=>?_) (fun h4=>?_)
    ·
     refine XK.gw ?_
     refine XK.dG rfl rfl rfl fun w1 st=>⟨by rw[iR,if_neg h1,if_neg h2,if_neg h3,if_pos h4];rfl,st.below (by simp)⟩
    ·
     refine XK.gw ?_
     refine XK.dG rfl rfl rfl fun w1 st=>⟨by rw[iR,if_neg h1,if_neg h2,if_neg h3,if_neg h4];rfl,st.below (by simp)⟩
theorem aCE(w0:Int)(w:World):
  Calls Tryz.prog 184 #[.int .u32 w0] w (Rt (.tuple #[.agg (Gy w0).toArray,iv (zL w0)]) w):=by
 refine XK.en Tryz.func184 Tryz.ntmps184 ?_
 refine XK.go ?_
 refine bB fun g1=>?_
 refine XK.go ?_
 refine cG (fun w1 st=>Qd w0 28 4 w1 (by unfold okF;omega)) ?_
 refine XK.go ?_
 refine XK.if_ rfl (fun h=>?_) (fun h=>?_)
 ·
  refine XK.go ?_
  refine kd (eM rfl) ?_
  refine pY rfl rfl ?_;simp only[eE,Value.cells,List.set,List.take,List.drop,List.nil_append,List.append_nil,List.length_cons,List.length_nil,List.cons_append,Nat.reduceAdd]
  refine XK.go ?_
  refine XK.wA rfl (n:=4) (vs:=Iq 0 0 0 0) (by kernel_rfl) rfl rfl (aH.whole 0 rfl) rfl fun w1 st=>⟨by rw[Gy,zL,if_pos h,if_pos h],st.below (by simp)⟩
 ·
  refine XK.go ?_
  refine cG (fun w1 st=>Qd w0 0 8 w1 (by unfold okF;omega)) ?_
  refine XK.go ?_
  refine cG (fun w1 st=>Qd w0 8 2 w1 (by unfold okF;omega)) ?_
  refine XK.go ?_
  refine cG (fun w1 st=>Qd w0 10 8 w1 (by unfold okF;omega)) ?_
  refine XK.go ?_
  refine cG (fun w1 st=>Qd w0 18 10 w1 (by unfold okF;omega)) ?_
  refine kd (eM rfl) ?_
  refine pY rfl rfl ?_;simp only[eE,Value.cells,List.set,List.take,List.drop,List.nil_append,List.append_nil,List.length_cons,List.length_nil,List.cons_append,Nat.reduceAdd]
  refine XK.go ?_
  refine XK.wA rfl (n:=4) (vs:=Iq (bJ w0 0 8) (bJ w0 8 2) (bJ w0 10 8) (bJ w0 18 10)) (by kernel_rfl) rfl rfl (aH.whole 0 rfl) rfl fun w1 st=>⟨by rw[Gy,zL,if_neg h,if_neg h],st.below (by simp)⟩
theorem aIj(w0:Int)(A:Option Addr)(n c:Nat)(zs:List Int)(w:World)(hs:aE (all w) 1 A n (nF zs))(hn:n=zs.length)(hn2:n≤1000000):Calls Tryz.prog 187 #[.int .u32 w0,.slice A n c] w (fun y w'=>(∃x,y=.returned x∧Ui (w0::zs) x w w')∧Below w.heap.size w w'):=by
 refine XK.en Tryz.func187 Tryz.ntmps187 ?_
 refine XK.gw ?_
 refine aCx 1 4 (el:=23) (c:=n+1) (k0:=1) (qI:=.i64) (by kernel_rfl) (by kernel_rfl) rfl (by rw[Int.natCast_add];rfl) (by omega) (by omega) (by decide) fun g1=>?_
 refine XK.gw ?_
 refine dF fun g2=>?_
 refine fG 1 1 4 1 (n':=1) (el:=23) (by kernel_rfl) (by kernel_rfl) (by decide) rfl rfl rfl (kX 0 rfl rfl) (by simp[Value.oneCell']) rfl (by omega) (by omega) (by decide) fun A1 c1=>?_
 dsimp only[List.set]
 refine XK.gw ?_
 refine fG 1 1 4 n (n':=n+1) (el:=23) (by kernel_rfl) (by kernel_rfl) (by decide) rfl rfl rfl (nG (by simp) hs) (Oq _) (by omega) (by omega) (by omega) (by decide) fun A2 c2=>?_
 dsimp only[List.set]
 refine XK.gw ?_
 refine XK.still [] [1] [] (by simp) rfl (by decide) (by decide) fun q hq _ hfr=>?_
 obtain⟨F2,rL,rG⟩:=hq 1 _ (by simp) rfl
 obtain⟨Am,cm,hBm,bQ⟩:=aE.oA (Y:=q.Z) rL rG
 cases hBm
 subst hn
 refine XK.jQ rfl rfl fun w1 st=>⟨⟨_,rfl,A2,c2,rfl,?_⟩,st.below (by simp)⟩
 exact aE.le bQ (st.jD (by simp) (hfr (by simp) (by simp)))
def Zh(l:List Int)(v:Value)(w w':World):Prop:=∃A c,v=.tuple #[.slice A l.length c,iv 0]∧aE (fresh w w') 1 A l.length (nF l)
theorem aNv(m t p k:Int)(A:Option Addr)(n c:Nat)(zs:List Int)(w:World)(hs:aE (all w) 1 A n (nF zs))(hn:n=zs.length)(hn2:n≤1000000)(hok:(iR m t p k).2=0):Calls Tryz.prog 162 #[.agg #[iv m,iv t,iv p,iv k],.slice A n c] w (fun y w'=>(∃x,y=.returned x∧Zh ((iR m t p k).1::zs) x w w')∧Below w.heap.size w w'):=by
 refine XK.en Tryz.func162 Tryz.ntmps162 ?_
 refine XK.gw ?_
 refine aS fun g1=>?_
 refine XK.gw ?_
 refine cG (fun w1 st=>aJl m t p k w1) ?_
 refine XK.gw ?_
 refine XK.if_ rfl (fun h=>?_) (fun h=>?_)
 ·
  refine XK.gw ?_
  exact absurd hok h
 ·
  refine XK.gw ?_
  refine gO [] (Ui ((iR m t p k).1::zs)) (fun w1 st=>aIj (iR m t p k).1 A n c zs w1 (hs.le (st.le (by simp))) hn hn2) ?_
  rintro _ w1 q1 ⟨A1,c1,rfl,h1⟩ hf _ pM
  have pM:=pM (by simp)
  have h1:=h1.le hf
  clear hf
  refine XK.gw ?_
  refine XK.dG rfl rfl rfl fun w1 st=>⟨⟨_,rfl,A1,c1,rfl,aE.le h1 (st.jD (by simp) pM)⟩,st.below (by simp)⟩
theorem aGB(pr m id v k:Int)(w:World)(hok:(iR m 0 pr k).2=0):Calls Tryz.prog 93 #[.agg #[iv pr,iv m,.int .u32 id,.int .u32 v],iv k] w (fun y w'=>(∃x,y=.returned x∧Zh [(iR m 0 pr k).1,id,v] x w w')∧Below w.heap.size w w'):=by
 refine XK.en Tryz.func93 Tryz.ntmps93 ?_
 refine XK.gw ?_
 refine aS fun g1=>?_
 refine XK.gw ?_
 refine dF fun g2=>?_
 refine gO [] (Zh ((iR m 0 pr k).1::[id,v])) (fun w1 st=>aNv m 0 pr k (some ⟨g2,0,none⟩) 2 2 [id,v] w1 (st.nX (i:=0) rfl rfl) rfl (by omega) hok) ?_
 rintro _ w1 q1 ⟨A1,c1,rfl,h1⟩ hf _ pM
 have pM:=pM (by simp)
 have h1:=h1.le hf
 clear hf
 refine XK.gw ?_
 refine XK.dG rfl rfl rfl fun w1 st=>⟨⟨_,rfl,A1,c1,rfl,aE.le h1 (st.jD (by simp) pM)⟩,st.below (by simp)⟩
end
section
set_option maxHeartbeats 4000000
set_option maxRecDepth 20000
def Dr(l:List Int)(v:Value)(hs:List HP)(_:Piece):Prop:=∃A c,v=.slice A l.length c∧hs=[HP.own 23 1 (.slice A l.length c) l.length (nF l)]
theorem aIk(w0:Int)(A:Option Addr)(n c:Nat)(zs:List Int)(w:World)(hs:aE (all w) 1 A n (nF zs))(hn:n=zs.length)(hn2:n≤1000000):Calls Tryz.prog 187 #[.int .u32 w0,.slice A n c] w (fun y w'=>(∃v hs q,y=.returned v∧q.w=w'∧Dr (w0::zs) v hs q∧iY w hs q)∧Below w.heap.size w w'):=by
 refine XK.en Tryz.func187 Tryz.ntmps187 ?_
 refine XK.gw ?_
 refine aCx 1 4 (el:=23) (c:=n+1) (k0:=1) (qI:=.i64) (by kernel_rfl) (by kernel_rfl) rfl (by rw[Int.natCast_add];rfl) (by omega) (by omega) (by decide) fun g1=>?_
 refine XK.gw ?_
 refine dF fun g2=>?_
 refine fG 1 1 4 1 (n':=1) (el:=23) (by kernel_rfl) (by kernel_rfl) (by decide) rfl rfl rfl (kX 0 rfl rfl) (by simp[Value.oneCell']) rfl (by omega) (by omega) (by decide) fun A1 c1=>?_
 dsimp only[List.set]
 refine XK.gw ?_
 refine fG 1 1 4 n (n':=n+1) (el:=23) (by kernel_rfl) (by kernel_rfl) (by decide) rfl rfl rfl (nG (by simp) hs) (Oq _) (by omega) (by omega) (by omega) (by decide) fun A2 c2=>?_
 dsimp only[List.set]
 refine XK.gw ?_
 subst hn
 refine XK.weak [1] rfl (by decide) (fun _ h=>h) ?_
 refine XK.still [] [] [0] (by simp) rfl (by decide) (by decide) fun q _ _ hfr=>?_
 exact XK.rX (h:=fun w1 t=>⟨_,_,⟨w1,q.Z⟩,rfl,rfl,⟨A2,c2,rfl,rfl⟩,t.newR (by simp) (by simp) (hfr (by simp) (by simp))⟩)
theorem Nx(w0 st st':Int)(hst:IntKind.u32.wrap st=st')(A:Option Addr)(n c:Nat)(zs:List Int)(w:World)(hs:aE (all w) 1 A n (nF zs))(hn:n=zs.length)(hn2:n≤1000):
  Calls Tryz.prog 107 #[.int .u32 w0,.int .i32 st,.slice A n c] w (fun y w'=>(∃v hs q,y=.returned v∧q.w=w'∧Dr (w0::st'::zs) v hs q∧iY w hs q)∧Below w.heap.size w w'):=by
 subst hn
 refine XK.en Tryz.func107 Tryz.ntmps107 ?_
 refine XK.go ?_
 refine zI (ds:=.int .i32) (by kernel_rfl) (by kernel_rfl) rfl hst (by decide) ?_
 refine dF fun g1=>?_
 refine fB (Dr [w0,st']) (fun w1 t=>aIk w0 _ 1 1 [st'] w1 (t.nX (i:=0) rfl rfl) rfl (by omega)) ?_
 rintro _ _ q1 ⟨A1,c1,rfl,rfl⟩ _
 dsimp only[List.cons_append,List.nil_append]
 refine XK.go ?_
 refine fG 0 1 4 zs.length (n':=zs.length+2) (el:=23) (by kernel_rfl) (by kernel_rfl) (by decide) rfl rfl rfl (nG (by simp) hs) (Oq _) (by simp;omega) (by omega) (by omega) (by decide) fun A2 c2=>?_
 dsimp only[List.set]
 refine XK.go ?_
 refine XK.weak [0] rfl (by decide) (R':=[all w]) (by simp) ?_
 refine XK.still [] [] [0] (by simp) rfl (by decide) (by decide) fun q _ _ hfr=>?_
 exact XK.rX (h:=fun w1 t=>⟨_,_,⟨w1,q.Z⟩,rfl,rfl,⟨A2,c2,rfl,rfl⟩,t.newR (by simp) (by simp) (hfr (by simp) (by simp))⟩)
theorem Lt(i:Int)(w:World):Calls Tryz.prog 163 #[iv i] w (Rt (.bool (bE 2 i)) w):=by
 refine XK.en Tryz.func163 Tryz.ntmps163 ?_
 refine XK.go ?_
 refine aW (t:=5) rfl (fun h=>?_) (fun h=>?_)
 ·refine XK.go ?_
  refine XK.gN (by simp) ?_
  unfold bE
  congr 1
  simp;omega
 ·refine XK.go ?_
  refine XK.gN (by simp) ?_
  have:bE 2 i=false:=decide_eq_false (by omega)
  rw[this]
def Em(p:Int):Int:=if p=48 then 0 else if p=49 then 1 else if p=116 then 2 else 3
theorem aMa(p:Int)(w:World):Calls Tryz.prog 185 #[.int .u8 p] w (Rt (.int .u32 (Em p)) w):=by
 refine XK.en Tryz.func185 Tryz.ntmps185 ?_
 refine XK.go ?_
 refine XK.if_ rfl (fun h=>?_) (fun h=>?_)
 ·refine XK.go ?_
  exact XK.rE (by rw[Em,if_pos h])
 ·refine XK.go ?_
  refine XK.if_ rfl (fun h1=>?_) (fun h1=>?_)
  ·refine XK.go ?_
   exact XK.rE (by rw[Em,if_neg h,if_pos h1])
  ·refine XK.go ?_
   refine XK.if_ rfl (fun h2=>?_) (fun h2=>?_)
   ·refine XK.go ?_
    exact XK.rE (by rw[Em,if_neg h,if_neg h1,if_pos h2])
   ·refine XK.go ?_
    exact XK.rE (by rw[Em,if_neg h,if_neg h1,if_neg h2])
end
section
set_option maxHeartbeats 4000000
set_option maxRecDepth 20000
def qW(p:Piece)(x y:dJ)(v:Value):Prop:=∃A1 k1 A2 k2 A3 k3 B1 m1 B2 m2 B3 m3,v=.agg #[.slice A1 x.d.length k1,.slice A2 x.c.length k2,.slice A3 x.l.length k3,.slice B1 y.d.length m1,.slice B2 y.c.length m2,.slice B3 y.l.length m3]∧
 aE p 1 A1 x.d.length (aP x.d)∧aE p 1 A2 x.c.length (aP x.c)∧aE p 1 A3 x.l.length (aP x.l)∧aE p 1 B1 y.d.length (aP y.d)∧aE p 1 B2 y.c.length (aP y.c)∧aE p 1 B3 y.l.length (aP y.l)
def Ju(s:aA)(p:Piece):Nat→List Value→Prop
 | 0,cs=>cs=[.slice none 0 0,.slice none 0 0,.slice none 0 0,.slice none 0 0,.slice none 0 0,.slice none 0 0]
 | 1,cs=>∃a b c,cs=[a,b,c,.slice none 0 0,.slice none 0 0,.slice none 0 0]∧xA p (iB s) (.agg #[a,b,c])
 | _,cs=>∃a b c a' b' c',cs=[a,b,c,a',b',c']∧xA p (iB s) (.agg #[a,b,c])∧xA p (iB s) (.agg #[a',b',c'])
theorem Ju.len{s:aA}{p:Piece}:∀{i:Nat} {cs:List Value},Ju s p i cs→cs.length=6
 | 0,_,h=>by rw[show _=_ from h];rfl
 | 1,_,⟨_,_,_,h,_⟩=>by rw[h];rfl
 | _+2,_,⟨_,_,_,_,_,_,h,_⟩=>by rw[h];rfl
theorem Ju.next{s:aA}{p q:Piece}(hl:p.Le q){a b c:Value}(hw:xA q (iB s) (.agg #[a,b,c])){i:Nat}{cs:List Value}(hi:i < 2)(h:Ju s p i cs):Ju s q (i+1) (eE cs (i*3) [a,b,c]):=by
 obtain rfl | rfl:i=0∨i=1:=by omega
 ·have h0:cs=[sn,sn,sn,sn,sn,sn]:=h
  subst h0
  exact⟨a,b,c,rfl,hw⟩
 ·obtain⟨a1,b1,c1,h0,h1⟩:=h
  subst h0
  exact⟨a1,b1,c1,a,b,c,rfl,xA.le h1 hl,hw⟩
theorem aHr(s:aA)(A1 A2 A3 A4:Option Addr)(k1 k2 k3 k4:Nat)(w:World)(hm:s.uL):
  Calls Tryz.prog 76 #[.agg #[.slice A1 s.aD.length k1,.slice A2 s.domains.length k2,.slice A3 s.aL.length k3,.slice A4 s.aC.length k4]] w (Ob (fun v w w'=>qW (fresh w w') (iB s) (iB s) v) w):=by
 have hn9:=hm.nc
 have nJ:=hm.nd
 have lW:=hm.nr
 refine XK.en Tryz.func76 Tryz.ntmps76 ?_
 refine XK.gw ?_
 refine aS fun g1=>?_
 refine bB fun g2=>?_
 refine XK.gw ?_
 refine bB fun g3=>?_
 refine XK.gw ?_
 refine XK.aT [(5,iv 0),(3,pt g3),(2,pt g2),(1,pt g1)] ?_
 refine XK.piece ⟨w,fun _=>False⟩ (by simp) (fun _ h=>h.elim) ?_
 refine XK.gw ?_
 refine XK.loop (fun m e R H=>∃(i:Nat) (cs:List Value) (qs:Piece),i≤2∧m=2 - i∧Ju s qs i cs∧nC w qs∧e=[(5,iv i),(3,pt g3),(2,pt g2),(1,pt g1)]∧R=[qs,all w]∧H=[HP.aB g3 130 cs,HP.aB g2 130 [sn,sn,sn,sn,sn,sn],HP.aB g1 30 [.slice A1 s.aD.length k1,.slice A2 s.domains.length k2,.slice A3 s.aL.length k3,.slice A4 s.aC.length k4]]) 2 ⟨0,_,⟨w,fun _=>False⟩,by omega,rfl,rfl,(fun _ h=>h.elim),rfl,rfl,rfl⟩ fun m e R H hI=>?_
 obtain⟨i,cs,qs,hi2,rfl,hcs,aEx,rfl,rfl,rfl⟩:=hI
 refine XK.gw ?_
 refine XK.if_ rfl (fun h=>?_) (fun h=>?_)
 ·
  refine XK.skip ?_
  refine XK.norm ?_
  refine XK.seq ?_
  refine XK.block ?_
  refine XK.seq ?_
  refine XK.region ?_
  refine aR rfl (by decide) ?_
  refine cM rfl (by decide) ?_
  refine XK.aY ?_
  refine XK.draw 15 (by kernel_rfl) (by kernel_rfl) ?_
  refine XA.dA 0 rfl rfl rfl (iH rfl) ?_
  refine XA.dA 1 rfl rfl rfl (mQ (off:=1) (by kernel_rfl) rfl) ?_
  refine XA.dA 2 rfl rfl rfl (Fz rfl) ?_
  refine XA.dA 3 rfl rfl rfl (Ji (el:=50) (by kernel_rfl) rfl) ?_
  refine XA.dA 5 rfl rfl rfl (mQ (off:=0) (by kernel_rfl) rfl) ?_
  refine XA.dA 6 rfl rfl rfl (Fz rfl) ?_
  refine XA.dA 7 rfl rfl rfl (Ji (el:=86) (by kernel_rfl) rfl) ?_
  refine XA.dA 9 rfl rfl rfl (mQ (off:=2) (by kernel_rfl) rfl) ?_
  refine XA.dA 10 rfl rfl rfl (Fz rfl) ?_
  refine XA.dA 11 rfl rfl rfl (Ji (el:=88) (by kernel_rfl) rfl) ?_
  refine XA.dA 14 rfl rfl rfl (mQ (off:=0) (by kernel_rfl) rfl) ?_
  refine XA.Yx (fuel:=3) [4,8,12] [[4,8,12]] (fun i=>match i with | 4=>⟨12,4,List.replicate s.domains.length (.bool false),fun g=>.slice (some ⟨g,0,none⟩) s.domains.length s.domains.length⟩ | 8=>⟨16,4,List.replicate s.aD.length (.bool false),fun g=>.slice (some ⟨g,0,none⟩) s.aD.length s.aD.length⟩ | _=>⟨20,4,List.replicate s.aL.length (.bool false),fun g=>.slice (some ⟨g,0,none⟩) s.aL.length s.aL.length⟩) (fun i hi=>?_) (by show[12,16,20].Nodup;decide) (by kernel_rfl) (fun _ h=>h) (fun sub hsub hex g=>?_)
  ·simp only[List.mem_cons,List.not_mem_nil,or_false] at hi
   rcases hi with rfl | rfl | rfl
   ·exact pW.of rfl rfl rfl (wC 1 (el:=4) (z:=.bool false) (by kernel_rfl) (by kernel_rfl) rfl rfl rfl (by omega) (by omega)) (Nat.le_of_ble_eq_true rfl) rfl
   ·exact pW.of rfl rfl rfl (wC 1 (el:=4) (z:=.bool false) (by kernel_rfl) (by kernel_rfl) rfl rfl rfl (by omega) (by omega)) (Nat.le_of_ble_eq_true rfl) rfl
   ·exact pW.of rfl rfl rfl (wC 1 (el:=4) (z:=.bool false) (by kernel_rfl) (by kernel_rfl) rfl rfl rfl (by omega) (by omega)) (Nat.le_of_ble_eq_true rfl) rfl
  have eL:sub=[4,8,12]:=by simpa using hex
  have er:∀n:Nat,List.replicate n (Value.bool false)=aP (List.replicate n false):=fun n=>by simp[aP]
  have hi:i < 2:=by have h':(i:Int) < 2:=h;omega
  have hlen:=hcs.len
  subst eL
  dsimp only[nO,pK,iN,List.map,List.foldr,List.cons_append,List.nil_append,List.length_cons,List.length_nil,Nat.reduceAdd,Nat.reduceSub]
  refine XA.dR 13 rfl rfl rfl (by decide) (jF (zs:=[sn,sn,sn]) (L:=[(0,1),(1,1),(2,1)]) (dN (by kernel_rfl)) (by kernel_rfl) rfl (by simp[eF,fH,Value.cells];rfl)) (by kernel_rfl) (fun _ _ _ h=>h) (fun _ h=>h.tail.tail.tail) ?_
  refine XA.next 15 rfl (by kernel_rfl) ?_
  refine aC7 i (i*3) (el:=116) (sz:=3) (by kernel_rfl) (by kernel_rfl) rfl rfl rfl hi (by omega) (by decide) ?_
  refine XA.bt ?_
  refine XA.next 16 rfl (by kernel_rfl) ?_
  refine jV 3 rfl rfl rfl (by kernel_rfl) (by simp[Value.cells,Value.oneCell']) (by simp[Value.cells];omega) ?_
  dsimp only[List.set]
  rw[show(Value.agg [.slice (some ⟨g 4,0,none⟩) s.domains.length s.domains.length,.slice (some ⟨g 8,0,none⟩) s.aD.length s.aD.length,.slice (some ⟨g 12,0,none⟩) s.aL.length s.aL.length].toArray).cells.toList=[.slice (some ⟨g 4,0,none⟩) s.domains.length s.domains.length,.slice (some ⟨g 8,0,none⟩) s.aD.length s.aD.length,.slice (some ⟨g 12,0,none⟩) s.aL.length s.aL.length] from rfl]
  refine XA.bt ?_
  refine XA.done (by kernel_rfl) ?_
  refine XK.norm ?_
  refine XK.region ?_
  refine nD rfl rfl (eR (by omega)) (by decide) ?_
  refine aR rfl (by decide) ?_
  refine XK.aY ?_
  refine XK.still [qs] [0,1,2] [3,4,5] (by simp) rfl (by decide) (by decide) fun qn Mh hle hfr=>?_
  have hfn:=hfr (by simp) (fun p hp=>by simp only[List.mem_cons,List.not_mem_nil,or_false] at hp;subst hp;exact aEx)
  have b1:aE qn 1 (some ⟨g 4,0,none⟩) (s.domains.length) (List.replicate (s.domains.length) (Value.bool false)):=aE.fZ (n:=s.domains.length) (sz:=1) (c:=0) (Mh 0 _ (by simp) rfl).choose_spec.1 (Mh 0 _ (by simp) rfl).choose_spec.2 (by simp)
  have b2:aE qn 1 (some ⟨g 8,0,none⟩) (s.aD.length) (List.replicate (s.aD.length) (Value.bool false)):=aE.fZ (n:=s.aD.length) (sz:=1) (c:=0) (Mh 1 _ (by simp) rfl).choose_spec.1 (Mh 1 _ (by simp) rfl).choose_spec.2 (by simp)
  have b3:aE qn 1 (some ⟨g 12,0,none⟩) (s.aL.length) (List.replicate (s.aL.length) (Value.bool false)):=aE.fZ (n:=s.aL.length) (sz:=1) (c:=0) (Mh 2 _ (by simp) rfl).choose_spec.1 (Mh 2 _ (by simp) rfl).choose_spec.2 (by simp)
  rw[er] at b1 b2 b3
  have hww:xA qn (iB s) (.agg #[.slice (some ⟨g 4,0,none⟩) s.domains.length s.domains.length,.slice (some ⟨g 8,0,none⟩) s.aD.length s.aD.length,.slice (some ⟨g 12,0,none⟩) s.aL.length s.aL.length]):=by
   unfold xA iB
   simp only[List.length_replicate]
   exact⟨_,_,_,_,_,_,rfl,b1,b2,b3⟩
  refine XK.nU (R':=[qn,all w]) (by simp) ?_
  exact XK.rd (2 - (i+1)) ⟨i+1,_,qn,by omega,rfl,Ju.next (hle qs (by simp)) hww hi hcs,hfn,rfl,rfl,rfl⟩
 ·
  refine XK.exit ?_
  refine XK.norm ?_
  refine XK.seq ?_
  have hie:i=2:=by have h':¬(i:Int) < 2:=h;omega
  subst hie
  obtain⟨a,b,c,a',b',c',rfl,hw1,hw2⟩:=hcs
  obtain⟨D1,d1,D2,d2,D3,d3,e1,x1,x2,x3⟩:=hw1
  obtain⟨F1,f1,F2,f2,F3,f3,e2,y1,y2,y3⟩:=hw2
  cases e1
  cases e2
  refine XK.region ?_
  refine sN 6 rfl ?_
  refine pY rfl rfl ?_
  simp only[eE,Value.cells,List.set,List.take,List.drop,List.nil_append,List.append_nil,List.length_cons,List.length_nil,List.cons_append,Nat.reduceAdd]
  refine XK.gw ?_
  exact XK.By rfl (by kernel_rfl) rfl rfl (aH.whole 1 rfl) fun w1 st=>⟨⟨_,rfl,by
   have hl:=st.jD (by simp) aEx
   exact⟨_,_,_,_,_,_,_,_,_,_,_,_,rfl,x1.le hl,x2.le hl,x3.le hl,y1.le hl,y2.le hl,y3.le hl⟩⟩,st.below (by simp)⟩
end
section
set_option maxHeartbeats 4000000
set_option maxRecDepth 20000
def iM(k:Int):Prop:=k=117∨k=99∨k=114
instance(k:Int):Decidable (iM k):=by unfold iM;infer_instance
def xY(s:aA)(p:Int):Nat:=if p=17 then s.domains.length else if p=20 then s.aD.length else if p=22 then s.aL.length else 0
def dZ(k:Int)(v0 v1 v2:Value):Value:=if k=117∨k=100∨k=107 then v0 else if k=99∨k=111 then v1 else if k=114∨k=97 then v2 else sn
def Eu(k:Int)(x:dJ):List Bool:=if k=117∨k=100∨k=107 then x.d else if k=99∨k=111 then x.c else if k=114∨k=97 then x.l else[]
def rK(x:dJ)(k id:Int):Bool:=decide (0≤id)&&hasB (Eu k x) id.toNat
theorem eS.thn{w w':World}{g o:Nat}{v:Value}(h:eS w g o v)(hb:Below w.heap.size w w'):eS w' g o v:=⟨Nat.lt_of_lt_of_le h.1 hb.size,(hb.cell (p:=⟨g,o,none⟩) h.1).trans h.2⟩
def Ud(w:World)(g o:Nat)(x:dJ):Prop:=∃A1 k1 A2 k2 A3 k3,eS w g o (.slice A1 x.d.length k1)∧eS w g (o+1) (.slice A2 x.c.length k2)∧eS w g (o+2) (.slice A3 x.l.length k3)∧
 aE (all w) 1 A1 x.d.length (aP x.d)∧aE (all w) 1 A2 x.c.length (aP x.c)∧aE (all w) 1 A3 x.l.length (aP x.l)
theorem aKx{w:World}{x:dJ}{A1 A2 A3:Option Addr}{k1 k2 k3:Nat}(h1:aE (all w) 1 A1 x.d.length (aP x.d))(h2:aE (all w) 1 A2 x.c.length (aP x.c))(h3:aE (all w) 1 A3 x.l.length (aP x.l))(k:Int):
  ∃A c,dZ k (.slice A1 x.d.length k1) (.slice A2 x.c.length k2) (.slice A3 x.l.length k3)=.slice A (Eu k x).length c∧aE (all w) 1 A (Eu k x).length (aP (Eu k x)):=by
 unfold dZ Eu
 split
 ·exact⟨_,_,rfl,h1⟩
 ·split
  ·exact⟨_,_,rfl,h2⟩
  ·split
   ·exact⟨_,_,rfl,h3⟩
   ·exact⟨_,_,rfl,aE.nil _ _⟩
theorem Eo(k:Int)(w:World):
  Calls Tryz.prog 167 #[.int .u8 k] w (Rt (.bool (decide (iM k))) w):=by
 refine XK.en Tryz.func167 Tryz.ntmps167 ?_
 refine XK.gw ?_
 (first | refine aW (t:=5) rfl (fun hg=>?_) (fun hg=>?_) | refine oK (t:=5) rfl (fun hg=>?_) (fun hg=>?_))
 ·
  refine XK.gw ?_
  exact XK.rX (h:=fun _ _=>by simp_all [iM])
 ·
  refine XK.gw ?_
  (first | refine aW (t:=9) rfl (fun hg=>?_) (fun hg=>?_) | refine oK (t:=9) rfl (fun hg=>?_) (fun hg=>?_))
  ·
   refine XK.gw ?_
   exact XK.rX (h:=fun _ _=>by simp_all [iM])
  ·
   refine XK.gw ?_
   exact XK.rX (h:=fun _ _=>by simp_all [iM])
theorem aJM(s:aA)(A1 A2 A3 A4:Option Addr)(k1 k2 k3 k4:Nat)(p:Int)(w:World):
  Calls Tryz.prog 220 #[.agg #[.slice A1 s.aD.length k1,.slice A2 s.domains.length k2,.slice A3 s.aL.length k3,.slice A4 s.aC.length k4],iv p] w (Rt (iv (xY s p)) w):=by
 refine XK.en Tryz.func220 Tryz.ntmps220 ?_
 refine XK.gw ?_
 refine aS fun g1=>?_
 refine XK.gw ?_
 refine XK.if_ rfl (fun h=>?_) (fun h=>?_)
 ·
  refine XK.gw ?_
  exact XK.rX (h:=fun _ _=>by simp_all [xY])
 ·
  refine XK.gw ?_
  refine XK.if_ rfl (fun h=>?_) (fun h=>?_)
  ·
   refine XK.gw ?_
   exact XK.rX (h:=fun _ _=>by simp_all [xY])
  ·
   refine XK.gw ?_
   refine XK.if_ rfl (fun h=>?_) (fun h=>?_)
   ·
    refine XK.gw ?_
    exact XK.rX (h:=fun _ _=>by simp_all [xY])
   ·
    refine XK.gw ?_
    exact XK.rX (h:=fun _ _=>by simp_all [xY])
theorem aAP(g o:Nat)(k:Int)(v0 v1 v2:Value)(w:World)(h0:eS w g o v0)(h1:eS w g (o+1) v1)(h2:eS w g (o+2) v2):
  Calls Tryz.prog 172 #[.pointer (some ⟨g,o,none⟩),.int .u8 k] w (Rt (dZ k v0 v1 v2) w):=by
 refine XK.en Tryz.func172 Tryz.ntmps172 ?_
 refine XK.gw ?_
 refine XK.if_ rfl (fun h=>?_) (fun h=>?_)
 ·
  refine XK.gw ?_
  refine XK.if_ rfl (fun h=>?_) (fun h=>?_)
  ·
   refine XK.gw ?_
   exact XK.rX (h:=fun _ _=>by simp_all [dZ])
  ·
   refine XK.gw ?_
   refine XK.if_ rfl (fun h=>?_) (fun h=>?_)
   ·
    refine XK.gw ?_
    refine XK.if_ rfl (fun h=>?_) (fun h=>?_)
    ·
     refine XK.gw ?_
     exact XK.rX (h:=fun _ _=>by simp_all [dZ])
    ·
     refine XK.gw ?_
     refine XK.if_ rfl (fun h=>?_) (fun h=>?_)
     ·
      refine XK.gw ?_
      refine XK.if_ rfl (fun h=>?_) (fun h=>?_)
      ·
       refine XK.gw ?_
       exact XK.rX (h:=fun _ _=>by simp_all [dZ])
      ·
       refine XK.gw ?_
       exact XK.rX (h:=fun _ _=>by simp_all [dZ])
     ·
      refine XK.gw ?_
      refine XK.if_ rfl (fun h=>?_) (fun h=>?_)
      ·
       refine XK.gw ?_
       exact XK.rX (h:=fun _ _=>by simp_all [dZ])
      ·
       refine XK.gw ?_
       exact XK.rX (h:=fun _ _=>by simp_all [dZ])
   ·
    refine XK.gw ?_
    refine XK.if_ rfl (fun h=>?_) (fun h=>?_)
    ·
     refine XK.gw ?_
     exact XK.rX (h:=fun _ _=>by simp_all [dZ])
    ·
     refine XK.gw ?_
     refine XK.if_ rfl (fun h=>?_) (fun h=>?_)
     ·
      refine XK.gw ?_
      refine XK.if_ rfl (fun h=>?_) (fun h=>?_)
      ·
       refine XK.gw ?_
       exact XK.rX (h:=fun _ _=>by simp_all [dZ])
      ·
       refine XK.gw ?_
       exact XK.rX (h:=fun _ _=>by simp_all [dZ])
     ·
      refine XK.gw ?_
      refine XK.if_ rfl (fun h=>?_) (fun h=>?_)
      ·
       refine XK.gw ?_
       exact XK.rX (h:=fun _ _=>by simp_all [dZ])
      ·
       refine XK.gw ?_
       exact XK.rX (h:=fun _ _=>by simp_all [dZ])
 ·
  refine XK.gw ?_
  refine XK.if_ rfl (fun h=>?_) (fun h=>?_)
  ·
   refine XK.gw ?_
   refine XK.if_ rfl (fun h=>?_) (fun h=>?_)
   ·
    refine XK.gw ?_
    exact XK.rX (h:=fun _ _=>by simp_all [dZ])
   ·
    refine XK.gw ?_
    refine XK.if_ rfl (fun h=>?_) (fun h=>?_)
    ·
     refine XK.gw ?_
     refine XK.if_ rfl (fun h=>?_) (fun h=>?_)
     ·
      refine XK.gw ?_
      exact XK.rX (h:=fun _ _=>by simp_all [dZ])
     ·
      refine XK.gw ?_
      refine XK.if_ rfl (fun h=>?_) (fun h=>?_)
      ·
       refine XK.gw ?_
       refine XK.if_ rfl (fun h=>?_) (fun h=>?_)
       ·
        refine XK.gw ?_
        exact XK.rX (h:=fun _ _=>by simp_all [dZ])
       ·
        refine XK.gw ?_
        exact XK.rX (h:=fun _ _=>by simp_all [dZ])
      ·
       refine XK.gw ?_
       refine XK.if_ rfl (fun h=>?_) (fun h=>?_)
       ·
        refine XK.gw ?_
        exact XK.rX (h:=fun _ _=>by simp_all [dZ])
       ·
        refine XK.gw ?_
        exact XK.rX (h:=fun _ _=>by simp_all [dZ])
    ·
     refine XK.gw ?_
     refine XK.if_ rfl (fun h=>?_) (fun h=>?_)
     ·
      refine XK.gw ?_
      exact XK.rX (h:=fun _ _=>by simp_all [dZ])
     ·
      refine XK.gw ?_
      refine XK.if_ rfl (fun h=>?_) (fun h=>?_)
      ·
       refine XK.gw ?_
       refine XK.if_ rfl (fun h=>?_) (fun h=>?_)
       ·
        refine XK.gw ?_
        exact XK.rX (h:=fun _ _=>by simp_all [dZ])
       ·
        refine XK.gw ?_
        exact XK.rX (h:=fun _ _=>by simp_all [dZ])
      ·
       refine XK.gw ?_
       refine XK.if_ rfl (fun h=>?_) (fun h=>?_)
       ·
        refine XK.gw ?_
        exact XK.rX (h:=fun _ _=>by simp_all [dZ])
       ·
        refine XK.gw ?_
        exact XK.rX (h:=fun _ _=>by simp_all [dZ])
  ·
   refine XK.gw ?_
   refine XK.if_ rfl (fun h=>?_) (fun h=>?_)
   ·
    refine XK.gw ?_
    exact XK.rX (h:=fun _ _=>by simp_all [dZ])
   ·
    refine XK.gw ?_
    refine XK.if_ rfl (fun h=>?_) (fun h=>?_)
    ·
     refine XK.gw ?_
     refine XK.if_ rfl (fun h=>?_) (fun h=>?_)
     ·
      refine XK.gw ?_
      exact XK.rX (h:=fun _ _=>by simp_all [dZ])
     ·
      refine XK.gw ?_
      refine XK.if_ rfl (fun h=>?_) (fun h=>?_)
      ·
       refine XK.gw ?_
       refine XK.if_ rfl (fun h=>?_) (fun h=>?_)
       ·
        refine XK.gw ?_
        exact XK.rX (h:=fun _ _=>by simp_all [dZ])
       ·
        refine XK.gw ?_
        exact XK.rX (h:=fun _ _=>by simp_all [dZ])
      ·
       refine XK.gw ?_
       refine XK.if_ rfl (fun h=>?_) (fun h=>?_)
       ·
        refine XK.gw ?_
        exact XK.rX (h:=fun _ _=>by simp_all [dZ])
       ·
        refine XK.gw ?_
        exact XK.rX (h:=fun _ _=>by simp_all [dZ])
    ·
     refine XK.gw ?_
     refine XK.if_ rfl (fun h=>?_) (fun h=>?_)
     ·
      refine XK.gw ?_
      exact XK.rX (h:=fun _ _=>by simp_all [dZ])
     ·
      refine XK.gw ?_
      refine XK.if_ rfl (fun h=>?_) (fun h=>?_)
      ·
       refine XK.gw ?_
       refine XK.if_ rfl (fun h=>?_) (fun h=>?_)
       ·
        refine XK.gw ?_
        exact XK.rX (h:=fun _ _=>by simp_all [dZ])
       ·
        refine XK.gw ?_
        exact XK.rX (h:=fun _ _=>by simp_all [dZ])
      ·
       refine XK.gw ?_
       refine XK.if_ rfl (fun h=>?_) (fun h=>?_)
       ·
        refine XK.gw ?_
        exact XK.rX (h:=fun _ _=>by simp_all [dZ])
       ·
        refine XK.gw ?_
        exact XK.rX (h:=fun _ _=>by simp_all [dZ])
theorem Zw(g ag:Nat)(x:dJ)(k id:Int)(w:World)(hag:ag < 2)(hM:Ud w g (ag*3) x):
  Calls Tryz.prog 166 #[pt g,iv (ag:Int),.int .u8 k,iv id] w (Rt (.bool (rK x k id)) w):=by
 obtain⟨A1,k1,A2,k2,A3,k3,h1,h2,h3,s1,s2,s3⟩:=hM
 obtain⟨A,c,hL,hS⟩:=aKx (k1:=k1) (k2:=k2) (k3:=k3) s1 s2 s3 k
 refine XK.en Tryz.func166 Tryz.ntmps166 ?_
 refine XK.go ?_
 refine aC7 (ag) (ag*3) (n:=2) (el:=116) (sz:=3) (by kernel_rfl) (by kernel_rfl) rfl rfl (by omega) (by omega) (by omega) (by decide) ?_
 refine XK.gw ?_
 refine cG (fun w1 st=>aAP g (ag*3) k _ _ _ w1 (h1.thn (st.below (by simp))) (h2.thn (st.below (by simp))) (h3.thn (st.below (by simp)))) ?_
 rw[hL]
 refine XK.gw ?_
 (first | refine aW (t:=19) rfl (fun hg=>?_) (fun hg=>?_) | refine oK (t:=19) rfl (fun hg=>?_) (fun hg=>?_))
 ·
  refine XK.gw ?_
  (first | refine aW (t:=25) rfl (fun hg=>?_) (fun hg=>?_) | refine oK (t:=25) rfl (fun hg=>?_) (fun hg=>?_))
  ·
   obtain⟨i,rfl⟩:∃i:Nat,id=(i:Int):=⟨id.toNat,by omega⟩
   have hil:i < (Eu k x).length:=by omega
   obtain⟨b,off,rfl,hz,hc⟩:=hS.2 (by omega)
   obtain⟨v,hv⟩:∃v,(Eu k x)[i]? =some v:=⟨_,List.getElem?_eq_getElem hil⟩
   refine dW rfl rfl ?_
   refine aR rfl (by decide) ?_
   refine dW rfl rfl ?_
   refine aR rfl (by decide) ?_
   refine dW rfl rfl ?_
   refine kd (dat (i) (off+i)) ?_
   refine dW rfl rfl ?_
   refine fX (by kernel_rfl) rfl (Rd.ro (p:=all w) (by simp) hz (hc i _ (aFA hv))) (by decide) ?_
   (first | refine mH rfl rfl (by decide) ?_ | refine mI rfl rfl (by decide) ?_)
   refine cM rfl (by decide) ?_
   refine XK.aY ?_
   refine XK.ret ?_
   refine XK.norm ?_
   exact XK.rX (h:=fun _ _=>by simp[rK,hasB,hv])
  ·
   refine XK.gw ?_
   have hn:hasB (Eu k x) id.toNat=false:=by rw[hasB,List.getElem?_eq_none (by omega)];rfl
   exact XK.rX (h:=fun _ _=>by simp[rK,hn])
 ·
  refine XK.gw ?_
  have hn:decide (0≤id)=false:=by simp;omega
  exact XK.rX (h:=fun _ _=>by simp[rK,hn])
end
section
set_option maxHeartbeats 4000000
set_option maxRecDepth 20000
def StM(w:World)(g:Nat)(x y:dJ):Prop:=∀i,i < 2→Ud w g (i*3) (if i=0 then x else y)
def rJ(x y:dJ)(k id:Int):Bool:=rK x k id||rK y k id
theorem Ud.thn{w w':World}{g o:Nat}{x:dJ}(h:Ud w g o x)(hb:Below w.heap.size w w'):Ud w' g o x:=by
 obtain⟨A1,k1,A2,k2,A3,k3,h1,h2,h3,s1,s2,s3⟩:=h
 have hl:(all w).Le (all w'):=fun b hb'=>⟨Nat.lt_of_lt_of_le hb' hb.size,hb.block b hb'⟩
 exact⟨A1,k1,A2,k2,A3,k3,h1.thn hb,h2.thn hb,h3.thn hb,s1.le hl,s2.le hl,s3.le hl⟩
theorem Zx(g:Nat)(x y:dJ)(k id:Int)(w:World)(hM:StM w g x y):
  Calls Tryz.prog 168 #[pt g,.int .u8 k,iv id] w (Rt (.bool (rJ x y k id)) w):=by
 refine XK.en Tryz.func168 Tryz.ntmps168 ?_
 refine XK.gw ?_
 refine XK.aT [(8,iv 0),(2,iv id),(1,.int .u8 k),(0,pt g)] ?_
 refine XK.gw ?_
 refine XK.loop (fun m e R H=>∃(i:Nat),i≤2∧m=2 - i∧(∀j,j < i→rK (if j=0 then x else y) k id=false)∧e=[(8,iv i),(2,iv id),(1,.int .u8 k),(0,pt g)]∧R=[all w]∧H=[]) 2 ⟨0,by omega,rfl,(fun j hj=>absurd hj (Nat.not_lt_zero j)),rfl,rfl,rfl⟩ fun m e R H hI=>?_
 obtain⟨i,hi,rfl,hno,rfl,rfl,rfl⟩:=hI
 refine XK.gw ?_
 refine XK.if_ rfl (fun h=>?_) (fun h=>?_)
 ·
  refine XK.gw ?_
  have hi2:i < 2:=by have h':(i:Int) < 2:=h;omega
  refine cG (fun w1 st=>Zw g i (if i=0 then x else y) k id w1 hi2 ((hM i hi2).thn (st.below (by simp)))) ?_
  refine XK.gw ?_
  refine XK.cond rfl (fun hw=>?_) (fun hw=>?_)
  ·
   refine XK.gw ?_
   have hr:rJ x y k id=true:=by
    unfold rJ
    rcases(by omega:i=0∨i=1) with rfl | rfl
    ·simp at hw;simp[hw]
    ·simp at hw;simp[hw]
   exact XK.rX (h:=fun _ _=>by rw[hr])
  ·
   refine XK.gw ?_
   exact XK.rd (2 - (i+1)) ⟨i+1,by omega,rfl,(fun j hj=>by
    rcases Nat.lt_or_ge j i with h1 | h1
    ·exact hno j h1
    ·obtain rfl:j=i:=by omega
     exact hw),rfl,rfl,rfl⟩
 ·
  refine XK.gw ?_
  have hi2:i=2:=by have h':¬(i:Int) < 2:=h;omega
  subst hi2
  have e0:=hno 0 (by omega)
  have e1:=hno 1 (by omega)
  have hr:rJ x y k id=false:=by
   unfold rJ
   simp at e0 e1
   simp[e0,e1]
  exact XK.rX (h:=fun _ _=>by rw[hr])
theorem aHj(k:Int)(A:Option Addr)(n c:Nat)(r m d l:Int)(w:World):
  Calls Tryz.prog 221 #[.agg #[.int .u8 k,.slice A n c,.int .u64 r,iv m,iv d,iv l]] w (Rt (.bool (decide (k=112∨k=103))) w):=by
 refine XK.en Tryz.func221 Tryz.ntmps221 ?_
 refine XK.gw ?_
 refine aS fun g1=>?_
 refine XK.gw ?_
 (first | refine aW (t:=6) rfl (fun hg=>?_) (fun hg=>?_) | refine oK (t:=6) rfl (fun hg=>?_) (fun hg=>?_))
 ·
  refine XK.gw ?_
  exact XK.rX (h:=fun _ _=>by simp_all)
 ·
  refine XK.gw ?_
  exact XK.rX (h:=fun _ _=>by simp_all)
end
section
set_option maxHeartbeats 4000000
set_option maxRecDepth 20000
def kP(p:Int×Int):Value:=.agg #[.int .i64 p.1,.int .i64 p.2]
def Gn(w:World)(r:Nat)(l:List ((Int×Int)×Value)):Prop:=∃es clock,w.heap[r]? =some (.map es clock)∧es.toList.map (fun x=>(x.key,x.val))=l.map fun p=>(kP p.1,p.2)
def jB(l:List ((Int×Int)×Value))(k:Int×Int):Option Value:=(l.find? fun p=>decide (p.1=k)).map (·.2)
theorem Hr(a:Int×Int)(b:Value)(l:List ((Int×Int)×Value))(k:Int×Int):jB ((a,b)::l) k=if a=k then some b else jB l k:=by
 unfold jB
 rw[List.find?_cons]
 by_cases h:a=k<;>simp[h]
section
variable{P:Program}{w:World}{kt:TypeId}
theorem aMu(hfl:∀a b c d:Int,Mv P kt [.int .i64 a,.int .i64 b] [.int .i64 c,.int .i64 d]=true)(p q:Int×Int):(Op.equal kt (kP p) (kP q)).run P w=.ok (decide (q=p)) w:=by
 obtain⟨h,_⟩:=aHH (P:=P) (w:=w) (hfl p.1 p.2 q.1 q.2)
 rw[show kP p=.agg [Value.int .i64 p.1,.int .i64 p.2].toArray from rfl,show kP q=.agg [Value.int .i64 q.1,.int .i64 q.2].toArray from rfl,h]
 congr 1
 obtain⟨a,b⟩:=p
 obtain⟨c,d⟩:=q
 simp only[My,Yf,Prod.mk.injEq]
 by_cases h1:a=c
 ·subst h1
  by_cases h2:b=d
  ·subst h2;simp
  ·have h3:¬d=b:=fun e=>h2 e.symm
   simp[h2,h3]
 ·have h3:¬c=a:=fun e=>h1 e.symm
  simp[h1,h3]
theorem aFF(hfl:∀a b c d:Int,Mv P kt [.int .i64 a,.int .i64 b] [.int .i64 c,.int .i64 d]=true)(k:Int×Int):∀(es:List MapEntry) (l:List ((Int×Int)×Value)) (i:Nat),es.map (fun x=>(x.key,x.val))=l.map (fun p=>(kP p.1,p.2))→
  ∃q,(Instr.findAsking kt (kP k) es i).run P w=.ok q w∧q.map (·.2)=jB l k
 | [],l,i,h=>by
  cases l with
  | nil=>exact⟨none,by simp[Instr.findAsking],rfl⟩
  | cons _ _=>cases h
 | e :: es, l, i, h => by
  cases l with
  | nil=>cases h
  | cons p l =>
   simp only[List.map_cons,List.cons.injEq,Prod.mk.injEq] at h
   obtain⟨⟨h1,h2⟩,h3⟩:=h
   obtain⟨q,Ck,tD⟩:=aFF hfl k es l (i+1) h3
   obtain⟨a,b⟩:=p
   have he:=aMu (w:=w) hfl k a
   rw[←h1] at he
   by_cases hk:a=k
   ·refine⟨some (i,e.val),?_,?_⟩
    ·unfold Instr.findAsking
     simp[Sem.run_bind,he,hk]
    ·rw[Hr,if_pos hk];simp[h2]
   ·refine⟨q,?_,?_⟩
    ·unfold Instr.findAsking
     simp[Sem.run_bind,he,hk,Ck]
    ·rw[Hr,if_neg hk];exact tD
theorem aFy{f0 f1:Field}{k0 k1:IntKind}(hk:P.underlying kt=some (.struct #[f0,f1]))(h0:P.underlying f0.type=some (.int k0))(h1:P.underlying f1.type=some (.int k1))(o0:f0.offset=0)(o1:f1.offset=1)(p:Int×Int)(b:Bool):(Instr.checkKey b 10000 kt (kP p)).run P w=.ok () w:=by
 have e0:=Vh (P:=P) (w:=w) (cs:=#[.int .i64 p.1,.int .i64 p.2]) (i:=0) (v:=.int .i64 p.1) h0 (.inl ⟨_,rfl⟩) rfl
 have e1:=Vh (P:=P) (w:=w) (cs:=#[.int .i64 p.1,.int .i64 p.2]) (i:=1) (v:=.int .i64 p.2) h1 (.inl ⟨_,rfl⟩) rfl
 have c0:(Instr.checkKey b 9999 f0.type (.int .i64 p.1)).run P w=.ok () w:=by
  unfold Instr.checkKey
  simp[Sem.run_bind,run_underlying h0]
 have c1:(Instr.checkKey b 9999 f1.type (.int .i64 p.2)).run P w=.ok () w:=by
  unfold Instr.checkKey
  simp[Sem.run_bind,run_underlying h1]
 unfold Instr.checkKey kP
 by_cases n0:f0.name= "_" <;>by_cases n1:f1.name= "_" <;>simp[Sem.run_bind,run_underlying hk,n0,n1,o0,o1,e0,e1,c0,c1]
end
structure zD(P:Program)(kt:TypeId):Prop where
 st:∃f0 f1 k0 k1,P.underlying kt=some (.struct #[f0,f1])∧P.underlying f0.type=some (.int k0)∧P.underlying f1.type=some (.int k1)∧f0.offset=0∧f1.offset=1
 fl:∀a b c d:Int,Mv P kt [.int .i64 a,.int .i64 b] [.int .i64 c,.int .i64 d]=true
theorem zD.of{P:Program}{kt:TypeId}{f0 f1:Field}{k0 k1:IntKind}(h:P.underlying kt=some (.struct #[f0,f1]))(h0:P.underlying f0.type=some (.int k0))(h1:P.underlying f1.type=some (.int k1))(o0:f0.offset=0)(o1:f1.offset=1)(fl:∀a b c d:Int,Mv P kt [.int .i64 a,.int .i64 b] [.int .i64 c,.int .i64 d]=true):zD P kt:=⟨⟨f0,f1,k0,k1,h,h0,h1,o0,o1⟩,fl⟩
section
variable{P:Program}{w:World}{t kt et:TypeId}{r:Nat}{l:List ((Int×Int)×Value)}
theorem aEN(hk:zD P kt)(k:Int×Int)(es:List MapEntry)(h:es.map (fun x=>(x.key,x.val))=l.map (fun p=>(kP p.1,p.2))):∃q,(Instr.findKey kt (kP k) es).run P w=.ok q w∧q.map (·.2)=jB l k:=by
 obtain⟨f0,f1,k0,k1,hu,_⟩:=hk.st
 obtain⟨q,h1,h2⟩:=aFF (w:=w) hk.fl k es l 0 h
 cases es with
 | nil=>
  cases l with
  | cons _ _=>cases h
  | nil=>exact⟨none,by simp[Instr.findKey,Sem.run_bind,run_underlying hu,Instr.findNow],rfl⟩
 | cons e es =>
  refine⟨q,?_,h2⟩
  unfold Instr.findKey
  have:Instr.findNow (.struct #[f0,f1]) (kP k) (e::es) 0=none:=by
   unfold Instr.findNow Instr.sameNow
   rfl
  simp[Sem.run_bind,run_underlying hu,this,h1]
theorem aHB{z:Value}(ht:P.underlying t=some (.map kt et))(hk:zD P kt)(hz:∀w,(zeroValue et).run P w=.ok z w)(h:Gn w r l)(k:Int×Int)(ok:Bool):
  (Instr.lookup t (.map (some r)) (kP k) ok).run P w=.ok (if ok then .tuple #[(jB l k).getD z,.bool (jB l k).isSome] else(jB l k).getD z) w:=by
 obtain⟨es,c,h1,h2⟩:=h
 obtain⟨q,hf,tD⟩:=aEN (w:=w) hk k es.toList h2
 obtain⟨f0,f1,k0,k1,hu,u0,u1,o0,o1⟩:=hk.st
 have hc:=fun b=>aFy (w:=w) hu u0 u1 o0 o1 k b
 unfold Instr.lookup
 rw[←tD]
 cases q with
 | none=>cases ok<;>simp[Sem.run_bind,run_underlying ht,run_getObj_map h1,hc,hf,hz]
 | some x=>obtain⟨j,v⟩:=x;cases ok<;>simp[Sem.run_bind,run_underlying ht,run_getObj_map h1,hc,hf]
theorem aHD(ht:P.underlying t=some (.map kt et))(hk:zD P kt)(h:Gn w r l)(k:Int×Int)(v:Value)(hno:jB l k=none):
  ∃es c,(Instr.mapUpdate t (.map (some r)) (kP k) v).run P w=.ok () {w with heap:=w.heap.setIfInBounds r (.map es c)}∧es.toList.map (fun x=>(x.key,x.val))=(l++[(k,v)]).map fun p=>(kP p.1,p.2):=by
 obtain⟨es,c,h1,h2⟩:=h
 obtain⟨q,hf,tD⟩:=aEN (w:=w) hk k es.toList h2
 obtain⟨f0,f1,k0,k1,hu,u0,u1,o0,o1⟩:=hk.st
 have hc:=fun b=>aFy (w:=w) hu u0 u1 o0 o1 k b
 have lA:∀o,(setObj r o).run P w=.ok () {w with heap:=w.heap.setIfInBounds r o}:=fun o=>by simp[setObj,Sem.run,h1]
 rw[hno] at tD
 obtain rfl:q=none:=by cases q with | none=>rfl | some x=>cases tD
 refine⟨es.push {key:=kP k,val:=v,born:=c},c+1,?_,?_⟩
 ·unfold Instr.mapUpdate
  simp[Sem.run_bind,run_underlying ht,run_getObj_map h1,hc,hf,lA]
 ·rw[Array.toList_push,List.map_append,h2]
  simp
end
def HP.rP(r:Nat)(l:List ((Int×Int)×Value)):HP:=⟨fun F w=>F r∧Gn w r l,fun F w w' h hk=>⟨h.1,by
 obtain⟨es,c,h1,h2⟩:=h.2
 exact⟨es,c,(hk r h.1).trans h1,h2⟩⟩⟩
theorem Gn.lt{w:World}{r:Nat}{l:List ((Int×Int)×Value)}(h:Gn w r l):r < w.heap.size:=by
 obtain⟨es,c,h1,_⟩:=h
 rcases Nat.lt_or_ge r w.heap.size with h | h
 ·exact h
 ·rw[Array.getElem?_eq_none h] at h1;cases h1
section
variable{P:Program}{N:bO}{w0 w:World}{e:Env}{R:List Piece}{H:List HP}{Q:Exit→Act→World→Prop}{ops:Array Oper}{rest:List Oper}
variable{d:Nat}{ty:TypeId}{pos:String}{aF:Array Edge}
theorem St.rP(st:St w0 R H w){i r:Nat}{l:List ((Int×Int)×Value)}(hi:H[i]? =some (HP.rP r l)):Gn w r l:=(st.sat hi).choose_spec.2
theorem aGw{t:TypeId}(hd:d < N.n)(k:∀g,XK N w0 (wpList P ops Q rest) ((d,.map (some g))::e) R (HP.rP g []::H)):XK N w0 (wpList P ops Q (⟨some d,.makeMap t none,ty,pos,aF,none⟩::rest)) e R H:=
 rH rfl fun a w hr st=>⟨.map (some w.heap.size),w.alloc (.map #[] 0),by simp[execOp,Instr.makeMap],k w.heap.size _ _ (hr.put hd _) (st.new (Ny w _) ⟨⟨Nat.le_refl _,by simp⟩,#[],0,heap_alloc_new w _,rfl⟩)⟩
theorem aG0{x y:Operand}{t kt et:TypeId}{z:Value}{r:Nat}{l:List ((Int×Int)×Value)}{k:Int×Int}(ok:Bool)(ht:P.underlying t=some (.map kt et))(hk:zD P kt)(hz:(P.info? et).bind (·.zero)=some z)
  (hx:e.ev x=some (.map (some r))) (hy:e.ev y=some (kP k)) (hm:∀w,St w0 R H w→Gn w r l) (hd:d < N.n)
  (kk:XK N w0 (wpList P ops Q rest) ((d,if ok then .tuple #[(jB l k).getD z,.bool (jB l k).isSome] else(jB l k).getD z)::e) R H):XK N w0 (wpList P ops Q (⟨some d,.lookup t x y ok,ty,pos,aF,none⟩::rest)) e R H:=
 rH rfl fun a w hr st=>⟨_,w,by simp only[execOp,hr.ev hx,hr.ev hy,Sem.run_bind,aHB ht hk (zeroV hz) (hm w st),Result.andThen_ok,Sem.run_pure],kk _ _ (hr.put hd _) st⟩
theorem Zo{x y:Operand}{t kt et:TypeId}{z v:Value}{r:Nat}{l:List ((Int×Int)×Value)}{k:Int×Int}{b:Bool}(ht:P.underlying t=some (.map kt et))(hk:zD P kt)(hz:(P.info? et).bind (·.zero)=some z)
  (hx:e.ev x=some (.map (some r))) (hy:e.ev y=some (kP k)) (hm:∀w,St w0 R H w→Gn w r l) (hv:(jB l k).getD z=v) (hb:(jB l k).isSome=b) (hd:d < N.n)
  (kk:XK N w0 (wpList P ops Q rest) ((d,.tuple #[v,.bool b])::e) R H):XK N w0 (wpList P ops Q (⟨some d,.lookup t x y true,ty,pos,aF,none⟩::rest)) e R H:=
 aG0 true ht hk hz hx hy hm hd (by subst hv;subst hb;exact kk)
theorem aG1(i:Nat){x y u:Operand}{t kt et:TypeId}{r:Nat}{l:List ((Int×Int)×Value)}{k:Int×Int}{v:Value}(ht:P.underlying t=some (.map kt et))(hk:zD P kt)(hi:H[i]? =some (HP.rP r l))(hno:jB l k=none)
  (hx:e.ev x=some (.map (some r))) (hy:e.ev y=some (kP k)) (hu:e.ev u=some v) (kk:XK N w0 (wpList P ops Q rest) e R (H.set i (HP.rP r (l++[(k,v)])))):XK N w0 (wpList P ops Q (⟨none,.insert t x y u,ty,pos,aF,none⟩::rest)) e R H:=
 Zn rfl rfl fun a w hr st=>by
  have hm:=st.rP hi
  have hlt:=hm.lt
  obtain⟨es,c,hrun,hl⟩:=aHD (P:=P) ht hk hm k v hno
  refine⟨{w with heap:=w.heap.setIfInBounds r (.map es c)},by simp only[execOp,hr.ev hx,hr.ev hy,hr.ev hu,Sem.run_bind,hrun,Result.andThen_ok,Sem.run_pure],kk _ _ hr ?_⟩
  refine st.tX hi (by simp) rfl rfl rfl fun F hF hb=>⟨F,⟨hF.1,es,c,by simp[Array.getElem?_setIfInBounds,hlt],hl⟩,fun b h=>⟨.inl h,by simpa using hb b h⟩,fun b hb hnb=>?_⟩
  rw[Array.getElem?_setIfInBounds]
  split
  ·rename_i he;exact absurd (he▸hF.1) hnb
  ·rfl
end
end
section
set_option maxHeartbeats 4000000
set_option maxRecDepth 20000
theorem aDN:∀(sub:List Nat) (l:Array Bool),(iN sub l).size=l.size
 | [],l=>rfl
 | i::sub,l=>by
  show((iN sub l).setIfInBounds i true).size=_
  rw[Array.size_setIfInBounds,aDN sub l]
theorem aAL:∀(sub:List Nat) (l:Array Bool) (i:Nat) (b:Bool),i∈sub→i < l.size→(iN sub l).getD i b=true
 | j :: sub, l, i, b, h, hi => by
  show((iN sub l).setIfInBounds j true).getD i b=true
  by_cases e:j=i
  ·subst e
   have:j < (iN sub l).size:=by rw[aDN];exact hi
   simp[this]
  ·rw[getD_set_ne b e]
   rcases List.mem_cons.1 h with h | h
   ·exact absurd h.symm e
   ·exact aAL sub l i b h hi
theorem Qn:∀(sub:List Nat) (l:Array Bool) (i:Nat) (b:Bool),i∉sub→(iN sub l).getD i b=l.getD i b
 | [],l,i,b,_=>rfl
 | j::sub,l,i,b,h=>by
  show((iN sub l).setIfInBounds j true).getD i b=_
  have e:j≠i:=fun e=>h (by simp[e])
  rw[getD_set_ne b e]
  exact Qn sub l i b fun h2=>h (by simp[h2])
theorem aKp{sub:List Nat}{l:Array Bool}{i:Nat}(h:l.getD i false=true):(iN sub l).getD i false=true:=by
 by_cases hi:i∈sub
 ·refine aAL sub l i false hi ?_
  rcases Nat.lt_or_ge i l.size with h1 | h1
  ·exact h1
  ·simp[Array.getElem?_eq_none h1] at h
 ·rw[Qn sub l i false hi];exact h
def aAW(ops:Array Oper)(I:List Nat)(listed:Array Bool):Bool:=
 I.all (fun i=>decide (i < listed.size)&& !(listed.getD i true)&&match ops[i]? with
  | some o=>o.after.toList.all fun x=> !(Region.binds .any x)||listed.getD x.on false
  | none=>false)&&
 (List.range ops.size).all fun j=>I.contains j||listed.getD j true||match ops[j]? with
  | some o=>I.all fun i=>o.after.toList.any fun x=>Region.binds .any x&&x.on==i
  | none=>true
theorem aIO{ops:Array Oper}{I sub:List Nat}{listed:Array Bool}(hB:aAW ops I listed=true)(hsub:∀i∈sub,i∈I){i0:Nat}(lZ:i0∈I)(hn0:i0∉sub):
  Region.ready .any ops (iN sub listed)≠[]∧∀j∈Region.ready .any ops (iN sub listed),j∈I∧j∉sub:=by
 unfold aAW at hB
 rw[Bool.and_eq_true,List.all_eq_true,List.all_eq_true] at hB
 obtain⟨hA,hC⟩:=hB
 have h0:=hA i0 lZ
 simp only[Bool.and_eq_true,decide_eq_true_eq,Bool.not_eq_true'] at h0
 obtain⟨⟨h1,h2⟩,h3⟩:=h0
 constructor
 ·cases ho:ops[i0]? with
  | none=>rw[ho] at h3;cases h3
  | some o =>
   rw[ho] at h3
   simp only[List.all_eq_true] at h3
   have:i0∈Region.ready .any ops (iN sub listed):=mem_ready.2 ⟨by rw[Qn _ _ _ _ hn0];exact h2,o,ho,fun x hx hb=>by
    have:=h3 x (by simpa using hx)
    rw[hb] at this
    exact aKp (by simpa using this)⟩
   intro he
   rw[he] at this
   cases this
 ·intro j hj
  obtain⟨g1,o,ho,g2⟩:=mem_ready.1 hj
  have hjn:j∉sub:=fun h=>by
   have mO:=hA j (hsub j h)
   simp only[Bool.and_eq_true,decide_eq_true_eq] at mO
   rw[aAL sub listed j true h mO.1.1] at g1
   cases g1
  refine⟨?_,hjn⟩
  rw[Qn _ _ _ _ hjn] at g1
  have hlt:j < ops.size:=(Array.getElem?_eq_some_iff.1 ho).1
  have hc:=hC j (List.mem_range.2 hlt)
  rw[g1,ho] at hc
  simp only[Bool.or_false,Bool.or_eq_true] at hc
  rcases hc with hc | hc
  ·simpa using hc
  ·exfalso
   rw[List.all_eq_true] at hc
   have:=hc i0 lZ
   rw[List.any_eq_true] at this
   obtain⟨x,hx,hb⟩:=this
   simp only[Bool.and_eq_true,beq_iff_eq] at hb
   have:=g2 x (by simpa using hx) hb.1
   rw[hb.2,Qn _ _ _ _ hn0] at this
   have h4:listed.getD i0 true=listed.getD i0 false:=by simp[h1]
   rw[h4,this] at h2
   cases h2
theorem aDy{I sub:List Nat}(hI:I.Nodup)(hn:sub.Nodup)(hin:∀i∈sub,i∈I):(I.filter fun i=>sub.contains i).Perm sub:=by
 rw[List.perm_iff_count]
 intro a
 rw[(hI.sublist List.filter_sublist).count,hn.count]
 by_cases ha:a∈sub
 ·rw[if_pos ha,if_pos (by simp[ha,hin a ha])]
 ·rw[if_neg ha,if_neg (by simp[ha])]
theorem aKd{l1 l2:List ((Int×Int)×Value)}(h:l1.Perm l2)(hn:(l1.map (·.1)).Nodup)(k:Int×Int):jB l1 k=jB l2 k:=by
 induction h with
 | nil=>rfl
 | cons x _ ih=>
  obtain⟨a,b⟩:=x
  rw[Hr,Hr,ih (List.nodup_cons.1 hn).2]
 | swap x y s =>
  obtain⟨a,b⟩:=x
  obtain⟨c,d⟩:=y
  have hne:c≠a:=fun e=>(List.nodup_cons.1 hn).1 (by rw[e];simp)
  simp only[Hr]
  by_cases h1:a=k
  ·have:c≠k:=fun e=>hne (e.trans h1.symm)
   simp[h1,this]
  ·simp[h1]
 | trans h1 h2 i1 i2=>exact(i1 hn).trans (i2 ((h1.map _).nodup_iff.1 hn))
theorem aKe{l:List ((Int×Int)×Value)}{k:Int×Int}(h:k∉l.map (·.1)):jB l k=none:=by
 induction l with
 | nil=>rfl
 | cons x l ih=>
  obtain⟨a,b⟩:=x
  rw[List.map_cons,List.mem_cons,not_or] at h
  rw[Hr,if_neg (fun e=>h.1 e.symm)]
  exact ih h.2
section
variable{P:Program}{N:bO}{w0 w:World}{e:Env}{R R0:List Piece}{H H0:List HP}{Q:Exit→Act→World→Prop}{ops:Array Oper}{m fuel:Nat}{listed:Array Bool}
def Lays(P:Program)(ops:Array Oper)(e:Env)(r:Nat)(i:Nat)(p:(Int×Int)×Value):Prop:=∃x y u ty pos aF t kt et,ops[i]? =some ⟨none,.insert t x y u,ty,pos,aF,none⟩∧P.underlying t=some (.map kt et)∧zD P kt∧e.ev x=some (.map (some r))∧e.ev y=some (kP p.1)∧e.ev u=some p.2
theorem XA.aK9(I:List Nat)(Jf:Nat→(Int×Int)×Value)(r:Nat)(hI:I.Nodup)(hop:∀i∈I,Lays P ops e r i (Jf i))(hkeys:(I.map fun i=>(Jf i).1).Nodup)(hB:aAW ops I listed=true)
  (hS:∀l w,St w0 R (HP.rP r l::H) w→St w0 R0 H0 w)
  (k:∀sub:List Nat,sub.Perm I→XA P N w0 ops Q R0 H0 m fuel (iN sub listed) e R (HP.rP r (sub.reverse.map Jf)::H)):XA P N w0 ops Q R0 H0 m (fuel+I.length) listed e R (HP.rP r []::H):=by
 have key : ∀ (n : Nat) (sub : List Nat), sub.Nodup → (∀ i ∈ sub, i ∈ I) → sub.length + n = I.length → XA P N w0 ops Q R0 H0 m (fuel + n) (iN sub listed) e R (HP.rP r (sub.reverse.map Jf) :: H) := by
  intro n
  induction n with
  | zero=>
   intro sub hn hin hl
   have hp:=aDy hI hn hin
   have hf:(I.filter fun i=>sub.contains i)=I:=List.filter_sublist.eq_of_length (by have:=hp.length_eq;omega)
   rw[hf] at hp
   exact k sub hp.symm
  | succ n ih =>
   intro sub hn hin hl
   obtain⟨i0,lZ,hn0⟩:∃i,i∈I∧i∉sub:=Classical.byContradiction fun hno=>by
    have hp:=aDy hI hn hin
    have hf:(I.filter fun i=>sub.contains i)=I:=List.filter_eq_self.2 fun i hi=>by
     rcases Classical.em (i∈sub) with h | h
     ·simpa using h
     ·exact absurd ⟨i,hi,h⟩ hno
    rw[hf] at hp
    have:=hp.length_eq
    omega
   obtain⟨r1,r2⟩:=aIO hB hin lZ hn0
   intro up a w bT st
   refine⟨fun h=>absurd h r1,fun i hi=>?_⟩
   obtain⟨hiI,Rk⟩:=r2 i hi
   obtain⟨x,y,u,ty,pos,aF,t,kt,et,ho,ht,hk,hx,hy,hu⟩:=hop i hiI
   have hno:jB (sub.reverse.map Jf) (Jf i).1=none:=aKe fun hm=>by
    simp only[List.map_map,List.mem_map,List.mem_reverse,Function.comp] at hm
    obtain⟨j,hj,he⟩:=hm
    have hji:j≠i:=fun e=>Rk (e▸hj)
    exact hji (Classical.byContradiction fun hne=>by
     have h1:=List.pairwise_map.1 hkeys
     exact absurd he (by
      obtain⟨a,ha⟩:=List.getElem?_of_mem (hin j hj)
      obtain⟨b,hb⟩:=List.getElem?_of_mem hiI
      have hal:=(List.getElem?_eq_some_iff.1 ha).1
      have hbl:=(List.getElem?_eq_some_iff.1 hb).1
      have hav:=(List.getElem?_eq_some_iff.1 ha).2
      have Sd:=(List.getElem?_eq_some_iff.1 hb).2
      have h2:=List.pairwise_iff_getElem.1 h1
      rcases Nat.lt_trichotomy a b with h | h | h
      ·have:=h2 a b hal hbl h;rw[hav,Sd] at this;exact this
      ·subst h;exact absurd (hav.symm.trans Sd) hji
      ·have:=h2 b a hbl hal h;rw[hav,Sd] at this;exact fun e=>this e.symm))
   refine zJ ho (fun a w h=>⟨h.1,h.2 (up.jK hi)⟩) (K:=tI P w0 ops Q R0 H0 m (fuel+n) (iN sub listed) i) ?_
   have:=aG1 (P:=P) (N:=N) (w0:=w0) (R:=R) (H:=HP.rP r (sub.reverse.map Jf)::H) (Q:=Exit.then (tI P w0 ops Q R0 H0 m (fuel+n) (iN sub listed) i) Q) (ops:=ops) (rest:=[]) (ty:=ty) (pos:=pos) (aF:=aF) 0 ht hk rfl hno hx hy hu
    (XK.nil (XK.dD (XA.back (hS _) (by
     have:=ih (i::sub) (List.nodup_cons.2 ⟨Rk,hn⟩) (fun j hj=>by
      rcases List.mem_cons.1 hj with rfl | hj
      ·exact hiI
      ·exact hin j hj) (by simp only[List.length_cons];omega)
     rw[List.reverse_cons,List.map_append] at this
     exact this))))
   exact this a w bT st
 exact key I.length [] List.nodup_nil (fun _ h=>by cases h) (by simp)
end
end
section
set_option maxHeartbeats 4000000
set_option maxRecDepth 20000
theorem aEP(L:List (Nat×Nat))(place:Nat→Option (Nat×Nat))(hp:∀i x,L[i]? =some x→place i=some x):∀(ps:List (Nat×Value)) (cs cs':List Value),eF L cs ps=some cs'→Instr.fill place cs.toArray ps=some cs'.toArray
 | [],cs,cs',h=>by cases h;rfl
 | (i, v) :: rest, cs, cs', h => by
  unfold eF at h
  unfold Instr.fill
  split at h
  ·rename_i off sz hL
   rw[hp _ _ hL]
   split at h
   ·rename_i hc
    have e1:(decide (v.cells.size≠sz)||decide (off+v.cells.size>cs.toArray.size))=false:=by simp;omega
    simp only[e1,Bool.false_eq_true,if_false]
    have:=aAk v.cells.toList cs off 0
    rw[show v.cells.zipIdx.foldl (fun cs (c,j)=>cs.setIfInBounds (off+j) c) cs.toArray=(fH cs off v.cells.toList).toArray by
     rw[←Array.foldl_toList,Array.toList_zipIdx];exact this]
    exact aEP L place hp rest _ cs' h
   ·cases h
  ·cases h
section
variable{P:Program}{N:bO}{w0:World}{e:Env}{R:List Piece}{H:List HP}{d:Nat}{ty:TypeId}{pos:String}{aF:Array Edge}
theorem aBE{t el:TypeId}{n sz:Nat}{ps:List (Nat×Operand)}{vs:List (Nat×Value)}{zs cs:List Value}(hz:Br P t zs)(ht:P.underlying t=some (.array n el))(hsz:(P.info? el).map (·.size)=some sz)(hp:e.parts ps=some vs)(hf:eF ((List.range n).map fun i=>(i*sz,sz)) zs vs=some cs):aZ P N w0 e R H ⟨some d,.build t ps.toArray,ty,pos,aF,none⟩ (.agg cs.toArray):=
 fW (fun a w hr => by
  have:=hr.parts hp
  obtain⟨i,z,hi,zW,rfl⟩:=hz
  obtain⟨j,hj,rfl⟩:=Option.map_eq_some_iff.1 hsz
  have hfl:=aEP _ (fun i=>some (i*j.size,j.size)) (fun i x hx=>by
   rw[List.getElem?_map] at hx
   obtain⟨q,hq,rfl⟩:=Option.map_eq_some_iff.1 hx
   have hlt:i < n:=by
    rcases Nat.lt_or_ge i n with h | h
    ·exact h
    ·rw[List.getElem?_eq_none (by simpa using h)] at hq;cases hq
   rw[List.getElem?_range hlt] at hq
   cases hq
   rfl) vs z.cells.toList cs hf
  simp at hfl
  simp only[execOp,List.map_toArray,this]
  simp[Instr.build,zeroValue,typeInfo,sizeOf,hi,hj,zW,run_underlying ht,hfl])
end
def oQ(n m a b c:Int):Value:=.agg #[iv n,iv m,.int .u8 a,.int .u8 b,.int .u8 c]
theorem Wa:zD Tryz.prog 371:=zD.of Tryz.underlying371 Tryz.underlying3 Tryz.underlying3 rfl rfl (fun _ _ _ _=>by kernel_rfl)
def wP:Nat→(Int×Int)×Value
 | 3=>((16,0),oQ 0 0 0 0 0) | 6=>((17,0),oQ 0 0 0 0 0) | 9=>((20,0),oQ 0 0 0 0 0) | 12=>((22,0),oQ 0 0 0 0 0) | 15=>((16,1),oQ 0 0 0 0 0)
 | 19=>((17,4),oQ 2 3 100 117 107) | 22=>((17,5),oQ 1 0 0 0 0) | 25=>((20,6),oQ 1 0 0 0 0) | 29=>((20,7),oQ 2 2 111 99 0) | _=>((22,4),oQ 2 2 114 97 0)
def Jb:List Nat:=[3,6,9,12,15,19,22,25,29,33]
def aB0:List ((Int×Int)×Value):=Jb.map wP
def aCk(v:Value)(hs:List HP)(_:Piece):Prop:=∃(g:Nat) (sub:List Nat),v=.map (some g)∧sub.Perm Jb∧hs=[HP.rP g (sub.reverse.map wP)]
theorem aEE(w:World):Calls Tryz.prog 219 #[] w (fun y w'=>(∃v hs q,y=.returned v∧q.w=w'∧aCk v hs q∧iY w hs q)∧Below w.heap.size w w'):=by
 refine XK.en Tryz.func219 Tryz.ntmps219 ?_
 refine XK.seq ?_
 refine XK.region ?_
 refine cM rfl (by decide) ?_
 refine XK.aY ?_
 refine XK.seq ?_
 refine XK.draw 34 (by kernel_rfl) (by kernel_rfl) ?_
 refine XA.dR 1 rfl rfl rfl (by decide) (jF (zs:=[iv 0,iv 0]) (L:=[(0,1),(1,1)]) (dN (by kernel_rfl)) (by kernel_rfl) rfl (by simp[eF,fH,Value.cells];rfl)) (by kernel_rfl) (fun _ _ _ h=>h) (fun _ h=>h) ?_
 refine XA.dR 2 rfl rfl rfl (by decide) (jF (zs:=[iv 0,iv 0,.int .u8 0,.int .u8 0,.int .u8 0]) (L:=[(0,1),(1,1),(2,3)]) (dN (by kernel_rfl)) (by kernel_rfl) rfl (by simp[eF,fH,Value.cells];rfl)) (by kernel_rfl) (fun _ _ _ h=>h) (fun _ h=>h) ?_
 refine XA.dR 4 rfl rfl rfl (by decide) (jF (zs:=[iv 0,iv 0]) (L:=[(0,1),(1,1)]) (dN (by kernel_rfl)) (by kernel_rfl) rfl (by simp[eF,fH,Value.cells];rfl)) (by kernel_rfl) (fun _ _ _ h=>h) (fun _ h=>h) ?_
 refine XA.dR 5 rfl rfl rfl (by decide) (jF (zs:=[iv 0,iv 0,.int .u8 0,.int .u8 0,.int .u8 0]) (L:=[(0,1),(1,1),(2,3)]) (dN (by kernel_rfl)) (by kernel_rfl) rfl (by simp[eF,fH,Value.cells];rfl)) (by kernel_rfl) (fun _ _ _ h=>h) (fun _ h=>h) ?_
 refine XA.dR 7 rfl rfl rfl (by decide) (jF (zs:=[iv 0,iv 0]) (L:=[(0,1),(1,1)]) (dN (by kernel_rfl)) (by kernel_rfl) rfl (by simp[eF,fH,Value.cells];rfl)) (by kernel_rfl) (fun _ _ _ h=>h) (fun _ h=>h) ?_
 refine XA.dR 8 rfl rfl rfl (by decide) (jF (zs:=[iv 0,iv 0,.int .u8 0,.int .u8 0,.int .u8 0]) (L:=[(0,1),(1,1),(2,3)]) (dN (by kernel_rfl)) (by kernel_rfl) rfl (by simp[eF,fH,Value.cells];rfl)) (by kernel_rfl) (fun _ _ _ h=>h) (fun _ h=>h) ?_
 refine XA.dR 10 rfl rfl rfl (by decide) (jF (zs:=[iv 0,iv 0]) (L:=[(0,1),(1,1)]) (dN (by kernel_rfl)) (by kernel_rfl) rfl (by simp[eF,fH,Value.cells];rfl)) (by kernel_rfl) (fun _ _ _ h=>h) (fun _ h=>h) ?_
 refine XA.dR 11 rfl rfl rfl (by decide) (jF (zs:=[iv 0,iv 0,.int .u8 0,.int .u8 0,.int .u8 0]) (L:=[(0,1),(1,1),(2,3)]) (dN (by kernel_rfl)) (by kernel_rfl) rfl (by simp[eF,fH,Value.cells];rfl)) (by kernel_rfl) (fun _ _ _ h=>h) (fun _ h=>h) ?_
 refine XA.dR 13 rfl rfl rfl (by decide) (jF (zs:=[iv 0,iv 0]) (L:=[(0,1),(1,1)]) (dN (by kernel_rfl)) (by kernel_rfl) rfl (by simp[eF,fH,Value.cells];rfl)) (by kernel_rfl) (fun _ _ _ h=>h) (fun _ h=>h) ?_
 refine XA.dR 14 rfl rfl rfl (by decide) (jF (zs:=[iv 0,iv 0,.int .u8 0,.int .u8 0,.int .u8 0]) (L:=[(0,1),(1,1),(2,3)]) (dN (by kernel_rfl)) (by kernel_rfl) rfl (by simp[eF,fH,Value.cells];rfl)) (by kernel_rfl) (fun _ _ _ h=>h) (fun _ h=>h) ?_
 refine XA.dR 16 rfl rfl rfl (by decide) (jF (zs:=[iv 0,iv 0]) (L:=[(0,1),(1,1)]) (dN (by kernel_rfl)) (by kernel_rfl) rfl (by simp[eF,fH,Value.cells];rfl)) (by kernel_rfl) (fun _ _ _ h=>h) (fun _ h=>h) ?_
 refine XA.dR 17 rfl rfl rfl (by decide) (aBE (n:=3) (sz:=1) (el:=5) (zs:=[.int .u8 0,.int .u8 0,.int .u8 0]) (dN (by kernel_rfl)) (by kernel_rfl) (by kernel_rfl) rfl (by simp[eF,fH,Value.cells,List.range_succ,List.set];rfl)) (by kernel_rfl) (fun _ _ _ h=>h) (fun _ h=>h) ?_
 refine XA.dR 18 rfl rfl rfl (by decide) (jF (zs:=[iv 0,iv 0,.int .u8 0,.int .u8 0,.int .u8 0]) (L:=[(0,1),(1,1),(2,3)]) (dN (by kernel_rfl)) (by kernel_rfl) rfl (by simp[eF,fH,Value.cells];rfl)) (by kernel_rfl) (fun _ _ _ h=>h) (fun _ h=>h) ?_
 refine XA.dR 20 rfl rfl rfl (by decide) (jF (zs:=[iv 0,iv 0]) (L:=[(0,1),(1,1)]) (dN (by kernel_rfl)) (by kernel_rfl) rfl (by simp[eF,fH,Value.cells];rfl)) (by kernel_rfl) (fun _ _ _ h=>h) (fun _ h=>h) ?_
 refine XA.dR 21 rfl rfl rfl (by decide) (jF (zs:=[iv 0,iv 0,.int .u8 0,.int .u8 0,.int .u8 0]) (L:=[(0,1),(1,1),(2,3)]) (dN (by kernel_rfl)) (by kernel_rfl) rfl (by simp[eF,fH,Value.cells];rfl)) (by kernel_rfl) (fun _ _ _ h=>h) (fun _ h=>h) ?_
 refine XA.dR 23 rfl rfl rfl (by decide) (jF (zs:=[iv 0,iv 0]) (L:=[(0,1),(1,1)]) (dN (by kernel_rfl)) (by kernel_rfl) rfl (by simp[eF,fH,Value.cells];rfl)) (by kernel_rfl) (fun _ _ _ h=>h) (fun _ h=>h) ?_
 refine XA.dR 24 rfl rfl rfl (by decide) (jF (zs:=[iv 0,iv 0,.int .u8 0,.int .u8 0,.int .u8 0]) (L:=[(0,1),(1,1),(2,3)]) (dN (by kernel_rfl)) (by kernel_rfl) rfl (by simp[eF,fH,Value.cells];rfl)) (by kernel_rfl) (fun _ _ _ h=>h) (fun _ h=>h) ?_
 refine XA.dR 26 rfl rfl rfl (by decide) (jF (zs:=[iv 0,iv 0]) (L:=[(0,1),(1,1)]) (dN (by kernel_rfl)) (by kernel_rfl) rfl (by simp[eF,fH,Value.cells];rfl)) (by kernel_rfl) (fun _ _ _ h=>h) (fun _ h=>h) ?_
 refine XA.dR 27 rfl rfl rfl (by decide) (aBE (n:=3) (sz:=1) (el:=5) (zs:=[.int .u8 0,.int .u8 0,.int .u8 0]) (dN (by kernel_rfl)) (by kernel_rfl) (by kernel_rfl) rfl (by simp[eF,fH,Value.cells,List.range_succ,List.set];rfl)) (by kernel_rfl) (fun _ _ _ h=>h) (fun _ h=>h) ?_
 refine XA.dR 28 rfl rfl rfl (by decide) (jF (zs:=[iv 0,iv 0,.int .u8 0,.int .u8 0,.int .u8 0]) (L:=[(0,1),(1,1),(2,3)]) (dN (by kernel_rfl)) (by kernel_rfl) rfl (by simp[eF,fH,Value.cells];rfl)) (by kernel_rfl) (fun _ _ _ h=>h) (fun _ h=>h) ?_
 refine XA.dR 30 rfl rfl rfl (by decide) (jF (zs:=[iv 0,iv 0]) (L:=[(0,1),(1,1)]) (dN (by kernel_rfl)) (by kernel_rfl) rfl (by simp[eF,fH,Value.cells];rfl)) (by kernel_rfl) (fun _ _ _ h=>h) (fun _ h=>h) ?_
 refine XA.dR 31 rfl rfl rfl (by decide) (aBE (n:=3) (sz:=1) (el:=5) (zs:=[.int .u8 0,.int .u8 0,.int .u8 0]) (dN (by kernel_rfl)) (by kernel_rfl) (by kernel_rfl) rfl (by simp[eF,fH,Value.cells,List.range_succ,List.set];rfl)) (by kernel_rfl) (fun _ _ _ h=>h) (fun _ h=>h) ?_
 refine XA.dR 32 rfl rfl rfl (by decide) (jF (zs:=[iv 0,iv 0,.int .u8 0,.int .u8 0,.int .u8 0]) (L:=[(0,1),(1,1),(2,3)]) (dN (by kernel_rfl)) (by kernel_rfl) rfl (by simp[eF,fH,Value.cells];rfl)) (by kernel_rfl) (fun _ _ _ h=>h) (fun _ h=>h) ?_
 refine XA.next 0 rfl (by kernel_rfl) ?_
 refine aGw (by decide) fun g1=>?_
 refine XA.bk ?_
 refine XA.aK9 (fuel:=2) Jb wP g1 (by decide) (fun i hi=>?_) (by decide) (by kernel_rfl) (fun l w1 h=>h.tail) (fun sub hsub=>?_)
 ·simp only[Jb,List.mem_cons,List.not_mem_nil,or_false] at hi
  rcases hi with rfl | rfl | rfl | rfl | rfl | rfl | rfl | rfl | rfl | rfl
  all_goals exact⟨_,_,_,_,_,_,_,_,_,rfl,Tryz.underlying368,Wa,rfl,rfl,rfl⟩
 rw[Wf hsub]
 refine XA.next 34 rfl (by kernel_rfl) ?_
 refine aR rfl (by decide) ?_
 refine XA.bt ?_
 refine XA.next 35 rfl (by kernel_rfl) ?_
 refine cM rfl (by decide) ?_
 refine XA.bt ?_
 refine XA.done (by kernel_rfl) ?_
 refine XK.norm ?_
 refine XK.ret ?_
 refine XK.norm ?_
 refine XK.still [] [] [0] (by simp) rfl (by decide) (by decide) fun q _ _ hfr=>?_
 exact XK.rX (h:=fun w1 st=>⟨_,_,⟨w1,q.Z⟩,rfl,rfl,⟨g1,sub,rfl,hsub,rfl⟩,st.newR (by simp) (by simp) (hfr (by simp) (by simp))⟩)
end
section
set_option maxHeartbeats 4000000
set_option maxRecDepth 20000
def dQ(w:Int):Int:=if bJ w 28 4≠0 then 0 else bJ w 0 8
def Mr(w:Int):Int:=if bJ w 28 4≠0 then 0 else bJ w 8 2
def dI(w:Int):Int:=if bJ w 28 4≠0 then 0 else bJ w 10 8
def Xy(w:Int):Int:=if bJ w 28 4≠0 then 0 else bJ w 18 10
theorem aGU(w:Int):Gy w=Iq (dQ w) (Mr w) (dI w) (Xy w):=by
 unfold Gy dQ Mr dI Xy
 split<;>rfl
structure lE where
 n:Int
 m:Int
 a:Int
 b:Int
 c:Int
def lE.v(f:lE):Value:=oQ f.n f.m f.a f.b f.c
def lE.act(f:lE)(v:Int):Int:=if v=0 then f.a else if v=1 then f.b else f.c
def rZ(p m:Int):Option lE:=
 if m=0 then(if p=16∨p=17∨p=20∨p=22 then some ⟨0,0,0,0,0⟩ else none)
 else if m=1 then(if p=16 then some ⟨0,0,0,0,0⟩ else none)
 else if m=4 then(if p=17 then some ⟨2,3,100,117,107⟩ else if p=22 then some ⟨2,2,114,97,0⟩ else none)
 else if m=5 then(if p=17 then some ⟨1,0,0,0,0⟩ else none)
 else if m=6 then(if p=20 then some ⟨1,0,0,0,0⟩ else none)
 else if m=7 then(if p=20 then some ⟨2,2,111,99,0⟩ else none)
 else none
theorem aLK(p m:Int):jB aB0 (p,m)=(rZ p m).map lE.v:=by
 unfold aB0 Jb rZ
 simp only[List.map_cons,List.map_nil,wP,Hr,Prod.mk.injEq]
 by_cases h0:m=0
 ·subst h0
  by_cases tE:p=16
  ·subst tE;simp[lE.v]
  ·by_cases yQ:p=17
   ·subst yQ;simp[lE.v]
   ·by_cases uT:p=20
    ·subst uT;simp[lE.v]
    ·by_cases Iy:p=22
     ·subst Iy;simp[lE.v]
     ·simp[tE,yQ,uT,Iy,jB,Ne.symm tE,Ne.symm yQ,Ne.symm uT,Ne.symm Iy]
 ·by_cases h1:m=1
  ·subst h1
   by_cases tE:p=16
   ·subst tE;simp[lE.v]
   ·simp[tE,Ne.symm tE,jB]
  ·by_cases h4:m=4
   ·subst h4
    by_cases yQ:p=17
    ·subst yQ;simp[lE.v]
    ·by_cases Iy:p=22
     ·subst Iy;simp[lE.v]
     ·simp[yQ,Iy,Ne.symm yQ,Ne.symm Iy,jB]
   ·by_cases h5:m=5
    ·subst h5
     by_cases yQ:p=17
     ·subst yQ;simp[lE.v]
     ·simp[yQ,Ne.symm yQ,jB]
    ·by_cases h6:m=6
     ·subst h6
      by_cases uT:p=20
      ·subst uT;simp[lE.v]
      ·simp[uT,Ne.symm uT,jB]
     ·by_cases h7:m=7
      ·subst h7
       by_cases uT:p=20
       ·subst uT;simp[lE.v]
       ·simp[uT,Ne.symm uT,jB]
      ·simp[h0,h1,h4,h5,h6,h7,Ne.symm h0,Ne.symm h1,Ne.symm h4,Ne.symm h5,Ne.symm h6,Ne.symm h7,jB]
def dP(p m:Int):lE:=(rZ p m).getD ⟨0,0,0,0,0⟩
theorem aLJ{sub:List Nat}(h:sub.Perm Jb)(p m:Int):jB (sub.reverse.map wP) (p,m)=(rZ p m).map lE.v:=by
 rw[←aLK]
 have hp:(sub.reverse.map wP).Perm aB0:=((List.reverse_perm sub).trans h).map wP
 refine aKd hp ?_ _
 exact((hp.map (·.1)).nodup_iff).2 (by decide)
theorem Mu{sub:List Nat}(h:sub.Perm Jb)(p m:Int):(jB (sub.reverse.map wP) (p,m)).getD (oQ 0 0 0 0 0)=(dP p m).v∧(jB (sub.reverse.map wP) (p,m)).isSome=(rZ p m).isSome:=by
 rw[aLJ h]
 unfold dP
 cases rZ p m<;>exact⟨rfl,rfl⟩
theorem aEC(p m : Int) : ((dP p m).n = 0 ∨ (dP p m).n = 1 ∨ (dP p m).n = 2) ∧ 0 ≤ (dP p m).m ∧ (dP p m).m ≤ 3 ∧ (∀ v, 0 ≤ v → v < (dP p m).m → (dP p m).act v = 107 → p = 17) ∧
  ((dP p m).m≠0→p=17∨p=20∨p=22):=by
 unfold dP rZ
 by_cases h0:m=0
 ·by_cases h:p=16∨p=17∨p=20∨p=22<;>simp[h0,h]<;>omega
 ·by_cases h1:m=1
  ·by_cases h:p=16<;>simp[h1,h]<;>omega
  ·by_cases h4:m=4
   ·by_cases h:p=17
    ·simp[h4,h]
    ·by_cases h':p=22
     ·subst h4 h'
      simp only[lE.act]
      refine⟨by simp,by simp,by simp,fun v h1 h2 h3=>?_,by simp⟩
      simp at h2 h3
      split at h3
      ·omega
      ·split at h3<;>omega
     ·simp[h4,h,h'];omega
   ·by_cases h5:m=5
    ·by_cases h:p=17<;>simp[h5,h]<;>omega
    ·by_cases h6:m=6
     ·by_cases h:p=20<;>simp[h6,h]<;>omega
     ·by_cases h7:m=7
      ·by_cases h:p=20
       ·subst h7 h
        simp only[lE.act]
        refine⟨by simp,by simp,by simp,fun v h1 h2 h3=>?_,by simp⟩
        simp at h2 h3
        split at h3
        ·omega
        ·split at h3<;>omega
       ·simp[h7,h];omega
      ·simp[h0,h1,h4,h5,h6,h7];omega
def Po(s:aA)(k:Nat):Bool:=(s.domains[k]?).any (·.ret)
def kindOf(s:aA)(k:Nat):Int:=((s.aD[k]?).map (·.kind)).getD 0
def Vc(s:aA)(k:Nat):Prop:=kindOf s k=112∨kindOf s k=103
instance(s:aA)(k:Nat):Decidable (Vc s k):=inferInstanceAs (Decidable (_∨_))
def La(s:aA)(p k:Int)(id:Nat):Prop:=(k=107∧Po s id=false)∨(p=20∧¬Vc s id)
instance(s:aA)(p k:Int)(id:Nat):Decidable (La s p k id):=inferInstanceAs (Decidable (_∨_))
def Dn(s:aA)(p:Int)(f:lE)(id v:Int):Int×Int×Int:=
 if(xY s p:Int)≤id then(-4,0,0) else if f.m=0 then(0,0,0) else if f.m≤v then(-2,0,0) else if La s p (f.act v) id.toNat then(-2,0,0) else(0,f.act v,id)
def eK(s:aA)(l:List Int):Int×Int×Int:=
 match l with
 | []=>(-10,0,0)
 | w::r=>
  if zL w≠0∨Mr w≠0 then(-10,0,0)
  else if(rZ (dI w) (dQ w)).isSome=false then(-1,0,0)
  else if(r.length:Int)≠(dP (dI w) (dQ w)).n then(-10,0,0)
  else if(dP (dI w) (dQ w)).n=0 then(0,0,0)
  else Dn s (dI w) (dP (dI w) (dQ w)) (r.getD 0 0) (r.getD ((dP (dI w) (dQ w)).n.toNat - 1) 0)
def aBZ(a:Int×Int×Int):Value:=.tuple #[.int .i32 a.1,.agg #[.int .u8 a.2.1,iv a.2.2]]
def vF(l:List Int):Prop:=∀x∈l,0≤x∧x < 4294967296
theorem aE.u32{w:World}{A:Option Addr}{n:Nat}{l:List Int}(h:aE (all w) 1 A n (nF l))(hn:0 < n):∃b off,A=some ⟨b,off,none⟩∧∀(i:Nat) (x:Int),l[i]? =some x→eS w b (off+i) (.int .u32 x):=by
 obtain⟨b,off,hA,hb,hc⟩:=h.2 hn
 refine⟨b,off,hA,fun i x hx=>⟨hb,hc i _ ?_⟩⟩
 simp only[nF,List.getElem?_map,hx,Option.map_some]
section
variable{P:Program}{N:lE}{w0:World}{e:Env}{R:List Piece}{H:List HP}
theorem XK.aIs{nn:Nat}{fn:Func}{Post:Ending→World→Prop}{t u n b:Nat}{s:TypeId}{vs:List Value}{v':Value}(hr:fn.results=#[.tmp u,.cell t s])(hs:zQ P s n=true)(hn:vs.length=n)(ht:e.get t=some (pt b))(hrd:aH w0 R H b 0 vs)(hu:e.get u=some v')(h:∀w,St w0 R H w→Post (.returned (.tuple #[v',.agg vs.toArray])) w):XK ⟨nn,[]⟩ w0 (bodyPost P fn Post .ret) e R H:=fun a w bT st=>by
 have hl:=Pj (P:=P) hs hn (hrd w st)
 refine bodyPost_ret (v:=.tuple #[v',.agg vs.toArray]) ?_ bT.defers (h w st)
 have ha:=bT.get t _ ht
 have hb:=bT.get u _ hu
 simp only[Instr.loadAt,Instr.sureAddr,Sem.run_bind,Sem.run_pure,Result.andThen_ok] at hl
 simp only[results,hr]
 simp[ha,hb,asAddr,hl]
end
end
section
set_option maxHeartbeats 4000000
set_option maxRecDepth 20000
theorem aJN(s:aA)(A1 A2 A3 A4:Option Addr)(n1 k1 n2 k2 n3 k3 n4 k4:Nat)(p:Int){w0:World}(w:World)(hS:eI w0 s A1 n1 A2 n2 A3 n3 A4 n4):Calls Tryz.prog 220 #[.agg #[.slice A1 n1 k1,.slice A2 n2 k2,.slice A3 n3 k3,.slice A4 n4 k4],iv p] w (Rt (iv (xY s p)) w):=by
 obtain⟨h1,h2,h3,h4⟩:=And.intro hS.kL (And.intro hS.kY (And.intro hS.mL hS.lK))
 subst h1 h2 h3 h4
 exact aJM s A1 A2 A3 A4 k1 k2 k3 k4 p w
theorem XK.mK{nn:Nat}{w:World}{e:Env}{R:List Piece}{H:List HP}{fn:Func}{t u n b:Nat}{s:TypeId}{vs:List Value}{v v':Value}(hv:v=.tuple #[v',.agg vs.toArray])(hr:fn.results=#[.tmp u,.cell t s]:=by rfl)(hs:zQ Tryz.prog s n=true:=by kernel_rfl)(ht:e.get t=some (pt b):=by rfl)(hrd:aH w R H b 0 vs:=by first | exact aH.whole 0 rfl | exact aH.whole 1 rfl | exact aH.whole 2 rfl | exact aH.whole 3 rfl)(hn:vs.length=n:=by rfl)(hu:e.get u=some v':=by rfl)(hR:all w∈R:=by simp):XK ⟨nn,[]⟩ w (bodyPost Tryz.prog fn (Rt v w) .ret) e R H:=
 XK.aIs hr hs hn ht hrd hu fun w9 st=>⟨by rw[hv],st.below hR⟩
theorem aIQ(s:aA)(A1 A2 A3 A4:Option Addr)(n1 k1 n2 k2 n3 k3 n4 k4:Nat)(A:Option Addr)(n c:Nat)(l:List Int)(w:World)(hS:eI w s A1 n1 A2 n2 A3 n3 A4 n4)(hl:aE (all w) 1 A n (nF l))(hn:n=l.length)(hn2:n≤1000000)(hu:vF l):
  Calls Tryz.prog 165 #[.agg #[.slice A1 n1 k1,.slice A2 n2 k2,.slice A3 n3 k3,.slice A4 n4 k4],.slice A n c] w (Rt (aBZ (eK s l)) w):=by
 refine XK.en Tryz.func165 Tryz.ntmps165 ?_
 refine XK.gw ?_
 refine aS fun g1=>?_
 refine XK.gw ?_
 refine bB fun g2=>?_
 refine XK.gw ?_
 refine XK.if_ rfl (fun h=>?_) (fun h=>?_)
 ·obtain rfl:l=[]:=List.eq_nil_of_length_eq_zero (by omega)
  refine XK.gw ?_
  (refine XK.mK ?_;rfl)
 obtain⟨b,off,rfl,hcell⟩:=hl.u32 (by omega)
 obtain⟨w1,r,rfl⟩:∃x r,l=x::r:=by
  cases l with
  | nil=>exact absurd (by simpa using hn) (show ¬n=0 by omega)
  | cons x r=>exact⟨x,r,rfl⟩
 have hw1:=hcell 0 w1 rfl
 have hlen:n=r.length+1:=by simpa using hn
 refine XK.gw ?_
 refine aJ (v:=.tuple #[.agg #[iv (dQ w1),iv (Mr w1),iv (dI w1),iv (Xy w1)],iv (zL w1)]) (fun w2 st=>(aCE w1 w2).mono fun x w3 hx=>Rt.conv hx (by rw[aGU];rfl)) ?_
 refine XK.gw ?_
 refine bB fun g3=>?_
 refine XK.gw ?_
 refine aW (t:=26) rfl (fun hg=>?_) (fun hg=>?_)
 ·refine XK.gw ?_
  (refine XK.mK ?_;rw[eK,if_pos (.inl hg)];rfl)
 refine XK.gw ?_
 refine XK.if_ rfl (fun h4=>?_) (fun h5=>?_)
 ·refine XK.gw ?_
  (refine XK.mK ?_;rw[eK,if_pos (.inr h4)];rfl)
 have h4:¬(zL w1≠0∨Mr w1≠0):=fun hh=>hh.elim hg h5
 refine XK.skip ?_
 refine XK.norm ?_
 refine XK.ct (α:=Nat) (fun g4=>[(9,.bool (rZ (dI w1) (dQ w1)).isSome),(8,pt g4),(7,iv (zL w1)),(6,pt g3),(5,pt g2),(2,pt g1),(1,.slice (some ⟨b,off,none⟩) n c)]) (fun g4=>[HP.aB g4 366 [iv (dP (dI w1) (dQ w1)).n,iv (dP (dI w1) (dQ w1)).m,.int .u8 (dP (dI w1) (dQ w1)).a,.int .u8 (dP (dI w1) (dQ w1)).b,.int .u8 (dP (dI w1) (dQ w1)).c],HP.aB g3 334 [iv (dQ w1),iv (Mr w1),iv (dI w1),iv (Xy w1)],HP.aB g2 136 [.int .u8 0,iv 0],HP.aB g1 30 [.slice A1 n1 k1,.slice A2 n2 k2,.slice A3 n3 k3,.slice A4 n4 k4]]) (fun _=>True) ?_ fun g4 _=>?_
 ·skip
  refine XK.draw 12 (by kernel_rfl) (by kernel_rfl) ?_
  refine XA.dA 1 rfl rfl rfl (mQ (off:=2) (by kernel_rfl) rfl) ?_
  refine XA.dA 2 rfl rfl rfl (Fz rfl) ?_
  refine XA.dA 3 rfl rfl rfl (mQ (off:=0) (by kernel_rfl) rfl) ?_
  refine XA.dA 4 rfl rfl rfl (Fz rfl) ?_
  refine XA.dA 5 rfl rfl rfl (jF (zs:=[iv 0,iv 0]) (L:=[(0,1),(1,1)]) (dN (by kernel_rfl)) (by kernel_rfl) rfl (by simp[eF,fH,Value.cells];rfl)) ?_
  refine XA.either 0 10 rfl rfl (by kernel_rfl) ?_ ?_
  ·refine fB aCk (fun w2 _=>aEE w2) ?_
   rintro _ _ q1 ⟨gm,sub,rfl,hsub,rfl⟩ _
   simp only[List.cons_append,List.nil_append]
   refine XK.nil ?_;refine XK.dD ?_;refine XA.back (fun _ h=>h.aK.tail) ?_
   refine XA.either 6 10 rfl rfl (by kernel_rfl) ?_ ?_
   ·refine Zo (v:=.agg #[iv (dP (dI w1) (dQ w1)).n,iv (dP (dI w1) (dQ w1)).m,.int .u8 (dP (dI w1) (dQ w1)).a,.int .u8 (dP (dI w1) (dQ w1)).b,.int .u8 (dP (dI w1) (dQ w1)).c]) (et:=366) (l:=sub.reverse.map wP) Tryz.underlying368 Wa (z:=oQ 0 0 0 0 0) (by kernel_rfl) rfl (k:=(dI w1,dQ w1)) rfl (fun w2 st=>st.rP (i:=0) rfl) (Mu hsub _ _).1 (Mu hsub _ _).2 (by decide) ?_
    refine XK.nil ?_;refine XK.dD ?_;refine XA.back (fun _ h=>h.aK.tail) ?_
    refine XA.dR 7 rfl rfl rfl (by decide) (iH rfl) (by kernel_rfl) (fun _ _ _ h=>h) (fun _ h=>h.aK.tail) ?_
    refine XA.dR 8 rfl rfl rfl (by decide) (yX rfl rfl) (by kernel_rfl) (fun _ _ _ h=>h) (fun _ h=>h.aK.tail) ?_
    refine XA.dR 9 rfl rfl rfl (by decide) (yX rfl rfl) (by kernel_rfl) (fun _ _ _ h=>h) (fun _ h=>h.aK.tail) ?_
    refine XA.next 10 rfl (by kernel_rfl) ?_
    refine bB fun g4=>?_
    refine XK.nil ?_;refine XK.dD ?_;refine XA.back (fun _ h=>h.aK.tail.tail) ?_
    refine XA.next 11 rfl (by kernel_rfl) ?_
    refine pY rfl rfl ?_;simp only[eE,Value.cells,List.set,List.take,List.drop,List.nil_append,List.append_nil,List.length_cons,List.length_nil,List.cons_append,Nat.reduceAdd]
    refine XK.nil ?_;refine XK.dD ?_;refine XA.back (fun _ h=>h.aK.tail.tail) ?_
    refine XA.next 12 rfl (by kernel_rfl) ?_
    refine cM rfl (by decide) ?_
    refine XA.bt ?_
    refine XA.done (by kernel_rfl) ?_
    refine XK.norm ?_
    exact XK.mt g4
   ·refine bB fun g4=>?_
    refine XK.nil ?_;refine XK.dD ?_;refine XA.back (fun _ h=>h.aK.tail.tail) ?_
    refine XA.next 6 rfl (by kernel_rfl) ?_
    refine Zo (v:=.agg #[iv (dP (dI w1) (dQ w1)).n,iv (dP (dI w1) (dQ w1)).m,.int .u8 (dP (dI w1) (dQ w1)).a,.int .u8 (dP (dI w1) (dQ w1)).b,.int .u8 (dP (dI w1) (dQ w1)).c]) (et:=366) (l:=sub.reverse.map wP) Tryz.underlying368 Wa (z:=oQ 0 0 0 0 0) (by kernel_rfl) rfl (k:=(dI w1,dQ w1)) rfl (fun w2 st=>st.rP (i:=1) rfl) (Mu hsub _ _).1 (Mu hsub _ _).2 (by decide) ?_
    refine XK.nil ?_;refine XK.dD ?_;refine XA.back (fun _ h=>h.aK.tail.tail) ?_
    refine XA.dR 7 rfl rfl rfl (by decide) (iH rfl) (by kernel_rfl) (fun _ _ _ h=>h) (fun _ h=>h.aK.tail.tail) ?_
    refine XA.dR 8 rfl rfl rfl (by decide) (yX rfl rfl) (by kernel_rfl) (fun _ _ _ h=>h) (fun _ h=>h.aK.tail.tail) ?_
    refine XA.dR 9 rfl rfl rfl (by decide) (yX rfl rfl) (by kernel_rfl) (fun _ _ _ h=>h) (fun _ h=>h.aK.tail.tail) ?_
    refine XA.next 11 rfl (by kernel_rfl) ?_
    refine pY rfl rfl ?_;simp only[eE,Value.cells,List.set,List.take,List.drop,List.nil_append,List.append_nil,List.length_cons,List.length_nil,List.cons_append,Nat.reduceAdd]
    refine XK.nil ?_;refine XK.dD ?_;refine XA.back (fun _ h=>h.aK.tail.tail) ?_
    refine XA.next 12 rfl (by kernel_rfl) ?_
    refine cM rfl (by decide) ?_
    refine XA.bt ?_
    refine XA.done (by kernel_rfl) ?_
    refine XK.norm ?_
    exact XK.mt g4
  ·refine bB fun g4=>?_
   refine XK.nil ?_;refine XK.dD ?_;refine XA.back (fun _ h=>h.tail) ?_
   refine XA.next 0 rfl (by kernel_rfl) ?_
   refine fB aCk (fun w2 _=>aEE w2) ?_
   rintro _ _ q1 ⟨gm,sub,rfl,hsub,rfl⟩ _
   simp only[List.cons_append,List.nil_append]
   refine XK.nil ?_;refine XK.dD ?_;refine XA.back (fun _ h=>h.aK.tail.tail) ?_
   refine XA.next 6 rfl (by kernel_rfl) ?_
   refine Zo (v:=.agg #[iv (dP (dI w1) (dQ w1)).n,iv (dP (dI w1) (dQ w1)).m,.int .u8 (dP (dI w1) (dQ w1)).a,.int .u8 (dP (dI w1) (dQ w1)).b,.int .u8 (dP (dI w1) (dQ w1)).c]) (et:=366) (l:=sub.reverse.map wP) Tryz.underlying368 Wa (z:=oQ 0 0 0 0 0) (by kernel_rfl) rfl (k:=(dI w1,dQ w1)) rfl (fun w2 st=>st.rP (i:=0) rfl) (Mu hsub _ _).1 (Mu hsub _ _).2 (by decide) ?_
   refine XK.nil ?_;refine XK.dD ?_;refine XA.back (fun _ h=>h.aK.tail.tail) ?_
   refine XA.dR 7 rfl rfl rfl (by decide) (iH rfl) (by kernel_rfl) (fun _ _ _ h=>h) (fun _ h=>h.aK.tail.tail) ?_
   refine XA.dR 8 rfl rfl rfl (by decide) (yX rfl rfl) (by kernel_rfl) (fun _ _ _ h=>h) (fun _ h=>h.aK.tail.tail) ?_
   refine XA.dR 9 rfl rfl rfl (by decide) (yX rfl rfl) (by kernel_rfl) (fun _ _ _ h=>h) (fun _ h=>h.aK.tail.tail) ?_
   refine XA.next 11 rfl (by kernel_rfl) ?_
   refine pY rfl rfl ?_;simp only[eE,Value.cells,List.set,List.take,List.drop,List.nil_append,List.append_nil,List.length_cons,List.length_nil,List.cons_append,Nat.reduceAdd]
   refine XK.nil ?_;refine XK.dD ?_;refine XA.back (fun _ h=>h.aK.tail.tail) ?_
   refine XA.next 12 rfl (by kernel_rfl) ?_
   refine cM rfl (by decide) ?_
   refine XA.bt ?_
   refine XA.done (by kernel_rfl) ?_
   refine XK.norm ?_
   exact XK.mt g4
 obtain⟨pM,Fq,hF3,hF4,hF5⟩:=aEC (dI w1) (dQ w1)
 refine XK.gw ?_
 cases h7:(rZ (dI w1) (dQ w1)).isSome
 ·refine XK.gw ?_
  (refine XK.mK ?_;rw[eK,if_neg h4,if_pos h7];rfl)
 have h7':¬(rZ (dI w1) (dQ w1)).isSome=false:=by rw[h7];simp
 refine XK.gw ?_
 refine XK.if_ rfl (fun h9=>?_) (fun h9=>?_)
 ·refine XK.gw ?_
  (refine XK.mK ?_;rw[eK,if_neg h4,if_neg h7',if_pos (by omega)];rfl)
 have h9':¬(r.length:Int)≠(dP (dI w1) (dQ w1)).n:=by omega
 refine XK.gw ?_
 refine XK.if_ rfl (fun h11=>?_) (fun h11=>?_)
 ·refine XK.gw ?_
  (refine XK.mK ?_;rw[eK,if_neg h4,if_neg h7',if_neg h9',if_pos h11];rfl)
 obtain⟨id,hid⟩:∃x,r[0]? =some x:=⟨r[0]'(by omega),List.getElem?_eq_getElem _⟩
 obtain⟨v,hv⟩:∃x,r[(dP (dI w1) (dQ w1)).n.toNat - 1]? =some x:=⟨r[(dP (dI w1) (dQ w1)).n.toNat - 1]'(by omega),List.getElem?_eq_getElem _⟩
 have aKW:r.getD 0 0=id:=by rw[List.getD_eq_getElem?_getD,hid];rfl
 have hv':r.getD ((dP (dI w1) (dQ w1)).n.toNat - 1) 0=v:=by rw[List.getD_eq_getElem?_getD,hv];rfl
 have aPk:=hu id (List.mem_cons_of_mem _ (List.mem_of_getElem? hid))
 have Sd:=hu v (List.mem_cons_of_mem _ (List.mem_of_getElem? hv))
 have aPj:=hcell 1 id (by simpa using hid)
 have Ry:=hcell (dP (dI w1) (dQ w1)).n.toNat v (by
  obtain⟨t,ht⟩:∃t,(dP (dI w1) (dQ w1)).n.toNat=t+1:=⟨(dP (dI w1) (dQ w1)).n.toNat - 1,by omega⟩
  rw[ht] at hv⊢;simpa using hv)
 have hread:eK s (w1::r)=Dn s (dI w1) (dP (dI w1) (dQ w1)) id v:=by rw[eK,if_neg h4,if_neg h7',if_neg h9',if_neg h11,aKW,hv']
 refine XK.gw ?_
 refine aJ (fun w2 st=>aJN s A1 A2 A3 A4 n1 k1 n2 k2 n3 k3 n4 k4 (dI w1) w2 hS) ?_
 refine XK.gw ?_
 refine XK.if_ rfl (fun wO=>?_) (fun wO=>?_)
 ·refine XK.gw ?_
  (refine XK.mK ?_;rw[hread,Dn,if_pos wO];rfl)
 refine XK.gw ?_
 refine XK.if_ rfl (fun tE=>?_) (fun tE=>?_)
 ·refine XK.gw ?_
  (refine XK.mK ?_;rw[hread,Dn,if_neg wO,if_pos tE];rfl)
 refine XK.gw ?_
 refine XK.if_ rfl (fun Sj=>?_) (fun Sj=>?_)
 ·refine XK.gw ?_
  (refine XK.mK ?_;rw[hread,Dn,if_neg wO,if_neg tE,if_pos Sj];rfl)
 have hact:([iv (dP (dI w1) (dQ w1)).n,iv (dP (dI w1) (dQ w1)).m,.int .u8 (dP (dI w1) (dQ w1)).a,.int .u8 (dP (dI w1) (dQ w1)).b,.int .u8 (dP (dI w1) (dQ w1)).c]:List Value)[2+v.toNat]? =some (.int .u8 ((dP (dI w1) (dQ w1)).act v)):=by
  unfold lE.act
  rcases(by omega:v=0∨v=1∨v=2) with rfl | rfl | rfl<;>rfl
 have aKR:=hF4 v Sd.1 (by omega)
 generalize hk:(dP (dI w1) (dQ w1)).act v=k at *
 refine XK.gw ?_
 refine kd (aX rfl (Rd.aB 0 rfl hact)) ?_
 refine XK.gw ?_
 refine bB fun g5=>?_
 refine lM 0 rfl ?_
 dsimp only[List.set]
 refine XK.aY ?_
 refine XK.ct (α:=Unit) (fun _=>[(12,pt g5),(5,pt g2)]) (fun _=>[HP.aB g5 136 [.int .u8 k,iv id],HP.aB g2 136 [.int .u8 0,iv 0]]) (fun _=>¬La s (dI w1) k id.toNat) ?_ fun _ jN=>?_
 ·refine XK.gw ?_
  refine aW (t:=91) rfl (fun hg=>?_) (fun hg=>?_)
  ·have hp:=aKR hg
   obtain⟨dm,qM⟩:∃d,s.domains[id.toNat]? =some d:=⟨s.domains[id.toNat]'(by rw[hp] at wO;simp only[xY,if_true] at wO;omega),List.getElem?_eq_getElem _⟩
   obtain⟨bD,oD,rD,rfl,_,rfl,hRD⟩:=hS.dom.row qM
   have Xe:Po s id.toNat=dm.ret:=by rw[Po,qM];rfl
   have hlD:=hS.kY
   have aPa:=(List.getElem?_eq_some_iff.1 qM).1
   have It:=hRD.at_ (j:=2) rfl
   cases hr:dm.ret
   all_goals
    rw[hr] at It Xe
    refine XK.gw ?_
   ·(refine XK.mK ?_;rw[hread,Dn,if_neg wO,if_neg tE,if_neg Sj,hk,if_pos (.inl ⟨hg,Xe⟩)];rfl)
   ·refine aW (t:=104) rfl (fun uT=>by omega) (fun uT=>?_)
    refine XK.gw ?_
    exact XK.mt () (hg:=fun h=>by simp_all [La])
  ·refine XK.gw ?_
   refine aW (t:=104) rfl (fun hp=>?_) (fun hp=>?_)
   ·obtain⟨ck,yM⟩:∃d,s.aD[id.toNat]? =some d:=⟨s.aD[id.toNat]'(by rw[hp] at wO;simp only[xY,if_true] at wO;simp at wO;omega),List.getElem?_eq_getElem _⟩
    obtain⟨bC,oC,rC,rfl,_,⟨cA,cn,aPp,rfl,_⟩,hC⟩:=hS.qP.row yM
    have aKU:kindOf s id.toNat=ck.kind:=by rw[kindOf,yM];rfl
    have hlC:=hS.kL
    have aPb:=(List.getElem?_eq_some_iff.1 yM).1
    refine XK.gw ?_
    refine aJ (fun w2 st=>aHj ck.kind _ _ _ _ _ _ _ w2) ?_
    by_cases zY:ck.kind=112∨ck.kind=103
    ·rw[decide_eq_true zY]
     refine XK.gw ?_
     exact XK.mt () (hg:=fun h=>by simp_all [La,Vc])
    ·rw[decide_eq_false zY]
     refine XK.gw ?_
     (refine XK.mK ?_;rw[hread,Dn,if_neg wO,if_neg tE,if_neg Sj,hk,if_pos (.inr ⟨hp,fun hc=>zY (by rw[←aKU];exact hc)⟩)];rfl)
   ·refine XK.gw ?_
    exact XK.mt () (hg:=fun h=>by simp_all [La])
 refine XK.gw ?_
 refine XK.dw [2] ?_
 refine XK.gw ?_
 (refine XK.mK ?_;rw[hread,Dn,if_neg wO,if_neg tE,if_neg Sj,hk,if_neg jN];rfl)
end
section
set_option maxHeartbeats 4000000
set_option maxRecDepth 20000
def Ds(l:List Nat)(v:Value)(w w':World):Prop:=∃A c,v=.slice A l.length c∧aE (fresh w w') 1 A l.length (aG (cJ l))
theorem aJR{l:List Nat}{k i:Nat}(h:l[k]? =some i):(aG (cJ l))[k]? =some (iv (i:Int)):=by simp[aG,cJ,h]
theorem Yn(q : Piece)(s : aA)(A1 A2 A3 A4 : Option Addr)(n1 k1 n2 k2 n3 k3 n4 k4 : Nat)(c : Nat)(w : World)(lN : oX q s A1 n1 A2 n2 A3 n3 A4 n4)(hm : s.uL)(hq : q.Le (all w))(hc : c < s.aD.length) :
    Calls Tryz.prog 153 #[.agg #[.slice A1 n1 k1,.slice A2 n2 k2,.slice A3 n3 k3,.slice A4 n4 k4],iv (c:Int)] w (Ob (Ds (kQ s c)) w):=by
  obtain⟨rfl,rfl,rfl,rfl⟩:=lN.len
  refine XK.en Tryz.func153 Tryz.ntmps153 ?_
  refine XK.piece q (by simp) hq ?_
  refine XK.gw ?_
  refine aS fun g1=>?_
  refine XK.gw ?_
  refine XK.fY 3 1 ?_
  refine XK.aT [(1,iv (c:Int)),(5,sn),(2,pt g1)] ?_
  refine XK.gw ?_
  refine XK.loop (fun m e R H=>∃(cur:Nat) (l:List Nat) (A:Option Addr) (k:Nat),cur < s.aD.length∧l.length≤s.aD.length∧m=s.aD.length - l.length∧kQ s c=l++qQ s (s.aD.length - l.length) cur∧e=[(1,iv (cur:Int)),(5,.slice A l.length k),(2,pt g1)]∧R=[q,all w]∧H=[HP.own 3 1 (.slice A l.length k) l.length (aG (cJ l)),HP.aB g1 30 [.slice A1 s.aD.length k1,.slice A2 s.domains.length k2,.slice A3 s.aL.length k3,.slice A4 s.aC.length k4]]) s.aD.length ⟨c,[],none,0,hc,by simp,rfl,rfl,rfl,rfl,rfl⟩ fun m e R H hI=>?_
  obtain⟨cur,l,A,k,aLv,mM,rfl,nL,rfl,rfl,rfl⟩:=hI
  refine XK.seq ?_
  refine XK.Tq 22 (l.length < s.aD.length) ?_ ?_
  · skip
    refine XK.region ?_
    refine aR rfl (by decide) ?_
    refine aC2 rfl rfl (by decide) ?_
    refine aR rfl (by decide) ?_
    refine aW (t:=8) rfl (fun hg=>?_) (fun hg=>?_)
    ·
      refine dW rfl rfl ?_
      refine aR rfl (by decide) ?_
      refine dW rfl rfl ?_
      refine jH (off:=0) (by kernel_rfl) rfl (by decide) ?_
      refine dW rfl rfl ?_
      refine oL rfl ?_
      refine dW rfl rfl ?_
      refine pF (el:=86) (by kernel_rfl) rfl (by decide) ?_
      refine dW rfl rfl ?_
      refine xN rfl rfl (by decide) ?_
      (first | refine mH rfl rfl (by decide) ?_ | refine mI rfl rfl (by decide) ?_)
      refine aR rfl (by decide) ?_
      refine aW (t:=15) rfl (fun hg=>?_) (fun hg=>?_)
      ·
        refine dW rfl rfl ?_
        refine aR rfl (by decide) ?_
        refine dW rfl rfl ?_
        refine pF (el:=3) (by kernel_rfl) rfl (by decide) ?_
        refine dW rfl rfl ?_
        refine jH (off:=0) (by kernel_rfl) rfl (by decide) ?_
        refine dW rfl rfl ?_
        refine oL rfl ?_
        refine dW rfl rfl ?_
        refine pF (el:=86) (by kernel_rfl) rfl (by decide) ?_
        refine dW rfl rfl ?_
        refine xN rfl rfl (by decide) ?_
        (first | refine mH rfl rfl (by decide) ?_ | refine mI rfl rfl (by decide) ?_)
        refine XK.aY ?_
        exact XK.Lh (by repeat (first | exact trivial | refine⟨rfl,?_⟩)) (Mt rfl (by omega))
      ·
        refine dS rfl rfl rfl (by decide) ?_
        refine dS rfl rfl rfl (by decide) ?_
        refine dS rfl rfl rfl (by decide) ?_
        refine dS rfl rfl rfl (by decide) ?_
        refine dS rfl rfl rfl (by decide) ?_
        refine dS rfl rfl rfl (by decide) ?_
        (first | refine mH rfl rfl (by decide) ?_ | refine mI rfl rfl (by decide) ?_)
        refine XK.aY ?_
        exact XK.Lh (by repeat (first | exact trivial | refine⟨rfl,?_⟩)) (Sm rfl (by omega))
    ·
      refine dS rfl rfl rfl (by decide) ?_
      refine dS rfl rfl rfl (by decide) ?_
      refine dS rfl rfl rfl (by decide) ?_
      refine dS rfl rfl rfl (by decide) ?_
      refine dS rfl rfl rfl (by decide) ?_
      (first | refine mH rfl rfl (by decide) ?_ | refine mI rfl rfl (by decide) ?_)
      refine aR rfl (by decide) ?_
      refine dS rfl rfl rfl (by decide) ?_
      refine dS rfl rfl rfl (by decide) ?_
      refine dS rfl rfl rfl (by decide) ?_
      refine dS rfl rfl rfl (by decide) ?_
      refine dS rfl rfl rfl (by decide) ?_
      refine dS rfl rfl rfl (by decide) ?_
      (first | refine mH rfl rfl (by decide) ?_ | refine mI rfl rfl (by decide) ?_)
      refine XK.aY ?_
      exact XK.Lh (by repeat (first | exact trivial | refine⟨rfl,?_⟩)) (Sm rfl (by omega))
  refine XK.if_ rfl (fun h=>?_) (fun h=>?_)
  ·
    refine XK.gw ?_
    have hlt:l.length < s.aD.length:=h
    obtain⟨x,hx⟩:∃x,s.aD[cur]? =some x:=⟨_,List.getElem?_eq_getElem aLv⟩
    obtain⟨k0,hk0⟩:∃k0,s.aD.length - l.length=k0+1:=⟨s.aD.length - l.length - 1,by omega⟩
    rw[hk0,aNV hx] at nL
    have hn9:=hm.nc
    have hfit:=(hm.aD cur x hx).1
    refine XK.gw ?_
    refine dF fun g2=>?_
    refine fG 1 1 8 1 (n':=l.length+1) (el:=3) (by kernel_rfl) (by kernel_rfl) (by decide) rfl rfl rfl (kX 0 rfl rfl) (by simp[Value.oneCell']) rfl (by omega) (by omega) (by decide) fun A' k'=>?_
    dsimp only[List.set]
    rw[show aG (cJ l)++[Value.int .i64 (cur:Int)]=aG (cJ (l++[cur])) by simp[aG,cJ]]
    refine XK.weak [1,2] rfl (by decide) (R':=[q,all w]) (by simp) ?_
    refine cM rfl (by decide) ?_
    refine XK.aY ?_
    refine XK.seq ?_
    refine XK.seq ?_
    obtain⟨bC,oC,rC,rfl,Wo,_,hR,Xv⟩:=lN.qP.vY hx
    obtain⟨As,ns,ks,rfl,rfl,Ey⟩:=hR
    refine XK.region ?_
    refine jH (off:=0) (by kernel_rfl) rfl (by decide) ?_
    refine oL rfl ?_
    refine aR rfl (by decide) ?_
    refine kd (dat (cur) (oC+cur*6)) ?_
    refine jH (off:=1) (by kernel_rfl) rfl (by decide) ?_
    refine fX (by kernel_rfl) rfl (Rd.ro (p:=q) (by simp) Wo (Xv 1 _ rfl)) (by decide) ?_
    refine pF (el:=3) (by kernel_rfl) rfl (by decide) ?_
    refine Zp rfl rfl (by decide) ?_
    refine XK.aY ?_
    refine XK.if_ rfl (fun h0=>?_) (fun h0=>?_)
    ·
      refine XK.gw ?_
      have hs0:x.src=[]:=List.eq_nil_of_length_eq_zero (by have:((x.src.length:Nat):Int)=0:=h0;omega)
      rw[hs0] at nL
      have yG:(l++[cur])=kQ s c:=nL.symm
      refine XK.still [] [0] [] (by simp) rfl (by decide) (by decide) fun qf Rc _ hfr=>?_
      obtain⟨Ff,sf,zf⟩:=Rc 0 _ (by simp) rfl
      obtain⟨Av,cv,hv,rU⟩:=aE.oA (Y:=qf.Z) sf zf
      exact XK.jQ rfl rfl fun w1 st=>⟨⟨_,rfl,by
        rw[←yG]
        unfold Ds
        rw[hv]
        exact⟨Av,cv,by simp,by simpa using aE.le rU (st.jD (by simp) (hfr (by simp) (by simp)))⟩⟩,st.below (by simp)⟩
    ·
      refine XK.skip ?_
      refine XK.norm ?_
      obtain⟨f,fs,hs0⟩:∃f fs,x.src=f::fs:=by
        cases hs0:x.src with
        | nil=>exact absurd (by rw[hs0];rfl) h0
        | cons f fs=>exact⟨f,fs,rfl⟩
      have hf:=hfit f (by rw[hs0];simp)
      obtain⟨f',rfl⟩:∃f':Nat,f=(f':Int):=⟨f.toNat,by omega⟩
      rw[hs0] at nL
      obtain⟨bS,oS,rfl,hzS,hcS⟩:=Ey.2 (by rw[hs0];simp)
      refine XK.region ?_
      refine jH (off:=0) (by kernel_rfl) rfl (by decide) ?_
      refine oL rfl ?_
      refine aR rfl (by decide) ?_
      refine kd (dat (cur) (oC+cur*6)) ?_
      refine jH (off:=1) (by kernel_rfl) rfl (by decide) ?_
      refine fX (by kernel_rfl) rfl (Rd.ro (p:=q) (by simp) Wo (Xv 1 _ rfl)) (by decide) ?_
      refine aG5 0 oS (el:=3) (sz:=1) (by kernel_rfl) (by kernel_rfl) rfl rfl rfl (by rw[hs0];simp) (by omega) (by decide) ?_
      refine fX (by kernel_rfl) rfl (Rd.ro (p:=q) (by simp) hzS (hcS 0 _ (by rw[hs0];rfl))) (by decide) ?_
      refine XK.gw ?_
      exact XK.aT [(1,iv (f':Int)),(5,.slice A' (l.length+1) k'),(2,pt g1)] (XK.round (s.aD.length - (l.length+1)) (by omega) ⟨f',l++[cur],A',k',by omega,by simp;omega,by simp,by rw[nL];simp[show s.aD.length - (l.length+1)=k0 by omega],by simp,rfl,by simp⟩)
  ·
    refine XK.gw ?_
    have hge:¬l.length < s.aD.length:=h
    rw[show s.aD.length - l.length=0 by omega] at nL
    have yG:l=kQ s c:=by rw[nL];simp[qQ]
    refine XK.still [] [0] [] (by simp) rfl (by decide) (by decide) fun qf Rc _ hfr=>?_
    obtain⟨Ff,sf,zf⟩:=Rc 0 _ (by simp) rfl
    obtain⟨Av,cv,hv,rU⟩:=aE.oA (Y:=qf.Z) sf zf
    exact XK.jQ rfl rfl fun w1 st=>⟨⟨_,rfl,by
      rw[←yG]
      unfold Ds
      rw[hv]
      exact⟨Av,cv,rfl,aE.le rU (st.jD (by simp) (hfr (by simp) (by simp)))⟩⟩,st.below (by simp)⟩
 in
end
section
set_option maxHeartbeats 4000000
set_option maxRecDepth 20000
def Hv(l:List Int)(x:Int):Int:=if x∈l then(l.idxOf x:Int) else -1
theorem aKE{l:List Int}{x:Int}{i:Nat}(hno:∀j y,j < i→l[j]? =some y→y≠x)(h:l[i]? =some x):Hv l x=i:=by
 have hm:x∈l:=List.mem_of_getElem? h
 rw[Hv,if_pos hm]
 have h2:l.idxOf x=i:=by
  induction l generalizing i with
  | nil=>simp at h
  | cons a r ih =>
   cases i with
   | zero=>simp at h;subst h;simp
   | succ i=>
    have ha:a≠x:=hno 0 a (by omega) rfl
    simp at h
    have hmr:x∈r:=List.mem_of_getElem? h
    have hi:=ih (fun j y hj hy=>hno (j+1) y (by omega) (by simpa using hy)) h hmr
    have hb:(a==x)=false:=by simpa using ha
    rw[List.idxOf_cons,hb]
    simp[hi]
 rw[h2]
theorem aKC{l:List Int}{x:Int}(hno:∀(j:Nat) (y:Int),l[j]? =some y→y≠x):Hv l x= -1:=by
 rw[Hv,if_neg]
 intro hm
 obtain⟨j,hj⟩:=List.getElem?_of_mem hm
 exact hno j x hj rfl
theorem aKD(l:List Int)(x:Int):decide (0≤Hv l x)=decide (x∈l):=by
 unfold Hv
 by_cases h:x∈l<;>simp[h]
def wV(s:aA)(c id:Int):Bool:=decide (id∈cJ (kQ s c.toNat))
def yC(s:aA)(k id:Int)(d:bK):Bool:=
 if k=100∨k=107 then decide (d.domain=id) else if k=111 then wV s d.clock id else if k=97 then decide (d.reset=id) else false
def Dl(s:aA)(wt:List Int)(k id:Int)(i:Nat):Bool:=decide (0 < (wt[i]?).getD 0)&&((s.aC[i]?).any fun d=>yC s k id d)
def Jn(s:aA)(wt:List Int)(k id:Int):Bool:=(List.range s.aC.length).any (Dl s wt k id)
theorem Yq{s:aA}{wt:List Int}{k id:Int}{i:Nat}(hi:i < s.aC.length)(h:Dl s wt k id i=true):Jn s wt k id=true:=by
 rw[Jn,List.any_eq_true];exact⟨i,List.mem_range.2 hi,h⟩
theorem aOg{s:aA}{wt:List Int}{k id:Int}(h:∀i,i < s.aC.length→Dl s wt k id i=false):Jn s wt k id=false:=by
 rw[Jn,List.any_eq_false];intro i hi;simp[h i (List.mem_range.1 hi)]
def Cr(s:aA)(x y:dJ)(k id:Int)(i:Nat):Bool:=
 if k=100∨k=107 then((s.domains[i]?).any fun d=>decide (d.above=id))&&rJ x y k i
 else decide ((i:Int)≠id)&&(rJ x y k i&&wV s i id)
def Fp(s:aA)(k:Int):Nat:=if k=100∨k=107 then s.domains.length else if k=111 then s.aD.length else 0
def Mq(s:aA)(x y:dJ)(k id:Int):Bool:=(List.range (Fp s k)).any (Cr s x y k id)
theorem aE8{s:aA}{x y:dJ}{k id:Int}{i:Nat}(hi:i < Fp s k)(h:Cr s x y k id i=true):Mq s x y k id=true:=by
 rw[Mq,List.any_eq_true];exact⟨i,List.mem_range.2 hi,h⟩
theorem aBt{s:aA}{x y:dJ}{k id:Int}(h:∀i,i < Fp s k→Cr s x y k id i=false):Mq s x y k id=false:=by
 rw[Mq,List.any_eq_false];intro i hi;simp[h i (List.mem_range.1 hi)]
def Nj(s:aA)(x y:dJ)(ag:Nat)(k id:Int):Bool:=rK (if ag=0 then y else x) k id||Mq s x y k id
def mY(s:aA)(x y:dJ)(wt:List Int)(ag:Nat)(l:List Int):Int×Int×Int:=
 if(eK s l).1≠0∨(eK s l).2.1=0∨rK (if ag=0 then x else y) (eK s l).2.1 (eK s l).2.2=decide (iM (eK s l).2.1) then((eK s l).1,0,0)
 else if iM (eK s l).2.1 then
  (if(eK s l).2.1=117∧(s.domains[(eK s l).2.2.toNat]?).any (fun d=>decide (d.above≠ -1)&& !rJ x y 117 d.above)=true then(-3,0,0) else(0,(eK s l).2))
 else if Nj s x y ag (eK s l).2.1 (eK s l).2.2 then(-3,0,0)
 else if Jn s wt (eK s l).2.1 (eK s l).2.2 then(-6,0,0)
 else(0,(eK s l).2)
def Lu(k:Int):Int:=if k=117∨k=100∨k=107 then 17 else if k=99∨k=111 then 20 else 22
def Qq(k:Int):Prop:=k=117∨k=100∨k=107∨k=99∨k=111∨k=114∨k=97
theorem aLL(p m:Int)(v:Int)(h0:0≤v)(hv:v < (dP p m).m):Lu ((dP p m).act v)=p∧Qq ((dP p m).act v):=by
 have h1:∀f:lE,rZ p m=some f→v < f.m→Lu (f.act v)=p∧Qq (f.act v):=by
  intro f hf hv
  unfold rZ at hf
  have hv3:f.m≤3:=by
   have:=(aEC p m).2.2.1
   unfold dP rZ at this
   rw[hf] at this
   exact this
  rcases(by omega:v=0∨v=1∨v=2) with rfl | rfl | rfl<;>
  ·repeat' split at hf
   all_goals first
    | (cases hf;done)
    | (cases hf;simp at hv;done)
    | (cases hf;simp_all [Lu,Qq,lE.act])
 unfold dP at hv⊢
 cases h:rZ p m with
 | none=>rw[h] at hv;simp at hv;omega
 | some f=>rw[h] at hv;exact h1 f h hv
theorem aDs{s : aA}{l : List Int}(hu : vF l) : ((eK s l).2.1 = 0 ∧ (eK s l).2.2 = 0) ∨ ((eK s l).1 = 0 ∧ Qq (eK s l).2.1 ∧ 0 ≤ (eK s l).2.2 ∧ (eK s l).2.2 < (xY s (Lu (eK s l).2.1) : Int) ∧
  ((eK s l).2.1=107→Po s (eK s l).2.2.toNat=true)∧(Lu (eK s l).2.1=20→Vc s (eK s l).2.2.toNat)):=by
 unfold eK
 split
 ·exact .inl ⟨rfl,rfl⟩
 ·rename_i w r
  split
  ·exact .inl ⟨rfl,rfl⟩
  ·split
   ·exact .inl ⟨rfl,rfl⟩
   ·split
    ·exact .inl ⟨rfl,rfl⟩
    ·split
     ·exact .inl ⟨rfl,rfl⟩
     ·have hd : ∀ i, 0 ≤ r.getD i 0 := fun i => by
       rw[List.getD_eq_getElem?_getD]
       cases hi:r[i]? with
       | none=>exact Int.le_refl _
       | some x=>exact(hu x (List.mem_cons_of_mem _ (List.mem_of_getElem? hi))).1
      have hid:=hd 0
      have hv:=hd ((dP (dI w) (dQ w)).n.toNat - 1)
      generalize r.getD 0 0=id at *
      generalize r.getD ((dP (dI w) (dQ w)).n.toNat - 1) 0=v at *
      unfold Dn
      split
      ·exact .inl ⟨rfl,rfl⟩
      ·split
       ·exact .inl ⟨rfl,rfl⟩
       ·split
        ·exact .inl ⟨rfl,rfl⟩
        ·split
         ·exact .inl ⟨rfl,rfl⟩
         ·rename_i h1 h2 h3 h4
          obtain⟨a1,a2⟩:=aLL (dI w) (dQ w) v hv (by omega)
          refine .inr ⟨rfl,a2,hid,by dsimp only;rw[a1];omega,fun h5=>?_,fun h5=>?_⟩
          ·dsimp only at h5⊢
           cases hr:Po s id.toNat with
           | true=>rfl
           | false=>exact absurd (.inl ⟨h5,hr⟩) h4
          ·dsimp only at h5⊢
           rw[a1] at h5
           exact Decidable.byContradiction fun hs=>h4 (.inr ⟨h5,hs⟩)
theorem aE.int{w:World}{A:Option Addr}{n:Nat}{l:List Int}(h:aE (all w) 1 A n (aG l))(hn:0 < n):∃b off,A=some ⟨b,off,none⟩∧∀(i:Nat) (x:Int),l[i]? =some x→eS w b (off+i) (iv x):=by
 obtain⟨b,off,hA,hb,hc⟩:=h.2 hn
 refine⟨b,off,hA,fun i x hx=>⟨hb,hc i _ ?_⟩⟩
 simp only[aG,List.getElem?_map,hx,Option.map_some]
end
section
set_option maxHeartbeats 4000000
set_option maxRecDepth 20000
section
variable{N:bO}{w0:World}{e e':Env}{R R' R0:List Piece}{H H' H0:List HP}{fuel:Nat}{listed:Array Bool}{Q:Exit→Act→World→Prop}
def Un(ops:Array Oper):List Nat:=(List.range ops.size).filter fun i=>match ops[i]? with
 | some o=>Vp o.op||(o.guard.isSome&&aCL o.op)
 | none=>false
theorem XK.dy{id:Nat}{l:List Oper}(k:XB Tryz.prog N w0 l.toArray Q R H (Un l.toArray) fuel listed e' R' H')(hk:XB Tryz.prog N w0 l.toArray Q R H (Un l.toArray) fuel listed e' R' H'→XL 0 N w0 l.toArray Q R H (Un l.toArray) l.length (Array.replicate l.length false) e R H:=by
  intro h
  repeat (first | refine XL.mo ?_ | refine XL.q ?_ | refine XL.qT ?_ | refine XL.qF ?_ | refine XL.qU ?_ | refine XL.s ?_ | refine XL.fi ?_)
  exact h)(hm:Tryz.prog.follows .mixedOrders=true:=by kernel_rfl)(hs:Region.noSelect l.toArray=true:=by kernel_rfl):XK N w0 ((Code.region id l.toArray true).wp Tryz.prog Q) e R H:=XK.eU (Un l.toArray) (hk k) hm hs
theorem XB.spl{ops:Array Oper}{Z:List Nat}{p:Prop}[Decidable p](t:Nat)(ht:e.get t=some (.bool (decide p)))(h1:p→XB Tryz.prog N w0 ops Q R0 H0 Z fuel listed ((t,.bool true)::e) R H)(h2:¬p→XB Tryz.prog N w0 ops Q R0 H0 Z fuel listed ((t,.bool false)::e) R H):XB Tryz.prog N w0 ops Q R0 H0 Z fuel listed e R H:=by
 intro up a w hr st
 by_cases hp:p
 ·rw[decide_eq_true hp] at ht
  exact h1 hp up a w (hr.as ht) st
 ·rw[decide_eq_false hp] at ht
  exact h2 hp up a w (hr.as ht) st
theorem XB.gF{ops:Array Oper}{Z:List Nat}{d j t:Nat}{op:Op}{ty:TypeId}{pos:String}{aF:Array Edge}{want b:Bool}(i:Nat)(k:XB Tryz.prog N w0 ops Q R0 H0 Z fuel (listed.setIfInBounds i true) ((d,undef)::e) R H)(hr:Region.ready .any ops listed=[i]:=by decide+kernel)(hi:ops[i]? =some ⟨some d,op,ty,pos,aF,some (j,want)⟩:=by rfl)(hj:(ops[j]?).bind (·.dst)=some t:=by rfl)(ht:e.get t=some (.bool b):=by rfl)(hb:b= !want:=by rfl)(hd:d < N.n:=by decide)(hS:∀w,St w0 R H w→St w0 R0 H0 w:=by exact fun _ h=>h):XB Tryz.prog N w0 ops Q R0 H0 Z (fuel+1) listed e R H:=
 XB.nx i (dS hj ht hb hd (XB.bk k hS)) hr hi
theorem XK.lq{P:Program}{c:Code}(E:Nat→Env)(n:Nat)(hr:∀i,i≤n→XK N w0 (c.wp P (Exit.then (LpK (α:=Unit) N w0 n (fun i _=>E i) R (fun _ _=>H) (fun _ _=>True) i) Q)) (E i) R H)(hE:(E 0).Sub e:=by repeat (first | exact trivial | refine⟨rfl,?_⟩))(hC:gL [] H H:=by exact gL.auto):XK N w0 ((Code.loop c).wp P Q) e R H:=
 XK.lp (α:=Unit) (fun i _=>E i) (fun _ _=>H) (fun _ _=>True) n () trivial (fun i _ hi _=>hr i hi) hE hC
end
end
section
set_option maxHeartbeats 4000000
set_option maxRecDepth 20000
theorem aKA(A:Option Addr)(n c:Nat)(l:List Int)(x:Int)(w:World)(hs:aE (all w) 1 A n (aG l))(hn:n=l.length)(hn2:n≤1000000):
  Calls Tryz.prog 238 #[.slice A n c,iv x] w (Rt (iv (Hv l x)) w):=by
 refine XK.en Tryz.func238 Tryz.ntmps238 ?_
 refine XK.gw ?_
 refine XK.aT [(8,iv 0),(7,iv n),(1,iv x),(0,.slice A n c)] ?_
 refine XK.gw ?_
 refine XK.loop (fun m e R H=>∃(i:Nat),i≤n∧m=n - i∧(∀(j:Nat) (y:Int),j < i→l[j]? =some y→y≠x)∧e=[(8,iv i),(7,iv n),(1,iv x),(0,.slice A n c)]∧R=[all w]∧H=[]) n ⟨0,by omega,rfl,(fun j y hj=>absurd hj (Nat.not_lt_zero j)),rfl,rfl,rfl⟩ fun m e R H hI=>?_
 obtain⟨i,hi,rfl,hno,rfl,rfl,rfl⟩:=hI
 refine XK.gw ?_
 refine XK.if_ rfl (fun h=>?_) (fun h=>?_)
 ·
  refine XK.gw ?_
  have hil:i < n:=by have h':(i:Int) < (n:Int):=h;omega
  obtain⟨y,hy⟩:∃y,l[i]? =some y:=⟨l[i]'(by omega),List.getElem?_eq_getElem _⟩
  obtain⟨b,off,rfl,hc⟩:=hs.int (by omega)
  have Fj:=hc i y hy
  refine XK.gw ?_
  refine XK.if_ rfl (fun h2=>?_) (fun h2=>?_)
  ·
   refine XK.gw ?_
   exact XK.rX (h:=fun _ _=>by rw[aKE (i:=i) hno (h2▸hy)])
  ·
   refine XK.gw ?_
   exact XK.rd (n - (i+1)) ⟨i+1,by omega,rfl,(fun j y' hj hy'=>by
    rcases Nat.lt_or_ge j i with h1 | h1
    ·exact hno j y' h1 hy'
    ·have hji:j=i:=by omega
     subst hji
     rw[hy] at hy'
     cases hy'
     exact fun h=>h2 h.symm),rfl,rfl,rfl⟩
 ·
  refine XK.gw ?_
  have hin:i=n:=by have h':¬(i:Int) < (n:Int):=h;omega
  subst hin
  exact XK.rX (h:=fun _ _=>by rw[aKC (fun j y hy=>hno j y (by have:=(List.getElem?_eq_some_iff.1 hy).1;omega) hy)])
theorem aFo(A:Option Addr)(n c:Nat)(l:List Int)(x:Int)(w:World)(hs:aE (all w) 1 A n (aG l))(hn:n=l.length)(hn2:n≤1000000):
  Calls Tryz.prog 222 #[.slice A n c,iv x] w (Rt (.bool (decide (x∈l))) w):=by
 refine XK.en Tryz.func222 Tryz.ntmps222 ?_
 refine XK.gw ?_
 refine cG (fun w1 st=>aKA A n c l x w1 (hs.le (st.le (by simp))) hn hn2) ?_
 refine XK.gw ?_
 exact XK.rX (h:=fun _ _=>by rw[←aKD])
theorem aOf(q:Piece)(s:aA)(A1 A2 A3 A4:Option Addr)(n1 k1 n2 k2 n3 k3 n4 k4:Nat)(Aw:Option Addr)(nw cw:Nat)(wt:List Int)(k id:Int)(w:World)(lN:oX q s A1 n1 A2 n2 A3 n3 A4 n4)(hm:s.uL)(hq:q.Le (all w))(hw:aE (all w) 1 Aw nw (aG wt))(hnw:nw=wt.length):
  Calls Tryz.prog 170 #[.agg #[.slice A1 n1 k1,.slice A2 n2 k2,.slice A3 n3 k3,.slice A4 n4 k4],.slice Aw nw cw,.agg #[.int .u8 k,iv id]] w (Rt (.bool (Jn s wt k id)) w):=by
 obtain⟨rfl,rfl,rfl,rfl⟩:=lN.len
 refine XK.en Tryz.func170 Tryz.ntmps170 ?_
 refine XK.piece q (by simp) hq ?_
 refine XK.gw ?_
 refine aS fun g1=>?_
 refine XK.gw ?_
 refine aS fun g2=>?_
 refine XK.gw ?_
 refine XK.cb (α:=Unit) (fun _=>[]) (fun _=>[]) (fun _=>∀j,j < s.aC.length→Dl s wt k id j=false) ?_ fun _ hno=>?_
 ·refine XK.lp (α:=Unit) (fun i _=>[(12,iv i),(11,iv s.aC.length),(10,.slice A4 s.aC.length k4),(5,pt g2),(3,pt g1),(1,.slice Aw nw cw)]) (fun _ _=>[HP.aB g2 136 [.int .u8 k,iv id],HP.aB g1 30 [.slice A1 s.aD.length k1,.slice A2 s.domains.length k2,.slice A3 s.aL.length k3,.slice A4 s.aC.length k4]]) (fun i _=>∀j,j < i→Dl s wt k id j=false) s.aC.length () (fun j hj=>absurd hj (Nat.not_lt_zero j)) fun i _ hi hno=>?_
  have Io:Dl s wt k id i=false→∀j,j < i+1→Dl s wt k id j=false:=fun h j hj=>by
   rcases(by omega:j < i∨j=i) with hj | rfl
   ·exact hno j hj
   ·exact h
  have hnc:=hm.nc
  have hnd:=hm.nd
  have lD:=hm.nv
  refine XK.gw ?_
  refine XK.if_ rfl (fun h=>?_) (fun h=>?_)
  ·have hil:i < s.aC.length:=by omega
   obtain⟨d,hd⟩:=get_some hil
   obtain⟨hx1,rQ,hx3,Wt,hx5,hx6,_⟩:=hm.aC i d hd
   obtain⟨bV,oV,rV,rfl,hzV,_,hR,Sb⟩:=lN.dev.vY hd
   obtain⟨Ar,nr,kr,An,nn,kn,rfl,_⟩:=hR
   obtain⟨xc,Ws⟩:∃xc:Nat,d.clock=(xc:Int):=⟨d.clock.toNat,by omega⟩
   rw[Ws] at Sb
   have hk:=cZ.le hzV Sb hq
   have uS:Dl s wt k id i=(decide (0 < (wt[i]?).getD 0)&&yC s k id d):=by rw[Dl,hd];rfl
   refine XK.gw ?_
   refine bB fun g3=>?_
   refine XK.gw ?_
   refine aW (t:=21) rfl (fun h2=>?_) (fun h2=>?_)
   ·refine XK.gw ?_
    exact XK.ag () (hg:=Io (by rw[uS,List.getElem?_eq_none (by omega)];rfl))
   obtain⟨y,hy⟩:=get_some (l:=wt) (i:=i) (by omega)
   obtain⟨bW,oW,rfl,hcW⟩:=hw.int (by omega)
   have Fj:=hcW i y hy
   rw[hy] at uS
   refine XK.gw ?_
   refine XK.if_ rfl (fun h3=>?_) (fun h3=>?_)
   ·refine XK.gw ?_
    exact XK.ag () (hg:=Io (by rw[uS,decide_eq_false (by simpa using h3)];rfl))
   rw[decide_eq_true (show 0 < (some y).getD 0 by simpa using h3)] at uS
   refine XK.gw ?_
   refine aW (t:=30) rfl (fun hA=>?_) (fun hA=>?_)
   ·refine XK.gw ?_
    refine XK.if_ rfl (fun h4=>?_) (fun h4=>?_)
    ·refine XK.gw ?_
     exact XK.rE (by rw[Yq hil (by rw[uS];unfold yC wV;simp_all)])
    ·refine XK.gw ?_
     exact XK.ag () (hg:=Io (by rw[uS];unfold yC wV;simp_all))
   refine XK.gw ?_
   refine aW (t:=30) rfl (fun hB=>?_) (fun hB=>?_)
   ·refine XK.gw ?_
    refine XK.if_ rfl (fun h4=>?_) (fun h4=>?_)
    ·refine XK.gw ?_
     exact XK.rE (by rw[Yq hil (by rw[uS];unfold yC wV;simp_all)])
    ·refine XK.gw ?_
     exact XK.ag () (hg:=Io (by rw[uS];unfold yC wV;simp_all))
   refine XK.gw ?_
   refine aW (t:=38) rfl (fun hC=>?_) (fun hC=>?_)
   ·refine XK.gw ?_
    refine XK.dr ?_
    refine XB.nx 3 ?_
    refine gO [q] (Ds (kQ s xc)) (fun w2 st=>Yn q s _ _ _ _ _ k1 _ k2 _ k3 _ k4 xc w2 lN hm (st.le (by simp)) (by omega)) ?_
    rintro _ w2 q1 ⟨Ac,cc,rfl,nL⟩ hf hle _
    have nL:=nL.le hf
    have aLw:=Yo s s.aD.length xc
    refine XB.bk ?_ (hS:=fun _ h=>h.aK)
    refine XB.nx 6 ?_
    refine aJ (fun w3 st=>aFo Ac _ cc (cJ (kQ s xc)) id w3 (nL.le (st.le (by simp))) (by simp[cJ]) (by unfold kQ;omega)) ?_
    refine XB.bt ?_
    refine XB.fin ?_
    refine XK.gw ?_
    refine XK.if_ rfl (fun h4=>?_) (fun h4=>?_)
    ·refine XK.gw ?_
     exact XK.rE (by rw[Yq hil (by rw[uS];unfold yC wV;simp_all)])
    ·refine XK.gw ?_
     exact XK.ag () (hg:=Io (by rw[uS];unfold yC wV;simp_all))
   refine XK.gw ?_
   refine aW (t:=47) rfl (fun hD=>?_) (fun hD=>?_)
   ·refine XK.gw ?_
    refine XK.if_ rfl (fun h4=>?_) (fun h4=>?_)
    ·refine XK.gw ?_
     exact XK.rE (by rw[Yq hil (by rw[uS];unfold yC wV;simp_all)])
    ·refine XK.gw ?_
     exact XK.ag () (hg:=Io (by rw[uS];unfold yC wV;simp_all))
   refine XK.gw ?_
   exact XK.ag () (hg:=Io (by rw[uS];unfold yC wV;simp_all))
  ·refine XK.gw ?_
   exact XK.mt () (hg:=fun j hj=>hno j (by omega))
 ·refine XK.gw ?_
  exact XK.rE (by rw[aOg hno])
theorem qW.box{q:Piece}{x y:dJ}{A1 A2 A3 B1 B2 B3:Option Addr}{n1 k1 n2 k2 n3 k3 m1 l1 m2 l2 m3 l3:Nat}{w:World}{g:Nat}
  (hx:qW q x y (.agg #[.slice A1 n1 k1,.slice A2 n2 k2,.slice A3 n3 k3,.slice B1 m1 l1,.slice B2 m2 l2,.slice B3 m3 l3])) (hq:q.Le (all w)) (hg:cZ w g 0 [.slice A1 n1 k1,.slice A2 n2 k2,.slice A3 n3 k3,.slice B1 m1 l1,.slice B2 m2 l2,.slice B3 m3 l3]):StM w g x y:=by
 obtain⟨C1,j1,C2,j2,C3,j3,D1,i1,D2,i2,D3,i3,he,s1,s2,s3,s4,s5,s6⟩:=hx
 simp only[Value.agg.injEq,Array.mk.injEq,List.cons.injEq,Value.slice.injEq] at he
 obtain⟨⟨rfl,rfl,rfl⟩,⟨rfl,rfl,rfl⟩,⟨rfl,rfl,rfl⟩,⟨rfl,rfl,rfl⟩,⟨rfl,rfl,rfl⟩,⟨rfl,rfl,rfl⟩,_⟩:=he
 intro i hi
 rcases(by omega:i=0∨i=1) with rfl | rfl
 ·exact⟨A1,k1,A2,k2,A3,k3,by simpa using hg.at_ (j:=0) rfl,by simpa using hg.at_ (j:=1) rfl,by simpa using hg.at_ (j:=2) rfl,s1.le hq,s2.le hq,s3.le hq⟩
 ·exact⟨B1,l1,B2,l2,B3,l3,by simpa using hg.at_ (j:=3) rfl,by simpa using hg.at_ (j:=4) rfl,by simpa using hg.at_ (j:=5) rfl,s4.le hq,s5.le hq,s6.le hq⟩
theorem aNn(q qx:Piece)(s:aA)(A1 A2 A3 A4:Option Addr)(n1 k1 n2 k2 n3 k3 n4 k4:Nat)(X1 X2 X3 Y1 Y2 Y3:Option Addr)(xM tU xL tT xK tS xJ tQ xI tP xH tO:Nat)(x y:dJ)(ag:Nat)(k id:Int)(w:World)(lN:oX q s A1 n1 A2 n2 A3 n3 A4 n4)(hm:s.uL)(hq:q.Le (all w))(Iv:qW qx x y (.agg #[.slice X1 xM tU,.slice X2 xL tT,.slice X3 xK tS,.slice Y1 xJ tQ,.slice Y2 xI tP,.slice Y3 xH tO]))(Cj:qx.Le (all w))(hag:ag < 2):
  Calls Tryz.prog 169 #[.agg #[.slice A1 n1 k1,.slice A2 n2 k2,.slice A3 n3 k3,.slice A4 n4 k4],.agg #[.slice X1 xM tU,.slice X2 xL tT,.slice X3 xK tS,.slice Y1 xJ tQ,.slice Y2 xI tP,.slice Y3 xH tO],iv (ag:Int),.agg #[.int .u8 k,iv id]] w (Rt (.bool (Nj s x y ag k id)) w):=by
 obtain⟨rfl,rfl,rfl,rfl⟩:=lN.len
 have hnc:=hm.nc
 have hnd:=hm.nd
 have nx:∀{i:Nat} {p:Nat→Prop},(∀j,j < i→p j)→p i→∀j,j < i+1→p j:=fun {i p} h1 h2 j hj=>by
  rcases(by omega:j < i∨j=i) with hj | rfl
  ·exact h1 j hj
  ·exact h2
 refine XK.en Tryz.func169 Tryz.ntmps169 ?_
 refine XK.piece qx (by simp) Cj ?_
 refine XK.piece q (by simp) hq ?_
 refine XK.gw ?_
 refine aS fun g1=>?_
 refine XK.gw ?_
 refine aS fun g2=>?_
 refine XK.gw ?_
 refine aS fun g3=>?_
 refine XK.gw ?_
 refine XK.cb (α:=Unit) (fun _=>[(7,pt g3),(5,pt g2),(4,pt g1)]) (fun _=>[HP.aB g3 136 [.int .u8 k,iv id],HP.aB g2 130 [.slice X1 xM tU,.slice X2 xL tT,.slice X3 xK tS,.slice Y1 xJ tQ,.slice Y2 xI tP,.slice Y3 xH tO],HP.aB g1 30 [.slice A1 s.aD.length k1,.slice A2 s.domains.length k2,.slice A3 s.aL.length k3,.slice A4 s.aC.length k4]]) (fun _=>rK (if ag=0 then y else x) k id=false) ?_ fun _ aBh=>?_
 ·refine XK.lp (α:=Unit) (fun i _=>[(13,iv i),(7,pt g3),(5,pt g2),(4,pt g1),(2,iv (ag:Int))]) (fun _ _=>[HP.aB g3 136 [.int .u8 k,iv id],HP.aB g2 130 [.slice X1 xM tU,.slice X2 xL tT,.slice X3 xK tS,.slice Y1 xJ tQ,.slice Y2 xI tP,.slice Y3 xH tO],HP.aB g1 30 [.slice A1 s.aD.length k1,.slice A2 s.domains.length k2,.slice A3 s.aL.length k3,.slice A4 s.aC.length k4]]) (fun i _=>∀j:Nat,j < i→¬(j:Int)=ag→rK (if j=0 then x else y) k id=false) 2 () (fun j hj=>absurd hj (Nat.not_lt_zero j)) fun i _ hi hno=>?_
  refine XK.gw ?_
  refine XK.if_ rfl (fun h=>?_) (fun h=>?_)
  ·have hi2:i < 2:=by omega
   refine XK.gw ?_
   refine aW (t:=19) rfl (fun h1=>?_) (fun h1=>?_)
   ·refine XK.gw ?_
    refine aJ (fun w1 st=>Zw g2 i (if i=0 then x else y) k id w1 hi2 (qW.box Iv (st.le (by simp)) (st.box (i:=1) rfl) i hi2)) ?_
    cases hb:rK (if i=0 then x else y) k id
    ·refine XK.gw ?_
     exact XK.ag () (hg:=nx hno fun _=>hb)
    ·refine XK.gw ?_
     refine XK.gN (by simp) ?_
     have aBh:rK (if ag=0 then y else x) k id=true:=by
      rcases(by omega:(i=0∧ag=1)∨(i=1∧ag=0)) with⟨rfl,rfl⟩ | ⟨rfl,rfl⟩<;>simpa using hb
     rw[Nj,aBh]
     rfl
   ·refine XK.gw ?_
    exact XK.ag () (hg:=nx hno fun hc=>absurd hc h1)
  ·obtain rfl:i=2:=by omega
   refine XK.gw ?_
   refine XK.mt () (hg:=?_)
   rcases(by omega:ag=0∨ag=1) with rfl | rfl
   ·simpa using hno 1 (by omega) (by omega)
   ·simpa using hno 0 (by omega) (by omega)
 have Rw:Nj s x y ag k id=Mq s x y k id:=by rw[Nj,aBh,Bool.false_or]
 refine XK.seq ?_
 refine XK.seq ?_
 refine XK.region ?_
 refine bA ?_
 refine bA ?_
 refine XK.aY ?_
 refine XK.block ?_
 refine XK.ct (α:=Bool) (fun b=>[(30,.bool b),(29,.int .u8 k),(7,pt g3),(5,pt g2),(4,pt g1)]) (fun _=>[HP.aB g3 136 [.int .u8 k,iv id],HP.aB g2 130 [.slice X1 xM tU,.slice X2 xL tT,.slice X3 xK tS,.slice Y1 xJ tQ,.slice Y2 xI tP,.slice Y3 xH tO],HP.aB g1 30 [.slice A1 s.aD.length k1,.slice A2 s.domains.length k2,.slice A3 s.aL.length k3,.slice A4 s.aC.length k4]]) (fun b=>b=true↔k=100∨k=107) ?_ fun b hb=>?_
 ·refine XK.gw ?_
  refine aW (t:=30) rfl (fun hA=>?_) (fun hA=>?_)
  ·refine XK.gw ?_
   exact XK.mt true (hg:=by simp[hA])
  ·refine XK.gw ?_
   refine aW (t:=30) rfl (fun hB=>?_) (fun hB=>?_)
   ·exact XK.mt true (hg:=by simp[hB])
   ·exact XK.mt false (hg:=by simp[hA,hB])
 cases b
 ·have Mi:¬(k=100∨k=107):=fun hh=>by simpa using hb.2 hh
  refine XK.gw ?_
  refine aW (t:=53) rfl (fun hC=>?_) (fun hC=>?_)
  ·have Rn:Fp s k=s.aD.length:=by rw[Fp,if_neg Mi,if_pos hC]
   refine XK.gw ?_
   refine XK.lp (α:=Unit) (fun i _=>[(58,iv i),(57,iv s.aD.length),(7,pt g3),(5,pt g2),(4,pt g1)]) (fun _ _=>[HP.aB g3 136 [.int .u8 k,iv id],HP.aB g2 130 [.slice X1 xM tU,.slice X2 xL tT,.slice X3 xK tS,.slice Y1 xJ tQ,.slice Y2 xI tP,.slice Y3 xH tO],HP.aB g1 30 [.slice A1 s.aD.length k1,.slice A2 s.domains.length k2,.slice A3 s.aL.length k3,.slice A4 s.aC.length k4]]) (fun i _=>∀j,j < i→Cr s x y k id j=false) s.aD.length () (fun j hj=>absurd hj (Nat.not_lt_zero j)) fun i _ hi hno=>?_
   refine XK.gw ?_
   refine XK.if_ rfl (fun h=>?_) (fun h=>?_)
   ·have hil:i < s.aD.length:=by omega
    have eX:Cr s x y k id i=(decide ((i:Int)≠id)&&(rJ x y k i&&decide (id∈cJ (kQ s i)))):=by rw[Cr,if_neg Mi,wV,Int.toNat_natCast]
    refine XK.gw ?_
    refine XK.dy ?_
    refine XB.spl 65 rfl (fun h1=>?_) (fun h1=>?_)
    ·rw[decide_eq_true h1] at eX
     refine XB.lo 5 ?_
     refine XB.nx 8 ?_
     refine XK.gw ?_
     refine aJ (fun w1 st=>Zx g2 x y k i w1 (qW.box Iv (st.le (by simp)) (st.box (i:=1) rfl))) ?_
     cases hw:rJ x y k i
     all_goals
      rw[hw] at eX
      refine XB.bk ?_
      refine XB.lo 9 ?_
     ·refine XB.gF 13 ?_
      refine XB.lo 14 ?_
      refine XB.gF 16 ?_
      refine XB.lo 17 ?_
      refine XB.fin ?_
      refine XK.gw ?_
      exact XK.ag () (hg:=nx hno (by rw[eX];rfl))
     ·refine XB.nx 13 ?_
      refine XK.gw ?_
      refine gO [q] (Ds (kQ s i)) (fun w2 st=>Yn q s _ _ _ _ _ k1 _ k2 _ k3 _ k4 i w2 lN hm (st.le (by simp)) (by omega)) ?_
      rintro _ w2 q1 ⟨Ac,cc,rfl,nL⟩ hf hle _
      have nL:=nL.le hf
      have aLw:=Yo s s.aD.length i
      refine XB.bk ?_ (hS:=fun _ h=>h.aK)
      refine XB.nx 16 ?_
      refine XK.gw ?_
      refine aJ (fun w3 st=>aFo Ac _ cc (cJ (kQ s i)) id w3 (nL.le (st.le (by simp))) (by simp[cJ]) (by unfold kQ;omega)) ?_
      refine XB.bk ?_ (hS:=fun _ h=>h.aK)
      refine XB.qz 17 ?_
      refine XB.fin ?_
      refine XK.gw ?_
      refine XK.if_ rfl (fun h4=>?_) (fun h4=>?_)
      ·refine XK.gw ?_
       exact XK.rE (by rw[Rw,aE8 (by rw[Rn];exact hil) (by rw[eX,decide_eq_true h4];rfl)])
      ·refine XK.gw ?_
       exact XK.ag () (hg:=nx hno (by rw[eX,decide_eq_false h4];rfl))
    ·refine XB.lo 5 ?_
     refine XB.gF 8 ?_
     refine XB.lo 9 ?_
     refine XB.gF 13 ?_
     refine XB.lo 14 ?_
     refine XB.gF 16 ?_
     refine XB.lo 17 ?_
     refine XB.fin ?_
     refine XK.gw ?_
     exact XK.ag () (hg:=nx hno (by rw[eX,decide_eq_false h1];rfl))
   ·refine XK.gw ?_
    exact XK.rE (by rw[Rw,aBt (by rw[Rn];exact fun j hj=>hno j (by omega))])
  ·refine XK.gw ?_
   exact XK.rE (by rw[Rw,aBt (by rw[Fp,if_neg Mi,if_neg hC];exact fun j hj=>absurd hj (Nat.not_lt_zero j))])
 ·have Mi:k=100∨k=107:=hb.1 rfl
  have Rn:Fp s k=s.domains.length:=by rw[Fp,if_pos Mi]
  refine XK.gw ?_
  refine XK.lp (α:=Unit) (fun i _=>[(36,iv i),(35,iv s.domains.length),(34,.slice A2 s.domains.length k2),(7,pt g3),(5,pt g2),(4,pt g1)]) (fun _ _=>[HP.aB g3 136 [.int .u8 k,iv id],HP.aB g2 130 [.slice X1 xM tU,.slice X2 xL tT,.slice X3 xK tS,.slice Y1 xJ tQ,.slice Y2 xI tP,.slice Y3 xH tO],HP.aB g1 30 [.slice A1 s.aD.length k1,.slice A2 s.domains.length k2,.slice A3 s.aL.length k3,.slice A4 s.aC.length k4]]) (fun i _=>∀j,j < i→Cr s x y k id j=false) s.domains.length () (fun j hj=>absurd hj (Nat.not_lt_zero j)) fun i _ hi hno=>?_
  refine XK.gw ?_
  refine XK.if_ rfl (fun h=>?_) (fun h=>?_)
  ·have hil:i < s.domains.length:=by omega
   obtain⟨d,hd⟩:=get_some hil
   obtain⟨bD,oD,rD,rfl,Qu,_,rfl,It⟩:=lN.dom.vY hd
   have hk:=cZ.le Qu It hq
   have eX:Cr s x y k id i=(decide (d.above=id)&&rJ x y k i):=by rw[Cr,if_pos Mi,hd];rfl
   refine XK.gw ?_
   refine bB fun g4=>?_
   refine XK.gw ?_
   refine aW (t:=46) rfl (fun h1=>?_) (fun h1=>?_)
   ·rw[decide_eq_true h1] at eX
    refine XK.gw ?_
    refine aJ (fun w1 st=>Zx g2 x y k i w1 (qW.box Iv (st.le (by simp)) (st.box (i:=2) rfl))) ?_
    cases hw:rJ x y k i
    all_goals
     rw[hw] at eX
     refine XK.gw ?_
    ·exact XK.ag () (hg:=nx hno eX)
    ·exact XK.rE (by rw[Rw,aE8 (by rw[Rn];exact hil) eX])
   ·refine XK.gw ?_
    exact XK.ag () (hg:=nx hno (by rw[eX,decide_eq_false h1];rfl))
  ·refine XK.gw ?_
   exact XK.rE (by rw[Rw,aBt (by rw[Rn];exact fun j hj=>hno j (by omega))])
end
section
set_option maxHeartbeats 4000000
set_option maxRecDepth 20000
theorem aNp(q qx:Piece)(s:aA)(A1 A2 A3 A4:Option Addr)(n1 k1 n2 k2 n3 k3 n4 k4:Nat)(X1 X2 X3 Y1 Y2 Y3:Option Addr)(xM tU xL tT xK tS xJ tQ xI tP xH tO:Nat)(x y:dJ)(Aw:Option Addr)(nw cw:Nat)(wt:List Int)(ag:Nat)(Al:Option Addr)(nl cl:Nat)(l:List Int)(w:World)(lN:oX q s A1 n1 A2 n2 A3 n3 A4 n4)(hm:s.uL)(hq:q.Le (all w))(Iv:qW qx x y (.agg #[.slice X1 xM tU,.slice X2 xL tT,.slice X3 xK tS,.slice Y1 xJ tQ,.slice Y2 xI tP,.slice Y3 xH tO]))(Cj:qx.Le (all w))(hw:aE (all w) 1 Aw nw (aG wt))(hnw:nw=wt.length)(hag:ag < 2)(hl:aE (all w) 1 Al nl (nF l))(fV:nl=l.length)(aEq:nl≤1000000)(hu:vF l):
  Calls Tryz.prog 98 #[.agg #[.slice A1 n1 k1,.slice A2 n2 k2,.slice A3 n3 k3,.slice A4 n4 k4],.agg #[.slice X1 xM tU,.slice X2 xL tT,.slice X3 xK tS,.slice Y1 xJ tQ,.slice Y2 xI tP,.slice Y3 xH tO],.slice Aw nw cw,iv (ag:Int),.slice Al nl cl] w (Rt (aBZ (mY s x y wt ag l)) w):=by
 generalize hrd:eK s l=rd
 obtain⟨st,k,id⟩:=rd
 refine XK.en Tryz.func98 Tryz.ntmps98 ?_
 refine XK.piece qx (by simp) Cj ?_
 refine XK.piece q (by simp) hq ?_
 refine XK.gw ?_
 refine aS fun g1=>?_
 refine XK.gw ?_
 refine aS fun g2=>?_
 refine XK.gw ?_
 refine bB fun g3=>?_
 refine XK.gw ?_
 refine aW (t:=17) rfl (fun h=>absurd h (by omega)) (fun _=>?_)
 refine XK.gw ?_
 refine aW (t:=21) rfl (fun h=>absurd h (by omega)) (fun _=>?_)
 refine XK.gw ?_
 refine aJ (v:=iv 0) (fun w1 st=>(Yl s A1 A2 A3 A4 n1 k1 n2 k2 n3 k3 n4 k4 w1 (lN.W (st.le (by simp)) hm.small)).mono fun _ _ h=>Rt.conv h (by rw[hm.Nt])) ?_
 refine XK.gw ?_
 refine aJ (v:=.tuple #[.int .i32 st,.agg #[.int .u8 k,iv id]]) (fun w1 st=>(aIQ s A1 A2 A3 A4 n1 k1 n2 k2 n3 k3 n4 k4 Al nl cl l w1 (lN.W (st.le (by simp)) hm.small) (hl.le (st.le (by simp))) fV aEq hu).mono fun _ _ h=>Rt.conv h (by rw[hrd];rfl)) ?_
 refine XK.gw ?_
 refine bB fun g4=>?_
 refine XK.gw ?_
 refine XK.dy ?_
 refine XB.spl 35 rfl (fun h1=>?_) (fun h1=>?_)
 ·refine XB.lo 3 ?_
  refine XB.gF 13 ?_
  refine XB.lo 14 ?_
  refine XB.gF 16 ?_
  refine XB.lo 17 ?_
  refine XB.fin ?_
  refine XK.gw ?_
  (refine XK.mK ?_;rw[mY,hrd];dsimp only;rw[if_pos (.inl h1)];rfl)
 refine XB.lo 3 ?_
 refine XB.spl 40 rfl (fun h2=>?_) (fun h2=>?_)
 ·refine XB.lo 8 ?_
  refine XB.gF 13 ?_
  refine XB.lo 14 ?_
  refine XB.gF 16 ?_
  refine XB.lo 17 ?_
  refine XB.fin ?_
  refine XK.gw ?_
  (refine XK.mK ?_;rw[mY,hrd];dsimp only;rw[if_pos (.inr (.inl h2))];rfl)
 refine XB.lo 8 ?_
 refine XB.nx 13 ?_
 refine XK.gw ?_
 refine aJ (fun w1 st=>Zw g2 ag (if ag=0 then x else y) k id w1 hag (qW.box Iv (st.le (by simp)) (st.box (i:=2) rfl) ag hag)) ?_
 refine XB.bk ?_
 refine XB.lo 14 ?_
 refine XB.nx 16 ?_
 refine XK.gw ?_
 refine aJ (fun w1 st=>Eo k w1) ?_
 refine XB.bk ?_
 refine XB.lo 17 ?_
 refine XB.fin ?_
 refine XK.gw ?_
 refine XK.cond rfl (fun h3=>?_) (fun h3=>?_)
 ·refine XK.gw ?_
  (refine XK.mK ?_;rw[mY,hrd];dsimp only;rw[if_pos (.inr (.inr (by simpa using h3)))];rfl)
 have Ic:st=0:=by omega
 have h4:¬(st≠0∨k=0∨rK (if ag=0 then x else y) k id=decide (iM k)):=fun hh=>by
  rcases hh with hh | hh | hh
  ·exact hh Ic
  ·exact h2 hh
  ·rw[hh] at h3
   simp at h3
 refine XK.gw ?_
 refine aJ (fun w1 st=>Eo k w1) ?_
 refine XK.gw ?_
 refine XK.if_ rfl (fun h6=>?_) (fun h6=>?_)
 ·refine XK.gw ?_
  refine XK.if_ rfl (fun h7=>?_) (fun h7=>?_)
  ·subst h7
   have hok:=aDs (s:=s) hu
   rw[hrd] at hok
   have hid:=hok.resolve_left (fun hh=>by have:=hh.1;simp at this)
   have aPd:0≤id:=hid.2.2.1
   have aPc:id < (s.domains.length:Int):=hid.2.2.2.1
   obtain⟨d,hd⟩:=get_some (l:=s.domains) (i:=id.toNat) (by omega)
   obtain⟨rfl,rfl,rfl,rfl⟩:=lN.len
   obtain⟨bD,oD,rD,rfl,Qu,_,rfl,It⟩:=lN.dom.vY hd
   have hk:=cZ.le Qu It hq
   have ha:=hk.at_ (j:=0) rfl
   have hab:(s.domains[id.toNat]?).any (fun d=>decide (d.above≠ -1)&& !rJ x y 117 d.above)=(decide (d.above≠ -1)&& !rJ x y 117 d.above):=by rw[hd];rfl
   refine XK.gw ?_
   refine aW (t:=69) rfl (fun h8=>?_) (fun h8=>?_)
   ·rw[decide_eq_true h8] at hab
    refine XK.gw ?_
    refine aJ (fun w1 st=>Zx g2 x y 117 d.above w1 (qW.box Iv (st.le (by simp)) (st.box (i:=2) rfl))) ?_
    cases hw9:rJ x y 117 d.above
    all_goals
     rw[hw9] at hab
     refine XK.gw ?_
    ·(refine XK.mK ?_;rw[mY,hrd];dsimp only;rw[if_neg h4,if_pos h6,if_pos ⟨rfl,hab⟩];rfl)
    ·refine XK.dw [2] ?_
     refine XK.gw ?_
     (refine XK.mK ?_;rw[mY,hrd];dsimp only;rw[if_neg h4,if_pos h6,if_neg (fun hh=>by have h':=hh.2;rw[hab] at h';cases h')];rfl)
   ·rw[decide_eq_false h8] at hab
    refine XK.gw ?_
    refine XK.dw [2] ?_
    refine XK.gw ?_
    (refine XK.mK ?_;rw[mY,hrd];dsimp only;rw[if_neg h4,if_pos h6,if_neg (fun hh=>by have h':=hh.2;rw[hab] at h';cases h')];rfl)
  ·refine XK.gw ?_
   refine XK.dw [2] ?_
   refine XK.gw ?_
   (refine XK.mK ?_;rw[mY,hrd];dsimp only;rw[if_neg h4,if_pos h6,if_neg (fun hh=>h7 hh.1)];rfl)
 ·refine XK.gw ?_
  refine aJ (fun w1 st=>aNn q qx s A1 A2 A3 A4 n1 k1 n2 k2 n3 k3 n4 k4 X1 X2 X3 Y1 Y2 Y3 xM tU xL tT xK tS xJ tQ xI tP xH tO x y ag k id w1 lN hm (st.le (by simp)) Iv (st.le (by simp)) hag) ?_
  cases hde:Nj s x y ag k id
  ·refine XK.gw ?_
   refine aJ (fun w1 st=>aOf q s A1 A2 A3 A4 n1 k1 n2 k2 n3 k3 n4 k4 Aw nw cw wt k id w1 lN hm (st.le (by simp)) (hw.le (st.le (by simp))) hnw) ?_
   cases Xw:Jn s wt k id
   ·refine XK.gw ?_
    refine XK.dw [2] ?_
    refine XK.gw ?_
    (refine XK.mK ?_;rw[mY,hrd];dsimp only;rw[if_neg h4,if_neg h6,hde,if_neg (by simp),Xw,if_neg (by simp)];rfl)
   ·refine XK.gw ?_
    (refine XK.mK ?_;rw[mY,hrd];dsimp only;rw[if_neg h4,if_neg h6,hde,if_neg (by simp),Xw,if_pos rfl];rfl)
  ·refine XK.gw ?_
   (refine XK.mK ?_;rw[mY,hrd];dsimp only;rw[if_neg h4,if_neg h6,hde,if_pos rfl];rfl)
end
section
set_option maxHeartbeats 4000000
set_option maxRecDepth 20000
def kJ(l:List Bool)(id:Int)(b:Bool):List Bool:=if 0≤id∧id < (l.length:Int) then l.set id.toNat b else l
theorem lI{l:List Bool}{id:Int}(b:Bool)(h:¬(0≤id∧id < (l.length:Int))):kJ l id b=l:=if_neg h
theorem Kt(l:List Bool)(id:Int)(b:Bool):(kJ l id b).length=l.length:=by unfold kJ;split<;>simp
def eD(x:dJ)(k id:Int):dJ:=
 if k=117∨k=100∨k=107 then⟨kJ x.d id (decide (iM k)),x.c,x.l⟩
 else if k=99∨k=111 then⟨x.d,kJ x.c id (decide (iM k)),x.l⟩
 else if k=114∨k=97 then⟨x.d,x.c,kJ x.l id (decide (iM k))⟩ else x
def cS(x:dJ)(ag:Nat)(k id:Int):dJ:=if ag=0 then eD x k id else x
def cR(y:dJ)(ag:Nat)(k id:Int):dJ:=if ag=0 then y else eD y k id
theorem Nv{l:List Bool}{id:Int}(b:Bool)(h:0≤id∧id < (l.length:Int)):(aP l).set id.toNat (.bool b)=aP (kJ l id b):=by
 rw[kJ,if_pos h]
 simp[aP,List.map_set]
section
variable{N:bO}{w0 w:World}{e:Env}{R:List Piece}{H:List HP}{K:Act→World→Prop}
theorem St.aJo(st:St w0 R H w){i n c sz:Nat}{t:TypeId}{A:Option Addr}{xs:List Value}(hi:H[i]? =some (HP.own t sz (.slice A n c) n xs))(hn:0 < n):∃g,A=some ⟨g,0,none⟩:=by
 obtain⟨_,h2⟩:=st.own hi
 rcases h2 with⟨h2,h3⟩ | ⟨g',cap,cur,hv,_⟩
 ·omega
 ·injection hv with h4 h5 h6
  exact⟨g',h4⟩
theorem XK.Hp(i:Nat){n c sz:Nat}{t:TypeId}{A:Option Addr}{xs:List Value}(hi:H[i]? =some (HP.own t sz (.slice A n c) n xs))(hn:0 < n)(h:(∃g,A=some ⟨g,0,none⟩)→XK N w0 K e R H):XK N w0 K e R H:=fun a w hr st=>h (st.aJo hi hn) a w hr st
end
end
section
set_option maxHeartbeats 4000000
set_option maxRecDepth 20000
structure fS where
 a1:AC
 a2:AC
 a3:AC
 a4:AC
 x1:AC
 x2:AC
 x3:AC
 y1:AC
 y2:AC
 y3:AC
 b0:AC
 b1:AC
structure bP where
 x:dJ
 y:dJ
 h0:Int
 h1:Int
 w0:List Int
 w1:List Int
 last:Int
 at_:Int
 kind:Int
 id:Int
def pN(s:aA):bP:=⟨iB s,iB s,0,0,[],[],1,-1,0,0⟩
def uG(a:AC)(n:Nat):Value:=.slice a.1 n a.2
def cN(h:Nat)(L:fS)(s:aA)(z:bP):List Value:=[pt h,.slice L.a1.1 s.aD.length L.a1.2,.slice L.a2.1 s.domains.length L.a2.2,.slice L.a3.1 s.aL.length L.a3.2,.slice L.a4.1 s.aC.length L.a4.2,
 .slice L.x1.1 z.x.d.length L.x1.2,.slice L.x2.1 z.x.c.length L.x2.2,.slice L.x3.1 z.x.l.length L.x3.2,.slice L.y1.1 z.y.d.length L.y1.2,.slice L.y2.1 z.y.c.length L.y2.2,.slice L.y3.1 z.y.l.length L.y3.2,
 iv z.h0,.slice L.b0.1 z.w0.length L.b0.2,iv z.h1,.slice L.b1.1 z.w1.length L.b1.2,iv z.last,iv z.at_,.int .u8 z.kind,iv z.id]
def sI(L:fS)(s:aA)(p:Piece):Prop:=oX p s L.a1.1 s.aD.length L.a2.1 s.domains.length L.a3.1 s.aL.length L.a4.1 s.aC.length
theorem sI.le{L:fS}{s:aA}(p q:Piece)(hl:p.Le q)(h:sI L s p):sI L s q:=oX.le h hl
def nR(L:fS)(x y:dJ)(p:Piece):Prop:=aE p 1 L.x1.1 x.d.length (aP x.d)∧aE p 1 L.x2.1 x.c.length (aP x.c)∧aE p 1 L.x3.1 x.l.length (aP x.l)∧aE p 1 L.y1.1 y.d.length (aP y.d)∧aE p 1 L.y2.1 y.c.length (aP y.c)∧aE p 1 L.y3.1 y.l.length (aP y.l)
theorem nR.le{L:fS}{x y:dJ}(p q:Piece)(hl:p.Le q)(h:nR L x y p):nR L x y q:=⟨h.1.le hl,h.2.1.le hl,h.2.2.1.le hl,h.2.2.2.1.le hl,h.2.2.2.2.1.le hl,h.2.2.2.2.2.le hl⟩
def cT(a:AC)(l:List Int)(p:Piece):Prop:=aE p 1 a.1 l.length (nF l)
theorem cT.le{a:AC}{l:List Int}(p q:Piece)(hl:p.Le q)(h:cT a l p):cT a l q:=aE.le h hl
theorem qW.P{q:Piece}{x y:dJ}{v:Value}(h:qW q x y v):∃x1 x2 x3 y1 y2 y3:AC,v=.agg #[uG x1 x.d.length,uG x2 x.c.length,uG x3 x.l.length,uG y1 y.d.length,uG y2 y.c.length,uG y3 y.l.length]∧∀a1 a2 a3 a4 b0 b1:AC,nR ⟨a1,a2,a3,a4,x1,x2,x3,y1,y2,y3,b0,b1⟩ x y q:=by
 obtain⟨A1,k1,A2,k2,A3,k3,B1,m1,B2,m2,B3,m3,e,a1,a2,a3,b1,b2,b3⟩:=h
 exact⟨(A1,k1),(A2,k2),(A3,k3),(B1,m1),(B2,m2),(B3,m3),e,fun _ _ _ _ _ _=>⟨a1,a2,a3,b1,b2,b3⟩⟩
def fT(f h:Nat)(L:fS)(s:aA)(z:bP):HP:=HP.many [HP.aB f 138 (cN h L s z),HP.bH (sI L s) (sI.le (L:=L) (s:=s)),HP.bH (nR L z.x z.y) (nR.le (L:=L) (x:=z.x) (y:=z.y)),HP.bH (cT L.b0 z.w0) (cT.le (a:=L.b0) (l:=z.w0)),HP.bH (cT L.b1 z.w1) (cT.le (a:=L.b1) (l:=z.w1))]
def xG(f h:Nat)(s:aA)(z:bP):HP:=HP.ex fun L:fS=>fT f h L s z
structure Bp(w:World)(f h:Nat)(L:fS)(s:aA)(z:bP):Prop where
 r0:cZ w f 0 (cN h L s z)
 so:sI L s (all w)
 st:nR L z.x z.y (all w)
 b0:cT L.b0 z.w0 (all w)
 b1:cT L.b1 z.w1 (all w)
theorem fT.reads{f h:Nat}{L:fS}{s:aA}{z:bP}{F:Nat→Prop}{w:World}(k:(fT f h L s z).sat F w)(hF:∀b,F b→b < w.heap.size):Bp w f h L s z:=by
 obtain⟨G,g1,g2,_⟩:=k
 have hl:∀i,(⟨w,G i⟩:Piece).Le (all w):=fun i b hb=>⟨hF b (g2 i b hb),rfl⟩
 exact⟨sD (g1 0 _ rfl).2,sI.le _ _ (hl 1) (g1 1 _ rfl),nR.le _ _ (hl 2) (g1 2 _ rfl),cT.le _ _ (hl 3) (g1 3 _ rfl),cT.le _ _ (hl 4) (g1 4 _ rfl)⟩
theorem St.uV{w0 w:World}{R:List Piece}{H:List HP}{f h:Nat}{L:fS}{s:aA}{z:bP}(t:St w0 R H w)(i:Nat)(hi:H[i]? =some (fT f h L s z)):Bp w f h L s z:=by
 obtain⟨F,h1,h2,_⟩:=t.chunk hi
 exact fT.reads h1 h2
def aGn(h:Nat)(s:aA)(v:Value)(hs:List HP)(_:Piece):Prop:=∃f,v=.tuple #[pt f,iv 0]∧hs=[xG f h s (pN s)]
theorem aB8{w:World}(a:AC)(ha:a=(none,0)):(HP.bH (cT a []) (cT.le (a:=a) (l:=[]))).sat (fun _=>False) w:=by
 subst ha
 exact⟨rfl,fun h=>absurd h (by simp)⟩
theorem aMi(h:Nat)(s:aA)(hH:s.cI)(A1 A2 A3 A4:Option Addr)(n1 k1 n2 k2 n3 k3 n4 k4:Nat)(w:World)(hW:eI w s A1 n1 A2 n2 A3 n3 A4 n4):
  Calls Tryz.prog 35 #[pt h,.agg #[.slice A1 n1 k1,.slice A2 n2 k2,.slice A3 n3 k3,.slice A4 n4 k4]] w (fun y w'=>(∃v hs q,y=.returned v∧q.w=w'∧aGn h s v hs q∧iY w hs q)∧Below w.heap.size w w'):=by
 obtain rfl:=hW.kL
 obtain rfl:=hW.kY
 obtain rfl:=hW.mL
 obtain rfl:=hW.lK
 refine XK.en Tryz.func35 Tryz.ntmps35 ?_
 refine XK.go ?_
 refine aS fun g1=>?_
 refine XK.go ?_
 refine aJ (fun w1 t=>Nu s A1 A2 A3 A4 _ k1 _ k2 _ k3 _ k4 w1 (hW.le (t.started (by simp))) hH.t.Nt) ?_
 refine XK.go ?_
 refine XK.eU [1,3] ?_
 refine XB.mv 0 ?_
 refine XB.q 1 ?_
 refine XB.q 3 ?_
 refine XB.next 2 rfl (by kernel_rfl) ?_
 refine gO [] (fun v w w'=>Zg s v w w') (fun w1 t=>aBK s A1 A2 A3 A4 _ k1 _ k2 _ k3 _ k4 w1 (hW.le (t.started (by simp))) (fun d hd=>by
  obtain⟨j,hj⟩:=List.getElem?_of_mem hd
  have:=(hH.t.aC j d hj).2.2.2.2.2.2.2.2.1
  omega)) ?_
 rintro _ w1 q1 ⟨cs,rfl,hcs⟩ Ck _ pM
 have pM:=pM (by simp)
 obtain⟨B1,m1,j1,B2,m2,j2,B3,m3,j3,B4,m4,j4,rfl,hsp⟩:=zB.P hcs
 have hsp:=hsp.le Ck
 obtain⟨rfl,rfl,rfl,rfl⟩:=hsp.len
 refine XK.Ho (Φ:=sI ⟨(B1,j1),(B2,j2),(B3,j3),(B4,j4),(none,0),(none,0),(none,0),(none,0),(none,0),(none,0),(none,0),(none,0)⟩ s) (hm:=sI.le) pM (by simp[all]) hsp ?_
 refine XB.bk ?_
 refine XB.next 4 rfl (by kernel_rfl) ?_
 refine gO [] (fun v w w'=>qW (fresh w w') (iB s) (iB s) v) (fun w1 st=>aHr s A1 A2 A3 A4 k1 k2 k3 k4 w1 hH.t) ?_
 rintro _ w2 q2 hst tD _ Fq
 have Fq:=Fq (by simp)
 obtain⟨x1,x2,x3,y1,y2,y3,rfl,Ie⟩:=hst.P
 have Ie:=nR.le _ _ tD (Ie (B1,j1) (B2,j2) (B3,j3) (B4,j4) (none,0) (none,0))
 refine XK.Ho (Φ:=nR ⟨(B1,j1),(B2,j2),(B3,j3),(B4,j4),x1,x2,x3,y1,y2,y3,(none,0),(none,0)⟩ (iB s) (iB s)) (hm:=nR.le) Fq (by simp[all]) Ie ?_
 refine XB.bk ?_
 refine XB.next 5 rfl (by kernel_rfl) ?_
 refine kd (eM rfl) ?_
 refine XB.bt ?_
 refine XB.next 6 rfl (by kernel_rfl) ?_
 refine aS fun f=>?_
 refine XB.bt ?_
 refine XB.next 7 rfl (by kernel_rfl) ?_
 refine bA ?_
 refine XB.bt ?_
 refine XB.done (by kernel_rfl) ?_
 refine XK.go ?_
 refine XK.yY (p:=HP.bH (cT (none,0) []) (cT.le (a:=(none,0)) (l:=[]))) (fun w=>aB8 _ rfl) ?_
 refine XK.yY (p:=HP.bH (cT (none,0) []) (cT.le (a:=(none,0)) (l:=[]))) (fun w=>aB8 _ rfl) ?_
 refine XK.weak [2,4,3,0,1] rfl (by decide) (R':=[all w]) (by simp) ?_
 refine XK.pair ?_
 refine XK.more ?_
 refine XK.more ?_
 refine XK.more ?_
 refine XK.sV 0 (f:=fun L:fS=>fT f h L s (pN s)) ⟨(B1,j1),(B2,j2),(B3,j3),(B4,j4),x1,x2,x3,y1,y2,y3,(none,0),(none,0)⟩ rfl ?_
 dsimp only[List.set]
 refine XK.still [] [] [0] (by simp) rfl (by decide) (by decide) fun q _ _ hfr=>?_
 exact XK.dG rfl rfl rfl fun w1 t=>⟨⟨_,_,⟨w1,q.Z⟩,rfl,rfl,⟨f,rfl,rfl⟩,t.newR (by simp) (by simp) (hfr (by simp) (by simp))⟩,t.below (by simp)⟩
end
section
set_option maxHeartbeats 4000000
set_option maxRecDepth 20000
section
variable{N:bO}{w0 w:World}{e:Env}{R:List Piece}{H:List HP}{K:Act→World→Prop}{f h:Nat}{s:aA}{z:bP}
theorem XK.Qe(i:Nat)(hi:H[i]? =some (xG f h s z))(k:∀L:fS,XK N w0 K e R (HP.aB f 138 (cN h L s z)::H.set i (HP.many [HP.emp,HP.bH (sI L s) (sI.le (L:=L) (s:=s)),HP.bH (nR L z.x z.y) (nR.le (L:=L) (x:=z.x) (y:=z.y)),HP.bH (cT L.b0 z.w0) (cT.le (a:=L.b0) (l:=z.w0)),HP.bH (cT L.b1 z.w1) (cT.le (a:=L.b1) (l:=z.w1))]))):XK N w0 K e R H:=by
 have hlt:=wI hi
 refine XK.Vx i hi fun L=>?_
 refine XK.take i 0 (by rw[List.getElem?_set_self hlt];rfl) rfl ?_
 simpa[List.set_set] using k L
theorem XK.qO(L:fS)(i:Nat)(hi:H[i]? =some (HP.many [HP.emp,HP.bH (sI L s) (sI.le (L:=L) (s:=s)),HP.bH (nR L z.x z.y) (nR.le (L:=L) (x:=z.x) (y:=z.y)),HP.bH (cT L.b0 z.w0) (cT.le (a:=L.b0) (l:=z.w0)),HP.bH (cT L.b1 z.w1) (cT.le (a:=L.b1) (l:=z.w1))]))(k:XK N w0 K e R (H.set i (xG f h s z))):XK N w0 K e R (HP.aB f 138 (cN h L s z)::H):=by
 have hlt:=wI hi
 refine XK.nM i 0 hi rfl ?_
 refine XK.sV i (f:=fun L:fS=>fT f h L s z) L (by rw[List.getElem?_set_self hlt];rfl) ?_
 rw[List.set_set]
 exact k
end
def mS(z:bP)(a:Int)(l:List Int):Int×bP:=
 if bE 2 a=false then(4,z) else if a=0 then(if z.h0≠0 then(7,z) else(0,{z with h0:=1,w0:=l})) else(if z.h1≠0 then(7,z) else(0,{z with h1:=1,w1:=l}))
theorem aLR(f h:Nat)(s:aA)(z:bP)(a:Int)(A:Option Addr)(n c:Nat)(l:List Int)(w:World)(F:Nat→Prop)(hp:(xG f h s z).sat F w)(hF:∀b,F b→b < w.heap.size)(hs:aE ⟨w,fun b=>b < w.heap.size∧¬F b⟩ 1 A n (nF l))(hn:n=l.length)(hn2:n≤1000000):
  Calls Tryz.prog 94 #[pt f,iv a,.slice A n c] w (fun y w'=>y=.returned (iv (mS z a l).1)∧∃F',(xG f h s (mS z a l).2).sat F' w'∧aV w w' F F'):=by
 subst hn
 cases hin:bE 2 a
 ·have hr:mS z a l=(4,z):=by simp[mS,hin]
  rw[hr]
  refine XK.bY Tryz.func94 Tryz.ntmps94 hp hF ?_
  refine XK.go ?_
  refine aJ (fun w1 t=>Lt a w1) ?_
  rw[hin]
  refine XK.go ?_
  exact XK.rT 0 hF
 ·obtain rfl | rfl:a=0∨a=1:=by have:=of_decide_eq_true hin;omega
  ·refine XK.bY Tryz.func94 Tryz.ntmps94 hp hF ?_
   refine XK.Qe 0 rfl fun L=>?_
   dsimp only[List.set,cN]
   refine XK.go ?_
   refine aJ (fun w1 t=>Lt 0 w1) ?_
   refine XK.go ?_
   refine kd (dX 0 11) ?_
   refine XK.go ?_
   refine XK.if_ rfl (fun hb=>?_) (fun hb=>?_)
   ·have hr:mS z 0 l=(7,z):=by simp[mS,bE,hb]
    rw[hr]
    refine XK.go ?_
    refine XK.qO L 0 rfl ?_
    dsimp only[List.set]
    exact XK.rT 0 hF
   ·have hr:mS z 0 l=(0,{z with h0:=1,w0:=l}):=by simp[mS,bE];simpa using hb
    rw[hr]
    refine XK.go ?_
    refine XK.eU [5,6] ?_
    refine XB.mv 0 ?_
    refine XB.mv 1 ?_
    refine XB.mv 2 ?_
    refine XB.q 5 ?_
    refine XB.q 6 ?_
    refine XB.next 3 rfl (by kernel_rfl) ?_
    refine fB (aCo l.length (nF l)) (fun w1 t=>aFt A _ c _ w1 (hs.le (t.le (by simp))) (Oq _) hn2) ?_
    rintro _ _ q1 ⟨An,cn,rfl,rfl⟩ _
    dsimp only[List.cons_append,List.nil_append]
    refine XB.bk ?_
    refine XB.next 4 rfl (by kernel_rfl) ?_
    refine kd (eM rfl) ?_
    refine XB.bk ?_
    refine XB.next 7 rfl (by kernel_rfl) ?_
    refine kd (dX 0 11) ?_
    refine XB.bt ?_
    refine XB.next 8 rfl (by kernel_rfl) ?_
    refine jV 1 (t:=138) rfl rfl rfl (by kernel_rfl) (by simp[Value.cells,Value.oneCell']) (by simp[Value.cells]) ?_
    dsimp only[List.set,Value.cells,eE]
    refine XB.bt ?_
    refine XB.done (by kernel_rfl) ?_
    refine XK.go ?_
    refine XK.rN 0 (Φ:=cT (An,cn) l) (hm:=cT.le) rfl (fun p hp=>hp) ?_
    refine XK.tk 2 3 ?_
    refine XK.weak [1,2,3] rfl (by decide) (fun _ h=>h) ?_
    refine XK.gv 1 3 ?_
    refine XK.qO (h:=h) (s:=s) (z:={z with h0:=1,w0:=l}) {L with b0:=(An,cn)} 0 rfl ?_
    dsimp only[List.set]
    exact XK.rT 0 hF
  ·refine XK.bY Tryz.func94 Tryz.ntmps94 hp hF ?_
   refine XK.Qe 0 rfl fun L=>?_
   dsimp only[List.set,cN]
   refine XK.go ?_
   refine aJ (fun w1 t=>Lt 1 w1) ?_
   refine XK.go ?_
   refine kd (dX 1 13) ?_
   refine XK.go ?_
   refine XK.if_ rfl (fun hb=>?_) (fun hb=>?_)
   ·have hr:mS z 1 l=(7,z):=by simp[mS,bE,hb]
    rw[hr]
    refine XK.go ?_
    refine XK.qO L 0 rfl ?_
    dsimp only[List.set]
    exact XK.rT 0 hF
   ·have hr:mS z 1 l=(0,{z with h1:=1,w1:=l}):=by simp[mS,bE];simpa using hb
    rw[hr]
    refine XK.go ?_
    refine XK.eU [5,6] ?_
    refine XB.mv 0 ?_
    refine XB.mv 1 ?_
    refine XB.mv 2 ?_
    refine XB.q 5 ?_
    refine XB.q 6 ?_
    refine XB.next 3 rfl (by kernel_rfl) ?_
    refine fB (aCo l.length (nF l)) (fun w1 t=>aFt A _ c _ w1 (hs.le (t.le (by simp))) (Oq _) hn2) ?_
    rintro _ _ q1 ⟨An,cn,rfl,rfl⟩ _
    dsimp only[List.cons_append,List.nil_append]
    refine XB.bk ?_
    refine XB.next 4 rfl (by kernel_rfl) ?_
    refine kd (eM rfl) ?_
    refine XB.bk ?_
    refine XB.next 7 rfl (by kernel_rfl) ?_
    refine kd (dX 1 13) ?_
    refine XB.bt ?_
    refine XB.next 8 rfl (by kernel_rfl) ?_
    refine jV 1 (t:=138) rfl rfl rfl (by kernel_rfl) (by simp[Value.cells,Value.oneCell']) (by simp[Value.cells]) ?_
    dsimp only[List.set,Value.cells,eE]
    refine XB.bt ?_
    refine XB.done (by kernel_rfl) ?_
    refine XK.go ?_
    refine XK.rN 0 (Φ:=cT (An,cn) l) (hm:=cT.le) rfl (fun p hp=>hp) ?_
    refine XK.tk 2 4 ?_
    refine XK.weak [1,2,3] rfl (by decide) (fun _ h=>h) ?_
    refine XK.gv 1 4 ?_
    refine XK.qO (h:=h) (s:=s) (z:={z with h1:=1,w1:=l}) {L with b1:=(An,cn)} 0 rfl ?_
    dsimp only[List.set]
    exact XK.rT 0 hF
def nZ(z:bP)(a:Int):Option (List Int):=if a=0 then(if z.h0=2 then some z.w0 else none) else if a=1 then(if z.h1=2 then some z.w1 else none) else none
def nY(z:bP)(a:Int):bP:=if a=0 then(if z.h0=2 then {z with h0:=0,w0:=[]} else z) else if a=1 then(if z.h1=2 then {z with h1:=0,w1:=[]} else z) else z
def Pu(l:Option (List Int))(a:AC):Value:=match l with
 | some l=>.tuple #[.slice a.1 l.length a.2,.bool true]
 | none=>.tuple #[.slice none 0 0,.bool false]
def Ej(f h:Nat)(s:aA)(z:bP)(l:List Int)(c:AC):HP:=HP.many [xG f h s z,HP.bH (cT c l) (cT.le (a:=c) (l:=l))]
theorem aEH(f h:Nat)(s:aA)(z:bP)(a:Int)(w:World)(F:Nat→Prop)(hp:(xG f h s z).sat F w)(hF:∀b,F b→b < w.heap.size):
  Calls Tryz.prog 95 #[pt f,iv a] w (fun y w'=>∃c:AC,y=.returned (Pu (nZ z a) c)∧True∧∃F',(Ej f h s (nY z a) ((nZ z a).getD []) c).sat F' w'∧aV w w' F F'):=by
 have Ru:∀w:World,(HP.bH (cT (none,0) []) (cT.le (a:=(none,0)) (l:=[]))).sat (fun _=>False) w:=fun w=>aB8 _ rfl
 cases hin:bE 2 a
 ·have h0:a≠0:=fun h=>by subst h;cases hin
  have h1:a≠1:=fun h=>by subst h;cases hin
  have hr:nZ z a=none:=by simp[nZ,h0,h1]
  have hz:nY z a=z:=by simp[nY,h0,h1]
  rw[hr,hz]
  unfold Ej
  refine XK.bY Tryz.func95 Tryz.ntmps95 hp hF ?_
  refine XK.go ?_
  refine aJ (fun w1 t=>Lt a w1) ?_
  rw[hin]
  refine XK.go ?_
  refine XK.yY (p:=HP.bH (cT (none,0) []) (cT.le (a:=(none,0)) (l:=[]))) Ru ?_
  refine XK.weak [1,0] rfl (by decide) (fun _ h=>h) ?_
  refine XK.pair ?_
  exact XK.dG rfl rfl rfl fun w1 t=>⟨(none,0),rfl,trivial,t.turns hF (by simp) (i:=0) rfl⟩
 ·obtain rfl | rfl:a=0∨a=1:=by have:=of_decide_eq_true hin;omega
  ·refine XK.bY Tryz.func95 Tryz.ntmps95 hp hF ?_
   refine XK.Qe 0 rfl fun L=>?_
   dsimp only[List.set,cN]
   refine XK.go ?_
   refine aJ (fun w1 t=>Lt 0 w1) ?_
   refine XK.go ?_
   refine kd (dX 0 11) ?_
   refine XK.go ?_
   refine XK.if_ rfl (fun hb=>?_) (fun hb=>?_)
   ·have hr:nZ z 0=none:=by simp[nZ,hb]
    have hz:nY z 0=z:=by simp[nY,hb]
    rw[hr,hz]
    unfold Ej
    dsimp only[Option.getD]
    refine XK.go ?_
    refine XK.qO L 0 rfl ?_
    dsimp only[List.set]
    refine XK.yY (p:=HP.bH (cT (none,0) []) (cT.le (a:=(none,0)) (l:=[]))) Ru ?_
    refine XK.weak [1,0] rfl (by decide) (fun _ h=>h) ?_
    refine XK.pair ?_
    exact XK.dG rfl rfl rfl fun w1 t=>⟨(none,0),rfl,trivial,t.turns hF (by simp) (i:=0) rfl⟩
   ·have dO:z.h0=2:=by simpa using hb
    have hr:nZ z 0=some z.w0:=by simp[nZ,dO]
    have hz:nY z 0={z with h0:=0,w0:=[]}:=by simp[nY,dO]
    rw[hr,hz]
    unfold Ej
    dsimp only[Option.getD]
    refine XK.go ?_
    refine kd (dX 0 11) ?_
    refine XK.go ?_
    refine kd (eM rfl) ?_
    refine XK.go ?_
    refine kd (dX 0 11) ?_
    refine jV 0 (t:=138) rfl rfl rfl (by kernel_rfl) (by simp[Value.cells,Value.oneCell']) (by simp[Value.cells]) ?_
    dsimp only[List.set,Value.cells,eE]
    refine XK.go ?_
    refine XK.tk 1 3 ?_
    refine XK.yY (p:=HP.bH (cT (none,0) []) (cT.le (a:=(none,0)) (l:=[]))) Ru ?_
    refine XK.weak [0,2,3,1] rfl (by decide) (fun _ h=>h) ?_
    refine XK.gv 1 3 ?_
    refine XK.qO (h:=h) (s:=s) (z:={z with h0:=0,w0:=[]}) {L with b0:=(none,0)} 0 rfl ?_
    dsimp only[List.set]
    refine XK.pair ?_
    exact XK.dG rfl rfl rfl fun w1 t=>⟨L.b0,rfl,trivial,t.turns hF (by simp) (i:=0) rfl⟩
  ·refine XK.bY Tryz.func95 Tryz.ntmps95 hp hF ?_
   refine XK.Qe 0 rfl fun L=>?_
   dsimp only[List.set,cN]
   refine XK.go ?_
   refine aJ (fun w1 t=>Lt 1 w1) ?_
   refine XK.go ?_
   refine kd (dX 1 13) ?_
   refine XK.go ?_
   refine XK.if_ rfl (fun hb=>?_) (fun hb=>?_)
   ·have hr:nZ z 1=none:=by simp[nZ,hb]
    have hz:nY z 1=z:=by simp[nY,hb]
    rw[hr,hz]
    unfold Ej
    dsimp only[Option.getD]
    refine XK.go ?_
    refine XK.qO L 0 rfl ?_
    dsimp only[List.set]
    refine XK.yY (p:=HP.bH (cT (none,0) []) (cT.le (a:=(none,0)) (l:=[]))) Ru ?_
    refine XK.weak [1,0] rfl (by decide) (fun _ h=>h) ?_
    refine XK.pair ?_
    exact XK.dG rfl rfl rfl fun w1 t=>⟨(none,0),rfl,trivial,t.turns hF (by simp) (i:=0) rfl⟩
   ·have dO:z.h1=2:=by simpa using hb
    have hr:nZ z 1=some z.w1:=by simp[nZ,dO]
    have hz:nY z 1={z with h1:=0,w1:=[]}:=by simp[nY,dO]
    rw[hr,hz]
    unfold Ej
    dsimp only[Option.getD]
    refine XK.go ?_
    refine kd (dX 1 13) ?_
    refine XK.go ?_
    refine kd (eM rfl) ?_
    refine XK.go ?_
    refine kd (dX 1 13) ?_
    refine jV 0 (t:=138) rfl rfl rfl (by kernel_rfl) (by simp[Value.cells,Value.oneCell']) (by simp[Value.cells]) ?_
    dsimp only[List.set,Value.cells,eE]
    refine XK.go ?_
    refine XK.tk 1 4 ?_
    refine XK.yY (p:=HP.bH (cT (none,0) []) (cT.le (a:=(none,0)) (l:=[]))) Ru ?_
    refine XK.weak [0,2,3,1] rfl (by decide) (fun _ h=>h) ?_
    refine XK.gv 1 4 ?_
    refine XK.qO (h:=h) (s:=s) (z:={z with h1:=0,w1:=[]}) {L with b1:=(none,0)} 0 rfl ?_
    dsimp only[List.set]
    refine XK.pair ?_
    exact XK.dG rfl rfl rfl fun w1 t=>⟨L.b1,rfl,trivial,t.turns hF (by simp) (i:=0) rfl⟩
end
section
set_option maxHeartbeats 4000000
set_option maxRecDepth 20000
def yT(c:dV)(r:Int):Int:=if c.kind=112 then(if 1099511627776 < r*c.mul / c.div then 1099511627776 else r*c.mul / c.div) else if c.kind=100 then r / c.div else r
def Je(s:aA):Nat→Nat→Int
 | 0,_=>0
 | k + 1, i => match s.aD[i]? with
  | none=>0
  | some c=>if c.kind=111 then c.rate else yT c (match c.src with
   | []=>0
   | f::_=>Je s k f.toNat)
def oH(s:aA)(i:Nat):Int:=Je s (i+1) i
def Ek(s:aA)(st:List dY)(i:Int):Int:=if rM s st i then oH s i.toNat else 0
theorem aMn{s:aA}(hf:Fits dV.fit s.aD):∀(c k:Nat),c < k→Je s k c=Je s (c+1) c:=by
 intro c
 induction c using Nat.strongRecOn with
 | _ c ih =>
  intro k hk
  obtain⟨k,rfl⟩:=Nat.exists_eq_add_of_lt hk
  rw[show c+k+1=(c+k)+1 from rfl]
  unfold Je
  cases hc:s.aD[c]? with
  | none=>rfl
  | some x =>
   dsimp only
   cases hs:x.src with
   | nil=>rfl
   | cons f fs=>
    have hfit:=(hf c x hc).1 f (by rw[hs];simp)
    have h1:f.toNat < c:=by omega
    dsimp only
    rw[ih f.toNat h1 (c+k) (by omega),ih f.toNat h1 c h1]
theorem aER{s:aA}(hf:Fits dV.fit s.aD){i:Nat}{c:dV}(hc:s.aD[i]? =some c):oH s i=if c.kind=111 then c.rate else yT c (match c.src with
  | []=>0
  | f::_=>oH s f.toNat):=by
 unfold oH
 rw[Je,hc]
 dsimp only
 cases hs:c.src with
 | nil=>rfl
 | cons f fs=>
  have hfit:=(hf i c hc).1 f (by rw[hs];simp)
  dsimp only
  rw[aMn hf f.toNat i (by omega)]
theorem aMm{s:aA}(hf:Fits dV.fit s.aD):∀i:Nat,0≤oH s i∧oH s i≤1099511627776:=by
 intro i
 induction i using Nat.strongRecOn with
 | _ i ih =>
  cases hc:s.aD[i]? with
  | none=>unfold oH Je;rw[hc];exact⟨Int.le_refl 0,by show(0:Int)≤1099511627776;omega⟩
  | some c =>
   rw[aER hf hc]
   obtain⟨hsrc,hfit⟩:=hf i c hc
   have hr:0≤(match c.src with | []=>0 | f::_=>oH s f.toNat)∧(match c.src with | []=>0 | f::_=>oH s f.toNat)≤1099511627776:=by
    cases hs:c.src with
    | nil=>exact⟨Int.le_refl 0,by show(0:Int)≤1099511627776;omega⟩
    | cons f fs=>
     have:=hsrc f (by rw[hs];simp)
     exact ih f.toNat (by omega)
   generalize (match c.src with | []=>0 | f::_=>oH s f.toNat)=r at hr
   rcases hfit with⟨hk,_,h1,h2,_⟩ | ⟨hk,_,_,h1,h2,h3,h4,_⟩ | ⟨hk,_,_,_,h1,h2,_⟩ | ⟨hk,_⟩ | ⟨hk,_⟩
   ·rw[if_pos hk];omega
   ·rw[if_neg (by omega),yT,if_pos hk]
    have:0≤r*c.mul / c.div:=Int.ediv_nonneg (Int.mul_nonneg hr.1 (by omega)) (by omega)
    split<;>omega
   ·rw[if_neg (by omega),yT,if_neg (by omega),if_pos hk]
    have h5:0≤r / c.div:=Int.ediv_nonneg hr.1 (by omega)
    have h6:r / c.div≤r:=Int.ediv_le_self _ hr.1
    omega
   ·rw[if_neg (by omega),yT,if_neg (by omega),if_neg (by omega)];exact hr
   ·rw[if_neg (by omega),yT,if_neg (by omega),if_neg (by omega)];exact hr
theorem aES(n:Int)(h1:1≤n)(h2:n≤1000)(w:World):Calls Tryz.prog 246 #[iv n] w (Rt (.bool true) w):=by
 refine XK.en Tryz.func246 Tryz.ntmps246 ?_
 refine XK.go ?_
 refine aW (t:=5) rfl (fun _=>?_) (fun h=>absurd h1 h)
 refine XK.go ?_
 refine XK.gN (by simp) ?_
 rw[decide_eq_true h2]
theorem aH3(r m d:Int)(hr:0≤r∧r≤1099511627776)(hm:1≤m∧m≤8)(hd:1≤d∧d≤4)(w:World):Calls Tryz.prog 243 #[.int .u64 r,iv m,iv d] w (Rt (.tuple #[.int .u64 (if 1099511627776 < r*m / d then 0 else r*m / d),iv (if 1099511627776 < r*m / d then 3 else 0)]) w):=by
 have hmul:0≤r*m∧r*m≤1099511627776*8:=⟨Int.mul_nonneg hr.1 (by omega),Int.mul_le_mul hr.2 hm.2 (by omega) (by omega)⟩
 have hq:0≤r*m / d∧r*m / d≤r*m:=⟨Int.ediv_nonneg hmul.1 (by omega),Int.ediv_le_self _ hmul.1⟩
 refine XK.en Tryz.func243 Tryz.ntmps243 ?_
 refine XK.go ?_
 refine aW (t:=11) rfl (fun h=>absurd h (by omega)) (fun _=>?_)
 refine XK.go ?_
 refine aJ (fun w1 t=>aES m hm.1 (by omega) w1) ?_
 refine XK.go ?_
 refine aJ (fun w1 t=>aES d hd.1 (by omega) w1) ?_
 refine XK.go ?_
 refine zI (ds:=.int .i64) (kd:=.u64) (by kernel_rfl) (by kernel_rfl) rfl (wrap_u64 (by omega)) (by decide) ?_
 refine aGv rfl rfl (c:=r*m) (wrap_u64 (by omega)) (by decide) ?_
 refine XK.go ?_
 refine zI (ds:=.int .i64) (kd:=.u64) (by kernel_rfl) (by kernel_rfl) rfl (wrap_u64 (by omega)) (by decide) ?_
 refine aCw rfl rfl (c:=r*m / d) (by omega) (by rw[Int.tdiv_eq_ediv_of_nonneg hmul.1];exact wrap_u64 (by omega)) (by decide) ?_
 refine XK.go ?_
 refine XK.if_ rfl (fun h=>?_) (fun h=>?_)
 ·rw[if_pos h,if_pos h]
  refine XK.go ?_
  exact XK.dG rfl rfl rfl fun w1 t=>⟨rfl,t.below (by simp)⟩
 ·rw[if_neg h,if_neg h]
  refine XK.go ?_
  exact XK.dG rfl rfl rfl fun w1 t=>⟨rfl,t.below (by simp)⟩
theorem aND(L:TL)(s:aA)(st:List dY)(hH:s.cI)(b1 b2:Nat):∀(i:Nat),i < s.aD.length→∀w,tJ w L s st→eS w b1 0 (.pointer (some ⟨L.t,0,none⟩))→eS w b2 0 (.func (.func 242) #[] #[pt b1,pt b2])→
  Calls Tryz.prog 242 #[iv (i:Int),pt b1,pt b2] w (Rt (.int .u64 (oH s i)) w):=by
 intro i
 induction i using Nat.strongRecOn with
 | _ i ih =>
  intro hlt w hR Cq dO
  obtain⟨b,off,c,a,x,hc,hx,hA,hro,hs⟩:=hR.node hlt
  have Rs:=aER hH.t.aD hc
  have h0:=hR.r0
  rw[hA] at h0
  have k0:=hro.at_ (j:=0) rfl
  have k2:=hro.at_ (j:=2) rfl
  have k3:=hro.at_ (j:=3) rfl
  have k4:=hro.at_ (j:=4) rfl
  have k10:=hro.at_ (j:=10) rfl
  have Ms:∀{w1},Below w.heap.size w w1→eS w1 b1 0 (.pointer (some ⟨L.t,0,none⟩)):=fun hb=>⟨Nat.lt_of_lt_of_le Cq.1 hb.size,(hb.cell (p:=⟨_,0,none⟩) Cq.1).trans Cq.2⟩
  have go2:∀{w1},Below w.heap.size w w1→eS w1 b2 0 (.func (.func 242) #[] #[pt b1,pt b2]):=fun hb=>⟨Nat.lt_of_lt_of_le dO.1 hb.size,(hb.cell (p:=⟨_,0,none⟩) dO.1).trans dO.2⟩
  obtain⟨hsrc,hfit⟩:=hH.t.aD i c hc
  refine XK.en Tryz.func242 Tryz.ntmps242 ?_
  refine XK.go ?_
  refine kd (dat i (off+i*11)) ?_
  rcases hfit with⟨hk,hs0,_⟩ | hfit
  ·rw[hk] at k0
   rw[if_pos hk] at Rs
   refine XK.go ?_
   exact XK.rE (by rw[Rs])
  obtain⟨f,fs,hf⟩:∃(f:Nat) (fs:List Int),c.src=(f:Int)::fs:=by
   cases hs0:c.src with
   | nil=>rw[hs0] at hfit;simp at hfit
   | cons f fs=>exact⟨f.toNat,fs,by have:=(hsrc f (by rw[hs0];simp)).1;rw[Int.toNat_of_nonneg this]⟩
  have Ip:f < i:=by have:=(hsrc f (by rw[hf];simp)).2;omega
  have mN:=aMm hH.t.aD f
  have Xu:∀w1,Below w.heap.size w w1→Calls Tryz.prog 90 #[.pointer (some ⟨L.t,0,none⟩),iv (i:Int)] w1 (Rt (iv (f:Int)) w1):=fun w1 hb=>Nr L s st i f c fs w1 (hR.below hb) hc hf
  have Xt:∀w1,Below w.heap.size w w1→Calls Tryz.prog 242 #[iv (f:Int),pt b1,pt b2] w1 (Rt (.int .u64 (oH s f)) w1):=fun w1 hb=>ih f Ip (by omega) w1 (hR.below hb) (Ms hb) (go2 hb)
  rw[hf] at Rs
  have yH:oH s i=if c.kind=111 then c.rate else yT c (oH s f):=Rs
  clear Rs
  rcases hfit with⟨hk,_,_,Ri,hm2,cF,Mo,_⟩ | ⟨hk,_,_,_,cF,Mo,_⟩ | ⟨hk,_⟩ | ⟨hk,_⟩
  ·rw[hk] at k0
   rw[if_neg (by omega),yT,if_pos hk] at yH
   refine XK.go ?_
   refine XK.jO ?_
   refine XQ.go ?_
   refine XQ.call (fun w1 t=>Xu w1 (t.below (by simp))) ?_
   refine XQ.Dk (fi:=[]) (vs:=[iv (f:Int)]) (ca:=[pt b1,pt b2]) (fun w1 t=>Xt w1 (t.below (by simp))) ?_
   refine XQ.end_ ?_
   refine XK.go ?_
   refine XK.jO ?_
   refine XQ.go ?_
   refine XQ.call (fun w1 t=>aH3 _ c.mul c.div mN ⟨Ri,hm2⟩ ⟨cF,Mo⟩ w1) ?_
   refine XQ.end_ ?_
   refine XK.go ?_
   by_cases hq:1099511627776 < oH s f*c.mul / c.div
   ·rw[if_pos hq] at yH
    rw[if_pos hq,if_pos hq]
    refine XK.go ?_
    exact XK.rE (by rw[yH])
   ·rw[if_neg hq] at yH
    rw[if_neg hq,if_neg hq]
    refine XK.go ?_
    exact XK.rE (by rw[yH])
  ·rw[hk] at k0
   rw[if_neg (by omega),yT,if_neg (by omega),if_pos hk] at yH
   have hby:byF c=c.div:=by rw[byF,if_pos hk]
   rw[hby] at k10
   have hq:0≤oH s f / c.div∧oH s f / c.div≤oH s f:=⟨Int.ediv_nonneg mN.1 (by omega),Int.ediv_le_self _ mN.1⟩
   refine XK.go ?_
   refine XK.jO ?_
   refine XQ.go ?_
   refine XQ.call (fun w1 t=>Xu w1 (t.below (by simp))) ?_
   refine XQ.Dk (fi:=[]) (vs:=[iv (f:Int)]) (ca:=[pt b1,pt b2]) (fun w1 t=>Xt w1 (t.below (by simp))) ?_
   refine XQ.end_ ?_
   refine XK.go ?_
   refine zI (ds:=.int .i64) (kd:=.u64) (by kernel_rfl) (by kernel_rfl) rfl (wrap_u64 (by omega)) (by decide) ?_
   refine aCw rfl rfl (c:=oH s f / c.div) (by omega) (by rw[Int.tdiv_eq_ediv_of_nonneg mN.1];exact wrap_u64 (by omega)) (by decide) ?_
   refine XK.go ?_
   exact XK.rE (by rw[yH])
  ·rw[hk] at k0
   rw[if_neg (by omega),yT,if_neg (by omega),if_neg (by omega)] at yH
   refine XK.go ?_
   refine XK.jO ?_
   refine XQ.go ?_
   refine XQ.call (fun w1 t=>Xu w1 (t.below (by simp))) ?_
   refine XQ.Dk (fi:=[]) (vs:=[iv (f:Int)]) (ca:=[pt b1,pt b2]) (fun w1 t=>Xt w1 (t.below (by simp))) ?_
   refine XQ.end_ ?_
   refine XK.go ?_
   exact XK.rE (by rw[yH])
  ·rw[hk] at k0
   rw[if_neg (by omega),yT,if_neg (by omega),if_neg (by omega)] at yH
   refine XK.go ?_
   refine XK.jO ?_
   refine XQ.go ?_
   refine XQ.call (fun w1 t=>Xu w1 (t.below (by simp))) ?_
   refine XQ.Dk (fi:=[]) (vs:=[iv (f:Int)]) (ca:=[pt b1,pt b2]) (fun w1 t=>Xt w1 (t.below (by simp))) ?_
   refine XQ.end_ ?_
   refine XK.go ?_
   exact XK.rE (by rw[yH])
theorem aNA(L:TL)(s:aA)(st:List dY)(hH:s.cI)(i:Int)(w:World)(hR:tJ w L s st):
  Calls Tryz.prog 232 #[.pointer (some ⟨L.t,0,none⟩),iv i] w (Rt (.int .u64 (Ek s st i)) w):=by
 unfold Ek
 cases hr:rM s st i
 ·rw[if_neg (by decide)]
  refine XK.en Tryz.func232 Tryz.ntmps232 ?_
  refine XK.go ?_
  refine aS fun g1=>?_
  refine XK.go ?_
  refine aJ (fun w1 t=>Tt L s st hH i w1 (hR.below (t.below (by simp)))) ?_
  rw[hr]
  refine XK.go ?_
  exact XK.rE
 ·rw[if_pos rfl]
  have hi:bE s.aD.length i=true:=by
   unfold rM at hr
   exact(Bool.and_eq_true _ _▸hr).1
  obtain⟨n,rfl⟩:∃n:Nat,i=n:=⟨i.toNat,by have:=of_decide_eq_true hi;omega⟩
  have hlt:n < s.aD.length:=by have:=of_decide_eq_true hi;omega
  refine XK.en Tryz.func232 Tryz.ntmps232 ?_
  refine XK.go ?_
  refine aS fun g1=>?_
  refine XK.go ?_
  refine aJ (fun w1 t=>Tt L s st hH n w1 (hR.below (t.below (by simp)))) ?_
  rw[hr]
  refine XK.go ?_
  refine bB fun g2=>?_
  refine XK.go ?_
  refine iD (vf:=[]) (vc:=[pt g1,pt g2]) rfl rfl (by decide) ?_
  refine XK.go ?_
  refine Wl (fi:=[]) (vs:=[iv (n:Int)]) (ca:=[pt g1,pt g2]) (fun w1 t=>aND L s st hH g1 g2 n hlt w1 (hR.below (t.below (by simp))) ((t.box (i:=1) rfl).at_ (j:=0) rfl) ((t.box (i:=0) rfl).at_ (j:=0) rfl)) ?_
  refine XK.go ?_
  exact XK.rE
end
section
set_option maxHeartbeats 4000000
set_option maxRecDepth 20000
def jR(s:aA)(x:aO)(l:List Int):List Int:=
 let w:=l.headD 0
 if bJ w 0 8=0 then[131072]
 else if bJ w 10 8=16∧bJ w 0 8=1 then[IntKind.u32.wrap (s.domains.length+s.aD.length*256+s.aL.length*65536+s.aC.length*16777216)]
 else if bJ w 10 8=17∧bJ w 0 8=5 then[Em (qB x.dm (l.getD 1 0))]
 else if bJ w 10 8=20∧bJ w 0 8=6 then[IntKind.u32.wrap (Ek s x.ck (l.getD 1 0)),IntKind.u32.wrap (Ek s x.ck (l.getD 1 0) / 4294967296)] else[]
theorem aLl(L:HL)(s:aA)(x:aO)(w:World)(hH:s.cI)(i:Int)(hR:qZ w L s x):Calls Tryz.prog 186 #[.pointer (some ⟨L.h,0,none⟩),iv i] w (Rt (.int .u64 (Ek s x.ck i)) w):=by
 have k0:=hR.r0.at_ (j:=0) rfl
 refine XK.en Tryz.func186 Tryz.ntmps186 ?_
 refine XK.go ?_
 refine aJ (fun w1 t=>yJ L s x w1 (hR.below (t.below (by simp)))) ?_
 refine XK.go ?_
 refine aJ (fun w1 t=>aNA L.T s x.ck hH i w1 (hR.tree.below (t.below (by simp)))) ?_
 refine XK.go ?_
 exact XK.rE
theorem aF1{α:Type}{cs vs:List α}{o:Nat}(hv:(cs.drop o).take vs.length=vs){j:Nat}{v:α}(hj:vs[j]? =some v):cs[o+j]? =some v:=by
 have hlt:=(List.getElem?_eq_some_iff.1 hj).1
 rw[←hv,List.getElem?_take_of_lt hlt,List.getElem?_drop] at hj
 exact hj
theorem aEJ(f:Nat)(L:fS)(s:aA)(z:bP)(hL:HL)(x:aO)(hH:s.cI)(qM:rA s x.dm)(A:Option Addr)(c:Nat)(v:Int)(l:List Int)(w:World)(hR:Bp w f hL.h L s z)(hh:qZ w hL s x)(hs:aE (all w) 1 A (v::l).length (nF (v::l)))
  (hu:bJ v 28 4=0) (qL:(bJ v 10 8=17∧bJ v 0 8=5)∨(bJ v 10 8=20∧bJ v 0 8=6)→∃i,l=[i]∧0≤i∧i < 4294967296):
  Calls Tryz.prog 106 #[pt f,.slice A (v::l).length c] w (fun y w'=>(∃r,y=.returned r∧Ui (jR s x (v::l)) r w w')∧Below w.heap.size w w'):=by
 obtain⟨b,off,rfl,hro⟩:=aE.u32 hs (by simp)
 have k0:=hro 0 v rfl
 have hlen:(v::l).length=l.length+1:=rfl
 have hE:zL v=0:=by rw[zL,if_neg (by simp[hu])]
 have hU:Gy v=Iq (bJ v 0 8) (bJ v 8 2) (bJ v 10 8) (bJ v 18 10):=by rw[Gy,if_neg (by simp[hu])]
 have kf:=hR.r0.at_ (j:=0) rfl
 have k4:cZ w f 1 [.slice L.a1.1 s.aD.length L.a1.2,.slice L.a2.1 s.domains.length L.a2.2,.slice L.a3.1 s.aL.length L.a3.2,.slice L.a4.1 s.aC.length L.a4.2]:=⟨hR.r0.1,fun j v hj=>by
  have:=hR.r0.2 (1+j) v (aF1 rfl hj)
  rwa [Nat.zero_add] at this⟩
 have hnc:=hH.t.nc
 have hnd:=hH.t.nd
 have fU:=hH.t.nr
 have lD:=hH.t.nv
 refine XK.en Tryz.func106 Tryz.ntmps106 ?_
 refine XK.gw ?_
 refine aJ (fun w1 t=>aCE v w1) ?_
 rw[hE,hU]
 dsimp only[Iq]
 refine XK.go ?_
 refine bB fun g1=>?_
 refine XK.go ?_
 refine XK.if_ rfl (fun h1=>?_) (fun h1=>?_)
 ·have hm:jR s x (v::l)=[131072]:=if_pos (by simpa using h1)
  rw[hm]
  refine XK.go ?_
  refine dF fun g2=>?_
  refine XK.go ?_
  refine XK.still [] [0] [] (by simp) rfl (by decide) (by decide) fun q hq _ hfr=>?_
  obtain⟨F2,rL,rG⟩:=hq 0 _ (by simp) rfl
  have bQ:=aE.fZ (Y:=q.Z) (sz:=1) (n:=1) (c:=1) rL rG rfl
  exact XK.rX (h:=fun w1 st=>⟨_,rfl,_,_,rfl,aE.le bQ (st.jD (by simp) (hfr (by simp) (by simp)))⟩)
 ·have n1:bJ v 0 8≠0:=by simpa using h1
  refine XK.go ?_
  refine aW (t:=26) rfl (fun h2=>?_) (fun h2=>?_)
  ·have p1:bJ v 10 8=16:=by simpa using h2
   refine XK.go ?_
   refine XK.if_ rfl (fun h3=>?_) (fun h3=>?_)
   ·have m1:bJ v 0 8=1:=by simpa using h3
    have hm:jR s x (v::l)=[IntKind.u32.wrap (s.domains.length+s.aD.length*256+s.aL.length*65536+s.aC.length*16777216)]:=(if_neg n1).trans (if_pos ⟨p1,m1⟩)
    rw[hm]
    refine XK.go ?_
    refine bB fun g2=>?_
    refine XK.go ?_
    refine Ki rfl rfl (c:=s.aD.length*256) (by decide) (by show IntKind.i64.wrap ((s.aD.length:Int)*256)=_;exact eR (by omega)) (by decide) ?_
    refine XK.go ?_
    refine Ki rfl rfl (c:=s.aL.length*65536) (by decide) (by show IntKind.i64.wrap ((s.aL.length:Int)*65536)=_;exact eR (by omega)) (by decide) ?_
    refine XK.go ?_
    refine Ki rfl rfl (c:=s.aC.length*16777216) (by decide) (by show IntKind.i64.wrap ((s.aC.length:Int)*16777216)=_;exact eR (by omega)) (by decide) ?_
    refine XK.go ?_
    refine zI (ds:=.int .i64) (kd:=.u32) (by kernel_rfl) (by kernel_rfl) rfl rfl (by decide) ?_
    refine dF fun g3=>?_
    refine XK.go ?_
    refine XK.still [] [0] [] (by simp) rfl (by decide) (by decide) fun q hq _ hfr=>?_
    obtain⟨F2,rL,rG⟩:=hq 0 _ (by simp) rfl
    have bQ:=aE.fZ (Y:=q.Z) (sz:=1) (n:=1) (c:=1) rL rG rfl
    exact XK.rX (h:=fun w1 st=>⟨_,rfl,_,_,rfl,aE.le bQ (st.jD (by simp) (hfr (by simp) (by simp)))⟩)
   ·have m1:bJ v 0 8≠1:=by simpa using h3
    have hm:jR s x (v::l)=[]:=(if_neg n1).trans ((if_neg fun h=>m1 h.2).trans ((if_neg fun h=>by have:=h.1;simp[p1] at this).trans (if_neg fun h=>by have:=h.1;simp[p1] at this)))
    rw[hm]
    refine XK.go ?_
    refine aW (t:=60) rfl (fun h4=>absurd h4 (by simp[p1])) (fun _=>?_)
    refine XK.go ?_
    refine aW (t:=80) rfl (fun h4=>absurd h4 (by simp[p1])) (fun _=>?_)
    refine XK.go ?_
    exact XK.rX (h:=fun _ _=>⟨_,rfl,_,_,rfl,rfl,fun h=>absurd h (by simp)⟩)
  ·have p1:bJ v 10 8≠16:=by simpa using h2
   refine XK.go ?_
   refine aW (t:=60) rfl (fun h3=>?_) (fun h3=>?_)
   ·have p2:bJ v 10 8=17:=by simpa using h3
    refine XK.go ?_
    refine XK.if_ rfl (fun h4=>?_) (fun h4=>?_)
    ·have m1:bJ v 0 8=5:=by simpa using h4
     obtain⟨i,rfl,hi1,hi2⟩:=qL (.inl ⟨p2,m1⟩)
     have aKT:[v,i].length=2:=rfl
     have hm:jR s x [v,i]=[Em (qB x.dm i)]:=(if_neg n1).trans ((if_neg fun h=>p1 h.1).trans (if_pos ⟨p2,m1⟩))
     have k1:=hro 1 i rfl
     rw[hm]
     refine XK.go ?_
     refine XK.eU [1,2,3,5,6,7] ?_
     refine XB.mv 0 ?_
     refine XB.mv 4 ?_
     refine XB.q 1 ?_
     refine XB.q 2 ?_
     refine XB.q 3 ?_
     refine XB.q 5 ?_ (cY:=dat (sz:=1) 1 (off+1))
     refine XB.q 6 ?_
     refine XB.q 7 ?_ (cY:=Ga (ds:=.int .u32) (by kernel_rfl) (by kernel_rfl) rfl (eR (by omega)))
     refine XB.next 8 rfl (by kernel_rfl) ?_
     refine aJ (fun w1 t=>aBp hL s x w1 qM i (hh.below (t.below (by simp)))) ?_
     refine XB.bt ?_
     refine XB.next 9 rfl (by kernel_rfl) ?_
     refine aJ (fun w1 t=>aMa _ w1) ?_
     refine XB.bt ?_
     refine XB.next 10 rfl (by kernel_rfl) ?_
     refine dF fun g2=>?_
     refine XB.bt ?_
     refine XB.next 11 rfl (by kernel_rfl) ?_
     refine bA ?_
     refine XB.bt ?_
     refine XB.done (by kernel_rfl) ?_
     refine XK.go ?_
     refine XK.still [] [0] [] (by simp) rfl (by decide) (by decide) fun q hq _ hfr=>?_
     obtain⟨F2,rL,rG⟩:=hq 0 _ (by simp) rfl
     have bQ:=aE.fZ (Y:=q.Z) (sz:=1) (n:=1) (c:=1) rL rG rfl
     exact XK.rX (h:=fun w1 st=>⟨_,rfl,_,_,rfl,aE.le bQ (st.jD (by simp) (hfr (by simp) (by simp)))⟩)
    ·have m1:bJ v 0 8≠5:=by simpa using h4
     have hm:jR s x (v::l)=[]:=(if_neg n1).trans ((if_neg fun h=>p1 h.1).trans ((if_neg fun h=>m1 h.2).trans (if_neg fun h=>by have:=h.1;simp[p2] at this)))
     rw[hm]
     refine XK.go ?_
     refine aW (t:=80) rfl (fun h4=>absurd h4 (by simp[p2])) (fun _=>?_)
     refine XK.go ?_
     exact XK.rX (h:=fun _ _=>⟨_,rfl,_,_,rfl,rfl,fun h=>absurd h (by simp)⟩)
   ·have p2:bJ v 10 8≠17:=by simpa using h3
    refine XK.go ?_
    refine aW (t:=80) rfl (fun h5=>?_) (fun h5=>?_)
    ·have p3:bJ v 10 8=20:=by simpa using h5
     refine XK.go ?_
     refine XK.if_ rfl (fun h6=>?_) (fun h6=>?_)
     ·have m1:bJ v 0 8=6:=by simpa using h6
      obtain⟨i,rfl,hi1,hi2⟩:=qL (.inr ⟨p3,m1⟩)
      have aKT:[v,i].length=2:=rfl
      have hm:jR s x [v,i]=[IntKind.u32.wrap (Ek s x.ck i),IntKind.u32.wrap (Ek s x.ck i / 4294967296)]:=(if_neg n1).trans ((if_neg fun h=>p1 h.1).trans ((if_neg fun h=>p2 h.1).trans (if_pos ⟨p3,m1⟩)))
      have k1:=hro 1 i rfl
      rw[hm]
      refine XK.go ?_
      refine XK.eU [1,2,3,5,6,7] ?_
      refine XB.mv 0 ?_
      refine XB.mv 4 ?_
      refine XB.q 1 ?_
      refine XB.q 2 ?_
      refine XB.q 3 ?_
      refine XB.q 5 ?_ (cY:=dat (sz:=1) 1 (off+1))
      refine XB.q 6 ?_
      refine XB.q 7 ?_ (cY:=Ga (ds:=.int .u32) (by kernel_rfl) (by kernel_rfl) rfl (eR (by omega)))
      refine XB.next 8 rfl (by kernel_rfl) ?_
      refine aJ (fun w1 t=>aLl hL s x w1 hH i (hh.below (t.below (by simp)))) ?_
      refine XB.bt ?_
      refine XB.next 9 rfl (by kernel_rfl) ?_
      refine bA ?_
      refine XB.bt ?_
      refine XB.done (by kernel_rfl) ?_
      refine XK.go ?_
      refine zI (ds:=.int .u64) (kd:=.u32) (by kernel_rfl) (by kernel_rfl) rfl rfl (by decide) ?_
      refine XK.go ?_
      refine aGu rfl rfl (c:=Ek s x.ck i / 4294967296) (by decide) (by show Int.fdiv _ (2 ^ 32)=_;rw[Int.fdiv_eq_ediv_of_nonneg _ (by decide)];rfl) (by decide) ?_
      refine zI (ds:=.int .u64) (kd:=.u32) (by kernel_rfl) (by kernel_rfl) rfl rfl (by decide) ?_
      refine dF fun g2=>?_
      refine XK.go ?_
      refine XK.still [] [0] [] (by simp) rfl (by decide) (by decide) fun q hq _ hfr=>?_
      obtain⟨F2,rL,rG⟩:=hq 0 _ (by simp) rfl
      have bQ:=aE.fZ (Y:=q.Z) (sz:=1) (n:=2) (c:=2) rL rG rfl
      exact XK.rX (h:=fun w1 st=>⟨_,rfl,_,_,rfl,aE.le bQ (st.jD (by simp) (hfr (by simp) (by simp)))⟩)
     ·have m1:bJ v 0 8≠6:=by simpa using h6
      have hm:jR s x (v::l)=[]:=(if_neg n1).trans ((if_neg fun h=>p1 h.1).trans ((if_neg fun h=>p2 h.1).trans (if_neg fun h=>m1 h.2)))
      rw[hm]
      refine XK.go ?_
      exact XK.rX (h:=fun _ _=>⟨_,rfl,_,_,rfl,rfl,fun h=>absurd h (by simp)⟩)
    ·have p3:bJ v 10 8≠20:=by simpa using h5
     have hm:jR s x (v::l)=[]:=(if_neg n1).trans ((if_neg fun h=>p1 h.1).trans ((if_neg fun h=>p2 h.1).trans (if_neg fun h=>p3 h.1)))
     rw[hm]
     refine XK.go ?_
     exact XK.rX (h:=fun _ _=>⟨_,rfl,_,_,rfl,rfl,fun h=>absurd h (by simp)⟩)
end
section
set_option maxHeartbeats 4000000
set_option maxRecDepth 20000
def dU(f:Nat)(hL:HL)(s:aA)(z:bP)(x:aO):HP:=HP.many [xG f hL.h s z,cP hL s x]
def gP(z:bP)(a:Nat):List Int:=if a=0 then z.w0 else z.w1
def vE(s:aA)(x:aO)(l:List Int)(st:Int):List Int:=l.headD 0::IntKind.u32.wrap st::(if st=0 then jR s x l else[])
def El(z:bP)(a:Nat)(hs:Int)(l:List Int):bP:=if a=0 then {z with h0:=hs,w0:=l} else {z with h1:=hs,w1:=l}
def jM(s:aA)(x:aO)(z:bP)(a:Nat)(st:Int):bP:=El z a 2 (vE s x (gP z a) st)
structure qX(l:List Int):Prop where
 ne:∃v r,l=v::r∧bJ v 28 4=0∧((bJ v 10 8=17∧bJ v 0 8=5)∨(bJ v 10 8=20∧bJ v 0 8=6)→∃i,r=[i]∧0≤i∧i < 4294967296)
theorem Hq(s:aA)(x:aO)(l:List Int):(jR s x l).length≤2:=by
 unfold jR
 dsimp only
 split
 ·simp
 ·split
  ·simp
  ·split
   ·simp
   ·split<;>simp
section
variable{N:bO}{w0 w:World}{e:Env}{R:List Piece}{H:List HP}{K:Act→World→Prop}{f h:Nat}{L:fS}{s:aA}{z:bP}{v:Int}{r:List Int}
theorem cT.at_{a:AC}{w:World}(hb:cT a (v::r) (all w)):∃b off,a.1=some ⟨b,off,none⟩∧w.cell? ⟨b,off,none⟩=some (.int .u32 v):=by
 obtain⟨b,off,hA,hc⟩:=aE.u32 hb (by simp)
 exact⟨b,off,hA,by have:=(hc 0 v rfl).2;simpa using this⟩
theorem XK.aF9(i:Nat)(hi:H[i]? =some (fT f h L s z))(hw:z.w0=v::r)(k:∀b off,L.b0.1=some ⟨b,off,none⟩→Rd w0 R H b off (.int .u32 v)→XK N w0 K e R H):XK N w0 K e R H:=fun a w hr st=>by
 obtain⟨b,off,hA,_⟩:=cT.at_ (hw▸(st.uV i hi).b0)
 refine k b off hA (fun w1 t=>?_) a w hr st
 obtain⟨b',off',mO,hc⟩:=cT.at_ (hw▸(t.uV i hi).b0)
 rw[hA] at mO
 cases mO
 exact hc
theorem XK.aF8(i:Nat)(hi:H[i]? =some (fT f h L s z))(hw:z.w1=v::r)(k:∀b off,L.b1.1=some ⟨b,off,none⟩→Rd w0 R H b off (.int .u32 v)→XK N w0 K e R H):XK N w0 K e R H:=fun a w hr st=>by
 obtain⟨b,off,hA,_⟩:=cT.at_ (hw▸(st.uV i hi).b1)
 refine k b off hA (fun w1 t=>?_) a w hr st
 obtain⟨b',off',mO,hc⟩:=cT.at_ (hw▸(t.uV i hi).b1)
 rw[hA] at mO
 cases mO
 exact hc
end
theorem aLV(f:Nat)(hL:HL)(s:aA)(z:bP)(x:aO)(hH:s.cI)(aM:fF hL s)(hok:bR s x)(st:Int)(hw:z.w0=[])(hst:st≠0)(w:World)(F:Nat→Prop)(hp:(dU f hL s z x).sat F w)(hF:∀b,F b→b < w.heap.size):
  Calls Tryz.prog 52 #[pt f,iv 0,.int .i32 st] w (fun y w'=>y=.returned (.tuple #[])∧∃F',(dU f hL s (jM s x z 0 st) x).sat F' w'∧aV w w' F F'):=by
 have hr:jM s x z 0 st={z with h0:=2,w0:=[0,IntKind.u32.wrap st]}:=by simp[jM,El,vE,gP,hw,hst]
 rw[hr]
 refine XK.bY Tryz.func52 Tryz.ntmps52 hp hF ?_
 refine XK.tk 0 0 ?_
 refine XK.ox 0 fun L=>?_
 refine XK.take 0 0 rfl rfl ?_
 dsimp only[List.set,cN]
 refine XK.go ?_
 refine kd (dX 0 11) ?_
 refine XK.go ?_
 refine XK.gv 0 0 ?_
 refine XK.if_ rfl (fun h=>absurd h (by simp[hw])) (fun _=>?_)
 refine XK.go ?_
 refine XK.if_ rfl (fun h=>absurd h (by simpa using hst)) (fun _=>?_)
 refine XK.go ?_
 refine XK.tk 0 0 ?_
 refine XK.eU [7,8] ?_
 refine XB.mv 0 ?_
 refine XB.mv 1 ?_
 refine XB.mv 2 ?_
 refine XB.mv 3 ?_
 refine XB.mv 4 ?_
 refine XB.q 7 ?_
 refine XB.q 8 ?_
 refine XB.next 5 rfl (by kernel_rfl) ?_
 refine fB (Dr (0::IntKind.u32.wrap st::[])) (fun w1 t=>Nx 0 st _ rfl none 0 0 [] w1 (⟨rfl,fun h=>absurd h (by simp)⟩) rfl (by have:=Hq s x z.w0;simp;try omega)) ?_
 rintro _ _ q9 ⟨An,cn,rfl,rfl⟩ _
 dsimp only[List.cons_append,List.nil_append]
 refine XB.bk ?_
 refine XB.next 6 rfl (by kernel_rfl) ?_
 refine kd (eM rfl) ?_
 refine XB.bk ?_
 refine XB.next 9 rfl (by kernel_rfl) ?_
 refine kd (dX 0 11) ?_
 refine XB.bt ?_
 refine XB.next 10 rfl (by kernel_rfl) ?_
 refine jV 1 (t:=138) rfl rfl rfl (by kernel_rfl) (by simp[Value.cells,Value.oneCell']) (by simp[Value.cells,cN]) ?_
 dsimp only[List.set,Value.cells,eE,cN]
 refine XB.bt ?_
 refine XB.done (by kernel_rfl) ?_
 refine XK.rN 0 (Φ:=cT (An,cn) (0::IntKind.u32.wrap st::[])) (hm:=cT.le) rfl (fun p hp=>hp) ?_
 refine XK.tk 2 3 ?_
 refine XK.weak [1,2,3,4] rfl (by decide) (R':=[⟨w,fun b=>b < w.heap.size∧¬F b⟩]) (by simp) ?_
 refine XK.gv 1 3 ?_
 refine XK.qO (h:=hL.h) (s:=s) (z:={z with h0:=2,w0:=0::IntKind.u32.wrap st::[]}) {L with b0:=(An,cn)} 0 rfl ?_
 dsimp only[List.set]
 refine XK.gv 0 0 ?_
 exact XK.r0 0 hF
theorem aLU(f:Nat)(hL:HL)(s:aA)(z:bP)(x:aO)(hH:s.cI)(aM:fF hL s)(hok:bR s x)(st:Int)(hw:z.w1=[])(hst:st≠0)(w:World)(F:Nat→Prop)(hp:(dU f hL s z x).sat F w)(hF:∀b,F b→b < w.heap.size):
  Calls Tryz.prog 52 #[pt f,iv 1,.int .i32 st] w (fun y w'=>y=.returned (.tuple #[])∧∃F',(dU f hL s (jM s x z 1 st) x).sat F' w'∧aV w w' F F'):=by
 have hr:jM s x z 1 st={z with h1:=2,w1:=[0,IntKind.u32.wrap st]}:=by simp[jM,El,vE,gP,hw,hst]
 rw[hr]
 refine XK.bY Tryz.func52 Tryz.ntmps52 hp hF ?_
 refine XK.tk 0 0 ?_
 refine XK.ox 0 fun L=>?_
 refine XK.take 0 0 rfl rfl ?_
 dsimp only[List.set,cN]
 refine XK.go ?_
 refine kd (dX 1 13) ?_
 refine XK.go ?_
 refine XK.gv 0 0 ?_
 refine XK.if_ rfl (fun h=>absurd h (by simp[hw])) (fun _=>?_)
 refine XK.go ?_
 refine XK.if_ rfl (fun h=>absurd h (by simpa using hst)) (fun _=>?_)
 refine XK.go ?_
 refine XK.tk 0 0 ?_
 refine XK.eU [7,8] ?_
 refine XB.mv 0 ?_
 refine XB.mv 1 ?_
 refine XB.mv 2 ?_
 refine XB.mv 3 ?_
 refine XB.mv 4 ?_
 refine XB.q 7 ?_
 refine XB.q 8 ?_
 refine XB.next 5 rfl (by kernel_rfl) ?_
 refine fB (Dr (0::IntKind.u32.wrap st::[])) (fun w1 t=>Nx 0 st _ rfl none 0 0 [] w1 (⟨rfl,fun h=>absurd h (by simp)⟩) rfl (by have:=Hq s x z.w1;simp;try omega)) ?_
 rintro _ _ q9 ⟨An,cn,rfl,rfl⟩ _
 dsimp only[List.cons_append,List.nil_append]
 refine XB.bk ?_
 refine XB.next 6 rfl (by kernel_rfl) ?_
 refine kd (eM rfl) ?_
 refine XB.bk ?_
 refine XB.next 9 rfl (by kernel_rfl) ?_
 refine kd (dX 1 13) ?_
 refine XB.bt ?_
 refine XB.next 10 rfl (by kernel_rfl) ?_
 refine jV 1 (t:=138) rfl rfl rfl (by kernel_rfl) (by simp[Value.cells,Value.oneCell']) (by simp[Value.cells,cN]) ?_
 dsimp only[List.set,Value.cells,eE,cN]
 refine XB.bt ?_
 refine XB.done (by kernel_rfl) ?_
 refine XK.rN 0 (Φ:=cT (An,cn) (0::IntKind.u32.wrap st::[])) (hm:=cT.le) rfl (fun p hp=>hp) ?_
 refine XK.tk 2 4 ?_
 refine XK.weak [1,2,3,4] rfl (by decide) (R':=[⟨w,fun b=>b < w.heap.size∧¬F b⟩]) (by simp) ?_
 refine XK.gv 1 4 ?_
 refine XK.qO (h:=hL.h) (s:=s) (z:={z with h1:=2,w1:=0::IntKind.u32.wrap st::[]}) {L with b1:=(An,cn)} 0 rfl ?_
 dsimp only[List.set]
 refine XK.gv 0 0 ?_
 exact XK.r0 0 hF
theorem aLX(f:Nat)(hL:HL)(s:aA)(z:bP)(x:aO)(hH:s.cI)(aM:fF hL s)(hok:bR s x)(st:Int)(v:Int)(r:List Int)(hw:z.w0=v::r)(hst:st≠0)(w:World)(F:Nat→Prop)(hp:(dU f hL s z x).sat F w)(hF:∀b,F b→b < w.heap.size):
  Calls Tryz.prog 52 #[pt f,iv 0,.int .i32 st] w (fun y w'=>y=.returned (.tuple #[])∧∃F',(dU f hL s (jM s x z 0 st) x).sat F' w'∧aV w w' F F'):=by
 have hr:jM s x z 0 st={z with h0:=2,w0:=[v,IntKind.u32.wrap st]}:=by simp[jM,El,vE,gP,hw,hst]
 rw[hr]
 refine XK.bY Tryz.func52 Tryz.ntmps52 hp hF ?_
 refine XK.tk 0 0 ?_
 refine XK.ox 0 fun L=>?_
 refine XK.aF9 0 rfl hw fun b off hA hrd=>?_
 obtain⟨a1,a2,a3,a4,x1,x2,x3,y1,y2,y3,⟨B0,c0⟩,b1⟩:=L
 dsimp only at hA
 subst hA
 refine XK.take 0 0 rfl rfl ?_
 dsimp only[List.set,cN]
 refine XK.go ?_
 refine kd (dX 0 11) ?_
 refine XK.go ?_
 refine XK.gv 0 0 ?_
 refine XK.if_ rfl (fun _=>?_) (fun h=>absurd h (by simp[hw]))
 have hlen:z.w0.length=r.length+1:=by rw[hw];rfl
 refine XK.gw ?_
 refine XK.if_ rfl (fun h=>absurd h (by simpa using hst)) (fun _=>?_)
 refine XK.go ?_
 refine XK.tk 0 0 ?_
 refine XK.eU [7,8] ?_
 refine XB.mv 0 ?_
 refine XB.mv 1 ?_
 refine XB.mv 2 ?_
 refine XB.mv 3 ?_
 refine XB.mv 4 ?_
 refine XB.q 7 ?_
 refine XB.q 8 ?_
 refine XB.next 5 rfl (by kernel_rfl) ?_
 refine fB (Dr (v::IntKind.u32.wrap st::[])) (fun w1 t=>Nx v st _ rfl none 0 0 [] w1 (⟨rfl,fun h=>absurd h (by simp)⟩) rfl (by have:=Hq s x z.w0;simp;try omega)) ?_
 rintro _ _ q9 ⟨An,cn,rfl,rfl⟩ _
 dsimp only[List.cons_append,List.nil_append]
 refine XB.bk ?_
 refine XB.next 6 rfl (by kernel_rfl) ?_
 refine kd (eM rfl) ?_
 refine XB.bk ?_
 refine XB.next 9 rfl (by kernel_rfl) ?_
 refine kd (dX 0 11) ?_
 refine XB.bt ?_
 refine XB.next 10 rfl (by kernel_rfl) ?_
 refine jV 1 (t:=138) rfl rfl rfl (by kernel_rfl) (by simp[Value.cells,Value.oneCell']) (by simp[Value.cells,cN]) ?_
 dsimp only[List.set,Value.cells,eE,cN]
 refine XB.bt ?_
 refine XB.done (by kernel_rfl) ?_
 refine XK.rN 0 (Φ:=cT (An,cn) (v::IntKind.u32.wrap st::[])) (hm:=cT.le) rfl (fun p hp=>hp) ?_
 refine XK.tk 2 3 ?_
 refine XK.weak [1,2,3,4] rfl (by decide) (R':=[⟨w,fun b=>b < w.heap.size∧¬F b⟩]) (by simp) ?_
 refine XK.gv 1 3 ?_
 refine XK.qO (h:=hL.h) (s:=s) (z:={z with h0:=2,w0:=v::IntKind.u32.wrap st::[]}) ⟨a1,a2,a3,a4,x1,x2,x3,y1,y2,y3,(An,cn),b1⟩ 0 rfl ?_
 dsimp only[List.set]
 refine XK.gv 0 0 ?_
 exact XK.r0 0 hF
theorem aLW(f:Nat)(hL:HL)(s:aA)(z:bP)(x:aO)(hH:s.cI)(aM:fF hL s)(hok:bR s x)(st:Int)(v:Int)(r:List Int)(hw:z.w1=v::r)(hst:st≠0)(w:World)(F:Nat→Prop)(hp:(dU f hL s z x).sat F w)(hF:∀b,F b→b < w.heap.size):
  Calls Tryz.prog 52 #[pt f,iv 1,.int .i32 st] w (fun y w'=>y=.returned (.tuple #[])∧∃F',(dU f hL s (jM s x z 1 st) x).sat F' w'∧aV w w' F F'):=by
 have hr:jM s x z 1 st={z with h1:=2,w1:=[v,IntKind.u32.wrap st]}:=by simp[jM,El,vE,gP,hw,hst]
 rw[hr]
 refine XK.bY Tryz.func52 Tryz.ntmps52 hp hF ?_
 refine XK.tk 0 0 ?_
 refine XK.ox 0 fun L=>?_
 refine XK.aF8 0 rfl hw fun b off hA hrd=>?_
 obtain⟨a1,a2,a3,a4,x1,x2,x3,y1,y2,y3,b0,⟨B1,c1⟩⟩:=L
 dsimp only at hA
 subst hA
 refine XK.take 0 0 rfl rfl ?_
 dsimp only[List.set,cN]
 refine XK.go ?_
 refine kd (dX 1 13) ?_
 refine XK.go ?_
 refine XK.gv 0 0 ?_
 refine XK.if_ rfl (fun _=>?_) (fun h=>absurd h (by simp[hw]))
 have hlen:z.w1.length=r.length+1:=by rw[hw];rfl
 refine XK.gw ?_
 refine XK.if_ rfl (fun h=>absurd h (by simpa using hst)) (fun _=>?_)
 refine XK.go ?_
 refine XK.tk 0 0 ?_
 refine XK.eU [7,8] ?_
 refine XB.mv 0 ?_
 refine XB.mv 1 ?_
 refine XB.mv 2 ?_
 refine XB.mv 3 ?_
 refine XB.mv 4 ?_
 refine XB.q 7 ?_
 refine XB.q 8 ?_
 refine XB.next 5 rfl (by kernel_rfl) ?_
 refine fB (Dr (v::IntKind.u32.wrap st::[])) (fun w1 t=>Nx v st _ rfl none 0 0 [] w1 (⟨rfl,fun h=>absurd h (by simp)⟩) rfl (by have:=Hq s x z.w1;simp;try omega)) ?_
 rintro _ _ q9 ⟨An,cn,rfl,rfl⟩ _
 dsimp only[List.cons_append,List.nil_append]
 refine XB.bk ?_
 refine XB.next 6 rfl (by kernel_rfl) ?_
 refine kd (eM rfl) ?_
 refine XB.bk ?_
 refine XB.next 9 rfl (by kernel_rfl) ?_
 refine kd (dX 1 13) ?_
 refine XB.bt ?_
 refine XB.next 10 rfl (by kernel_rfl) ?_
 refine jV 1 (t:=138) rfl rfl rfl (by kernel_rfl) (by simp[Value.cells,Value.oneCell']) (by simp[Value.cells,cN]) ?_
 dsimp only[List.set,Value.cells,eE,cN]
 refine XB.bt ?_
 refine XB.done (by kernel_rfl) ?_
 refine XK.rN 0 (Φ:=cT (An,cn) (v::IntKind.u32.wrap st::[])) (hm:=cT.le) rfl (fun p hp=>hp) ?_
 refine XK.tk 2 4 ?_
 refine XK.weak [1,2,3,4] rfl (by decide) (R':=[⟨w,fun b=>b < w.heap.size∧¬F b⟩]) (by simp) ?_
 refine XK.gv 1 4 ?_
 refine XK.qO (h:=hL.h) (s:=s) (z:={z with h1:=2,w1:=v::IntKind.u32.wrap st::[]}) ⟨a1,a2,a3,a4,x1,x2,x3,y1,y2,y3,b0,(An,cn)⟩ 0 rfl ?_
 dsimp only[List.set]
 refine XK.gv 0 0 ?_
 exact XK.r0 0 hF
theorem aLT(f:Nat)(hL:HL)(s:aA)(z:bP)(x:aO)(hH:s.cI)(aM:fF hL s)(hok:bR s x)(v:Int)(r:List Int)(hw:z.w0=v::r)(hu:bJ v 28 4=0)(qL:(bJ v 10 8=17∧bJ v 0 8=5)∨(bJ v 10 8=20∧bJ v 0 8=6)→∃i,r=[i]∧0≤i∧i < 4294967296)(w:World)(F:Nat→Prop)(hp:(dU f hL s z x).sat F w)(hF:∀b,F b→b < w.heap.size):
  Calls Tryz.prog 52 #[pt f,iv 0,.int .i32 0] w (fun y w'=>y=.returned (.tuple #[])∧∃F',(dU f hL s (jM s x z 0 0) x).sat F' w'∧aV w w' F F'):=by
 have hr:jM s x z 0 0={z with h0:=2,w0:=v::0::jR s x z.w0}:=by simp[jM,El,vE,gP,hw];rfl
 rw[hr]
 refine XK.bY Tryz.func52 Tryz.ntmps52 hp hF ?_
 refine XK.tk 0 0 ?_
 refine XK.ox 0 fun L=>?_
 refine XK.aF9 0 rfl hw fun b off hA hrd=>?_
 obtain⟨a1,a2,a3,a4,x1,x2,x3,y1,y2,y3,⟨B0,c0⟩,b1⟩:=L
 dsimp only at hA
 subst hA
 refine XK.take 0 0 rfl rfl ?_
 dsimp only[List.set,cN]
 refine XK.go ?_
 refine kd (dX 0 11) ?_
 refine XK.go ?_
 refine XK.gv 0 0 ?_
 refine XK.if_ rfl (fun _=>?_) (fun h=>absurd h (by simp[hw]))
 have hlen:z.w0.length=r.length+1:=by rw[hw];rfl
 refine XK.gw ?_
 refine XK.tk 1 1 ?_
 refine gO [] (fun v w w'=>Ui (jR s x z.w0) v w w') (fun w1 t=>by
  have hf:Bp w1 f hL.h ⟨a1,a2,a3,a4,x1,x2,x3,y1,y2,y3,(some ⟨b,off,none⟩,c0),b1⟩ s z:=t.uV 1 rfl
  have hb:=hf.b0
  rw[cT,hw] at hb
  have:=aEJ f _ s z hL x hH hok.dm _ c0 v r w1 hf (t.kB 0 rfl aM hok) hb hu qL
  rw[←hw] at this
  exact this) ?_
 rintro _ w3 q3 ⟨Am,cm,rfl,bQ⟩ Xh _ hF3
 have bQ:=bQ.le Xh
 refine XK.gv 1 1 ?_
 refine XK.go ?_
 refine XK.tk 0 0 ?_
 refine XK.eU [7,8] ?_
 refine XB.mv 0 ?_
 refine XB.mv 1 ?_
 refine XB.mv 2 ?_
 refine XB.mv 3 ?_
 refine XB.mv 4 ?_
 refine XB.q 7 ?_
 refine XB.q 8 ?_
 refine XB.next 5 rfl (by kernel_rfl) ?_
 refine fB (Dr (v::0::jR s x z.w0)) (fun w1 t=>Nx v 0 0 rfl Am (jR s x z.w0).length cm (jR s x z.w0) w1 (bQ.le (t.le (by simp))) rfl (by have:=Hq s x z.w0;simp;try omega)) ?_
 rintro _ _ q9 ⟨An,cn,rfl,rfl⟩ _
 dsimp only[List.cons_append,List.nil_append]
 refine XB.bk ?_
 refine XB.next 6 rfl (by kernel_rfl) ?_
 refine kd (eM rfl) ?_
 refine XB.bk ?_
 refine XB.next 9 rfl (by kernel_rfl) ?_
 refine kd (dX 0 11) ?_
 refine XB.bt ?_
 refine XB.next 10 rfl (by kernel_rfl) ?_
 refine jV 1 (t:=138) rfl rfl rfl (by kernel_rfl) (by simp[Value.cells,Value.oneCell']) (by simp[Value.cells,cN]) ?_
 dsimp only[List.set,Value.cells,eE,cN]
 refine XB.bt ?_
 refine XB.done (by kernel_rfl) ?_
 refine XK.rN 0 (Φ:=cT (An,cn) (v::0::jR s x z.w0)) (hm:=cT.le) rfl (fun p hp=>hp) ?_
 refine XK.tk 2 3 ?_
 refine XK.weak [1,2,3,4] rfl (by decide) (R':=[⟨w,fun b=>b < w.heap.size∧¬F b⟩]) (by simp) ?_
 refine XK.gv 1 3 ?_
 refine XK.qO (h:=hL.h) (s:=s) (z:={z with h0:=2,w0:=v::0::jR s x z.w0}) ⟨a1,a2,a3,a4,x1,x2,x3,y1,y2,y3,(An,cn),b1⟩ 0 rfl ?_
 dsimp only[List.set]
 refine XK.gv 0 0 ?_
 exact XK.r0 0 hF
theorem aLS(f:Nat)(hL:HL)(s:aA)(z:bP)(x:aO)(hH:s.cI)(aM:fF hL s)(hok:bR s x)(v:Int)(r:List Int)(hw:z.w1=v::r)(hu:bJ v 28 4=0)(qL:(bJ v 10 8=17∧bJ v 0 8=5)∨(bJ v 10 8=20∧bJ v 0 8=6)→∃i,r=[i]∧0≤i∧i < 4294967296)(w:World)(F:Nat→Prop)(hp:(dU f hL s z x).sat F w)(hF:∀b,F b→b < w.heap.size):
  Calls Tryz.prog 52 #[pt f,iv 1,.int .i32 0] w (fun y w'=>y=.returned (.tuple #[])∧∃F',(dU f hL s (jM s x z 1 0) x).sat F' w'∧aV w w' F F'):=by
 have hr:jM s x z 1 0={z with h1:=2,w1:=v::0::jR s x z.w1}:=by simp[jM,El,vE,gP,hw];rfl
 rw[hr]
 refine XK.bY Tryz.func52 Tryz.ntmps52 hp hF ?_
 refine XK.tk 0 0 ?_
 refine XK.ox 0 fun L=>?_
 refine XK.aF8 0 rfl hw fun b off hA hrd=>?_
 obtain⟨a1,a2,a3,a4,x1,x2,x3,y1,y2,y3,b0,⟨B1,c1⟩⟩:=L
 dsimp only at hA
 subst hA
 refine XK.take 0 0 rfl rfl ?_
 dsimp only[List.set,cN]
 refine XK.go ?_
 refine kd (dX 1 13) ?_
 refine XK.go ?_
 refine XK.gv 0 0 ?_
 refine XK.if_ rfl (fun _=>?_) (fun h=>absurd h (by simp[hw]))
 have hlen:z.w1.length=r.length+1:=by rw[hw];rfl
 refine XK.gw ?_
 refine XK.tk 1 1 ?_
 refine gO [] (fun v w w'=>Ui (jR s x z.w1) v w w') (fun w1 t=>by
  have hf:Bp w1 f hL.h ⟨a1,a2,a3,a4,x1,x2,x3,y1,y2,y3,b0,(some ⟨b,off,none⟩,c1)⟩ s z:=t.uV 1 rfl
  have hb:=hf.b1
  rw[cT,hw] at hb
  have:=aEJ f _ s z hL x hH hok.dm _ c1 v r w1 hf (t.kB 0 rfl aM hok) hb hu qL
  rw[←hw] at this
  exact this) ?_
 rintro _ w3 q3 ⟨Am,cm,rfl,bQ⟩ Xh _ hF3
 have bQ:=bQ.le Xh
 refine XK.gv 1 1 ?_
 refine XK.go ?_
 refine XK.tk 0 0 ?_
 refine XK.eU [7,8] ?_
 refine XB.mv 0 ?_
 refine XB.mv 1 ?_
 refine XB.mv 2 ?_
 refine XB.mv 3 ?_
 refine XB.mv 4 ?_
 refine XB.q 7 ?_
 refine XB.q 8 ?_
 refine XB.next 5 rfl (by kernel_rfl) ?_
 refine fB (Dr (v::0::jR s x z.w1)) (fun w1 t=>Nx v 0 0 rfl Am (jR s x z.w1).length cm (jR s x z.w1) w1 (bQ.le (t.le (by simp))) rfl (by have:=Hq s x z.w1;simp;try omega)) ?_
 rintro _ _ q9 ⟨An,cn,rfl,rfl⟩ _
 dsimp only[List.cons_append,List.nil_append]
 refine XB.bk ?_
 refine XB.next 6 rfl (by kernel_rfl) ?_
 refine kd (eM rfl) ?_
 refine XB.bk ?_
 refine XB.next 9 rfl (by kernel_rfl) ?_
 refine kd (dX 1 13) ?_
 refine XB.bt ?_
 refine XB.next 10 rfl (by kernel_rfl) ?_
 refine jV 1 (t:=138) rfl rfl rfl (by kernel_rfl) (by simp[Value.cells,Value.oneCell']) (by simp[Value.cells,cN]) ?_
 dsimp only[List.set,Value.cells,eE,cN]
 refine XB.bt ?_
 refine XB.done (by kernel_rfl) ?_
 refine XK.rN 0 (Φ:=cT (An,cn) (v::0::jR s x z.w1)) (hm:=cT.le) rfl (fun p hp=>hp) ?_
 refine XK.tk 2 4 ?_
 refine XK.weak [1,2,3,4] rfl (by decide) (R':=[⟨w,fun b=>b < w.heap.size∧¬F b⟩]) (by simp) ?_
 refine XK.gv 1 4 ?_
 refine XK.qO (h:=hL.h) (s:=s) (z:={z with h1:=2,w1:=v::0::jR s x z.w1}) ⟨a1,a2,a3,a4,x1,x2,x3,y1,y2,y3,b0,(An,cn)⟩ 0 rfl ?_
 dsimp only[List.set]
 refine XK.gv 0 0 ?_
 exact XK.r0 0 hF
theorem aB2(f:Nat)(hL:HL)(s:aA)(z:bP)(x:aO)(hH:s.cI)(aM:fF hL s)(hok:bR s x)(a:Nat)(ha:a < 2)(st:Int)(hst:st=0→qX (gP z a))(w:World)(F:Nat→Prop)(hp:(dU f hL s z x).sat F w)(hF:∀b,F b→b < w.heap.size):
  Calls Tryz.prog 52 #[pt f,iv (a:Int),.int .i32 st] w (fun y w'=>y=.returned (.tuple #[])∧∃F',(dU f hL s (jM s x z a st) x).sat F' w'∧aV w w' F F'):=by
 obtain rfl | rfl:a=0∨a=1:=by omega
 ·by_cases h0:st=0
  ·subst h0
   obtain⟨v,r,hw,hu,qL⟩:=(hst rfl).ne
   exact aLT f hL s z x hH aM hok v r hw hu qL w F hp hF
  ·cases hw:z.w0 with
   | nil=>exact aLV f hL s z x hH aM hok st hw h0 w F hp hF
   | cons v r=>exact aLX f hL s z x hH aM hok st v r hw h0 w F hp hF
 ·by_cases h0:st=0
  ·subst h0
   obtain⟨v,r,hw,hu,qL⟩:=(hst rfl).ne
   exact aLS f hL s z x hH aM hok v r hw hu qL w F hp hF
  ·cases hw:z.w1 with
   | nil=>exact aLU f hL s z x hH aM hok st hw h0 w F hp hF
   | cons v r=>exact aLW f hL s z x hH aM hok st v r hw h0 w F hp hF
end
section
set_option maxHeartbeats 4000000
set_option maxRecDepth 20000
def wN(z:bP)(a:Nat):Int:=if a=0 then z.h0 else z.h1
def qH(z:bP):Option Nat:=if wN z (1 - z.last).toNat=1 then some (1 - z.last).toNat else if wN z z.last.toNat=1 then some z.last.toNat else none
def kT(s:aA)(x:aO):List Int:=(List.range s.aC.length).map fun i=>(nE x.wt i:Int)
theorem aLM(f:Nat)(hL:HL)(s:aA)(z:bP)(x:aO)(hl:z.last=0∨z.last=1)(hn:qH z=none)(w:World)(F:Nat→Prop)(hp:(dU f hL s z x).sat F w)(hF:∀b,F b→b < w.heap.size):
  Calls Tryz.prog 50 #[pt f] w (fun y w'=>y=.returned (.bool false)∧∃F',(dU f hL s z x).sat F' w'∧aV w w' F F'):=by
 have hno:z.h0≠1∧z.h1≠1:=by
  unfold qH at hn
  rcases hl with h | h<;>rw[h] at hn<;>simp[wN] at hn<;>by_cases p:z.h0=1<;>by_cases q:z.h1=1<;>simp[p,q] at hn⊢
 refine XK.bY Tryz.func50 Tryz.ntmps50 hp hF ?_
 refine XK.tk 0 0 ?_
 refine XK.Qe 0 rfl fun L=>?_
 dsimp only[List.set,cN]
 rcases hl with hl | hl<;>rw[hl]
 ·refine XK.go ?_
  refine kd (dX 1 13) ?_
  refine XK.go ?_
  refine XK.if_ rfl (fun _=>?_) (fun h=>absurd h (by simp[hno.2]))
  refine XK.go ?_
  refine kd (dX 0 11) ?_
  refine XK.go ?_
  refine XK.if_ rfl (fun _=>?_) (fun h=>absurd h (by simp[hno.1]))
  refine XK.go ?_
  rw[←hl]
  refine XK.qO (h:=hL.h) (s:=s) (z:=z) L 0 rfl ?_
  dsimp only[List.set]
  refine XK.gv 0 0 ?_
  exact XK.rT 0 hF
 ·refine XK.go ?_
  refine kd (dX 0 11) ?_
  refine XK.go ?_
  refine XK.if_ rfl (fun _=>?_) (fun h=>absurd h (by simp[hno.1]))
  refine XK.go ?_
  refine kd (dX 1 13) ?_
  refine XK.go ?_
  refine XK.if_ rfl (fun _=>?_) (fun h=>absurd h (by simp[hno.2]))
  refine XK.go ?_
  rw[←hl]
  refine XK.qO (h:=hL.h) (s:=s) (z:=z) L 0 rfl ?_
  dsimp only[List.set]
  refine XK.gv 0 0 ?_
  exact XK.rT 0 hF
end
end Go.Proofs.YtdcdccmpcmjmhaaGreatDoor
