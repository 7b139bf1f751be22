/- package table: the messages that there are. -/
import Derived.KernelRfl
import Derived.Test.YtdcdccmpcmjmhaaGreatDoorProg
import Derived.Test.YtdcdccmpcmjmhaaGreatDoorRpmNeedsK3
namespace Go.Proofs.YtdcdccmpcmjmhaaGreatDoor
set_option linter.all false
set_option maxHeartbeats 4000000
set_option maxRecDepth 20000
open Go.RowKit Go.Proofs.Tryz
section
theorem aID(L:List (Nat×Nat))(place:Nat→Option (Nat×Nat))(hp:∀i x,L[i]? =some x→place i=some x):∀(ps:List (Nat×Value)) (cs cs':List Value),fI L cs ps=some cs'→Instr.fill place cs.toArray ps=some cs'.toArray
 | [],cs,cs',h=>by cases h;rfl
 | (i, v) :: rest, cs, cs', h => by
  unfold fI at h;unfold Instr.fill;split at h
  ·rename_i off sz hL
   rw[hp _ _ hL];split at h
   ·rename_i hc
    have e1:(decide (v.cells.size≠sz)||decide (off+v.cells.size>cs.toArray.size))=false:=by simp;omega
    simp only[e1,Bool.false_eq_true,if_false]
    have:=aCK v.cells.toList cs off 0
    rw[show v.cells.zipIdx.foldl (fun cs (c,j)=>cs.setIfInBounds (off+j) c) cs.toArray=(gI cs off v.cells.toList).toArray by
     rw[←Array.foldl_toList,Array.toList_zipIdx];exact this]
    exact aID L place hp rest _ cs' h
   ·cases h
  ·cases h
section
variable{P:Program}{N:bZ}{w0:World}{e:Env}{R:List Piece}{H:List HP}{d:Nat}{ty:TypeId}{pos:String}{aH:Array Edge}
theorem aEt{t el:TypeId}{n sz:Nat}{ps:List (Nat×Operand)}{vs:List (Nat×Value)}{zs cs:List Value}(hz:Dv P t zs)(ht:P.underlying t=some (.array n el))(hsz:(P.info? el).map (·.size)=some sz)(hp:e.parts ps=some vs)(hf:fI ((List.range n).map fun i=>(i*sz,sz)) zs vs=some cs):bQ P N w0 e R H ⟨some d,.build t ps.toArray,ty,pos,aH,none⟩ (.agg cs.toArray):=
 iL (fun a w hr => by
  have:=hr.parts hp
  obtain⟨i,z,hi,Er,rfl⟩:=hz;obtain⟨j,hj,rfl⟩:=Option.map_eq_some_iff.1 hsz
  have hfl:=aID _ (fun i=>some (i*j.size,j.size)) (fun i x hx=>by
   rw[List.getElem?_map] at hx;obtain⟨q,hq,rfl⟩:=Option.map_eq_some_iff.1 hx
   have hlt:i < n:=by
    rcases Nat.lt_or_ge i n with h | h
    ·exact h
    ·rw[List.getElem?_eq_none (by simpa using h)] at hq;cases hq
   rw[List.getElem?_range hlt] at hq;cases hq
   rfl) vs z.cells.toList cs hf
  simp at hfl;simp only[execOp,List.map_toArray,this]
  simp[Instr.build,zeroValue,typeInfo,sizeOf,hi,hj,Er,run_underlying ht,hfl])
end
def sO(n m a b c:Int):Value:=.agg #[iv n,iv m,.int .u8 a,.int .u8 b,.int .u8 c]
theorem aAH:Dn Tryz.prog 371:=Dn.of Tryz.underlying371 Tryz.underlying3 Tryz.underlying3 rfl rfl (fun _ _ _ _=>by kernel_rfl)
def Ba:Nat→(Int×Int)×Value
 | 3=>((16,0),sO 0 0 0 0 0) | 6=>((17,0),sO 0 0 0 0 0) | 9=>((20,0),sO 0 0 0 0 0) | 12=>((22,0),sO 0 0 0 0 0) | 15=>((16,1),sO 0 0 0 0 0)
 | 19=>((17,4),sO 2 3 100 117 107) | 22=>((17,5),sO 1 0 0 0 0) | 25=>((20,6),sO 1 0 0 0 0) | 29=>((20,7),sO 2 2 111 99 0) | _=>((22,4),sO 2 2 114 97 0)
def Nf:List Nat:=[3,6,9,12,15,19,22,25,29,33]
def aEf:List ((Int×Int)×Value):=Nf.map Ba
def aFo(v:Value)(hs:List HP)(_:Piece):Prop:=∃(g:Nat) (sub:List Nat),v=.map (some g)∧sub.Perm Nf∧hs=[HP.vN g (sub.reverse.map Ba)]
theorem aIz(w:World):Cz 219 #[] w (fun y w'=>(∃v hs q,y=.returned v∧q.w=w'∧aFo v hs q∧kA w hs q)∧Below w.heap.size w w'):=by
 refine aL func219 ntmps219 ?_;refine cO ?_;refine eB ?_;refine fP rfl (by decide) ?_;refine dO ?_;refine cO ?_;refine rB 34 (by kernel_rfl) (by kernel_rfl) ?_;refine fL 1 rfl rfl rfl (by decide) (lT (zs:=[iv 0,iv 0]) (L:=[(0,1),(1,1)]) (iG (by kernel_rfl)) (by kernel_rfl) rfl (by simp[fI,gI,Value.cells];rfl)) (by kernel_rfl) (fun _ _ _ h=>h) (fun _ h=>h) ?_;refine fL 2 rfl rfl rfl (by decide) (lT (zs:=[iv 0,iv 0,.int .u8 0,.int .u8 0,.int .u8 0]) (L:=[(0,1),(1,1),(2,3)]) (iG (by kernel_rfl)) (by kernel_rfl) rfl (by simp[fI,gI,Value.cells];rfl)) (by kernel_rfl) (fun _ _ _ h=>h) (fun _ h=>h) ?_;refine fL 4 rfl rfl rfl (by decide) (lT (zs:=[iv 0,iv 0]) (L:=[(0,1),(1,1)]) (iG (by kernel_rfl)) (by kernel_rfl) rfl (by simp[fI,gI,Value.cells];rfl)) (by kernel_rfl) (fun _ _ _ h=>h) (fun _ h=>h) ?_;refine fL 5 rfl rfl rfl (by decide) (lT (zs:=[iv 0,iv 0,.int .u8 0,.int .u8 0,.int .u8 0]) (L:=[(0,1),(1,1),(2,3)]) (iG (by kernel_rfl)) (by kernel_rfl) rfl (by simp[fI,gI,Value.cells];rfl)) (by kernel_rfl) (fun _ _ _ h=>h) (fun _ h=>h) ?_;refine fL 7 rfl rfl rfl (by decide) (lT (zs:=[iv 0,iv 0]) (L:=[(0,1),(1,1)]) (iG (by kernel_rfl)) (by kernel_rfl) rfl (by simp[fI,gI,Value.cells];rfl)) (by kernel_rfl) (fun _ _ _ h=>h) (fun _ h=>h) ?_;refine fL 8 rfl rfl rfl (by decide) (lT (zs:=[iv 0,iv 0,.int .u8 0,.int .u8 0,.int .u8 0]) (L:=[(0,1),(1,1),(2,3)]) (iG (by kernel_rfl)) (by kernel_rfl) rfl (by simp[fI,gI,Value.cells];rfl)) (by kernel_rfl) (fun _ _ _ h=>h) (fun _ h=>h) ?_;refine fL 10 rfl rfl rfl (by decide) (lT (zs:=[iv 0,iv 0]) (L:=[(0,1),(1,1)]) (iG (by kernel_rfl)) (by kernel_rfl) rfl (by simp[fI,gI,Value.cells];rfl)) (by kernel_rfl) (fun _ _ _ h=>h) (fun _ h=>h) ?_;refine fL 11 rfl rfl rfl (by decide) (lT (zs:=[iv 0,iv 0,.int .u8 0,.int .u8 0,.int .u8 0]) (L:=[(0,1),(1,1),(2,3)]) (iG (by kernel_rfl)) (by kernel_rfl) rfl (by simp[fI,gI,Value.cells];rfl)) (by kernel_rfl) (fun _ _ _ h=>h) (fun _ h=>h) ?_;refine fL 13 rfl rfl rfl (by decide) (lT (zs:=[iv 0,iv 0]) (L:=[(0,1),(1,1)]) (iG (by kernel_rfl)) (by kernel_rfl) rfl (by simp[fI,gI,Value.cells];rfl)) (by kernel_rfl) (fun _ _ _ h=>h) (fun _ h=>h) ?_;refine fL 14 rfl rfl rfl (by decide) (lT (zs:=[iv 0,iv 0,.int .u8 0,.int .u8 0,.int .u8 0]) (L:=[(0,1),(1,1),(2,3)]) (iG (by kernel_rfl)) (by kernel_rfl) rfl (by simp[fI,gI,Value.cells];rfl)) (by kernel_rfl) (fun _ _ _ h=>h) (fun _ h=>h) ?_;refine fL 16 rfl rfl rfl (by decide) (lT (zs:=[iv 0,iv 0]) (L:=[(0,1),(1,1)]) (iG (by kernel_rfl)) (by kernel_rfl) rfl (by simp[fI,gI,Value.cells];rfl)) (by kernel_rfl) (fun _ _ _ h=>h) (fun _ h=>h) ?_;refine fL 17 rfl rfl rfl (by decide) (aEt (n:=3) (sz:=1) (el:=5) (zs:=[.int .u8 0,.int .u8 0,.int .u8 0]) (iG (by kernel_rfl)) (by kernel_rfl) (by kernel_rfl) rfl (by simp[fI,gI,Value.cells,List.range_succ,List.set];rfl)) (by kernel_rfl) (fun _ _ _ h=>h) (fun _ h=>h) ?_;refine fL 18 rfl rfl rfl (by decide) (lT (zs:=[iv 0,iv 0,.int .u8 0,.int .u8 0,.int .u8 0]) (L:=[(0,1),(1,1),(2,3)]) (iG (by kernel_rfl)) (by kernel_rfl) rfl (by simp[fI,gI,Value.cells];rfl)) (by kernel_rfl) (fun _ _ _ h=>h) (fun _ h=>h) ?_;refine fL 20 rfl rfl rfl (by decide) (lT (zs:=[iv 0,iv 0]) (L:=[(0,1),(1,1)]) (iG (by kernel_rfl)) (by kernel_rfl) rfl (by simp[fI,gI,Value.cells];rfl)) (by kernel_rfl) (fun _ _ _ h=>h) (fun _ h=>h) ?_;refine fL 21 rfl rfl rfl (by decide) (lT (zs:=[iv 0,iv 0,.int .u8 0,.int .u8 0,.int .u8 0]) (L:=[(0,1),(1,1),(2,3)]) (iG (by kernel_rfl)) (by kernel_rfl) rfl (by simp[fI,gI,Value.cells];rfl)) (by kernel_rfl) (fun _ _ _ h=>h) (fun _ h=>h) ?_;refine fL 23 rfl rfl rfl (by decide) (lT (zs:=[iv 0,iv 0]) (L:=[(0,1),(1,1)]) (iG (by kernel_rfl)) (by kernel_rfl) rfl (by simp[fI,gI,Value.cells];rfl)) (by kernel_rfl) (fun _ _ _ h=>h) (fun _ h=>h) ?_;refine fL 24 rfl rfl rfl (by decide) (lT (zs:=[iv 0,iv 0,.int .u8 0,.int .u8 0,.int .u8 0]) (L:=[(0,1),(1,1),(2,3)]) (iG (by kernel_rfl)) (by kernel_rfl) rfl (by simp[fI,gI,Value.cells];rfl)) (by kernel_rfl) (fun _ _ _ h=>h) (fun _ h=>h) ?_;refine fL 26 rfl rfl rfl (by decide) (lT (zs:=[iv 0,iv 0]) (L:=[(0,1),(1,1)]) (iG (by kernel_rfl)) (by kernel_rfl) rfl (by simp[fI,gI,Value.cells];rfl)) (by kernel_rfl) (fun _ _ _ h=>h) (fun _ h=>h) ?_;refine fL 27 rfl rfl rfl (by decide) (aEt (n:=3) (sz:=1) (el:=5) (zs:=[.int .u8 0,.int .u8 0,.int .u8 0]) (iG (by kernel_rfl)) (by kernel_rfl) (by kernel_rfl) rfl (by simp[fI,gI,Value.cells,List.range_succ,List.set];rfl)) (by kernel_rfl) (fun _ _ _ h=>h) (fun _ h=>h) ?_;refine fL 28 rfl rfl rfl (by decide) (lT (zs:=[iv 0,iv 0,.int .u8 0,.int .u8 0,.int .u8 0]) (L:=[(0,1),(1,1),(2,3)]) (iG (by kernel_rfl)) (by kernel_rfl) rfl (by simp[fI,gI,Value.cells];rfl)) (by kernel_rfl) (fun _ _ _ h=>h) (fun _ h=>h) ?_;refine fL 30 rfl rfl rfl (by decide) (lT (zs:=[iv 0,iv 0]) (L:=[(0,1),(1,1)]) (iG (by kernel_rfl)) (by kernel_rfl) rfl (by simp[fI,gI,Value.cells];rfl)) (by kernel_rfl) (fun _ _ _ h=>h) (fun _ h=>h) ?_;refine fL 31 rfl rfl rfl (by decide) (aEt (n:=3) (sz:=1) (el:=5) (zs:=[.int .u8 0,.int .u8 0,.int .u8 0]) (iG (by kernel_rfl)) (by kernel_rfl) (by kernel_rfl) rfl (by simp[fI,gI,Value.cells,List.range_succ,List.set];rfl)) (by kernel_rfl) (fun _ _ _ h=>h) (fun _ h=>h) ?_;refine fL 32 rfl rfl rfl (by decide) (lT (zs:=[iv 0,iv 0,.int .u8 0,.int .u8 0,.int .u8 0]) (L:=[(0,1),(1,1),(2,3)]) (iG (by kernel_rfl)) (by kernel_rfl) rfl (by simp[fI,gI,Value.cells];rfl)) (by kernel_rfl) (fun _ _ _ h=>h) (fun _ h=>h) ?_;refine cE 0 ?_;refine aKG (by decide) fun g1=>?_;refine nS ?_;refine aTH (fuel:=2) Nf Ba g1 (by decide) (fun i hi=>?_) (by decide) (by kernel_rfl) (fun l w1 h=>h.tail) (fun sub hsub=>?_)
 ·simp only[Nf,List.mem_cons,List.not_mem_nil,or_false] at hi;rcases hi with rfl | rfl | rfl | rfl | rfl | rfl | rfl | rfl | rfl | rfl
  all_goals exact⟨_,_,_,_,_,_,_,_,_,rfl,Tryz.underlying368,aAH,rfl,rfl,rfl⟩
 rw[aAP hsub];refine cE 34 ?_;refine cP rfl (by decide) ?_;refine fA ?_;refine cE 35 ?_;refine fP rfl (by decide) ?_;refine fA ?_;refine kG ?_;refine dW ?_;refine Ky ?_;refine dW ?_;refine dP [] [] [0] (by simp) rfl (by decide) (by decide) fun q _ _ hfr=>?_;exact aS (h:=fun w1 st=>⟨_,_,⟨w1,q.Z⟩,rfl,rfl,⟨g1,sub,rfl,hsub,rfl⟩,st.newR (by simp) (by simp) (hfr (by simp) (by simp))⟩)
end
section
def aBL(a b:Int):Int:=IntKind.u32.wrap (BitVec.ofInt 32 a&&& BitVec.ofInt 32 b).toNat
def Yv(a b:Int):Int:=IntKind.u32.wrap (BitVec.ofInt 32 a&&& ~~~ BitVec.ofInt 32 b).toNat
def aAG(a b:Int):Int:=IntKind.u32.wrap (BitVec.ofInt 32 a||| BitVec.ofInt 32 b).toNat
theorem Pg(a:Int):0≤IntKind.u32.wrap a∧IntKind.u32.wrap a < 4294967296:=by
 unfold IntKind.wrap;simp only[IntKind.signed,IntKind.bits,Bool.false_and,Bool.false_eq_true,if_false];exact⟨Int.emod_nonneg _ (by decide),Int.emod_lt_of_pos _ (by decide)⟩
def Jn(many at':Int):Int:=IntKind.u32.wrap (IntKind.u64.wrap (IntKind.u64.wrap (IntKind.u64.wrap (1*2 ^ min many.toNat 64) - 1)*2 ^ min at'.toNat 64))
def cM(w low many:Int):Int:=aBL (w.fdiv (2 ^ min low.toNat 32)) (Jn many 0)
def zO(w low many v:Int):Int×Int:=if Yv v (Jn many 0)≠0 then(0,1) else(aAG (Yv w (Jn many low)) (IntKind.u32.wrap (v*2 ^ min low.toNat 32)),0)
def iV(w low many v:Int):Int×Int:=if v < 0∨IntKind.i64.wrap (1*2 ^ min many.toNat 64)≤v then(0,1) else if(zO w low many (IntKind.u32.wrap v)).2≠0 then(0,1) else((zO w low many (IntKind.u32.wrap v)).1,0)
def okF(low many:Int):Prop:=1≤many∧many≤32∧0≤low∧low≤32 - many
def aFp(many:Int)(v:Value)(w w':World):Prop:=∃g,v=.tuple #[.func (.func 247) #[] #[pt g],.bool true]∧RP (fresh w w') g 0 (iv many)
theorem aEn(a many:Int)(g:Nat)(w:World)(h:fK w g 0 (iv many))(ha:0≤a)(hm:0≤many):
  Cz 247 #[iv a,pt g] w (Rt (.int .u32 (Jn many a)) w):=by
 refine aL func247 ntmps247 ?_;refine aB ?_;refine Oz rfl rfl (by omega) rfl (by decide) ?_;refine aAe rfl rfl rfl (by decide) ?_;refine cP rfl (by decide) ?_;refine Oz rfl rfl (by omega) rfl (by decide) ?_;refine Dz (kd:=.u32) (ds:=.int .u64) (by kernel_rfl) (by kernel_rfl) rfl rfl (by decide) ?_;refine aB ?_;exact aS (h:=fun _ _=>rfl)
theorem aIE(low many:Int)(w:World)(hok:okF low many):Cz 245 #[iv low,iv many] w (fun y w'=>(∃x,y=.returned x∧aFp many x w w')∧Below w.heap.size w w'):=by
 refine aL func245 ntmps245 ?_;refine aA ?_;refine bA fun g1=>?_;refine aA ?_
 (first | refine bU (t:=8) rfl (fun hg=>?_) (fun hg=>?_) | refine sE (t:=8) rfl (fun hg=>?_) (fun hg=>?_))
 ·
  refine aA ?_;exact absurd hok (by unfold okF;omega)
 ·
  refine aA ?_
  (first | refine bU (t:=12) rfl (fun hg=>?_) (fun hg=>?_) | refine sE (t:=12) rfl (fun hg=>?_) (fun hg=>?_))
  ·
   refine aA ?_;exact absurd hok (by unfold okF;omega)
  ·
   refine aA ?_
   (first | refine bU (t:=16) rfl (fun hg=>?_) (fun hg=>?_) | refine sE (t:=16) rfl (fun hg=>?_) (fun hg=>?_))
   ·
    refine aA ?_;exact absurd hok (by unfold okF;omega)
   ·
    refine aA ?_;refine aG rfl (fun h=>?_) (fun h=>?_)
    ·
     refine aA ?_;exact absurd hok (by unfold okF;omega)
    ·
     refine aA ?_;refine kL (vf:=[]) (vc:=[pt g1]) rfl rfl (by decide) ?_;refine aA ?_;refine dP [] [0] [] (by simp) rfl (by decide) (by decide) fun q hq _ hfr=>?_;refine eK rfl rfl rfl fun w1 st=>⟨⟨_,rfl,g1,rfl,(tW (o:=0) (v:=iv many) (hq 0 _ (by simp) rfl) rfl).le (st.mF (by simp) (hfr (by simp) (by simp)))⟩,st.below (by simp)⟩
theorem aIv(w0 low many:Int)(w:World)(hok:okF low many):
  Cz 241 #[.int .u32 w0,iv low,iv many] w (Rt (.tuple #[.int .u32 (cM w0 low many),iv 0]) w):=by
 refine aL func241 ntmps241 ?_;refine aB ?_;refine jP [] (aFp many) (fun w1 st=>aIE low many w1 hok) ?_;rintro _ w1 q1 ⟨g,rfl,cT⟩ hf _ _
 have cT:=cT.le hf
 clear hf;refine cP rfl (by decide) ?_;refine aAj rfl rfl (by decide) ?_;refine aAj rfl rfl (by decide) ?_;refine fP rfl (by decide) ?_;refine fP rfl (by decide) ?_;refine dO ?_;refine cO ?_;refine cO ?_;refine eB ?_;refine cP rfl (by decide) ?_
 (first | refine Ln rfl (by decide) ?_ | refine zF rfl (by decide) ?_)
 refine dO ?_;refine pU rfl (fun h=>?_) (fun h=>?_)
 ·
  refine aB ?_;exact absurd h (by simp)
 ·
  refine lU ?_;refine dW ?_;refine cO ?_;refine rB 5 (by kernel_rfl) (by kernel_rfl) ?_;refine gD 0 rfl rfl rfl (mS rfl) ?_;refine gD 1 rfl rfl rfl (mS rfl) ?_;refine gD 2 rfl rfl rfl (aIT rfl rfl (by unfold okF at hok;omega) rfl) ?_;refine gD 3 rfl rfl rfl (mS rfl) ?_;refine cE 4 ?_;refine zH (f:=247) (fi:=[]) (ca:=[pt g]) (by kernel_rfl) rfl rfl (by decide) (fun w1 st=>aEn 0 many g w1 (cT.le (st.le (by simp))) (by unfold okF at hok;omega) (by unfold okF at hok;omega)) ?_;refine nS ?_;refine cE 5 ?_;refine aCw (c:=cM w0 low many) rfl rfl (fun _=>rfl) (by simp) (by decide) ?_;refine fA ?_;refine cE 6 ?_;refine fP rfl (by decide) ?_;refine fA ?_;refine cE 7 ?_;refine fP rfl (by decide) ?_;refine fA ?_;refine kG ?_;refine dW ?_;refine Ky ?_;refine dW ?_;exact eK rfl rfl rfl fun w1 st=>⟨rfl,st.below (by simp)⟩
theorem aCY(w0 low many v:Int)(w:World)(hok:okF low many):
  Cz 244 #[.int .u32 w0,iv low,iv many,.int .u32 v] w (Rt (.tuple #[.int .u32 (zO w0 low many v).1,iv (zO w0 low many v).2]) w):=by
 refine aL func244 ntmps244 ?_;refine aB ?_;refine jP [] (aFp many) (fun w1 st=>aIE low many w1 hok) ?_;rintro _ w1 q1 ⟨g,rfl,cT⟩ hf _ _
 have cT:=cT.le hf
 clear hf;refine cP rfl (by decide) ?_;refine aAj rfl rfl (by decide) ?_;refine aAj rfl rfl (by decide) ?_;refine fP rfl (by decide) ?_;refine fP rfl (by decide) ?_;refine dO ?_;refine cO ?_;refine cO ?_;refine eB ?_;refine cP rfl (by decide) ?_
 (first | refine Ln rfl (by decide) ?_ | refine zF rfl (by decide) ?_)
 refine dO ?_;refine pU rfl (fun h=>?_) (fun h=>?_)
 ·
  refine aB ?_;exact absurd h (by simp)
 ·
  refine aB ?_;refine zH (f:=247) (fi:=[]) (ca:=[pt g]) (by kernel_rfl) rfl rfl (by decide) (fun w1 st=>aEn 0 many g w1 (cT.le (st.le (by simp))) (by unfold okF at hok;omega) (by unfold okF at hok;omega)) ?_;refine aCw (c:=Yv v (Jn many 0)) rfl rfl (fun _=>rfl) (by simp) (by decide) ?_;refine aB ?_;refine aG rfl (fun h=>?_) (fun h=>?_)
  ·
   refine aB ?_;refine eK rfl rfl rfl fun w1 st=>⟨by rw[zO,if_pos h],st.below (by simp)⟩
  ·
   refine lU ?_;refine dW ?_;refine cO ?_;refine rB 8 (by kernel_rfl) (by kernel_rfl) ?_;refine gD 0 rfl rfl rfl (mS rfl) ?_;refine gD 1 rfl rfl rfl (mS rfl) ?_;refine gD 2 rfl rfl rfl (mS rfl) ?_;refine gD 5 rfl rfl rfl (mS rfl) ?_;refine gD 6 rfl rfl rfl (mS rfl) ?_;refine gD 7 rfl rfl rfl (aRw rfl rfl (by unfold okF at hok;omega) rfl) ?_;refine cE 3 ?_;refine zH (f:=247) (fi:=[]) (ca:=[pt g]) (by kernel_rfl) rfl rfl (by decide) (fun w1 st=>aEn low many g w1 (cT.le (st.le (by simp))) (by unfold okF at hok;omega) (by unfold okF at hok;omega)) ?_;refine nS ?_;refine gD 4 rfl rfl rfl (aJa (c:=Yv w0 (Jn many low)) rfl rfl (fun _=>rfl) (by simp)) ?_;refine cE 8 ?_;refine aCw (c:=aAG (Yv w0 (Jn many low)) (IntKind.u32.wrap (v*2 ^ min low.toNat 32))) rfl rfl (fun _=>rfl) (by simp) (by decide) ?_;refine fA ?_;refine cE 9 ?_;refine fP rfl (by decide) ?_;refine fA ?_;refine cE 10 ?_;refine fP rfl (by decide) ?_;refine fA ?_;refine kG ?_;refine dW ?_;refine Ky ?_;refine dW ?_;refine eK rfl rfl rfl fun w1 st=>⟨by rw[zO,if_neg h],st.below (by simp)⟩
theorem Vi(w0 low many:Int)(w:World)(hok:okF low many):
  Cz 231 #[.int .u32 w0,iv low,iv many] w (Rt (iv (cM w0 low many)) w):=by
 refine aL func231 ntmps231 ?_;refine aA ?_;refine dH (fun w1 st=>aIv w0 low many w1 hok) ?_;refine aA ?_;refine Dz (ds:=.int .u32) (by kernel_rfl) (by kernel_rfl) rfl (iR (by have:=Pg (BitVec.ofInt 32 (w0.fdiv (2 ^ min low.toNat 32))&&& BitVec.ofInt 32 (Jn many 0)).toNat;unfold cM aBL;omega)) (by decide) ?_;refine aA ?_;exact aS (h:=fun _ _=>rfl)
theorem aAC(w0 low many v:Int)(w:World)(hok:okF low many):
  Cz 237 #[.int .u32 w0,iv low,iv many,iv v] w (Rt (.tuple #[.int .u32 (iV w0 low many v).1,iv (iV w0 low many v).2]) w):=by
 refine aL func237 ntmps237 ?_;refine aB ?_
 (first | refine bU (t:=13) rfl (fun hg=>?_) (fun hg=>?_) | refine sE (t:=13) rfl (fun hg=>?_) (fun hg=>?_))
 ·
  refine aB ?_;refine eK rfl rfl rfl fun w1 st=>⟨by rw[iV,if_pos (.inl hg)],st.below (by simp)⟩
 ·
  refine fO rfl rfl ?_;refine cP rfl (by decide) ?_;refine fO rfl rfl ?_;refine cP rfl (by decide) ?_;refine fO rfl rfl ?_;refine Oz rfl rfl (by unfold okF at hok;omega) rfl (by decide) ?_;refine aB ?_;refine aG rfl (fun h=>?_) (fun h=>?_)
  ·
   refine aB ?_;refine eK rfl rfl rfl fun w1 st=>⟨by rw[iV,if_pos (.inr h)],st.below (by simp)⟩
  ·
   refine lU ?_
   have hno:¬(v < 0∨IntKind.i64.wrap (1*2 ^ min many.toNat 64)≤v):=fun h2=>h2.elim hg h
   refine dW ?_;refine cO ?_;refine eB ?_;refine cP rfl (by decide) ?_;refine cP rfl (by decide) ?_;refine cP rfl (by decide) ?_;refine cP rfl (by decide) ?_;refine Dz (kd:=.u32) (ds:=.int .i64) (by kernel_rfl) (by kernel_rfl) rfl rfl (by decide) ?_;refine dH (fun w1 st=>aCY w0 low many (IntKind.u32.wrap v) w1 hok) ?_;refine aB ?_;refine aG rfl (fun h2=>?_) (fun h2=>?_)
   ·
    refine aB ?_;refine eK rfl rfl rfl fun w1 st=>⟨by rw[iV,if_neg hno,if_pos h2],st.below (by simp)⟩
   ·
    refine aB ?_;refine eK rfl rfl rfl fun w1 st=>⟨by rw[iV,if_neg hno,if_neg h2];rfl,st.below (by simp)⟩
end
section
def eA(m t p k:Int):Int×Int:=
 if(iV 0 0 8 m).2≠0 then(0,(iV 0 0 8 m).2)
 else if(iV (iV 0 0 8 m).1 8 2 t).2≠0 then(0,(iV (iV 0 0 8 m).1 8 2 t).2)
 else if(iV (iV (iV 0 0 8 m).1 8 2 t).1 10 8 p).2≠0 then(0,(iV (iV (iV 0 0 8 m).1 8 2 t).1 10 8 p).2)
 else if(iV (iV (iV (iV 0 0 8 m).1 8 2 t).1 10 8 p).1 18 10 k).2≠0 then(0,(iV (iV (iV (iV 0 0 8 m).1 8 2 t).1 10 8 p).1 18 10 k).2)
 else((iV (iV (iV (iV 0 0 8 m).1 8 2 t).1 10 8 p).1 18 10 k).1,0)
def Hg(m t p k:Int):List Value:=[iv m,iv t,iv p,iv k]
def Gf(w:Int):List Value:=if cM w 28 4≠0 then Hg 0 0 0 0 else Hg (cM w 0 8) (cM w 8 2) (cM w 10 8) (cM w 18 10)
def uD(w:Int):Int:=if cM w 28 4≠0 then 2 else 0
theorem Ud(l:List Int):∀u∈qT l,u.oneCell'=true:=by
 intro u hu;simp only[qT,List.mem_map] at hu;obtain⟨_,_,rfl⟩:=hu;rfl
def aCg(l:List Int)(v:Value)(w w':World):Prop:=∃A c,v=.slice A l.length c∧aI (fresh w w') 1 A l.length (qT l)
theorem aN5(m t p k:Int)(w:World):
  Cz 218 #[.agg #[iv m,iv t,iv p,iv k]] w (Rt (.tuple #[.int .u32 (eA m t p k).1,iv (eA m t p k).2]) w):=by
 refine aL func218 ntmps218 ?_;refine aB ?_;refine bA fun g1=>?_;refine aB ?_;refine dH (fun w1 st=>aAC 0 0 8 m w1 (by unfold okF;omega)) ?_;refine aB ?_;refine aG rfl (fun h1=>?_) (fun h1=>?_)
 ·
  refine aB ?_;refine eK rfl rfl rfl fun w1 st=>⟨by rw[eA,if_pos h1];rfl,st.below (by simp)⟩
 ·
  refine aB ?_;refine dH (fun w1 st=>aAC (iV 0 0 8 m).1 8 2 t w1 (by unfold okF;omega)) ?_;refine aB ?_;refine aG rfl (fun h2=>?_) (fun h2=>?_)
  ·
   refine aB ?_;refine eK rfl rfl rfl fun w1 st=>⟨by rw[eA,if_neg h1,if_pos h2];rfl,st.below (by simp)⟩
  ·
   refine aB ?_;refine dH (fun w1 st=>aAC (iV (iV 0 0 8 m).1 8 2 t).1 10 8 p w1 (by unfold okF;omega)) ?_;refine aB ?_;refine aG rfl (fun h3=>?_) (fun h3=>?_)
   ·
    refine aB ?_;refine eK rfl rfl rfl fun w1 st=>⟨by rw[eA,if_neg h1,if_neg h2,if_pos h3];rfl,st.below (by simp)⟩
   ·
    refine aB ?_;refine dH (fun w1 st=>aAC (iV (iV (iV 0 0 8 m).1 8 2 t).1 10 8 p).1 18 10 k w1 (by unfold okF;omega)) ?_;refine aB ?_;refine aG rfl (fun h4=>?_) (fun h4=>?_)
    ·
     refine aB ?_;refine eK rfl rfl rfl fun w1 st=>⟨by rw[eA,if_neg h1,if_neg h2,if_neg h3,if_pos h4];rfl,st.below (by simp)⟩
    ·
     refine aB ?_;refine eK rfl rfl rfl fun w1 st=>⟨by rw[eA,if_neg h1,if_neg h2,if_neg h3,if_neg h4];rfl,st.below (by simp)⟩
theorem aFR(w0:Int)(w:World):
  Cz 184 #[.int .u32 w0] w (Rt (.tuple #[.agg (Gf w0).toArray,iv (uD w0)]) w):=by
 refine aL func184 ntmps184 ?_;refine aA ?_;refine bR fun g1=>?_;refine aA ?_;refine dH (fun w1 st=>Vi w0 28 4 w1 (by unfold okF;omega)) ?_;refine aA ?_;refine aG rfl (fun h=>?_) (fun h=>?_)
 ·
  refine aA ?_;refine kd (fZ rfl) ?_;refine uB rfl rfl ?_;simp only[iH,Value.cells,List.set,List.take,List.drop,List.nil_append,List.append_nil,List.length_cons,List.length_nil,List.cons_append,Nat.reduceAdd];refine aA ?_;refine xC rfl (n:=4) (vs:=Hg 0 0 0 0) (by kernel_rfl) rfl rfl (aQ.whole 0 rfl) rfl fun w1 st=>⟨by rw[Gf,uD,if_pos h,if_pos h],st.below (by simp)⟩
 ·
  refine aA ?_;refine dH (fun w1 st=>Vi w0 0 8 w1 (by unfold okF;omega)) ?_;refine aA ?_;refine dH (fun w1 st=>Vi w0 8 2 w1 (by unfold okF;omega)) ?_;refine aA ?_;refine dH (fun w1 st=>Vi w0 10 8 w1 (by unfold okF;omega)) ?_;refine aA ?_;refine dH (fun w1 st=>Vi w0 18 10 w1 (by unfold okF;omega)) ?_;refine kd (fZ rfl) ?_;refine uB rfl rfl ?_;simp only[iH,Value.cells,List.set,List.take,List.drop,List.nil_append,List.append_nil,List.length_cons,List.length_nil,List.cons_append,Nat.reduceAdd];refine aA ?_;refine xC rfl (n:=4) (vs:=Hg (cM w0 0 8) (cM w0 8 2) (cM w0 10 8) (cM w0 18 10)) (by kernel_rfl) rfl rfl (aQ.whole 0 rfl) rfl fun w1 st=>⟨by rw[Gf,uD,if_neg h,if_neg h],st.below (by simp)⟩
theorem aM4(w0:Int)(A:Option Addr)(n c:Nat)(zs:List Int)(w:World)(hs:aI (all w) 1 A n (qT zs))(hn:n=zs.length)(hn2:n≤1000000):Cz 187 #[.int .u32 w0,.slice A n c] w (fun y w'=>(∃x,y=.returned x∧aCg (w0::zs) x w w')∧Below w.heap.size w w'):=by
 refine aL func187 ntmps187 ?_;refine aB ?_;refine aF4 1 4 (el:=23) (c:=n+1) (k0:=1) (uO:=.i64) (by kernel_rfl) (by kernel_rfl) rfl (by rw[Int.natCast_add];rfl) (by omega) (by omega) (by decide) fun g1=>?_;refine aB ?_;refine eL fun g2=>?_;refine gH 1 1 4 1 (n':=1) (el:=23) (by kernel_rfl) (by kernel_rfl) (by decide) rfl rfl rfl (nJ 0 rfl rfl) (by simp[Value.oneCell']) rfl (by omega) (by omega) (by decide) fun A1 c1=>?_;dsimp only[List.set];refine aB ?_;refine gH 1 1 4 n (n':=n+1) (el:=23) (by kernel_rfl) (by kernel_rfl) (by decide) rfl rfl rfl (qV (by simp) hs) (Ud _) (by omega) (by omega) (by omega) (by decide) fun A2 c2=>?_;dsimp only[List.set];refine aB ?_;refine dP [] [1] [] (by simp) rfl (by decide) (by decide) fun q hq _ hfr=>?_;obtain⟨F2,Cg,By⟩:=hq 1 _ (by simp) rfl;obtain⟨Am,cm,hBm,cS⟩:=uY (Y:=q.Z) Cg By;cases hBm;subst hn;refine nR rfl rfl fun w1 st=>⟨⟨_,rfl,A2,c2,rfl,?_⟩,st.below (by simp)⟩
 exact aI.le cS (st.mF (by simp) (hfr (by simp) (by simp)))
def aCp(l:List Int)(v:Value)(w w':World):Prop:=∃A c,v=.tuple #[.slice A l.length c,iv 0]∧aI (fresh w w') 1 A l.length (qT l)
theorem aRP(m t p k:Int)(A:Option Addr)(n c:Nat)(zs:List Int)(w:World)(hs:aI (all w) 1 A n (qT zs))(hn:n=zs.length)(hn2:n≤1000000)(hok:(eA m t p k).2=0):Cz 162 #[.agg #[iv m,iv t,iv p,iv k],.slice A n c] w (fun y w'=>(∃x,y=.returned x∧aCp ((eA m t p k).1::zs) x w w')∧Below w.heap.size w w'):=by
 refine aL func162 ntmps162 ?_;refine aB ?_;refine bA fun g1=>?_;refine aB ?_;refine dH (fun w1 st=>aN5 m t p k w1) ?_;refine aB ?_;refine aG rfl (fun h=>?_) (fun h=>?_)
 ·
  refine aB ?_;exact absurd hok h
 ·
  refine aB ?_;refine jP [] (aCg ((eA m t p k).1::zs)) (fun w1 st=>aM4 (eA m t p k).1 A n c zs w1 (hs.le (st.le (by simp))) hn hn2) ?_;rintro _ w1 q1 ⟨A1,c1,rfl,h1⟩ hf _ qH
  have qH:=qH (by simp)
  have h1:=h1.le hf
  clear hf;refine aB ?_;refine eK rfl rfl rfl fun w1 st=>⟨⟨_,rfl,A1,c1,rfl,aI.le h1 (st.mF (by simp) qH)⟩,st.below (by simp)⟩
theorem aKV(pr m id v k:Int)(w:World)(hok:(eA m 0 pr k).2=0):Cz 93 #[.agg #[iv pr,iv m,.int .u32 id,.int .u32 v],iv k] w (fun y w'=>(∃x,y=.returned x∧aCp [(eA m 0 pr k).1,id,v] x w w')∧Below w.heap.size w w'):=by
 refine aL func93 ntmps93 ?_;refine aB ?_;refine bA fun g1=>?_;refine aB ?_;refine eL fun g2=>?_;refine jP [] (aCp ((eA m 0 pr k).1::[id,v])) (fun w1 st=>aRP m 0 pr k (some ⟨g2,0,none⟩) 2 2 [id,v] w1 (st.rN (i:=0) rfl rfl) rfl (by omega) hok) ?_;rintro _ w1 q1 ⟨A1,c1,rfl,h1⟩ hf _ qH
 have qH:=qH (by simp)
 have h1:=h1.le hf
 clear hf;refine aB ?_;refine eK rfl rfl rfl fun w1 st=>⟨⟨_,rfl,A1,c1,rfl,aI.le h1 (st.mF (by simp) qH)⟩,st.below (by simp)⟩
end
section
def eM(w:Int):Int:=if cM w 28 4≠0 then 0 else cM w 0 8
def Fb(w:Int):Int:=if cM w 28 4≠0 then 0 else cM w 8 2
def eE(w:Int):Int:=if cM w 28 4≠0 then 0 else cM w 10 8
def aBr(w:Int):Int:=if cM w 28 4≠0 then 0 else cM w 18 10
theorem aFS(w:Int):Gf w=Hg (eM w) (Fb w) (eE w) (aBr w):=by
 unfold Gf eM Fb eE aBr;split<;>rfl
structure lI where
 n:Int
 m:Int
 a:Int
 b:Int
 c:Int
def lI.v(f:lI):Value:=sO f.n f.m f.a f.b f.c
def lI.act(f:lI)(v:Int):Int:=if v=0 then f.a else if v=1 then f.b else f.c
def qI(p m:Int):Option lI:=
 if m=0 then(if p=16∨p=17∨p=20∨p=22 then some ⟨0,0,0,0,0⟩ else none)
 else if m=1 then(if p=16 then some ⟨0,0,0,0,0⟩ else none)
 else if m=4 then(if p=17 then some ⟨2,3,100,117,107⟩ else if p=22 then some ⟨2,2,114,97,0⟩ else none)
 else if m=5 then(if p=17 then some ⟨1,0,0,0,0⟩ else none)
 else if m=6 then(if p=20 then some ⟨1,0,0,0,0⟩ else none)
 else if m=7 then(if p=20 then some ⟨2,2,111,99,0⟩ else none)
 else none
theorem aQu(p m:Int):lO aEf (p,m)=(qI p m).map lI.v:=by
 unfold aEf Nf qI;simp only[List.map_cons,List.map_nil,Ba,Mc,Prod.mk.injEq]
 by_cases h0:m=0
 ·subst h0
  by_cases wU:p=16
  ·subst wU;simp[lI.v]
  ·by_cases Da:p=17
   ·subst Da;simp[lI.v]
   ·by_cases yM:p=20
    ·subst yM;simp[lI.v]
    ·by_cases Nb:p=22
     ·subst Nb;simp[lI.v]
     ·simp[wU,Da,yM,Nb,lO,Ne.symm wU,Ne.symm Da,Ne.symm yM,Ne.symm Nb]
 ·by_cases h1:m=1
  ·subst h1
   by_cases wU:p=16
   ·subst wU;simp[lI.v]
   ·simp[wU,Ne.symm wU,lO]
  ·by_cases h4:m=4
   ·subst h4
    by_cases Da:p=17
    ·subst Da;simp[lI.v]
    ·by_cases Nb:p=22
     ·subst Nb;simp[lI.v]
     ·simp[Da,Nb,Ne.symm Da,Ne.symm Nb,lO]
   ·by_cases h5:m=5
    ·subst h5
     by_cases Da:p=17
     ·subst Da;simp[lI.v]
     ·simp[Da,Ne.symm Da,lO]
    ·by_cases h6:m=6
     ·subst h6
      by_cases yM:p=20
      ·subst yM;simp[lI.v]
      ·simp[yM,Ne.symm yM,lO]
     ·by_cases h7:m=7
      ·subst h7
       by_cases yM:p=20
       ·subst yM;simp[lI.v]
       ·simp[yM,Ne.symm yM,lO]
      ·simp[h0,h1,h4,h5,h6,h7,Ne.symm h0,Ne.symm h1,Ne.symm h4,Ne.symm h5,Ne.symm h6,Ne.symm h7,lO]
def eG(p m:Int):lI:=(qI p m).getD ⟨0,0,0,0,0⟩
theorem aQt{sub:List Nat}(h:sub.Perm Nf)(p m:Int):lO (sub.reverse.map Ba) (p,m)=(qI p m).map lI.v:=by
 rw[←aQu]
 have hp:(sub.reverse.map Ba).Perm aEf:=((List.reverse_perm sub).trans h).map Ba
 refine aOz hp ?_ _;exact((hp.map (·.1)).nodup_iff).2 (by decide)
theorem Rp{sub:List Nat}(h:sub.Perm Nf)(p m:Int):(lO (sub.reverse.map Ba) (p,m)).getD (sO 0 0 0 0 0)=(eG p m).v∧(lO (sub.reverse.map Ba) (p,m)).isSome=(qI p m).isSome:=by
 rw[aQt h];unfold eG;cases qI p m<;>exact⟨rfl,rfl⟩
theorem aIx(p m : Int) : ((eG p m).n = 0 ∨ (eG p m).n = 1 ∨ (eG p m).n = 2) ∧ 0 ≤ (eG p m).m ∧ (eG p m).m ≤ 3 ∧ (∀ v, 0 ≤ v → v < (eG p m).m → (eG p m).act v = 107 → p = 17) ∧
  ((eG p m).m≠0→p=17∨p=20∨p=22):=by
 unfold eG qI
 by_cases h0:m=0
 ·by_cases h:p=16∨p=17∨p=20∨p=22<;>simp[h0,h]<;>omega
 ·by_cases h1:m=1
  ·by_cases h:p=16<;>simp[h1,h]<;>omega
  ·by_cases h4:m=4
   ·by_cases h:p=17
    ·simp[h4,h]
    ·by_cases h':p=22
     ·subst h4 h';simp only[lI.act];refine⟨by simp,by simp,by simp,fun v h1 h2 h3=>?_,by simp⟩;simp at h2 h3;split at h3
      ·omega
      ·split at h3<;>omega
     ·simp[h4,h,h'];omega
   ·by_cases h5:m=5
    ·by_cases h:p=17<;>simp[h5,h]<;>omega
    ·by_cases h6:m=6
     ·by_cases h:p=20<;>simp[h6,h]<;>omega
     ·by_cases h7:m=7
      ·by_cases h:p=20
       ·subst h7 h;simp only[lI.act];refine⟨by simp,by simp,by simp,fun v h1 h2 h3=>?_,by simp⟩;simp at h2 h3;split at h3
        ·omega
        ·split at h3<;>omega
       ·simp[h7,h];omega
      ·simp[h0,h1,h4,h5,h6,h7];omega
def Ly(s:aD)(k:Nat):Bool:=(s.domains[k]?).any (·.ret)
def kindOf(s:aD)(k:Nat):Int:=((s.aF[k]?).map (·.kind)).getD 0
def qU(s:aD)(k:Nat):Prop:=kindOf s k=112∨kindOf s k=103
instance(s:aD)(k:Nat):Decidable (qU s k):=inferInstanceAs (Decidable (_∨_))
def zP(s:aD)(p k:Int)(id:Nat):Prop:=(k=107∧Ly s id=false)∨(p=20∧¬qU s id)
instance(s:aD)(p k:Int)(id:Nat):Decidable (zP s p k id):=inferInstanceAs (Decidable (_∨_))
def vY(s:aD)(p:Int)(f:lI)(id v:Int):Int×Int×Int:=
 if(tC s p:Int)≤id then(-4,0,0) else if f.m=0 then(0,0,0) else if f.m≤v then(-2,0,0) else if zP s p (f.act v) id.toNat then(-2,0,0) else(0,f.act v,id)
def dZ(s:aD)(l:List Int):Int×Int×Int:=
 match l with
 | []=>(-10,0,0)
 | w::r=>
  if uD w≠0∨Fb w≠0 then(-10,0,0)
  else if(qI (eE w) (eM w)).isSome=false then(-1,0,0)
  else if(r.length:Int)≠(eG (eE w) (eM w)).n then(-10,0,0)
  else if(eG (eE w) (eM w)).n=0 then(0,0,0)
  else vY s (eE w) (eG (eE w) (eM w)) (r.getD 0 0) (r.getD ((eG (eE w) (eM w)).n.toNat - 1) 0)
def aEH(a:Int×Int×Int):Value:=.tuple #[.int .i32 a.1,.agg #[.int .u8 a.2.1,iv a.2.2]]
def wA(l:List Int):Prop:=∀x∈l,0≤x∧x < 4294967296
theorem aI.u32{w:World}{A:Option Addr}{n:Nat}{l:List Int}(h:aI (all w) 1 A n (qT l))(hn:0 < n):∃b off,A=some ⟨b,off,none⟩∧∀(i:Nat) (x:Int),l[i]? =some x→fK w b (off+i) (.int .u32 x):=by
 obtain⟨b,off,hA,hb,hc⟩:=h.2 hn;refine⟨b,off,hA,fun i x hx=>⟨hb,hc i _ ?_⟩⟩;simp only[qT,List.getElem?_map,hx,Option.map_some]
section
variable{P:Program}{N:lI}{w0:World}{e:Env}{R:List Piece}{H:List HP}
theorem aTk{nn:Nat}{fn:Func}{Post:Ending→World→Prop}{t u n b:Nat}{s:TypeId}{vs:List Value}{v':Value}(hr:fn.results=#[.tmp u,.cell t s])(hs:Ek P s n=true)(hn:vs.length=n)(ht:e.get t=some (pt b))(hrd:aQ w0 R H b 0 vs)(hu:e.get u=some v')(h:∀w,St w0 R H w→Post (.returned (.tuple #[v',.agg vs.toArray])) w):XK ⟨nn,[]⟩ w0 (bodyPost P fn Post .ret) e R H:=fun a w cT st=>by
 have hl:=Us (P:=P) hs hn (hrd w st)
 refine bodyPost_ret (v:=.tuple #[v',.agg vs.toArray]) ?_ cT.defers (h w st)
 have ha:=cT.get t _ ht
 have hb:=cT.get u _ hu
 simp only[Instr.loadAt,Instr.sureAddr,Sem.run_bind,Sem.run_pure,Result.andThen_ok] at hl;simp only[results,hr];simp[ha,hb,asAddr,hl]
end
end
section
theorem aOe(s:aD)(A1 A2 A3 A4:Option Addr)(n1 k1 n2 k2 n3 k3 n4 k4:Nat)(p:Int){w0:World}(w:World)(hS:fE w0 s A1 n1 A2 n2 A3 n3 A4 n4):Cz 220 #[.agg #[.slice A1 n1 k1,.slice A2 n2 k2,.slice A3 n3 k3,.slice A4 n4 k4],iv p] w (Rt (iv (tC s p)) w):=by
 obtain⟨h1,h2,h3,h4⟩:=And.intro hS.mZ (And.intro hS.nL (And.intro hS.pM hS.nK));subst h1 h2 h3 h4;exact aOd s A1 A2 A3 A4 k1 k2 k3 k4 p w
theorem pS{nn:Nat}{w:World}{e:Env}{R:List Piece}{H:List HP}{fn:Func}{t u n b:Nat}{s:TypeId}{vs:List Value}{v v':Value}(hv:v=.tuple #[v',.agg vs.toArray])(hr:fn.results=#[.tmp u,.cell t s]:=by rfl)(hs:Ek Tryz.prog s n=true:=by kernel_rfl)(ht:e.get t=some (pt b):=by rfl)(hrd:aQ w R H b 0 vs:=by first | exact aQ.whole 0 rfl | exact aQ.whole 1 rfl | exact aQ.whole 2 rfl | exact aQ.whole 3 rfl)(hn:vs.length=n:=by rfl)(hu:e.get u=some v':=by rfl)(hR:all w∈R:=by simp):XK ⟨nn,[]⟩ w (bodyPost Tryz.prog fn (Rt v w) .ret) e R H:=
 aTk hr hs hn ht hrd hu fun w9 st=>⟨by rw[hv],st.below hR⟩
theorem aNk(s:aD)(A1 A2 A3 A4:Option Addr)(n1 k1 n2 k2 n3 k3 n4 k4:Nat)(A:Option Addr)(n c:Nat)(l:List Int)(w:World)(hS:fE w s A1 n1 A2 n2 A3 n3 A4 n4)(hl:aI (all w) 1 A n (qT l))(hn:n=l.length)(hn2:n≤1000000)(hu:wA l):
  Cz 165 #[.agg #[.slice A1 n1 k1,.slice A2 n2 k2,.slice A3 n3 k3,.slice A4 n4 k4],.slice A n c] w (Rt (aEH (dZ s l)) w):=by
 refine aL func165 ntmps165 ?_;refine aB ?_;refine bA fun g1=>?_;refine aB ?_;refine bR fun g2=>?_;refine aB ?_;refine aG rfl (fun h=>?_) (fun h=>?_)
 ·obtain rfl:l=[]:=List.eq_nil_of_length_eq_zero (by omega);refine aB ?_
  (refine pS ?_;rfl)
 obtain⟨b,off,rfl,hcell⟩:=hl.u32 (by omega)
 obtain⟨w1,r,rfl⟩:∃x r,l=x::r:=by
  cases l with
  | nil=>exact absurd (by simpa using hn) (show ¬n=0 by omega)
  | cons x r=>exact⟨x,r,rfl⟩
 have hw1:=hcell 0 w1 rfl
 have hlen:n=r.length+1:=by simpa using hn
 refine aB ?_;refine aU (v:=.tuple #[.agg #[iv (eM w1),iv (Fb w1),iv (eE w1),iv (aBr w1)],iv (uD w1)]) (fun w2 st=>(aFR w1 w2).mono fun x w3 hx=>aFd hx (by rw[aFS];rfl)) ?_;refine aB ?_;refine bR fun g3=>?_;refine aB ?_;refine bU (t:=26) rfl (fun hg=>?_) (fun hg=>?_)
 ·refine aB ?_
  (refine pS ?_;rw[dZ,if_pos (.inl hg)];rfl)
 refine aB ?_;refine aG rfl (fun h4=>?_) (fun h5=>?_)
 ·refine aB ?_
  (refine pS ?_;rw[dZ,if_pos (.inr h4)];rfl)
 have h4:¬(uD w1≠0∨Fb w1≠0):=fun hh=>hh.elim hg h5
 refine lU ?_;refine dW ?_;refine Tb (α:=Nat) (fun g4=>[(9,.bool (qI (eE w1) (eM w1)).isSome),(8,pt g4),(7,iv (uD w1)),(6,pt g3),(5,pt g2),(2,pt g1),(1,.slice (some ⟨b,off,none⟩) n c)]) (fun g4=>[HP.aE g4 366 [iv (eG (eE w1) (eM w1)).n,iv (eG (eE w1) (eM w1)).m,.int .u8 (eG (eE w1) (eM w1)).a,.int .u8 (eG (eE w1) (eM w1)).b,.int .u8 (eG (eE w1) (eM w1)).c],HP.aE g3 334 [iv (eM w1),iv (Fb w1),iv (eE w1),iv (aBr w1)],HP.aE g2 136 [.int .u8 0,iv 0],HP.aE g1 30 [.slice A1 n1 k1,.slice A2 n2 k2,.slice A3 n3 k3,.slice A4 n4 k4]]) (fun _=>True) ?_ fun g4 _=>?_
 ·skip
  refine rB 12 (by kernel_rfl) (by kernel_rfl) ?_;refine gD 1 rfl rfl rfl (Fq (off:=2) (by kernel_rfl) rfl) ?_;refine gD 2 rfl rfl rfl (Kr rfl) ?_;refine gD 3 rfl rfl rfl (Fq (off:=0) (by kernel_rfl) rfl) ?_;refine gD 4 rfl rfl rfl (Kr rfl) ?_;refine gD 5 rfl rfl rfl (lT (zs:=[iv 0,iv 0]) (L:=[(0,1),(1,1)]) (iG (by kernel_rfl)) (by kernel_rfl) rfl (by simp[fI,gI,Value.cells];rfl)) ?_;refine Lc 0 10 rfl rfl (by kernel_rfl) ?_ ?_
  ·refine iW aFo (fun w2 _=>aIz w2) ?_;rintro _ _ q1 ⟨gm,sub,rfl,hsub,rfl⟩ _;simp only[List.cons_append,List.nil_append];refine iD ?_;refine gQ ?_;refine kW (fun _ h=>h.aZ.tail) ?_;refine Lc 6 10 rfl rfl (by kernel_rfl) ?_ ?_
   ·refine aCv (v:=.agg #[iv (eG (eE w1) (eM w1)).n,iv (eG (eE w1) (eM w1)).m,.int .u8 (eG (eE w1) (eM w1)).a,.int .u8 (eG (eE w1) (eM w1)).b,.int .u8 (eG (eE w1) (eM w1)).c]) (et:=366) (l:=sub.reverse.map Ba) Tryz.underlying368 aAH (z:=sO 0 0 0 0 0) (by kernel_rfl) rfl (k:=(eE w1,eM w1)) rfl (fun w2 st=>st.vN (i:=0) rfl) (Rp hsub _ _).1 (Rp hsub _ _).2 (by decide) ?_;refine iD ?_;refine gQ ?_;refine kW (fun _ h=>h.aZ.tail) ?_;refine fL 7 rfl rfl rfl (by decide) (mS rfl) (by kernel_rfl) (fun _ _ _ h=>h) (fun _ h=>h.aZ.tail) ?_;refine fL 8 rfl rfl rfl (by decide) (Dg rfl rfl) (by kernel_rfl) (fun _ _ _ h=>h) (fun _ h=>h.aZ.tail) ?_;refine fL 9 rfl rfl rfl (by decide) (Dg rfl rfl) (by kernel_rfl) (fun _ _ _ h=>h) (fun _ h=>h.aZ.tail) ?_;refine cE 10 ?_;refine bR fun g4=>?_;refine iD ?_;refine gQ ?_;refine kW (fun _ h=>h.aZ.tail.tail) ?_;refine cE 11 ?_;refine uB rfl rfl ?_;simp only[iH,Value.cells,List.set,List.take,List.drop,List.nil_append,List.append_nil,List.length_cons,List.length_nil,List.cons_append,Nat.reduceAdd];refine iD ?_;refine gQ ?_;refine kW (fun _ h=>h.aZ.tail.tail) ?_;refine cE 12 ?_;refine fP rfl (by decide) ?_;refine fA ?_;refine kG ?_;refine dW ?_;exact gB g4
   ·refine bR fun g4=>?_;refine iD ?_;refine gQ ?_;refine kW (fun _ h=>h.aZ.tail.tail) ?_;refine cE 6 ?_;refine aCv (v:=.agg #[iv (eG (eE w1) (eM w1)).n,iv (eG (eE w1) (eM w1)).m,.int .u8 (eG (eE w1) (eM w1)).a,.int .u8 (eG (eE w1) (eM w1)).b,.int .u8 (eG (eE w1) (eM w1)).c]) (et:=366) (l:=sub.reverse.map Ba) Tryz.underlying368 aAH (z:=sO 0 0 0 0 0) (by kernel_rfl) rfl (k:=(eE w1,eM w1)) rfl (fun w2 st=>st.vN (i:=1) rfl) (Rp hsub _ _).1 (Rp hsub _ _).2 (by decide) ?_;refine iD ?_;refine gQ ?_;refine kW (fun _ h=>h.aZ.tail.tail) ?_;refine fL 7 rfl rfl rfl (by decide) (mS rfl) (by kernel_rfl) (fun _ _ _ h=>h) (fun _ h=>h.aZ.tail.tail) ?_;refine fL 8 rfl rfl rfl (by decide) (Dg rfl rfl) (by kernel_rfl) (fun _ _ _ h=>h) (fun _ h=>h.aZ.tail.tail) ?_;refine fL 9 rfl rfl rfl (by decide) (Dg rfl rfl) (by kernel_rfl) (fun _ _ _ h=>h) (fun _ h=>h.aZ.tail.tail) ?_;refine cE 11 ?_;refine uB rfl rfl ?_;simp only[iH,Value.cells,List.set,List.take,List.drop,List.nil_append,List.append_nil,List.length_cons,List.length_nil,List.cons_append,Nat.reduceAdd];refine iD ?_;refine gQ ?_;refine kW (fun _ h=>h.aZ.tail.tail) ?_;refine cE 12 ?_;refine fP rfl (by decide) ?_;refine fA ?_;refine kG ?_;refine dW ?_;exact gB g4
  ·refine bR fun g4=>?_;refine iD ?_;refine gQ ?_;refine kW (fun _ h=>h.tail) ?_;refine cE 0 ?_;refine iW aFo (fun w2 _=>aIz w2) ?_;rintro _ _ q1 ⟨gm,sub,rfl,hsub,rfl⟩ _;simp only[List.cons_append,List.nil_append];refine iD ?_;refine gQ ?_;refine kW (fun _ h=>h.aZ.tail.tail) ?_;refine cE 6 ?_;refine aCv (v:=.agg #[iv (eG (eE w1) (eM w1)).n,iv (eG (eE w1) (eM w1)).m,.int .u8 (eG (eE w1) (eM w1)).a,.int .u8 (eG (eE w1) (eM w1)).b,.int .u8 (eG (eE w1) (eM w1)).c]) (et:=366) (l:=sub.reverse.map Ba) Tryz.underlying368 aAH (z:=sO 0 0 0 0 0) (by kernel_rfl) rfl (k:=(eE w1,eM w1)) rfl (fun w2 st=>st.vN (i:=0) rfl) (Rp hsub _ _).1 (Rp hsub _ _).2 (by decide) ?_;refine iD ?_;refine gQ ?_;refine kW (fun _ h=>h.aZ.tail.tail) ?_;refine fL 7 rfl rfl rfl (by decide) (mS rfl) (by kernel_rfl) (fun _ _ _ h=>h) (fun _ h=>h.aZ.tail.tail) ?_;refine fL 8 rfl rfl rfl (by decide) (Dg rfl rfl) (by kernel_rfl) (fun _ _ _ h=>h) (fun _ h=>h.aZ.tail.tail) ?_;refine fL 9 rfl rfl rfl (by decide) (Dg rfl rfl) (by kernel_rfl) (fun _ _ _ h=>h) (fun _ h=>h.aZ.tail.tail) ?_;refine cE 11 ?_;refine uB rfl rfl ?_;simp only[iH,Value.cells,List.set,List.take,List.drop,List.nil_append,List.append_nil,List.length_cons,List.length_nil,List.cons_append,Nat.reduceAdd];refine iD ?_;refine gQ ?_;refine kW (fun _ h=>h.aZ.tail.tail) ?_;refine cE 12 ?_;refine fP rfl (by decide) ?_;refine fA ?_;refine kG ?_;refine dW ?_;exact gB g4
 obtain⟨qH,Kh,hF3,hF4,hF5⟩:=aIx (eE w1) (eM w1);refine aB ?_;cases h7:(qI (eE w1) (eM w1)).isSome
 ·refine aB ?_
  (refine pS ?_;rw[dZ,if_neg h4,if_pos h7];rfl)
 have h7':¬(qI (eE w1) (eM w1)).isSome=false:=by rw[h7];simp
 refine aB ?_;refine aG rfl (fun h9=>?_) (fun h9=>?_)
 ·refine aB ?_
  (refine pS ?_;rw[dZ,if_neg h4,if_neg h7',if_pos (by omega)];rfl)
 have h9':¬(r.length:Int)≠(eG (eE w1) (eM w1)).n:=by omega
 refine aB ?_;refine aG rfl (fun h11=>?_) (fun h11=>?_)
 ·refine aB ?_
  (refine pS ?_;rw[dZ,if_neg h4,if_neg h7',if_neg h9',if_pos h11];rfl)
 obtain⟨id,hid⟩:∃x,r[0]? =some x:=⟨r[0]'(by omega),List.getElem?_eq_getElem _⟩
 obtain⟨v,hv⟩:∃x,r[(eG (eE w1) (eM w1)).n.toNat - 1]? =some x:=⟨r[(eG (eE w1) (eM w1)).n.toNat - 1]'(by omega),List.getElem?_eq_getElem _⟩
 have aPr:r.getD 0 0=id:=by rw[List.getD_eq_getElem?_getD,hid];rfl
 have hv':r.getD ((eG (eE w1) (eM w1)).n.toNat - 1) 0=v:=by rw[List.getD_eq_getElem?_getD,hv];rfl
 have aUu:=hu id (List.mem_cons_of_mem _ (List.mem_of_getElem? hid))
 have Xc:=hu v (List.mem_cons_of_mem _ (List.mem_of_getElem? hv))
 have aUt:=hcell 1 id (by simpa using hid)
 have Wz:=hcell (eG (eE w1) (eM w1)).n.toNat v (by
  obtain⟨t,ht⟩:∃t,(eG (eE w1) (eM w1)).n.toNat=t+1:=⟨(eG (eE w1) (eM w1)).n.toNat - 1,by omega⟩
  rw[ht] at hv⊢;simpa using hv)
 have hread:dZ s (w1::r)=vY s (eE w1) (eG (eE w1) (eM w1)) id v:=by rw[dZ,if_neg h4,if_neg h7',if_neg h9',if_neg h11,aPr,hv']
 refine aB ?_;refine aU (fun w2 st=>aOe s A1 A2 A3 A4 n1 k1 n2 k2 n3 k3 n4 k4 (eE w1) w2 hS) ?_;refine aB ?_;refine aG rfl (fun Az=>?_) (fun Az=>?_)
 ·refine aB ?_
  (refine pS ?_;rw[hread,vY,if_pos Az];rfl)
 refine aB ?_;refine aG rfl (fun wU=>?_) (fun wU=>?_)
 ·refine aB ?_
  (refine pS ?_;rw[hread,vY,if_neg Az,if_pos wU];rfl)
 refine aB ?_;refine aG rfl (fun Xm=>?_) (fun Xm=>?_)
 ·refine aB ?_
  (refine pS ?_;rw[hread,vY,if_neg Az,if_neg wU,if_pos Xm];rfl)
 have hact:([iv (eG (eE w1) (eM w1)).n,iv (eG (eE w1) (eM w1)).m,.int .u8 (eG (eE w1) (eM w1)).a,.int .u8 (eG (eE w1) (eM w1)).b,.int .u8 (eG (eE w1) (eM w1)).c]:List Value)[2+v.toNat]? =some (.int .u8 ((eG (eE w1) (eM w1)).act v)):=by
  unfold lI.act;rcases(by omega:v=0∨v=1∨v=2) with rfl | rfl | rfl<;>rfl
 have aPk:=hF4 v Xc.1 (by omega)
 generalize hk:(eG (eE w1) (eM w1)).act v=k at *;refine aB ?_;refine kd (bM rfl (Rd.aE 0 rfl hact)) ?_;refine aB ?_;refine bR fun g5=>?_;refine oM 0 rfl ?_;dsimp only[List.set];refine dO ?_;refine Tb (α:=Unit) (fun _=>[(12,pt g5),(5,pt g2)]) (fun _=>[HP.aE g5 136 [.int .u8 k,iv id],HP.aE g2 136 [.int .u8 0,iv 0]]) (fun _=>¬zP s (eE w1) k id.toNat) ?_ fun _ mE=>?_
 ·refine aB ?_;refine bU (t:=91) rfl (fun hg=>?_) (fun hg=>?_)
  ·have hp:=aPk hg
   obtain⟨dm,tK⟩:∃d,s.domains[id.toNat]? =some d:=⟨s.domains[id.toNat]'(by rw[hp] at Az;simp only[tC,if_true] at Az;omega),List.getElem?_eq_getElem _⟩
   obtain⟨bD,oD,rD,rfl,_,rfl,hRD⟩:=hS.dom.row tK
   have Jr:Ly s id.toNat=dm.ret:=by rw[Ly,tK];rfl
   have hlD:=hS.nL
   have aUj:=(List.getElem?_eq_some_iff.1 tK).1
   have Mx:=hRD.at_ (j:=2) rfl
   cases hr:dm.ret
   all_goals
    rw[hr] at Mx Jr;refine aB ?_
   ·(refine pS ?_;rw[hread,vY,if_neg Az,if_neg wU,if_neg Xm,hk,if_pos (.inl ⟨hg,Jr⟩)];rfl)
   ·refine bU (t:=104) rfl (fun yM=>by omega) (fun yM=>?_);refine aB ?_;exact gB () (hg:=fun h=>by simp_all [zP])
  ·refine aB ?_;refine bU (t:=104) rfl (fun hp=>?_) (fun hp=>?_)
   ·obtain⟨ck,yI⟩:∃d,s.aF[id.toNat]? =some d:=⟨s.aF[id.toNat]'(by rw[hp] at Az;simp only[tC,if_true] at Az;simp at Az;omega),List.getElem?_eq_getElem _⟩
    obtain⟨bC,oC,rC,rfl,_,⟨cA,cn,aU0,rfl,_⟩,hC⟩:=hS.jJ.row yI
    have aBi:kindOf s id.toNat=ck.kind:=by rw[kindOf,yI];rfl
    have hlC:=hS.mZ
    have aUk:=(List.getElem?_eq_some_iff.1 yI).1
    refine aB ?_;refine aU (fun w2 st=>aL4 ck.kind _ _ _ _ _ _ _ w2) ?_
    by_cases lP:ck.kind=112∨ck.kind=103
    ·rw[decide_eq_true lP];refine aB ?_;exact gB () (hg:=fun h=>by simp_all [zP,qU])
    ·rw[decide_eq_false lP];refine aB ?_
     (refine pS ?_;rw[hread,vY,if_neg Az,if_neg wU,if_neg Xm,hk,if_pos (.inr ⟨hp,fun hc=>lP (by rw[←aBi];exact hc)⟩)];rfl)
   ·refine aB ?_;exact gB () (hg:=fun h=>by simp_all [zP])
 refine aB ?_;refine Zm [2] ?_;refine aB ?_
 (refine pS ?_;rw[hread,vY,if_neg Az,if_neg wU,if_neg Xm,hk,if_neg mE];rfl)
end
section
def Iv(l:List Nat)(v:Value)(w w':World):Prop:=∃A c,v=.slice A l.length c∧aI (fresh w w') 1 A l.length (aK (dL l))
theorem aOl{l:List Nat}{k i:Nat}(h:l[k]? =some i):(aK (dL l))[k]? =some (iv (i:Int)):=by simp[aK,dL,h]
theorem aB7(q : Piece)(s : aD)(A1 A2 A3 A4 : Option Addr)(n1 k1 n2 k2 n3 k3 n4 k4 : Nat)(c : Nat)(w : World)(nY : pV q s A1 n1 A2 n2 A3 n3 A4 n4)(hm : s.wQ)(hq : q.Le (all w))(hc : c < s.aF.length) :
    Cz 153 #[.agg #[.slice A1 n1 k1,.slice A2 n2 k2,.slice A3 n3 k3,.slice A4 n4 k4],iv (c:Int)] w (Tk (Iv (fU s c)) w):=by
  obtain⟨rfl,rfl,rfl,rfl⟩:=nY.len;refine aL func153 ntmps153 ?_;refine Bi q (by simp) hq ?_;refine aB ?_;refine bA fun g1=>?_;refine aB ?_;refine iO 3 1 ?_;refine bJ [(1,iv (c:Int)),(5,sn),(2,pt g1)] ?_;refine aB ?_;refine eI (fun m e R H=>∃(cur:Nat) (l:List Nat) (A:Option Addr) (k:Nat),cur < s.aF.length∧l.length≤s.aF.length∧m=s.aF.length - l.length∧fU s c=l++lF s (s.aF.length - l.length) cur∧e=[(1,iv (cur:Int)),(5,.slice A l.length k),(2,pt g1)]∧R=[q,all w]∧H=[HP.own 3 1 (.slice A l.length k) l.length (aK (dL l)),HP.aE g1 30 [.slice A1 s.aF.length k1,.slice A2 s.domains.length k2,.slice A3 s.aT.length k3,.slice A4 s.aC.length k4]]) s.aF.length ⟨c,[],none,0,hc,by simp,rfl,rfl,rfl,rfl,rfl⟩ fun m e R H hI=>?_;obtain⟨cur,l,A,k,Aq,pO,rfl,kC,rfl,rfl,rfl⟩:=hI;refine cO ?_;refine Zn 22 (l.length < s.aF.length) ?_ ?_
  · skip
    refine eB ?_;refine cP rfl (by decide) ?_;refine aF9 rfl rfl (by decide) ?_;refine cP rfl (by decide) ?_;refine bU (t:=8) rfl (fun hg=>?_) (fun hg=>?_)
    ·
      refine fO rfl rfl ?_;refine cP rfl (by decide) ?_;refine fO rfl rfl ?_;refine pZ (off:=0) (by kernel_rfl) rfl (by decide) ?_;refine fO rfl rfl ?_;refine Dy rfl ?_;refine fO rfl rfl ?_;refine Dx (el:=86) (by kernel_rfl) rfl (by decide) ?_;refine fO rfl rfl ?_;refine Pa rfl rfl (by decide) ?_
      (first | refine pW rfl rfl (by decide) ?_ | refine pY rfl rfl (by decide) ?_)
      refine cP rfl (by decide) ?_;refine bU (t:=15) rfl (fun hg=>?_) (fun hg=>?_)
      ·
        refine fO rfl rfl ?_;refine cP rfl (by decide) ?_;refine fO rfl rfl ?_;refine Dx (el:=3) (by kernel_rfl) rfl (by decide) ?_;refine fO rfl rfl ?_;refine pZ (off:=0) (by kernel_rfl) rfl (by decide) ?_;refine fO rfl rfl ?_;refine Dy rfl ?_;refine fO rfl rfl ?_;refine Dx (el:=86) (by kernel_rfl) rfl (by decide) ?_;refine fO rfl rfl ?_;refine Pa rfl rfl (by decide) ?_
        (first | refine pW rfl rfl (by decide) ?_ | refine pY rfl rfl (by decide) ?_)
        refine dO ?_;exact Sv (by repeat (first | exact trivial | refine⟨rfl,?_⟩)) (Ro rfl (by omega))
      ·
        refine fV rfl rfl rfl (by decide) ?_;refine fV rfl rfl rfl (by decide) ?_;refine fV rfl rfl rfl (by decide) ?_;refine fV rfl rfl rfl (by decide) ?_;refine fV rfl rfl rfl (by decide) ?_;refine fV rfl rfl rfl (by decide) ?_
        (first | refine pW rfl rfl (by decide) ?_ | refine pY rfl rfl (by decide) ?_)
        refine dO ?_;exact Sv (by repeat (first | exact trivial | refine⟨rfl,?_⟩)) (Xo rfl (by omega))
    ·
      refine fV rfl rfl rfl (by decide) ?_;refine fV rfl rfl rfl (by decide) ?_;refine fV rfl rfl rfl (by decide) ?_;refine fV rfl rfl rfl (by decide) ?_;refine fV rfl rfl rfl (by decide) ?_
      (first | refine pW rfl rfl (by decide) ?_ | refine pY rfl rfl (by decide) ?_)
      refine cP rfl (by decide) ?_;refine fV rfl rfl rfl (by decide) ?_;refine fV rfl rfl rfl (by decide) ?_;refine fV rfl rfl rfl (by decide) ?_;refine fV rfl rfl rfl (by decide) ?_;refine fV rfl rfl rfl (by decide) ?_;refine fV rfl rfl rfl (by decide) ?_
      (first | refine pW rfl rfl (by decide) ?_ | refine pY rfl rfl (by decide) ?_)
      refine dO ?_;exact Sv (by repeat (first | exact trivial | refine⟨rfl,?_⟩)) (Xo rfl (by omega))
  refine aG rfl (fun h=>?_) (fun h=>?_)
  ·
    refine aB ?_
    have hlt:l.length < s.aF.length:=h
    obtain⟨x,hx⟩:∃x,s.aF[cur]? =some x:=⟨_,List.getElem?_eq_getElem Aq⟩
    obtain⟨k0,Jy⟩:∃k0,s.aF.length - l.length=k0+1:=⟨s.aF.length - l.length - 1,by omega⟩
    rw[Jy,aJr hx] at kC
    have hn9:=hm.nc
    have hfit:=(hm.aF cur x hx).1
    refine aB ?_;refine eL fun g2=>?_;refine gH 1 1 8 1 (n':=l.length+1) (el:=3) (by kernel_rfl) (by kernel_rfl) (by decide) rfl rfl rfl (nJ 0 rfl rfl) (by simp[Value.oneCell']) rfl (by omega) (by omega) (by decide) fun A' k'=>?_;dsimp only[List.set];rw[show aK (dL l)++[Value.int .i64 (cur:Int)]=aK (dL (l++[cur])) by simp[aK,dL]];refine aY [1,2] rfl (by decide) (R':=[q,all w]) (by simp) ?_;refine fP rfl (by decide) ?_;refine dO ?_;refine cO ?_;refine cO ?_;obtain⟨bC,oC,rC,rfl,hzC,_,hR,hcC⟩:=nY.jJ.zN hx;obtain⟨As,ns,ks,rfl,rfl,Jq⟩:=hR;refine eB ?_;refine pZ (off:=0) (by kernel_rfl) rfl (by decide) ?_;refine Dy rfl ?_;refine cP rfl (by decide) ?_;refine kd (dat (cur) (oC+cur*6)) ?_;refine pZ (off:=1) (by kernel_rfl) rfl (by decide) ?_;refine jC (by kernel_rfl) rfl (Rd.ro (p:=q) (by simp) hzC (hcC 1 _ rfl)) (by decide) ?_;refine Dx (el:=3) (by kernel_rfl) rfl (by decide) ?_;refine aFA rfl rfl (by decide) ?_;refine dO ?_;refine aG rfl (fun h0=>?_) (fun h0=>?_)
    ·
      refine aB ?_
      have hs0:x.src=[]:=List.eq_nil_of_length_eq_zero (by have:((x.src.length:Nat):Int)=0:=h0;omega)
      rw[hs0] at kC
      have wS:(l++[cur])=fU s c:=kC.symm
      refine dP [] [0] [] (by simp) rfl (by decide) (by decide) fun qf Wc _ hfr=>?_;obtain⟨Ff,sf,zf⟩:=Wc 0 _ (by simp) rfl;obtain⟨Av,cv,hv,vQ⟩:=uY (Y:=qf.Z) sf zf
      exact nR rfl rfl fun w1 st=>⟨⟨_,rfl,by
        rw[←wS];unfold Iv;rw[hv]
        exact⟨Av,cv,by simp,by simpa using aI.le vQ (st.mF (by simp) (hfr (by simp) (by simp)))⟩⟩,st.below (by simp)⟩
    ·
      refine lU ?_;refine dW ?_
      obtain⟨f,fs,hs0⟩:∃f fs,x.src=f::fs:=by
        cases hs0:x.src with
        | nil=>exact absurd (by rw[hs0];rfl) h0
        | cons f fs=>exact⟨f,fs,rfl⟩
      have hf:=hfit f (by rw[hs0];simp)
      obtain⟨f',rfl⟩:∃f':Nat,f=(f':Int):=⟨f.toNat,by omega⟩
      rw[hs0] at kC;obtain⟨bS,oS,rfl,hzS,hcS⟩:=Jq.2 (by rw[hs0];simp);refine eB ?_;refine pZ (off:=0) (by kernel_rfl) rfl (by decide) ?_;refine Dy rfl ?_;refine cP rfl (by decide) ?_;refine kd (dat (cur) (oC+cur*6)) ?_;refine pZ (off:=1) (by kernel_rfl) rfl (by decide) ?_;refine jC (by kernel_rfl) rfl (Rd.ro (p:=q) (by simp) hzC (hcC 1 _ rfl)) (by decide) ?_;refine aKP 0 oS (el:=3) (sz:=1) (by kernel_rfl) (by kernel_rfl) rfl rfl rfl (by rw[hs0];simp) (by omega) (by decide) ?_;refine jC (by kernel_rfl) rfl (Rd.ro (p:=q) (by simp) hzS (hcS 0 _ (by rw[hs0];rfl))) (by decide) ?_;refine aB ?_;exact bJ [(1,iv (f':Int)),(5,.slice A' (l.length+1) k'),(2,pt g1)] (iC (s.aF.length - (l.length+1)) (by omega) ⟨f',l++[cur],A',k',by omega,by simp;omega,by simp,by rw[kC];simp[show s.aF.length - (l.length+1)=k0 by omega],by simp,rfl,by simp⟩)
  ·
    refine aB ?_
    have hge:¬l.length < s.aF.length:=h
    rw[show s.aF.length - l.length=0 by omega] at kC
    have wS:l=fU s c:=by rw[kC];simp[lF]
    refine dP [] [0] [] (by simp) rfl (by decide) (by decide) fun qf Wc _ hfr=>?_;obtain⟨Ff,sf,zf⟩:=Wc 0 _ (by simp) rfl;obtain⟨Av,cv,hv,vQ⟩:=uY (Y:=qf.Z) sf zf
    exact nR rfl rfl fun w1 st=>⟨⟨_,rfl,by
      rw[←wS];unfold Iv;rw[hv]
      exact⟨Av,cv,rfl,aI.le vQ (st.mF (by simp) (hfr (by simp) (by simp)))⟩⟩,st.below (by simp)⟩
 in
end
section
def Mf(l:List Int)(x:Int):Int:=if x∈l then(l.idxOf x:Int) else -1
theorem aOW{l:List Int}{x:Int}{i:Nat}(hno:∀j y,j < i→l[j]? =some y→y≠x)(h:l[i]? =some x):Mf l x=i:=by
 have hm:x∈l:=List.mem_of_getElem? h
 rw[Mf,if_pos hm]
 have h2:l.idxOf x=i:=by
  induction l generalizing i with
  | nil=>simp at h
  | cons a r ih =>
   cases i with
   | zero=>simp at h;subst h;simp
   | succ i=>
    have ha:a≠x:=hno 0 a (by omega) rfl
    simp at h
    have hmr:x∈r:=List.mem_of_getElem? h
    have hi:=ih (fun j y hj hy=>hno (j+1) y (by omega) (by simpa using hy)) h hmr
    have hb:(a==x)=false:=by simpa using ha
    rw[List.idxOf_cons,hb];simp[hi]
 rw[h2]
theorem aOU{l:List Int}{x:Int}(hno:∀(j:Nat) (y:Int),l[j]? =some y→y≠x):Mf l x= -1:=by
 rw[Mf,if_neg];intro hm;obtain⟨j,hj⟩:=List.getElem?_of_mem hm;exact hno j x hj rfl
theorem aOV(l:List Int)(x:Int):decide (0≤Mf l x)=decide (x∈l):=by
 unfold Mf
 by_cases h:x∈l<;>simp[h]
def yT(s:aD)(c id:Int):Bool:=decide (id∈dL (fU s c.toNat))
def Cr(s:aD)(k id:Int)(d:bO):Bool:=
 if k=100∨k=107 then decide (d.domain=id) else if k=111 then yT s d.clock id else if k=97 then decide (d.reset=id) else false
def Dh(s:aD)(wt:List Int)(k id:Int)(i:Nat):Bool:=decide (0 < (wt[i]?).getD 0)&&((s.aC[i]?).any fun d=>Cr s k id d)
def Ih(s:aD)(wt:List Int)(k id:Int):Bool:=(List.range s.aC.length).any (Dh s wt k id)
theorem aBE{s:aD}{wt:List Int}{k id:Int}{i:Nat}(hi:i < s.aC.length)(h:Dh s wt k id i=true):Ih s wt k id=true:=by
 rw[Ih,List.any_eq_true];exact⟨i,List.mem_range.2 hi,h⟩
theorem aE8{s:aD}{wt:List Int}{k id:Int}(h:∀i,i < s.aC.length→Dh s wt k id i=false):Ih s wt k id=false:=by
 rw[Ih,List.any_eq_false];intro i hi;simp[h i (List.mem_range.1 hi)]
def yK(s:aD)(x y:bK)(k id:Int)(i:Nat):Bool:=
 if k=100∨k=107 then((s.domains[i]?).any fun d=>decide (d.above=id))&&sF x y k i
 else decide ((i:Int)≠id)&&(sF x y k i&&yT s i id)
def Kf(s:aD)(k:Int):Nat:=if k=100∨k=107 then s.domains.length else if k=111 then s.aF.length else 0
def Kg(s:aD)(x y:bK)(k id:Int):Bool:=(List.range (Kf s k)).any (yK s x y k id)
theorem aIs{s:aD}{x y:bK}{k id:Int}{i:Nat}(hi:i < Kf s k)(h:yK s x y k id i=true):Kg s x y k id=true:=by
 rw[Kg,List.any_eq_true];exact⟨i,List.mem_range.2 hi,h⟩
theorem Xg{s:aD}{x y:bK}{k id:Int}(h:∀i,i < Kf s k→yK s x y k id i=false):Kg s x y k id=false:=by
 rw[Kg,List.any_eq_false];intro i hi;simp[h i (List.mem_range.1 hi)]
def Ia(s:aD)(x y:bK)(ag:Nat)(k id:Int):Bool:=pI (if ag=0 then y else x) k id||Kg s x y k id
def jG(s:aD)(x y:bK)(wt:List Int)(ag:Nat)(l:List Int):Int×Int×Int:=
 if(dZ s l).1≠0∨(dZ s l).2.1=0∨pI (if ag=0 then x else y) (dZ s l).2.1 (dZ s l).2.2=decide (rP (dZ s l).2.1) then((dZ s l).1,0,0)
 else if rP (dZ s l).2.1 then
  (if(dZ s l).2.1=117∧(s.domains[(dZ s l).2.2.toNat]?).any (fun d=>decide (d.above≠ -1)&& !sF x y 117 d.above)=true then(-3,0,0) else(0,(dZ s l).2))
 else if Ia s x y ag (dZ s l).2.1 (dZ s l).2.2 then(-3,0,0)
 else if Ih s wt (dZ s l).2.1 (dZ s l).2.2 then(-6,0,0)
 else(0,(dZ s l).2)
def Ql(k:Int):Int:=if k=117∨k=100∨k=107 then 17 else if k=99∨k=111 then 20 else 22
def Vr(k:Int):Prop:=k=117∨k=100∨k=107∨k=99∨k=111∨k=114∨k=97
theorem aQv(p m:Int)(v:Int)(h0:0≤v)(hv:v < (eG p m).m):Ql ((eG p m).act v)=p∧Vr ((eG p m).act v):=by
 have h1:∀f:lI,qI p m=some f→v < f.m→Ql (f.act v)=p∧Vr (f.act v):=by
  intro f hf hv;unfold qI at hf
  have hv3:f.m≤3:=by
   have:=(aIx p m).2.2.1
   unfold eG qI at this;rw[hf] at this;exact this
  rcases(by omega:v=0∨v=1∨v=2) with rfl | rfl | rfl<;>
  ·repeat' split at hf
   all_goals first
    | (cases hf;done)
    | (cases hf;simp at hv;done)
    | (cases hf;simp_all [Ql,Vr,lI.act])
 unfold eG at hv⊢;cases h:qI p m with
 | none=>rw[h] at hv;simp at hv;omega
 | some f=>rw[h] at hv;exact h1 f h hv
theorem aGN{s : aD}{l : List Int}(hu : wA l) : ((dZ s l).2.1 = 0 ∧ (dZ s l).2.2 = 0) ∨ ((dZ s l).1 = 0 ∧ Vr (dZ s l).2.1 ∧ 0 ≤ (dZ s l).2.2 ∧ (dZ s l).2.2 < (tC s (Ql (dZ s l).2.1) : Int) ∧
  ((dZ s l).2.1=107→Ly s (dZ s l).2.2.toNat=true)∧(Ql (dZ s l).2.1=20→qU s (dZ s l).2.2.toNat)):=by
 unfold dZ;split
 ·exact .inl ⟨rfl,rfl⟩
 ·rename_i w r
  split
  ·exact .inl ⟨rfl,rfl⟩
  ·split
   ·exact .inl ⟨rfl,rfl⟩
   ·split
    ·exact .inl ⟨rfl,rfl⟩
    ·split
     ·exact .inl ⟨rfl,rfl⟩
     ·have hd : ∀ i, 0 ≤ r.getD i 0 := fun i => by
       rw[List.getD_eq_getElem?_getD];cases hi:r[i]? with
       | none=>exact Int.le_refl _
       | some x=>exact(hu x (List.mem_cons_of_mem _ (List.mem_of_getElem? hi))).1
      have hid:=hd 0
      have hv:=hd ((eG (eE w) (eM w)).n.toNat - 1)
      generalize r.getD 0 0=id at *;generalize r.getD ((eG (eE w) (eM w)).n.toNat - 1) 0=v at *;unfold vY;split
      ·exact .inl ⟨rfl,rfl⟩
      ·split
       ·exact .inl ⟨rfl,rfl⟩
       ·split
        ·exact .inl ⟨rfl,rfl⟩
        ·split
         ·exact .inl ⟨rfl,rfl⟩
         ·rename_i h1 h2 h3 h4
          obtain⟨a1,a2⟩:=aQv (eE w) (eM w) v hv (by omega);refine .inr ⟨rfl,a2,hid,by dsimp only;rw[a1];omega,fun h5=>?_,fun h5=>?_⟩
          ·dsimp only at h5⊢;cases hr:Ly s id.toNat with
           | true=>rfl
           | false=>exact absurd (.inl ⟨h5,hr⟩) h4
          ·dsimp only at h5⊢;rw[a1] at h5;exact Decidable.byContradiction fun hs=>h4 (.inr ⟨h5,hs⟩)
theorem aI.int{w:World}{A:Option Addr}{n:Nat}{l:List Int}(h:aI (all w) 1 A n (aK l))(hn:0 < n):∃b off,A=some ⟨b,off,none⟩∧∀(i:Nat) (x:Int),l[i]? =some x→fK w b (off+i) (iv x):=by
 obtain⟨b,off,hA,hb,hc⟩:=h.2 hn;refine⟨b,off,hA,fun i x hx=>⟨hb,hc i _ ?_⟩⟩;simp only[aK,List.getElem?_map,hx,Option.map_some]
end
section
section
variable{N:bZ}{w0:World}{e e':Env}{R R' R0:List Piece}{H H' H0:List HP}{fuel:Nat}{listed:Array Bool}{Q:Exit→Act→World→Prop}
def zMv(ops:Array Oper):List Nat:=(List.range ops.size).filter fun i=>match ops[i]? with
 | some o=>aAB o.op||(o.guard.isSome&&aGf o.op)
 | none=>false
theorem aJW{id:Nat}{l:List Oper}(k:XB Tryz.prog N w0 l.toArray Q R H (zMv l.toArray) fuel listed e' R' H')(hk:XB Tryz.prog N w0 l.toArray Q R H (zMv l.toArray) fuel listed e' R' H'→XL 0 N w0 l.toArray Q R H (zMv l.toArray) l.length (Array.replicate l.length false) e R H:=by
  intro h
  repeat (first | refine Zd ?_ | refine Zc ?_ | refine Za ?_ | refine Zb ?_ | refine aBP ?_ | refine Yz ?_ | refine Ze ?_)
  exact h)(hm:Tryz.prog.follows .mixedOrders=true:=by kernel_rfl)(hs:Region.noSelect l.toArray=true:=by kernel_rfl):XK N w0 ((Code.region id l.toArray true).wp Tryz.prog Q) e R H:=jL (zMv l.toArray) (hk k) hm hs
theorem aEV{ops:Array Oper}{Z:List Nat}{p:Prop}[Decidable p](t:Nat)(ht:e.get t=some (.bool (decide p)))(h1:p→XB Tryz.prog N w0 ops Q R0 H0 Z fuel listed ((t,.bool true)::e) R H)(h2:¬p→XB Tryz.prog N w0 ops Q R0 H0 Z fuel listed ((t,.bool false)::e) R H):XB Tryz.prog N w0 ops Q R0 H0 Z fuel listed e R H:=by
 intro up a w hr st
 by_cases hp:p
 ·rw[decide_eq_true hp] at ht;exact h1 hp up a w (hr.as ht) st
 ·rw[decide_eq_false hp] at ht;exact h2 hp up a w (hr.as ht) st
theorem Ir{ops:Array Oper}{Z:List Nat}{d j t:Nat}{op:Op}{ty:TypeId}{pos:String}{aH:Array Edge}{want b:Bool}(i:Nat)(k:XB Tryz.prog N w0 ops Q R0 H0 Z fuel (listed.setIfInBounds i true) ((d,undef)::e) R H)(hr:Region.ready .any ops listed=[i]:=by decide+kernel)(hi:ops[i]? =some ⟨some d,op,ty,pos,aH,some (j,want)⟩:=by rfl)(hj:(ops[j]?).bind (·.dst)=some t:=by rfl)(ht:e.get t=some (.bool b):=by rfl)(hb:b= !want:=by rfl)(hd:d < N.n:=by decide)(hS:∀w,St w0 R H w→St w0 R0 H0 w:=by exact fun _ h=>h):XB Tryz.prog N w0 ops Q R0 H0 Z (fuel+1) listed e R H:=
 aM i (fV hj ht hb hd (bL k hS)) hr hi
theorem Oa{P:Program}{c:Code}(E:Nat→Env)(n:Nat)(hr:∀i,i≤n→XK N w0 (c.wp P (Exit.then (LpK (α:=Unit) N w0 n (fun i _=>E i) R (fun _ _=>H) (fun _ _=>True) i) Q)) (E i) R H)(hE:(E 0).Sub e:=by repeat (first | exact trivial | refine⟨rfl,?_⟩))(hC:lW [] H H:=by exact Tj):XK N w0 ((Code.loop c).wp P Q) e R H:=
 pT (α:=Unit) (fun i _=>E i) (fun _ _=>H) (fun _ _=>True) n () trivial (fun i _ hi _=>hr i hi) hE hC
end
end
section
theorem aOT(A:Option Addr)(n c:Nat)(l:List Int)(x:Int)(w:World)(hs:aI (all w) 1 A n (aK l))(hn:n=l.length)(hn2:n≤1000000):
  Cz 238 #[.slice A n c,iv x] w (Rt (iv (Mf l x)) w):=by
 refine aL func238 ntmps238 ?_;refine aB ?_;refine bJ [(8,iv 0),(7,iv n),(1,iv x),(0,.slice A n c)] ?_;refine aB ?_;refine eI (fun m e R H=>∃(i:Nat),i≤n∧m=n - i∧(∀(j:Nat) (y:Int),j < i→l[j]? =some y→y≠x)∧e=[(8,iv i),(7,iv n),(1,iv x),(0,.slice A n c)]∧R=[all w]∧H=[]) n ⟨0,by omega,rfl,(fun j y hj=>absurd hj (Nat.not_lt_zero j)),rfl,rfl,rfl⟩ fun m e R H hI=>?_;obtain⟨i,hi,rfl,hno,rfl,rfl,rfl⟩:=hI;refine aB ?_;refine aG rfl (fun h=>?_) (fun h=>?_)
 ·
  refine aB ?_
  have hil:i < n:=by have h':(i:Int) < (n:Int):=h;omega
  obtain⟨y,hy⟩:∃y,l[i]? =some y:=⟨l[i]'(by omega),List.getElem?_eq_getElem _⟩
  obtain⟨b,off,rfl,hc⟩:=hs.int (by omega)
  have Kc:=hc i y hy
  refine aB ?_;refine aG rfl (fun h2=>?_) (fun h2=>?_)
  ·
   refine aB ?_;exact aS (h:=fun _ _=>by rw[aOW (i:=i) hno (h2▸hy)])
  ·
   refine aB ?_
   exact dY (n - (i+1)) ⟨i+1,by omega,rfl,(fun j y' hj hy'=>by
    rcases Nat.lt_or_ge j i with h1 | h1
    ·exact hno j y' h1 hy'
    ·have hji:j=i:=by omega
     subst hji;rw[hy] at hy';cases hy'
     exact fun h=>h2 h.symm),rfl,rfl,rfl⟩
 ·
  refine aB ?_
  have hin:i=n:=by have h':¬(i:Int) < (n:Int):=h;omega
  subst hin;exact aS (h:=fun _ _=>by rw[aOU (fun j y hy=>hno j y (by have:=(List.getElem?_eq_some_iff.1 hy).1;omega) hy)])
theorem aJe(A:Option Addr)(n c:Nat)(l:List Int)(x:Int)(w:World)(hs:aI (all w) 1 A n (aK l))(hn:n=l.length)(hn2:n≤1000000):
  Cz 222 #[.slice A n c,iv x] w (Rt (.bool (decide (x∈l))) w):=by
 refine aL func222 ntmps222 ?_;refine aB ?_;refine dH (fun w1 st=>aOT A n c l x w1 (hs.le (st.le (by simp))) hn hn2) ?_;refine aB ?_;exact aS (h:=fun _ _=>by rw[←aOV])
theorem aS4(q:Piece)(s:aD)(A1 A2 A3 A4:Option Addr)(n1 k1 n2 k2 n3 k3 n4 k4:Nat)(Aw:Option Addr)(nw cw:Nat)(wt:List Int)(k id:Int)(w:World)(nY:pV q s A1 n1 A2 n2 A3 n3 A4 n4)(hm:s.wQ)(hq:q.Le (all w))(hw:aI (all w) 1 Aw nw (aK wt))(hnw:nw=wt.length):
  Cz 170 #[.agg #[.slice A1 n1 k1,.slice A2 n2 k2,.slice A3 n3 k3,.slice A4 n4 k4],.slice Aw nw cw,.agg #[.int .u8 k,iv id]] w (Rt (.bool (Ih s wt k id)) w):=by
 obtain⟨rfl,rfl,rfl,rfl⟩:=nY.len;refine aL func170 ntmps170 ?_;refine Bi q (by simp) hq ?_;refine aB ?_;refine bA fun g1=>?_;refine aB ?_;refine bA fun g2=>?_;refine aB ?_;refine Dl (α:=Unit) (fun _=>[]) (fun _=>[]) (fun _=>∀j,j < s.aC.length→Dh s wt k id j=false) ?_ fun _ hno=>?_
 ·refine pT (α:=Unit) (fun i _=>[(12,iv i),(11,iv s.aC.length),(10,.slice A4 s.aC.length k4),(5,pt g2),(3,pt g1),(1,.slice Aw nw cw)]) (fun _ _=>[HP.aE g2 136 [.int .u8 k,iv id],HP.aE g1 30 [.slice A1 s.aF.length k1,.slice A2 s.domains.length k2,.slice A3 s.aT.length k3,.slice A4 s.aC.length k4]]) (fun i _=>∀j,j < i→Dh s wt k id j=false) s.aC.length () (fun j hj=>absurd hj (Nat.not_lt_zero j)) fun i _ hi hno=>?_
  have vT:Dh s wt k id i=false→∀j,j < i+1→Dh s wt k id j=false:=fun h j hj=>by
   rcases(by omega:j < i∨j=i) with hj | rfl
   ·exact hno j hj
   ·exact h
  have hnc:=hm.nc
  have hnd:=hm.nd
  have nB:=hm.nv
  refine aB ?_;refine aG rfl (fun h=>?_) (fun h=>?_)
  ·have hil:i < s.aC.length:=by omega
   obtain⟨d,hd⟩:=get_some hil;obtain⟨hx1,yB,hx3,hx4,hx5,hx6,_⟩:=hm.aC i d hd;obtain⟨bV,oV,rV,rfl,hzV,_,hR,Xa⟩:=nY.dev.zN hd;obtain⟨Ar,nr,kr,An,nn,kn,rfl,_⟩:=hR;obtain⟨xc,hxc⟩:∃xc:Nat,d.clock=(xc:Int):=⟨d.clock.toNat,by omega⟩
   rw[hxc] at Xa
   have hk:=eC.le hzV Xa hq
   have yJ:Dh s wt k id i=(decide (0 < (wt[i]?).getD 0)&&Cr s k id d):=by rw[Dh,hd];rfl
   refine aB ?_;refine bR fun g3=>?_;refine aB ?_;refine bU (t:=21) rfl (fun h2=>?_) (fun h2=>?_)
   ·refine aB ?_;exact jM () (hg:=vT (by rw[yJ,List.getElem?_eq_none (by omega)];rfl))
   obtain⟨y,hy⟩:=get_some (l:=wt) (i:=i) (by omega);obtain⟨bW,oW,rfl,hcW⟩:=hw.int (by omega)
   have Kc:=hcW i y hy
   rw[hy] at yJ;refine aB ?_;refine aG rfl (fun h3=>?_) (fun h3=>?_)
   ·refine aB ?_;exact jM () (hg:=vT (by rw[yJ,decide_eq_false (by simpa using h3)];rfl))
   rw[decide_eq_true (show 0 < (some y).getD 0 by simpa using h3)] at yJ;refine aB ?_;refine bU (t:=30) rfl (fun hA=>?_) (fun hA=>?_)
   ·refine aB ?_;refine aG rfl (fun h4=>?_) (fun h4=>?_)
    ·refine aB ?_;exact dF (by rw[aBE hil (by rw[yJ];unfold Cr yT;simp_all)])
    ·refine aB ?_;exact jM () (hg:=vT (by rw[yJ];unfold Cr yT;simp_all))
   refine aB ?_;refine bU (t:=30) rfl (fun hB=>?_) (fun hB=>?_)
   ·refine aB ?_;refine aG rfl (fun h4=>?_) (fun h4=>?_)
    ·refine aB ?_;exact dF (by rw[aBE hil (by rw[yJ];unfold Cr yT;simp_all)])
    ·refine aB ?_;exact jM () (hg:=vT (by rw[yJ];unfold Cr yT;simp_all))
   refine aB ?_;refine bU (t:=38) rfl (fun hC=>?_) (fun hC=>?_)
   ·refine aB ?_;refine qM ?_;refine aM 3 ?_;refine jP [q] (Iv (fU s xc)) (fun w2 st=>aB7 q s _ _ _ _ _ k1 _ k2 _ k3 _ k4 xc w2 nY hm (st.le (by simp)) (by omega)) ?_;rintro _ w2 q1 ⟨Ac,cc,rfl,kC⟩ hf hle _
    have kC:=kC.le hf
    have aPJ:=aB8 s s.aF.length xc
    refine bL ?_ (hS:=fun _ h=>h.aZ);refine aM 6 ?_;refine aU (fun w3 st=>aJe Ac _ cc (dL (fU s xc)) id w3 (kC.le (st.le (by simp))) (by simp[dL]) (by unfold fU;omega)) ?_;refine cX ?_;refine fJ ?_;refine aB ?_;refine aG rfl (fun h4=>?_) (fun h4=>?_)
    ·refine aB ?_;exact dF (by rw[aBE hil (by rw[yJ];unfold Cr yT;simp_all)])
    ·refine aB ?_;exact jM () (hg:=vT (by rw[yJ];unfold Cr yT;simp_all))
   refine aB ?_;refine bU (t:=47) rfl (fun hD=>?_) (fun hD=>?_)
   ·refine aB ?_;refine aG rfl (fun h4=>?_) (fun h4=>?_)
    ·refine aB ?_;exact dF (by rw[aBE hil (by rw[yJ];unfold Cr yT;simp_all)])
    ·refine aB ?_;exact jM () (hg:=vT (by rw[yJ];unfold Cr yT;simp_all))
   refine aB ?_;exact jM () (hg:=vT (by rw[yJ];unfold Cr yT;simp_all))
  ·refine aB ?_;exact gB () (hg:=fun j hj=>hno j (by omega))
 ·refine aB ?_;exact dF (by rw[aE8 hno])
theorem uX.box{q:Piece}{x y:bK}{A1 A2 A3 B1 B2 B3:Option Addr}{n1 k1 n2 k2 n3 k3 m1 l1 m2 l2 m3 l3:Nat}{w:World}{g:Nat}
  (hx:uX q x y (.agg #[.slice A1 n1 k1,.slice A2 n2 k2,.slice A3 n3 k3,.slice B1 m1 l1,.slice B2 m2 l2,.slice B3 m3 l3])) (hq:q.Le (all w)) (hg:eC w g 0 [.slice A1 n1 k1,.slice A2 n2 k2,.slice A3 n3 k3,.slice B1 m1 l1,.slice B2 m2 l2,.slice B3 m3 l3]):StM w g x y:=by
 obtain⟨C1,j1,C2,j2,C3,j3,D1,i1,D2,i2,D3,i3,he,s1,s2,s3,s4,s5,s6⟩:=hx;simp only[Value.agg.injEq,Array.mk.injEq,List.cons.injEq,Value.slice.injEq] at he;obtain⟨⟨rfl,rfl,rfl⟩,⟨rfl,rfl,rfl⟩,⟨rfl,rfl,rfl⟩,⟨rfl,rfl,rfl⟩,⟨rfl,rfl,rfl⟩,⟨rfl,rfl,rfl⟩,_⟩:=he;intro i hi;rcases(by omega:i=0∨i=1) with rfl | rfl
 ·exact⟨A1,k1,A2,k2,A3,k3,by simpa using hg.at_ (j:=0) rfl,by simpa using hg.at_ (j:=1) rfl,by simpa using hg.at_ (j:=2) rfl,s1.le hq,s2.le hq,s3.le hq⟩
 ·exact⟨B1,l1,B2,l2,B3,l3,by simpa using hg.at_ (j:=3) rfl,by simpa using hg.at_ (j:=4) rfl,by simpa using hg.at_ (j:=5) rfl,s4.le hq,s5.le hq,s6.le hq⟩
theorem aRH(q qx:Piece)(s:aD)(A1 A2 A3 A4:Option Addr)(n1 k1 n2 k2 n3 k3 n4 k4:Nat)(X1 X2 X3 Y1 Y2 Y3:Option Addr)(Ce xN Cd xM Cc xL Cb xK Ca xJ Bz xI:Nat)(x y:bK)(ag:Nat)(k id:Int)(w:World)(nY:pV q s A1 n1 A2 n2 A3 n3 A4 n4)(hm:s.wQ)(hq:q.Le (all w))(Na:uX qx x y (.agg #[.slice X1 Ce xN,.slice X2 Cd xM,.slice X3 Cc xL,.slice Y1 Cb xK,.slice Y2 Ca xJ,.slice Y3 Bz xI]))(Gy:qx.Le (all w))(hag:ag < 2):
  Cz 169 #[.agg #[.slice A1 n1 k1,.slice A2 n2 k2,.slice A3 n3 k3,.slice A4 n4 k4],.agg #[.slice X1 Ce xN,.slice X2 Cd xM,.slice X3 Cc xL,.slice Y1 Cb xK,.slice Y2 Ca xJ,.slice Y3 Bz xI],iv (ag:Int),.agg #[.int .u8 k,iv id]] w (Rt (.bool (Ia s x y ag k id)) w):=by
 obtain⟨rfl,rfl,rfl,rfl⟩:=nY.len
 have hnc:=hm.nc
 have hnd:=hm.nd
 have nx:∀{i:Nat} {p:Nat→Prop},(∀j,j < i→p j)→p i→∀j,j < i+1→p j:=fun {i p} h1 h2 j hj=>by
  rcases(by omega:j < i∨j=i) with hj | rfl
  ·exact h1 j hj
  ·exact h2
 refine aL func169 ntmps169 ?_;refine Bi qx (by simp) Gy ?_;refine Bi q (by simp) hq ?_;refine aB ?_;refine bA fun g1=>?_;refine aB ?_;refine bA fun g2=>?_;refine aB ?_;refine bA fun g3=>?_;refine aB ?_;refine Dl (α:=Unit) (fun _=>[(7,pt g3),(5,pt g2),(4,pt g1)]) (fun _=>[HP.aE g3 136 [.int .u8 k,iv id],HP.aE g2 130 [.slice X1 Ce xN,.slice X2 Cd xM,.slice X3 Cc xL,.slice Y1 Cb xK,.slice Y2 Ca xJ,.slice Y3 Bz xI],HP.aE g1 30 [.slice A1 s.aF.length k1,.slice A2 s.domains.length k2,.slice A3 s.aT.length k3,.slice A4 s.aC.length k4]]) (fun _=>pI (if ag=0 then y else x) k id=false) ?_ fun _ aDH=>?_
 ·refine pT (α:=Unit) (fun i _=>[(13,iv i),(7,pt g3),(5,pt g2),(4,pt g1),(2,iv (ag:Int))]) (fun _ _=>[HP.aE g3 136 [.int .u8 k,iv id],HP.aE g2 130 [.slice X1 Ce xN,.slice X2 Cd xM,.slice X3 Cc xL,.slice Y1 Cb xK,.slice Y2 Ca xJ,.slice Y3 Bz xI],HP.aE g1 30 [.slice A1 s.aF.length k1,.slice A2 s.domains.length k2,.slice A3 s.aT.length k3,.slice A4 s.aC.length k4]]) (fun i _=>∀j:Nat,j < i→¬(j:Int)=ag→pI (if j=0 then x else y) k id=false) 2 () (fun j hj=>absurd hj (Nat.not_lt_zero j)) fun i _ hi hno=>?_;refine aB ?_;refine aG rfl (fun h=>?_) (fun h=>?_)
  ·have hi2:i < 2:=by omega
   refine aB ?_;refine bU (t:=19) rfl (fun h1=>?_) (fun h1=>?_)
   ·refine aB ?_;refine aU (fun w1 st=>aC3 g2 i (if i=0 then x else y) k id w1 hi2 (uX.box Na (st.le (by simp)) (st.box (i:=1) rfl) i hi2)) ?_;cases hb:pI (if i=0 then x else y) k id
    ·refine aB ?_;exact jM () (hg:=nx hno fun _=>hb)
    ·refine aB ?_;refine jY (by simp) ?_
     have aDH:pI (if ag=0 then y else x) k id=true:=by
      rcases(by omega:(i=0∧ag=1)∨(i=1∧ag=0)) with⟨rfl,rfl⟩ | ⟨rfl,rfl⟩<;>simpa using hb
     rw[Ia,aDH];rfl
   ·refine aB ?_;exact jM () (hg:=nx hno fun hc=>absurd hc h1)
  ·obtain rfl:i=2:=by omega
   refine aB ?_;refine gB () (hg:=?_);rcases(by omega:ag=0∨ag=1) with rfl | rfl
   ·simpa using hno 1 (by omega) (by omega)
   ·simpa using hno 0 (by omega) (by omega)
 have Wx:Ia s x y ag k id=Kg s x y k id:=by rw[Ia,aDH,Bool.false_or]
 refine cO ?_;refine cO ?_;refine eB ?_;refine bH ?_;refine bH ?_;refine dO ?_;refine sC ?_;refine Tb (α:=Bool) (fun b=>[(30,.bool b),(29,.int .u8 k),(7,pt g3),(5,pt g2),(4,pt g1)]) (fun _=>[HP.aE g3 136 [.int .u8 k,iv id],HP.aE g2 130 [.slice X1 Ce xN,.slice X2 Cd xM,.slice X3 Cc xL,.slice Y1 Cb xK,.slice Y2 Ca xJ,.slice Y3 Bz xI],HP.aE g1 30 [.slice A1 s.aF.length k1,.slice A2 s.domains.length k2,.slice A3 s.aT.length k3,.slice A4 s.aC.length k4]]) (fun b=>b=true↔k=100∨k=107) ?_ fun b hb=>?_
 ·refine aB ?_;refine bU (t:=30) rfl (fun hA=>?_) (fun hA=>?_)
  ·refine aB ?_;exact gB true (hg:=by simp[hA])
  ·refine aB ?_;refine bU (t:=30) rfl (fun hB=>?_) (fun hB=>?_)
   ·exact gB true (hg:=by simp[hB])
   ·exact gB false (hg:=by simp[hA,hB])
 cases b
 ·have Qz:¬(k=100∨k=107):=fun hh=>by simpa using hb.2 hh
  refine aB ?_;refine bU (t:=53) rfl (fun hC=>?_) (fun hC=>?_)
  ·have Wm:Kf s k=s.aF.length:=by rw[Kf,if_neg Qz,if_pos hC]
   refine aB ?_;refine pT (α:=Unit) (fun i _=>[(58,iv i),(57,iv s.aF.length),(7,pt g3),(5,pt g2),(4,pt g1)]) (fun _ _=>[HP.aE g3 136 [.int .u8 k,iv id],HP.aE g2 130 [.slice X1 Ce xN,.slice X2 Cd xM,.slice X3 Cc xL,.slice Y1 Cb xK,.slice Y2 Ca xJ,.slice Y3 Bz xI],HP.aE g1 30 [.slice A1 s.aF.length k1,.slice A2 s.domains.length k2,.slice A3 s.aT.length k3,.slice A4 s.aC.length k4]]) (fun i _=>∀j,j < i→yK s x y k id j=false) s.aF.length () (fun j hj=>absurd hj (Nat.not_lt_zero j)) fun i _ hi hno=>?_;refine aB ?_;refine aG rfl (fun h=>?_) (fun h=>?_)
   ·have hil:i < s.aF.length:=by omega
    have fS:yK s x y k id i=(decide ((i:Int)≠id)&&(sF x y k i&&decide (id∈dL (fU s i)))):=by rw[yK,if_neg Qz,yT,Int.toNat_natCast]
    refine aB ?_;refine aJW ?_;refine aEV 65 rfl (fun h1=>?_) (fun h1=>?_)
    ·rw[decide_eq_true h1] at fS;refine rE 5 ?_;refine aM 8 ?_;refine aB ?_;refine aU (fun w1 st=>aC5 g2 x y k i w1 (uX.box Na (st.le (by simp)) (st.box (i:=1) rfl))) ?_;cases hw:sF x y k i
     all_goals
      rw[hw] at fS;refine bL ?_;refine rE 9 ?_
     ·refine Ir 13 ?_;refine rE 14 ?_;refine Ir 16 ?_;refine rE 17 ?_;refine fJ ?_;refine aB ?_;exact jM () (hg:=nx hno (by rw[fS];rfl))
     ·refine aM 13 ?_;refine aB ?_;refine jP [q] (Iv (fU s i)) (fun w2 st=>aB7 q s _ _ _ _ _ k1 _ k2 _ k3 _ k4 i w2 nY hm (st.le (by simp)) (by omega)) ?_;rintro _ w2 q1 ⟨Ac,cc,rfl,kC⟩ hf hle _
      have kC:=kC.le hf
      have aPJ:=aB8 s s.aF.length i
      refine bL ?_ (hS:=fun _ h=>h.aZ);refine aM 16 ?_;refine aB ?_;refine aU (fun w3 st=>aJe Ac _ cc (dL (fU s i)) id w3 (kC.le (st.le (by simp))) (by simp[dL]) (by unfold fU;omega)) ?_;refine bL ?_ (hS:=fun _ h=>h.aZ);refine Zq 17 ?_;refine fJ ?_;refine aB ?_;refine aG rfl (fun h4=>?_) (fun h4=>?_)
      ·refine aB ?_;exact dF (by rw[Wx,aIs (by rw[Wm];exact hil) (by rw[fS,decide_eq_true h4];rfl)])
      ·refine aB ?_;exact jM () (hg:=nx hno (by rw[fS,decide_eq_false h4];rfl))
    ·refine rE 5 ?_;refine Ir 8 ?_;refine rE 9 ?_;refine Ir 13 ?_;refine rE 14 ?_;refine Ir 16 ?_;refine rE 17 ?_;refine fJ ?_;refine aB ?_;exact jM () (hg:=nx hno (by rw[fS,decide_eq_false h1];rfl))
   ·refine aB ?_;exact dF (by rw[Wx,Xg (by rw[Wm];exact fun j hj=>hno j (by omega))])
  ·refine aB ?_;exact dF (by rw[Wx,Xg (by rw[Kf,if_neg Qz,if_neg hC];exact fun j hj=>absurd hj (Nat.not_lt_zero j))])
 ·have Qz:k=100∨k=107:=hb.1 rfl
  have Wm:Kf s k=s.domains.length:=by rw[Kf,if_pos Qz]
  refine aB ?_;refine pT (α:=Unit) (fun i _=>[(36,iv i),(35,iv s.domains.length),(34,.slice A2 s.domains.length k2),(7,pt g3),(5,pt g2),(4,pt g1)]) (fun _ _=>[HP.aE g3 136 [.int .u8 k,iv id],HP.aE g2 130 [.slice X1 Ce xN,.slice X2 Cd xM,.slice X3 Cc xL,.slice Y1 Cb xK,.slice Y2 Ca xJ,.slice Y3 Bz xI],HP.aE g1 30 [.slice A1 s.aF.length k1,.slice A2 s.domains.length k2,.slice A3 s.aT.length k3,.slice A4 s.aC.length k4]]) (fun i _=>∀j,j < i→yK s x y k id j=false) s.domains.length () (fun j hj=>absurd hj (Nat.not_lt_zero j)) fun i _ hi hno=>?_;refine aB ?_;refine aG rfl (fun h=>?_) (fun h=>?_)
  ·have hil:i < s.domains.length:=by omega
   obtain⟨d,hd⟩:=get_some hil;obtain⟨bD,oD,rD,rfl,Vt,_,rfl,Mx⟩:=nY.dom.zN hd
   have hk:=eC.le Vt Mx hq
   have fS:yK s x y k id i=(decide (d.above=id)&&sF x y k i):=by rw[yK,if_pos Qz,hd];rfl
   refine aB ?_;refine bR fun g4=>?_;refine aB ?_;refine bU (t:=46) rfl (fun h1=>?_) (fun h1=>?_)
   ·rw[decide_eq_true h1] at fS;refine aB ?_;refine aU (fun w1 st=>aC5 g2 x y k i w1 (uX.box Na (st.le (by simp)) (st.box (i:=2) rfl))) ?_;cases hw:sF x y k i
    all_goals
     rw[hw] at fS;refine aB ?_
    ·exact jM () (hg:=nx hno fS)
    ·exact dF (by rw[Wx,aIs (by rw[Wm];exact hil) fS])
   ·refine aB ?_;exact jM () (hg:=nx hno (by rw[fS,decide_eq_false h1];rfl))
  ·refine aB ?_;exact dF (by rw[Wx,Xg (by rw[Wm];exact fun j hj=>hno j (by omega))])
end
section
theorem aRJ(q qx:Piece)(s:aD)(A1 A2 A3 A4:Option Addr)(n1 k1 n2 k2 n3 k3 n4 k4:Nat)(X1 X2 X3 Y1 Y2 Y3:Option Addr)(Ce xN Cd xM Cc xL Cb xK Ca xJ Bz xI:Nat)(x y:bK)(Aw:Option Addr)(nw cw:Nat)(wt:List Int)(ag:Nat)(Al:Option Addr)(nl cl:Nat)(l:List Int)(w:World)(nY:pV q s A1 n1 A2 n2 A3 n3 A4 n4)(hm:s.wQ)(hq:q.Le (all w))(Na:uX qx x y (.agg #[.slice X1 Ce xN,.slice X2 Cd xM,.slice X3 Cc xL,.slice Y1 Cb xK,.slice Y2 Ca xJ,.slice Y3 Bz xI]))(Gy:qx.Le (all w))(hw:aI (all w) 1 Aw nw (aK wt))(hnw:nw=wt.length)(hag:ag < 2)(hl:aI (all w) 1 Al nl (qT l))(iK:nl=l.length)(aIb:nl≤1000000)(hu:wA l):
  Cz 98 #[.agg #[.slice A1 n1 k1,.slice A2 n2 k2,.slice A3 n3 k3,.slice A4 n4 k4],.agg #[.slice X1 Ce xN,.slice X2 Cd xM,.slice X3 Cc xL,.slice Y1 Cb xK,.slice Y2 Ca xJ,.slice Y3 Bz xI],.slice Aw nw cw,iv (ag:Int),.slice Al nl cl] w (Rt (aEH (jG s x y wt ag l)) w):=by
 generalize hrd:dZ s l=rd;obtain⟨st,k,id⟩:=rd;refine aL func98 ntmps98 ?_;refine Bi qx (by simp) Gy ?_;refine Bi q (by simp) hq ?_;refine aB ?_;refine bA fun g1=>?_;refine aB ?_;refine bA fun g2=>?_;refine aB ?_;refine bR fun g3=>?_;refine aB ?_;refine bU (t:=17) rfl (fun h=>absurd h (by omega)) (fun _=>?_);refine aB ?_;refine bU (t:=21) rfl (fun h=>absurd h (by omega)) (fun _=>?_);refine aB ?_;refine aU (v:=iv 0) (fun w1 st=>(aB5 s A1 A2 A3 A4 n1 k1 n2 k2 n3 k3 n4 k4 w1 (nY.W (st.le (by simp)) hm.small)).mono fun _ _ h=>aFd h (by rw[hm.Sj])) ?_;refine aB ?_;refine aU (v:=.tuple #[.int .i32 st,.agg #[.int .u8 k,iv id]]) (fun w1 st=>(aNk s A1 A2 A3 A4 n1 k1 n2 k2 n3 k3 n4 k4 Al nl cl l w1 (nY.W (st.le (by simp)) hm.small) (hl.le (st.le (by simp))) iK aIb hu).mono fun _ _ h=>aFd h (by rw[hrd];rfl)) ?_;refine aB ?_;refine bR fun g4=>?_;refine aB ?_;refine aJW ?_;refine aEV 35 rfl (fun h1=>?_) (fun h1=>?_)
 ·refine rE 3 ?_;refine Ir 13 ?_;refine rE 14 ?_;refine Ir 16 ?_;refine rE 17 ?_;refine fJ ?_;refine aB ?_
  (refine pS ?_;rw[jG,hrd];dsimp only;rw[if_pos (.inl h1)];rfl)
 refine rE 3 ?_;refine aEV 40 rfl (fun h2=>?_) (fun h2=>?_)
 ·refine rE 8 ?_;refine Ir 13 ?_;refine rE 14 ?_;refine Ir 16 ?_;refine rE 17 ?_;refine fJ ?_;refine aB ?_
  (refine pS ?_;rw[jG,hrd];dsimp only;rw[if_pos (.inr (.inl h2))];rfl)
 refine rE 8 ?_;refine aM 13 ?_;refine aB ?_;refine aU (fun w1 st=>aC3 g2 ag (if ag=0 then x else y) k id w1 hag (uX.box Na (st.le (by simp)) (st.box (i:=2) rfl) ag hag)) ?_;refine bL ?_;refine rE 14 ?_;refine aM 16 ?_;refine aB ?_;refine aU (fun w1 st=>aDh k w1) ?_;refine bL ?_;refine rE 17 ?_;refine fJ ?_;refine aB ?_;refine pU rfl (fun h3=>?_) (fun h3=>?_)
 ·refine aB ?_
  (refine pS ?_;rw[jG,hrd];dsimp only;rw[if_pos (.inr (.inr (by simpa using h3)))];rfl)
 have Mm:st=0:=by omega
 have h4:¬(st≠0∨k=0∨pI (if ag=0 then x else y) k id=decide (rP k)):=fun hh=>by
  rcases hh with hh | hh | hh
  ·exact hh Mm
  ·exact h2 hh
  ·rw[hh] at h3;simp at h3
 refine aB ?_;refine aU (fun w1 st=>aDh k w1) ?_;refine aB ?_;refine aG rfl (fun h6=>?_) (fun h6=>?_)
 ·refine aB ?_;refine aG rfl (fun h7=>?_) (fun h7=>?_)
  ·subst h7
   have hok:=aGN (s:=s) hu
   rw[hrd] at hok
   have hid:=hok.resolve_left (fun hh=>by have:=hh.1;simp at this)
   have aUm:0≤id:=hid.2.2.1
   have aUl:id < (s.domains.length:Int):=hid.2.2.2.1
   obtain⟨d,hd⟩:=get_some (l:=s.domains) (i:=id.toNat) (by omega);obtain⟨rfl,rfl,rfl,rfl⟩:=nY.len;obtain⟨bD,oD,rD,rfl,Vt,_,rfl,Mx⟩:=nY.dom.zN hd
   have hk:=eC.le Vt Mx hq
   have ha:=hk.at_ (j:=0) rfl
   have hab:(s.domains[id.toNat]?).any (fun d=>decide (d.above≠ -1)&& !sF x y 117 d.above)=(decide (d.above≠ -1)&& !sF x y 117 d.above):=by rw[hd];rfl
   refine aB ?_;refine bU (t:=69) rfl (fun h8=>?_) (fun h8=>?_)
   ·rw[decide_eq_true h8] at hab;refine aB ?_;refine aU (fun w1 st=>aC5 g2 x y 117 d.above w1 (uX.box Na (st.le (by simp)) (st.box (i:=2) rfl))) ?_;cases hw9:sF x y 117 d.above
    all_goals
     rw[hw9] at hab;refine aB ?_
    ·(refine pS ?_;rw[jG,hrd];dsimp only;rw[if_neg h4,if_pos h6,if_pos ⟨rfl,hab⟩];rfl)
    ·refine Zm [2] ?_;refine aB ?_
     (refine pS ?_;rw[jG,hrd];dsimp only;rw[if_neg h4,if_pos h6,if_neg (fun hh=>by have h':=hh.2;rw[hab] at h';cases h')];rfl)
   ·rw[decide_eq_false h8] at hab;refine aB ?_;refine Zm [2] ?_;refine aB ?_
    (refine pS ?_;rw[jG,hrd];dsimp only;rw[if_neg h4,if_pos h6,if_neg (fun hh=>by have h':=hh.2;rw[hab] at h';cases h')];rfl)
  ·refine aB ?_;refine Zm [2] ?_;refine aB ?_
   (refine pS ?_;rw[jG,hrd];dsimp only;rw[if_neg h4,if_pos h6,if_neg (fun hh=>h7 hh.1)];rfl)
 ·refine aB ?_;refine aU (fun w1 st=>aRH q qx s A1 A2 A3 A4 n1 k1 n2 k2 n3 k3 n4 k4 X1 X2 X3 Y1 Y2 Y3 Ce xN Cd xM Cc xL Cb xK Ca xJ Bz xI x y ag k id w1 nY hm (st.le (by simp)) Na (st.le (by simp)) hag) ?_;cases hde:Ia s x y ag k id
  ·refine aB ?_;refine aU (fun w1 st=>aS4 q s A1 A2 A3 A4 n1 k1 n2 k2 n3 k3 n4 k4 Aw nw cw wt k id w1 nY hm (st.le (by simp)) (hw.le (st.le (by simp))) hnw) ?_;cases hbu:Ih s wt k id
   ·refine aB ?_;refine Zm [2] ?_;refine aB ?_
    (refine pS ?_;rw[jG,hrd];dsimp only;rw[if_neg h4,if_neg h6,hde,if_neg (by simp),hbu,if_neg (by simp)];rfl)
   ·refine aB ?_
    (refine pS ?_;rw[jG,hrd];dsimp only;rw[if_neg h4,if_neg h6,hde,if_neg (by simp),hbu,if_pos rfl];rfl)
  ·refine aB ?_
   (refine pS ?_;rw[jG,hrd];dsimp only;rw[if_neg h4,if_neg h6,hde,if_pos rfl];rfl)
end
section
def kQ(l:List Bool)(id:Int)(b:Bool):List Bool:=if 0≤id∧id < (l.length:Int) then l.set id.toNat b else l
theorem aGn{l:List Bool}{id:Int}(b:Bool)(h:¬(0≤id∧id < (l.length:Int))):kQ l id b=l:=if_neg h
theorem Ch(l:List Bool)(id:Int)(b:Bool):(kQ l id b).length=l.length:=by unfold kQ;split<;>simp
def kO(x:bK)(k id:Int):bK:=
 if k=117∨k=100∨k=107 then⟨kQ x.d id (decide (rP k)),x.c,x.l⟩
 else if k=99∨k=111 then⟨x.d,kQ x.c id (decide (rP k)),x.l⟩
 else if k=114∨k=97 then⟨x.d,x.c,kQ x.l id (decide (rP k))⟩ else x
def jW(x:bK)(ag:Nat)(k id:Int):bK:=if ag=0 then kO x k id else x
def mN(y:bK)(ag:Nat)(k id:Int):bK:=if ag=0 then y else kO y k id
theorem aSB{l:List Bool}{id:Int}(b:Bool)(h:0≤id∧id < (l.length:Int)):(bE l).set id.toNat (.bool b)=bE (kQ l id b):=by
 rw[kQ,if_pos h];simp[bE,List.map_set]
section
variable{N:bZ}{w0 w:World}{e:Env}{R:List Piece}{H:List HP}{K:Act→World→Prop}
theorem St.aN8(st:St w0 R H w){i n c sz:Nat}{t:TypeId}{A:Option Addr}{xs:List Value}(hi:H[i]? =some (HP.own t sz (.slice A n c) n xs))(hn:0 < n):∃g,A=some ⟨g,0,none⟩:=by
 obtain⟨_,h2⟩:=st.own hi;rcases h2 with⟨h2,h3⟩ | ⟨g',cap,cur,hv,_⟩
 ·omega
 ·injection hv with h4 h5 h6
  exact⟨g',h4⟩
theorem aJQ(i:Nat){n c sz:Nat}{t:TypeId}{A:Option Addr}{xs:List Value}(hi:H[i]? =some (HP.own t sz (.slice A n c) n xs))(hn:0 < n)(h:(∃g,A=some ⟨g,0,none⟩)→XK N w0 K e R H):XK N w0 K e R H:=fun a w hr st=>h (st.aN8 hi hn) a w hr st
end
end
section
def Zw(P:Program)(c:Code)(Q:Exit→Act→World→Prop):Nat→Act→World→Prop
 | 0=>fun _ _=>False
 | n+1=>c.wp P (Exit.then (Zw P c Q n) Q)
section
variable{P:Program}{N:bZ}{w0:World}{e:Env}{R:List Piece}{H:List HP}{Q:Exit→Act→World→Prop}{c:Code}{n:Nat}
theorem aTi(n:Nat)(h:XK N w0 (Zw P c Q n) e R H):XK N w0 ((Code.loop c).wp P Q) e R H:=fun a w hr st=>by
 refine aCy (Zw P c Q) n (h a w hr st) fun n a w hI=>?_;cases n with
 | zero=>exact absurd hI (fun h=>h)
 | succ n=>
  refine wp_mono hI fun x a' w' hq=>?_;cases x with
  | normal=>exact⟨n,Nat.lt_succ_self n,hq⟩
  | _=>exact hq
theorem aCa{y:Code}{x:Code}(M:Env→List Piece→List HP→Prop)(h:XK N w0 (x.wp P (Exit.then (fun a' w'=>∃e' R' H',M e' R' H'∧eO N e' a'∧St w0 R' H' w') Q)) e R H)
  (hy:∀e' R' H',M e' R' H'→XK N w0 (y.wp P Q) e' R' H'):XK N w0 (x.wp P (Exit.then (y.wp P Q) Q)) e R H:=fun a w hr st=>
 wp_mono (h a w hr st) fun x a' w' hq=>by
  cases x with
  | normal=>
   obtain⟨e',R',H',hm,hr',st'⟩:=hq;exact hy e' R' H' hm a' w' hr' st'
  | _=>exact hq
theorem aEL(h:XK N w0 (c.wp P (Exit.then (Zw P c Q n) Q)) e R H):XK N w0 (Zw P c Q (n+1)) e R H:=h
end
theorem aRk(x y:bK)(ag:Nat)(k id:Int):(jW x ag k id).d.length=x.d.length∧(jW x ag k id).c.length=x.c.length∧(jW x ag k id).l.length=x.l.length∧(mN y ag k id).d.length=y.d.length∧(mN y ag k id).c.length=y.c.length∧(mN y ag k id).l.length=y.l.length:=by
 have h:∀z:bK,(kO z k id).d.length=z.d.length∧(kO z k id).c.length=z.c.length∧(kO z k id).l.length=z.l.length:=fun z=>by
  unfold kO;split
  ·exact⟨Ch _ _ _,rfl,rfl⟩
  ·split
   ·exact⟨rfl,Ch _ _ _,rfl⟩
   ·split
    ·exact⟨rfl,rfl,Ch _ _ _⟩
    ·exact⟨rfl,rfl,rfl⟩
 unfold jW mN;split
 ·exact⟨(h x).1,(h x).2.1,(h x).2.2,rfl,rfl,rfl⟩
 ·exact⟨rfl,rfl,rfl,(h y).1,(h y).2.1,(h y).2.2⟩
theorem aGm(k id:Int)(z:bK):((∀a b c,gJ k a b c=sn)∧kO z k id=z)∨((∀a b c,gJ k a b c=a)∧kO z k id=⟨kQ z.d id (decide (rP k)),z.c,z.l⟩)∨((∀a b c,gJ k a b c=b)∧kO z k id=⟨z.d,kQ z.c id (decide (rP k)),z.l⟩)∨((∀a b c,gJ k a b c=c)∧kO z k id=⟨z.d,z.c,kQ z.l id (decide (rP k))⟩):=by
 by_cases k0:k=117∨k=100∨k=107
 ·exact .inr (.inl ⟨fun a b c=>by rw[gJ,if_pos k0],by rw[kO,if_pos k0]⟩)
 by_cases k1:k=99∨k=111
 ·exact .inr (.inr (.inl ⟨fun a b c=>by rw[gJ,if_neg k0,if_pos k1],by rw[kO,if_neg k0,if_pos k1]⟩))
 by_cases k2:k=114∨k=97
 ·exact .inr (.inr (.inr ⟨fun a b c=>by rw[gJ,if_neg k0,if_neg k1,if_pos k2],by rw[kO,if_neg k0,if_neg k1,if_pos k2]⟩))
 exact .inl ⟨fun a b c=>by rw[gJ,if_neg k0,if_neg k1,if_neg k2],by rw[kO,if_neg k0,if_neg k1,if_neg k2]⟩
theorem aN7{l:List Bool}{id:Int}{n:Nat}{cs:List Value}{b:Bool}(h:cs.take n=bE l)(hi:0≤id∧id < (l.length:Int)):(cs.set id.toNat (.bool b)).take (n*1)=bE (kQ l id b):=by
 rw[Nat.mul_one,←aSB _ hi,←h,List.take_set]
theorem Sx{N:bZ}{w0:World}{e:Env}{R:List Piece}{H H':List HP}{K:Act→World→Prop}{t:TypeId}{A:Option Addr}{n c:Nat}{xs:List Value}(i:Nat)(he:e.get 10=some (.slice A n c))(hH:Ci (i::(List.range 9).filter (· !=i)) H=some (HP.own t 1 (.slice A n c) n xs::H'))(hn:(i::(List.range 9).filter (· !=i)).Nodup)(h:XK N w0 K e R (HP.own t 1 (.slice A n c) n xs::H')):XK N w0 K e R H:=aY _ hH hn (fun _ h=>h) h
theorem aRl(qx:Piece)(X1 X2 X3 Y1 Y2 Y3:Option Addr)(xN xM xL xK xJ xI:Nat)(x y:bK)(ag:Nat)(k id:Int)(w:World)(Gy:qx.Le (all w))(hag:ag < 2)(hbx:x.sm)(hby:y.sm)(s0:aI qx 1 X1 x.d.length (bE x.d))(s1:aI qx 1 X2 x.c.length (bE x.c))(s2:aI qx 1 X3 x.l.length (bE x.l))(s3:aI qx 1 Y1 y.d.length (bE y.d))(s4:aI qx 1 Y2 y.c.length (bE y.c))(s5:aI qx 1 Y3 y.l.length (bE y.l)):
  Cz 99 #[.agg #[.slice X1 x.d.length xN,.slice X2 x.c.length xM,.slice X3 x.l.length xL,.slice Y1 y.d.length xK,.slice Y2 y.c.length xJ,.slice Y3 y.l.length xI],iv (ag:Int),.agg #[.int .u8 k,iv id]] w (Tk (fun v w w'=>uX (fresh w w') (jW x ag k id) (mN y ag k id) v) w):=by
 obtain⟨h0,h1,h2⟩:=hbx;obtain⟨h3,h4,h5⟩:=hby;refine aL func99 ntmps99 ?_;refine Bi qx (by simp) Gy ?_;refine aA ?_;refine bA fun g1=>?_;refine bA fun g2=>?_;refine bR fun g3=>?_;refine aA ?_;refine bR fun g4=>?_;refine aA ?_;refine aTi 3 ?_;refine aEL ?_;refine aA ?_;refine aF7 0 (len:=2) (n:=3) (by kernel_rfl) rfl rfl rfl (by decide) rfl (by decide) ?_;refine bR fun g5=>?_;refine aA ?_;refine jL [1,2,4,5,7,8,11] ?_;refine bP 0 ?_;refine aJ 1 ?_;refine aJ 2 ?_;refine aJ 4 ?_;refine aJ 5 ?_;refine aJ 7 ?_;refine aJ 8 ?_;refine aJ 11 ?_;refine aM 3 ?_;refine iW (Ov x.d.length (bE x.d)) (fun w1 st=>Sg _ _ _ _ w1 (s0.le (st.le (by simp))) (Sm _) (by have:=h0;omega)) ?_;rintro _ _ q0 ⟨B0,c0,rfl,rfl⟩ _;dsimp only[List.cons_append,List.nil_append];refine bL ?_ (hS:=fun _ h=>h.aZ.tail);refine aM 6 ?_;refine iW (Ov x.c.length (bE x.c)) (fun w1 st=>Sg _ _ _ _ w1 (s1.le (st.le (by simp))) (Sm _) (by have:=h1;omega)) ?_;rintro _ _ q1 ⟨B1,c1,rfl,rfl⟩ _;dsimp only[List.cons_append,List.nil_append];refine bL ?_ (hS:=fun _ h=>h.aZ.aZ.tail.tail);refine aM 9 ?_;refine iW (Ov x.l.length (bE x.l)) (fun w1 st=>Sg _ _ _ _ w1 (s2.le (st.le (by simp))) (Sm _) (by have:=h2;omega)) ?_;rintro _ _ q2 ⟨B2,c2,rfl,rfl⟩ _;dsimp only[List.cons_append,List.nil_append];refine bL ?_ (hS:=fun _ h=>h.aZ.aZ.aZ.tail.tail.tail);refine aM 10 ?_;refine kd (fZ rfl) ?_;refine bL ?_ (hS:=fun _ h=>h.aZ.aZ.aZ.tail.tail.tail);refine aM 12 ?_;refine kd (gN (sz:=3) 0 0) ?_;refine cX ?_;refine aM 13 ?_;refine uB rfl rfl ?_;simp only[iH,Value.cells,List.set,List.take,List.drop,List.nil_append,List.append_nil,List.length_cons,List.length_nil,List.cons_append,Nat.reduceAdd];refine cX ?_;refine fJ ?_;refine aA ?_;refine aY [2,1,0,4,5,6,7] rfl (by decide) (R':=[qx,all w]) (by simp) ?_;refine aEL ?_;refine aA ?_;refine aF7 1 (len:=2) (n:=3) (by kernel_rfl) rfl rfl rfl (by decide) rfl (by decide) ?_;refine bR fun g6=>?_;refine aA ?_;refine jL [1,2,4,5,7,8,11] ?_;refine bP 0 ?_;refine aJ 1 ?_;refine aJ 2 ?_;refine aJ 4 ?_;refine aJ 5 ?_;refine aJ 7 ?_;refine aJ 8 ?_;refine aJ 11 ?_;refine aM 3 ?_;refine iW (Ov y.d.length (bE y.d)) (fun w1 st=>Sg _ _ _ _ w1 (s3.le (st.le (by simp))) (Sm _) (by have:=h3;omega)) ?_;rintro _ _ q3 ⟨B3,c3,rfl,rfl⟩ _;dsimp only[List.cons_append,List.nil_append];refine bL ?_ (hS:=fun _ h=>h.aZ.tail);refine aM 6 ?_;refine iW (Ov y.c.length (bE y.c)) (fun w1 st=>Sg _ _ _ _ w1 (s4.le (st.le (by simp))) (Sm _) (by have:=h4;omega)) ?_;rintro _ _ q4 ⟨B4,c4,rfl,rfl⟩ _;dsimp only[List.cons_append,List.nil_append];refine bL ?_ (hS:=fun _ h=>h.aZ.aZ.tail.tail);refine aM 9 ?_;refine iW (Ov y.l.length (bE y.l)) (fun w1 st=>Sg _ _ _ _ w1 (s5.le (st.le (by simp))) (Sm _) (by have:=h5;omega)) ?_;rintro _ _ q5 ⟨B5,c5,rfl,rfl⟩ _;dsimp only[List.cons_append,List.nil_append];refine bL ?_ (hS:=fun _ h=>h.aZ.aZ.aZ.tail.tail.tail);refine aM 10 ?_;refine kd (fZ rfl) ?_;refine bL ?_ (hS:=fun _ h=>h.aZ.aZ.aZ.tail.tail.tail);refine aM 12 ?_;refine kd (gN (sz:=3) 1 3) ?_;refine cX ?_;refine aM 13 ?_;refine uB rfl rfl ?_;simp only[iH,Value.cells,List.set,List.take,List.drop,List.nil_append,List.append_nil,List.length_cons,List.length_nil,List.cons_append,Nat.reduceAdd];refine cX ?_;refine fJ ?_;refine aA ?_;refine aY [4,5,6,2,1,0,9,7,8] rfl (by decide) (R':=[qx,all w]) (by simp) ?_;refine aEL ?_;refine aA ?_;refine bU (t:=33) rfl (fun h=>absurd h (by omega)) (fun _=>?_);refine aA ?_;refine aG rfl (fun h=>absurd h (by omega)) (fun _=>?_);refine aA ?_;obtain⟨X,hX⟩:∃z,z=jW x ag k id:=⟨_,rfl⟩
 obtain⟨Y,hY⟩:∃z,z=mN y ag k id:=⟨_,rfl⟩
 have hl:=aRk x y ag k id
 rw[←hX,←hY] at hl⊢;obtain rfl | rfl:ag=0∨ag=1:=by omega
 have hc:=aGm k id x
 refine jL [1,2,3,4] ?_;refine bP 0 ?_;refine aJ 1 ?_;refine aJ 2 ?_ (dI:=gN (sz:=3) 0 0);refine aJ 3 ?_;refine aJ 4 ?_;refine aM 5 ?_;refine aU (fun w1 t=>aDx g4 0 k (.slice B0 x.d.length c0) (.slice B1 x.c.length c1) (.slice B2 x.l.length c2) w1 (by simpa using(t.box (i:=7) rfl).at_ (j:=0) rfl) (by simpa using(t.box (i:=7) rfl).at_ (j:=1) rfl) (by simpa using(t.box (i:=7) rfl).at_ (j:=2) rfl)) ?_
 rotate_left
 have hc:=aGm k id y
 refine jL [1,2,3,4] ?_;refine bP 0 ?_;refine aJ 1 ?_;refine aJ 2 ?_ (dI:=gN (sz:=3) 1 3);refine aJ 3 ?_;refine aJ 4 ?_;refine aM 5 ?_;refine aU (fun w1 t=>aDx g4 3 k (.slice B3 y.d.length c3) (.slice B4 y.c.length c4) (.slice B5 y.l.length c5) w1 (by simpa using(t.box (i:=7) rfl).at_ (j:=3) rfl) (by simpa using(t.box (i:=7) rfl).at_ (j:=4) rfl) (by simpa using(t.box (i:=7) rfl).at_ (j:=5) rfl)) ?_
 all_goals
  refine cX ?_;refine aM 6 ?_;refine bH ?_;refine cX ?_;refine fJ ?_;refine dW ?_;refine aY [0,1,2,3,4,5,6,7,8] rfl (by decide) (fun _ h=>h) ?_;refine bJ [(10,_),(7,pt g4),(6,pt g3),(5,pt g2)] ?_;refine aCa (fun e R H=>e=[(7,pt g4),(6,pt g3)]∧R=[qx,all w]∧H=[HP.own 4 1 (.slice B0 x.d.length c0) x.d.length (bE X.d),HP.own 4 1 (.slice B1 x.c.length c1) x.c.length (bE X.c),HP.own 4 1 (.slice B2 x.l.length c2) x.l.length (bE X.l),HP.own 4 1 (.slice B3 y.d.length c3) y.d.length (bE Y.d),HP.own 4 1 (.slice B4 y.c.length c4) y.c.length (bE Y.c),HP.own 4 1 (.slice B5 y.l.length c5) y.l.length (bE Y.l),HP.aE g2 136 [.int .u8 k,iv id],HP.aE g4 130 [.slice B0 x.d.length c0,.slice B1 x.c.length c1,.slice B2 x.l.length c2,.slice B3 y.d.length c3,.slice B4 y.c.length c4,.slice B5 y.l.length c5],HP.aE g3 130 [sn,sn,sn,sn,sn,sn]]) ?_ ?_
  ·clear hl;simp only[jW,mN,if_true,if_false,Nat.one_ne_zero] at hX hY;subst hX hY;obtain⟨h,h2⟩ | hc:=hc
   ·rw[h,h2];refine aA ?_;refine bU (t:=47) rfl (fun hid=>?_) (fun hid=>?_)
    ·refine aA ?_;refine aG rfl (fun h=>absurd h (by omega)) (fun _=>?_);refine aA ?_;exact pG ⟨rfl,rfl,rfl⟩
    ·refine aA ?_;exact pG ⟨rfl,rfl,rfl⟩
   rcases hc with⟨h,h2⟩ | ⟨h,h2⟩ | ⟨h,h2⟩
   all_goals
    rw[h,h2];dsimp only
    first | refine Sx 0 rfl rfl (by decide) ?_ | refine Sx 1 rfl rfl (by decide) ?_ | refine Sx 2 rfl rfl (by decide) ?_ | refine Sx 3 rfl rfl (by decide) ?_ | refine Sx 4 rfl rfl (by decide) ?_ | refine Sx 5 rfl rfl (by decide) ?_
    refine aA ?_;refine bU (t:=47) rfl (fun hid=>?_) (fun hid=>?_)
    ·refine aA ?_;refine aG rfl (fun aDL=>?_) (fun aDL=>?_)
     ·have hin:=And.intro hid aDL
      refine aJQ 0 rfl (by omega) ?_;rintro⟨gb,rfl⟩;refine Sr 0 rfl fun cs iA hct hnc hcm=>?_;simp only[Nat.mul_one] at iA hct;dsimp only[List.set];refine jL [1,2,3,4] ?_;refine bP 0 ?_;refine aJ 1 ?_;refine aJ 2 ?_;refine aJ 3 ?_;refine aJ 4 ?_;refine aM 5 ?_;refine aU (fun w1 t=>aDh k w1) ?_;refine bL ?_;refine aM 6 ?_;refine kd (dat id.toNat id.toNat) ?_;refine cX ?_;refine aM 7 ?_;refine fG rfl rfl ?_;dsimp only[List.set];refine cX ?_;refine fJ ?_;refine aA ?_;refine Oc 0 (sz:=1) rfl (by simpa using iA) (aN7 hct hin) hnc hcm ?_;dsimp only[List.set];exact pG ⟨rfl,rfl,rfl⟩
     ·rw[aGn _ fun h=>aDL h.2];refine aA ?_;exact pG ⟨rfl,rfl,rfl⟩
    ·rw[aGn _ fun h=>hid h.1];refine aA ?_;exact pG ⟨rfl,rfl,rfl⟩
  ·rintro _ _ _ ⟨rfl,rfl,rfl⟩;refine aY [7,8,0,1,2,3,4,5] rfl (by decide) (fun _ h=>h) ?_;refine aA ?_;refine dP [] [2,3,4,5,6,7] [0,1] (by simp) rfl (by decide) (by decide) fun q hq _ hfr=>?_;refine Nz rfl (n:=6) (vs:=[.slice B0 x.d.length c0,.slice B1 x.c.length c1,.slice B2 x.l.length c2,.slice B3 y.d.length c3,.slice B4 y.c.length c4,.slice B5 y.l.length c5]) (by kernel_rfl) rfl rfl (aQ.whole 1 rfl) fun w1 st=>⟨⟨_,rfl,?_⟩,st.below (by simp)⟩
   have hle:=st.mF (by simp) (hfr (by simp) (by simp))
   obtain⟨l1,l2,l3,l4,l5,l6⟩:=hl
   have hs:∀{A n c xs},(∃F,(HP.own 4 1 (.slice A n c) n xs).sat F q.w∧∀b,F b→q.Z b)→aI (fresh w w1) 1 A n xs:=fun h=>(aI.own h).le hle
   refine⟨B0,c0,B1,c1,B2,c2,B3,c3,B4,c4,B5,c5,?_,?_,?_,?_,?_,?_,?_⟩
   ·rw[l1,l2,l3,l4,l5,l6]
   ·rw[l1];exact hs (hq 2 _ (by simp) rfl)
   ·rw[l2];exact hs (hq 3 _ (by simp) rfl)
   ·rw[l3];exact hs (hq 4 _ (by simp) rfl)
   ·rw[l4];exact hs (hq 5 _ (by simp) rfl)
   ·rw[l5];exact hs (hq 6 _ (by simp) rfl)
   ·rw[l6];exact hs (hq 7 _ (by simp) rfl)
end
section
def aDR(m p k:Int):Bool:=decide ((eA m 0 p k).2=0∧cM (eA m 0 p k).1 28 4=0∧cM (eA m 0 p k).1 0 8=m∧cM (eA m 0 p k).1 8 2=0∧cM (eA m 0 p k).1 10 8=p∧cM (eA m 0 p k).1 18 10=k)
theorem aP0:([4,7]:List Int).all (fun m=>([17,20,22]:List Int).all fun p=>(List.range 64).all fun k=>aDR m p k)=true:=by decide+kernel
theorem aP1{m p:Int}{k:Nat}(hm:m=4∨m=7)(hp:p=17∨p=20∨p=22)(hk:k < 64):(eA m 0 p k).2=0∧uD (eA m 0 p k).1=0∧Gf (eA m 0 p k).1=Hg m 0 p k:=by
 have h:=aP0
 rw[List.all_eq_true] at h
 have h1:=h m (by rcases hm with rfl | rfl<;>simp)
 rw[List.all_eq_true] at h1
 have h2:=h1 p (by rcases hp with rfl | rfl | rfl<;>simp)
 rw[List.all_eq_true] at h2
 have h3:=of_decide_eq_true (h2 k (List.mem_range.2 hk))
 obtain⟨e1,e2,e3,e4,e5,e6⟩:=h3;refine⟨e1,?_,?_⟩
 ·rw[uD,if_neg (fun h=>h e2)]
 ·rw[Gf,if_neg (fun h=>h e2),e3,e4,e5,e6]
end
section
theorem aNP(a b:Int):0≤aAG a b∧aAG a b < 4294967296:=Pg _
theorem aGT(w low many v:Int):0≤(iV w low many v).1∧(iV w low many v).1 < 4294967296:=by
 unfold iV;split
 ·exact⟨by decide,by decide⟩
 ·split
  ·exact⟨by decide,by decide⟩
  ·unfold zO;split
   ·exact⟨by decide,by decide⟩
   ·exact aNP _ _
theorem aN4(m t p k:Int):0≤(eA m t p k).1∧(eA m t p k).1 < 4294967296:=by
 unfold eA;split
 ·exact⟨by dsimp only;decide,by dsimp only;decide⟩
 ·split
  ·exact⟨by dsimp only;decide,by dsimp only;decide⟩
  ·split
   ·exact⟨by dsimp only;decide,by dsimp only;decide⟩
   ·split
    ·exact⟨by dsimp only;decide,by dsimp only;decide⟩
    ·exact aGT _ _ _ _
end
section
theorem aGl(x:bK)(k id:Int):(kO x k id).d.length=x.d.length∧(kO x k id).c.length=x.c.length∧(kO x k id).l.length=x.l.length:=by
 unfold kO;split
 ·exact⟨Ch _ _ _,rfl,rfl⟩
 ·split
  ·exact⟨rfl,Ch _ _ _,rfl⟩
  ·split
   ·exact⟨rfl,rfl,Ch _ _ _⟩
   ·exact⟨rfl,rfl,rfl⟩
theorem aGj{x:bK}(h:x.sm)(k id:Int):(kO x k id).sm:=by
 obtain⟨h1,h2,h3⟩:=aGl x k id;exact⟨by rw[h1];exact h.d,by rw[h2];exact h.c,by rw[h3];exact h.l⟩
theorem aRn{x:bK}(h:x.sm)(ag:Nat)(k id:Int):(jW x ag k id).sm:=by
 unfold jW;split
 ·exact aGj h k id
 ·exact h
theorem aRm{x:bK}(h:x.sm)(ag:Nat)(k id:Int):(mN x ag k id).sm:=by
 unfold mN;split
 ·exact h
 ·exact aGj h k id
end
section
theorem Xe(n:Nat)(i:Nat):hasB (List.replicate n false) i=false:=by
 unfold hasB;rw[List.getElem?_replicate];split<;>rfl
theorem aFK(s:aD)(k id:Int):pI (dQ s) k id=false:=by
 unfold pI zY dQ
 have h:∀n i,hasB (List.replicate n false) i=false:=Xe
 split
 ·rw[h];simp
 ·split
  ·rw[h];simp
  ·split
   ·rw[h];simp
   ·simp[hasB]
section
variable{s:aD}{r:Nat}{p m on off kn kf n:Int}
theorem aEx{x y:bK}{wt:List Int}{ag:Nat}{l:List Int}{k id:Int}(hr:dZ s l=(0,k,id))(hk:rP k)(Jy:k≠0)(hw:pI (if ag=0 then x else y) k id=false):
  jG s x y wt ag l=if k=117∧(s.domains[id.toNat]?).any (fun d=>decide (d.above≠ -1)&& !sF x y 117 d.above)=true then(-3,0,0) else(0,k,id):=by
 unfold jG;rw[hr];dsimp only;rw[hw,if_neg (by simp[Jy,hk]),if_pos hk]
theorem aEy{x y:bK}{wt:List Int}{ag:Nat}{l:List Int}{k id:Int}(hr:dZ s l=(0,k,id))(hk:¬rP k)(Jy:k≠0)(hw:pI (if ag=0 then x else y) k id=true):
  jG s x y wt ag l=if Ia s x y ag k id=true then(-3,0,0) else if Ih s wt k id=true then(-6,0,0) else(0,k,id):=by
 unfold jG;rw[hr];dsimp only;rw[hw,if_neg (by simp[Jy,hk]),if_neg hk]
theorem aBD(s:aD)(k id:Int):Ih s [] k id=false:=aE8 fun i hi=>by simp[Dh]
end
section
variable{s:aD}{r:Nat}{p m on off kn kf n:Int}{a b:Nat}
end
end
section
theorem aAp{s:aD}{act:List Bool}(i:Nat)(hi:i < s.domains.length):∀n,(iM s act n).d[i]?.getD false=true↔∃j,j < n∧hasB act j=true∧∃x,s.aC[j]? =some x∧i∈Ed s x.domain.toNat
 | 0=>by simp[iM,dQ,hi]
 | n + 1 => by
  have ih:=aAp (act:=act) i hi n
  have hl:=(Ec s act n).d
  cases ha:hasB act n with
  | false =>
   rw[Pc ha,ih];constructor
   ·rintro⟨j,h1,h2⟩;exact⟨j,by omega,h2⟩
   ·rintro⟨j,h1,h2,h3⟩;rcases Nat.lt_or_ge j n with h | h
    ·exact⟨j,h,h2,h3⟩
    ·have:j=n:=by omega
     subst this;rw[ha] at h2;cases h2
  | true =>
   cases hx:s.aC[n]? with
   | none =>
    have e:iM s act (n+1)=iM s act n:=by
     show(if hasB act n then _ else _)=_
     rw[if_pos ha,hx]
    rw[e,ih];constructor
    ·rintro⟨j,h1,h2⟩;exact⟨j,by omega,h2⟩
    ·rintro⟨j,h1,h2,x,h3,h4⟩;rcases Nat.lt_or_ge j n with h | h
     ·exact⟨j,h,h2,x,h3,h4⟩
     ·have:j=n:=by omega
      subst this;rw[hx] at h3;cases h3
   | some x =>
    rw[Ua hx ha]
    show(sI (Ed s x.domain.toNat) (iM s act n).d)[i]?.getD false=true↔_
    rw[aGV _ _ _ (by omega),Bool.or_eq_true,decide_eq_true_eq,ih];constructor
    ·rintro(h | ⟨j,h1,h2⟩)
     ·exact⟨n,by omega,ha,x,hx,h⟩
     ·exact⟨j,by omega,h2⟩
    ·rintro⟨j,h1,h2,y,h3,h4⟩;rcases Nat.lt_or_ge j n with h | h
     ·exact .inr ⟨j,h,h2,y,h3,h4⟩
     ·have:j=n:=by omega
      subst this;rw[hx] at h3;cases h3;exact .inl h4
theorem Pd{s:aD}{act:List Bool}(i:Nat)(hi:i < s.aF.length):∀n,(iM s act n).c[i]?.getD false=true↔∃j,j < n∧hasB act j=true∧∃x,s.aC[j]? =some x∧i∈(fU s x.clock.toNat).filter (mH s)
 | 0=>by simp[iM,dQ,hi]
 | n + 1 => by
  have ih:=Pd (act:=act) i hi n
  have hl:=(Ec s act n).c
  cases ha:hasB act n with
  | false =>
   rw[Pc ha,ih];constructor
   ·rintro⟨j,h1,h2⟩;exact⟨j,by omega,h2⟩
   ·rintro⟨j,h1,h2,h3⟩;rcases Nat.lt_or_ge j n with h | h
    ·exact⟨j,h,h2,h3⟩
    ·have:j=n:=by omega
     subst this;rw[ha] at h2;cases h2
  | true =>
   cases hx:s.aC[n]? with
   | none =>
    have e:iM s act (n+1)=iM s act n:=by
     show(if hasB act n then _ else _)=_
     rw[if_pos ha,hx]
    rw[e,ih];constructor
    ·rintro⟨j,h1,h2⟩;exact⟨j,by omega,h2⟩
    ·rintro⟨j,h1,h2,x,h3,h4⟩;rcases Nat.lt_or_ge j n with h | h
     ·exact⟨j,h,h2,x,h3,h4⟩
     ·have:j=n:=by omega
      subst this;rw[hx] at h3;cases h3
   | some x =>
    rw[Ua hx ha]
    show(sI ((fU s x.clock.toNat).filter (mH s)) (iM s act n).c)[i]?.getD false=true↔_
    rw[aGV _ _ _ (by omega),Bool.or_eq_true,decide_eq_true_eq,ih];constructor
    ·rintro(h | ⟨j,h1,h2⟩)
     ·exact⟨n,by omega,ha,x,hx,h⟩
     ·exact⟨j,by omega,h2⟩
    ·rintro⟨j,h1,h2,y,h3,h4⟩;rcases Nat.lt_or_ge j n with h | h
     ·exact .inr ⟨j,h,h2,y,h3,h4⟩
     ·have:j=n:=by omega
      subst this;rw[hx] at h3;cases h3;exact .inl h4
theorem aFM{s:aD}{act:List Bool}(i:Nat){j:Nat}{x:bO}(hi:i < s.aT.length)(hx:s.aC[j]? =some x)(ha:hasB act j=true)(hr:x.reset=(i:Int)):∀n,j < n→(iM s act n).l[i]?.getD false=true
 | n + 1, hj => by
  have hl:=(Ec s act n).l
  by_cases hjn:j=n
  ·subst hjn;rw[Ua hx ha]
   show(gY (iM s act j).l x.reset true)[i]?.getD false=true
   rw[hr,aGU,if_pos rfl,List.getElem?_eq_getElem (by omega)];rfl
  ·have ih:=aFM i hi hx ha hr n (by omega)
   cases vU:hasB act n with
   | false=>rw[Pc vU];exact ih
   | true =>
    cases hy:s.aC[n]? with
    | none =>
     have e:iM s act (n+1)=iM s act n:=by
      show(if hasB act n then _ else _)=_
      rw[if_pos vU,hy]
     rw[e];exact ih
    | some y =>
     rw[Ua hy vU]
     show(gY (iM s act n).l y.reset true)[i]?.getD false=true
     unfold gY;rw[List.getElem?_set];split
     ·split<;>simp
      omega
     ·exact ih
theorem aKY{s:aD}(hm:s.made){a:List Bool}{j:Nat}{x:bO}(hx:s.aC[j]? =some x)(ha:hasB a j=true):
  (eT s a).d[x.domain.toNat]?.getD false=true∧(eT s a).l[x.reset.toNat]?.getD false=true∧∀c,s.aF[x.clock.toNat]? =some c→(c.kind=112∨c.kind=103)→(eT s a).c[x.clock.toNat]?.getD false=true:=by
 have hj:=(List.getElem?_eq_some_iff.1 hx).1
 obtain⟨c0,c1,d0,d1,r0,r1,_⟩:=hm.aC j x hx
 have hu:Bq s (x.domain.toNat:Int) (Ed s x.domain.toNat):=aAq hm (by omega)
 refine⟨(aAp _ (by omega) _).2 ⟨j,hj,ha,x,hx,hu.head⟩,aFM _ (by omega) hx ha (by omega) _ hj,fun c hc hk=>(Pd _ (List.getElem?_eq_some_iff.1 hc).1 _).2 ⟨j,hj,ha,x,hx,List.mem_filter.2 ⟨?_,?_⟩⟩⟩
 ·unfold fU;obtain⟨n,hn⟩:∃n,s.aF.length=n+1:=⟨s.aF.length - 1,by have:=hm.nc;omega⟩
  rw[hn,aJr hc];simp
 ·unfold mH;rw[hc];exact decide_eq_true hk
theorem aKX(s:aD):eT s []=dQ s:=by
 have:∀n,iM s [] n=dQ s:=fun n=>by
  induction n with
  | zero=>rfl
  | succ n ih=>rw[Pc (by simp[hasB]),ih]
 exact this _
end
section
section
variable{s:aD}
theorem aE5(hm:s.made):∀(k c:Nat),∀i∈lF s k c,i≤c
 | 0,c,i,h=>by simp[lF] at h
 | k + 1, c, i, h => by
  unfold lF at h;cases hc:s.aF[c]? with
  | none=>rw[hc] at h;simp at h
  | some x =>
   rw[hc] at h;dsimp only at h;cases hs:x.src with
   | nil=>rw[hs] at h;simp at h;omega
   | cons f fs =>
    rw[hs] at h;rcases List.mem_cons.1 h with rfl | h
    ·exact Nat.le_refl _
    ·have:=aE5 hm k _ i h
     have hf:=((hm.aF c x hc).1) f (by rw[hs];simp)
     omega
theorem aJp(hm:s.made):∀(k k' c:Nat),c < k→c < k'→lF s k c=lF s k' c
 | 0,_,c,h,_=>by omega
 | _,0,c,_,h=>by omega
 | k + 1, k' + 1, c, h, h' => by
  unfold lF;cases hc:s.aF[c]? with
  | none=>rfl
  | some x =>
   dsimp only;cases hs:x.src with
   | nil=>rfl
   | cons f fs=>
    dsimp only
    have hf:=((hm.aF c x hc).1) f (by rw[hs];simp)
    rw[aJp hm k k' f.toNat (by omega) (by omega)]
theorem aJo(hm:s.made):∀(k c:Nat),c < k→∀i∈lF s k c,∀j∈lF s k i,j∈lF s k c
 | 0,c,h,_,_,_,_=>by omega
 | k + 1, c, hk, i, hi, j, hj => by
  have hi':=hi
  unfold lF at hi;cases hc:s.aF[c]? with
  | none=>rw[hc] at hi;simp at hi
  | some x =>
   rw[hc] at hi;dsimp only at hi;cases hs:x.src with
   | nil=>rw[hs] at hi;simp at hi;subst hi;exact hj
   | cons f fs =>
    rw[hs] at hi;rcases List.mem_cons.1 hi with rfl | hi
    ·exact hj
    ·have hf:=((hm.aF c x hc).1) f (by rw[hs];simp)
     have hle:=aE5 hm k _ i hi
     have hj2:j∈lF s k i:=by rw[aJp hm k (k+1) i (by omega) (by omega)];exact hj
     have:=aJo hm k f.toNat (by omega) i hi j hj2
     unfold lF;rw[hc];dsimp only;rw[hs];exact List.mem_cons_of_mem _ this
theorem aSy(hm:s.made){c i j:Nat}(hc:c < s.aF.length)(hi:i∈fU s c)(hj:j∈fU s i):j∈fU s c:=aJo hm _ c hc i hi j hj
theorem aBA(hm:s.made){c i:Nat}(hi:i∈fU s c):i≤c:=aE5 hm _ c i hi
end
theorem tL(l:List Bool)(i:Nat):hasB l i=l[i]?.getD false:=rfl
structure bK.cl(x:bK)(s:aD):Prop where
 of:x.of s
 up:∀(i:Nat) d,hasB x.d i=true→s.domains[i]? =some d→0≤d.above→hasB x.d d.above.toNat=true
 ch:∀i j:Nat,hasB x.c i=true→j∈fU s i→mH s j=true→hasB x.c j=true
 sw:∀i:Nat,hasB x.c i=true→mH s i=true
theorem Rk{l:List Bool}{i:Nat}(h:hasB l i=true):i < l.length:=by
 rw[tL] at h;rcases Nat.lt_or_ge i l.length with h1 | h1
 ·exact h1
 ·rw[List.getElem?_eq_none h1] at h;cases h
theorem aFL{s:aD}(hm:s.made)(act:List Bool)(n:Nat):(iM s act n).cl s:=by
 have jQ:=Ec s act n
 refine⟨jQ,fun i d hi hd h0=>?_,fun i j hi hj hs=>?_,fun i hi=>?_⟩
 ·have hlt:=Rk hi
  rw[jQ.d] at hlt;obtain⟨k,h1,h2,x,h3,h4⟩:=(aAp i hlt n).1 hi
  have hx:=hm.aC k x h3
  have iY:x.domain.toNat < s.domains.length:=by obtain⟨_,yB,_⟩:=hx;omega
  have mR:=(aAq hm iY).up i h4 d hd h0
  exact(aAp _ ((aAq hm iY).in_ _ mR) n).2 ⟨k,h1,h2,x,h3,mR⟩
 ·have hlt:=Rk hi
  rw[jQ.c] at hlt;obtain⟨k,h1,h2,x,h3,h4⟩:=(Pd i hlt n).1 hi
  have hx:=hm.aC k x h3
  have iA:x.clock.toNat < s.aF.length:=by obtain⟨hx1,_⟩:=hx;omega
  rw[List.mem_filter] at h4
  have Ra:=aSy hm iA h4.1 hj
  exact(Pd j (aE6 s _ _ j Ra) n).2 ⟨k,h1,h2,x,h3,List.mem_filter.2 ⟨Ra,hs⟩⟩
 ·have hlt:=Rk hi
  rw[jQ.c] at hlt;obtain⟨k,h1,h2,x,h3,h4⟩:=(Pd i hlt n).1 hi;exact(List.mem_filter.1 h4).2
theorem aAv{l:List Nat}(hp:l.Pairwise (· < ·)){t i:Nat}(hi:l[t]? =some i)(j:Nat):j∈l.take t↔j∈l∧j < i:=by
 induction l generalizing t with
 | nil=>simp at hi
 | cons a r ih =>
  rw[List.pairwise_cons] at hp;cases t with
  | zero=>
   simp at hi;subst hi;simp only[List.take_zero,List.not_mem_nil,false_iff,not_and,List.mem_cons];rintro(rfl | h) h2
   ·omega
   ·have:=hp.1 j h;omega
  | succ t =>
   simp at hi
   have hir:=hp.1 i (List.mem_of_getElem? hi)
   rw[List.take_succ_cons,List.mem_cons,List.mem_cons,ih hp.2 hi];constructor
   ·rintro(rfl | h)
    ·exact⟨.inl rfl,hir⟩
    ·exact⟨.inr h.1,h.2⟩
   ·rintro⟨rfl | h,h2⟩
    ·exact .inl rfl
    ·exact .inr ⟨h,h2⟩
theorem aFZ{l:List Nat}(hp:l.Pairwise (· > ·)){t i:Nat}(hi:l[t]? =some i)(j:Nat):j∈l.take t↔j∈l∧i < j:=by
 induction l generalizing t with
 | nil=>simp at hi
 | cons a r ih =>
  rw[List.pairwise_cons] at hp;cases t with
  | zero=>
   simp at hi;subst hi;simp only[List.take_zero,List.not_mem_nil,false_iff,not_and,List.mem_cons];rintro(rfl | h) h2
   ·omega
   ·have:=hp.1 j h;omega
  | succ t =>
   simp at hi
   have hir:=hp.1 i (List.mem_of_getElem? hi)
   rw[List.take_succ_cons,List.mem_cons,List.mem_cons,ih hp.2 hi];constructor
   ·rintro(rfl | h)
    ·exact⟨.inl rfl,hir⟩
    ·exact⟨.inr h.1,h.2⟩
   ·rintro⟨rfl | h,h2⟩
    ·exact .inl rfl
    ·exact .inr ⟨h,h2⟩
theorem aGO(n:Nat):(List.range n).Pairwise (· < ·):=List.pairwise_lt_range
theorem aAI(n:Nat)(a b:List Bool):(eV (List.range n) a b).Pairwise (· < ·):=(aGO n).filter _
theorem aHw(n:Nat)(a b:List Bool):(eV (List.range n).reverse a b).Pairwise (· > ·):=by
 unfold eV;refine List.Pairwise.filter _ ?_;rw[List.pairwise_reverse];exact aGO n
theorem has_fold(b:Bool)(ids:List Nat)(l:List Bool)(j:Nat)(hj:j < l.length):hasB (ids.foldl (fun d (i:Nat)=>gY d (i:Int) b) l) j=if j∈ids then b else hasB l j:=by
 unfold hasB;rw[Vf];split
 ·rw[List.getElem?_eq_getElem hj];rfl
 ·rfl
theorem Yu{α:Type}{A B:List α}{k:Nat}{p:α}(h:(A++B)[k]? =some p):(A[k]? =some p∧(A++B).take k=A.take k)∨∃t,B[t]? =some p∧(A++B).take k=A++B.take t:=by
 rcases Nat.lt_or_ge k A.length with hk | hk
 ·left;rw[List.getElem?_append_left hk] at h;exact⟨h,List.take_append_of_le_length (by omega)⟩
 ·right;rw[List.getElem?_append_right hk] at h;exact⟨k - A.length,h,by rw[List.take_append,List.take_of_length_le hk]⟩
theorem Pn{pr msg:Int}{val:Nat→Int}{ids:List Nat}{t:Nat}{p:cZ}(h:(jT pr msg val ids)[t]? =some p):∃i,ids[t]? =some i∧p=⟨pr,msg,i,val i⟩∧(jT pr msg val ids).take t=jT pr msg val (ids.take t):=by
 unfold jT at h⊢;rw[List.getElem?_map] at h;obtain⟨i,hi,rfl⟩:=Option.map_eq_some_iff.1 h;exact⟨i,hi,rfl,by rw[List.map_take]⟩
def uN(p:cZ):Int:=if p.pr=17 then(if p.v=1 then 117 else if p.v=0 then 100 else 107) else if p.pr=20 then(if p.v=1 then 99 else 111) else(if p.v=0 then 114 else 97)
structure Tq(s:aD)(x:bK)(p:cZ)(k:Nat):Prop where
 pack:(eA p.msg 0 p.pr k).2=0
 dec:jG s x (dQ s) [] 0 [(eA p.msg 0 p.pr k).1,p.id,p.v]=(0,uN p,p.id)
 kind:uN p≠0
 done:jW x 0 (uN p) p.id=gP x p
 id:0≤p.id∧p.id < 4294967296
 v:0≤p.v∧p.v < 4294967296
theorem Wu{m p:Int}{k:Nat}(hm:m=4∨m=7)(hp:p=17∨p=20∨p=22)(hk:k < 64):(eA m 0 p k).2=0∧uD (eA m 0 p k).1=0∧Fb (eA m 0 p k).1=0∧eE (eA m 0 p k).1=p∧eM (eA m 0 p k).1=m:=by
 obtain⟨h1,h2,h3⟩:=aP1 hm hp hk;rw[aFS] at h3;simp only[Hg,List.cons.injEq,Value.int.injEq,true_and,and_true] at h3;exact⟨h1,h2,h3.2.1,h3.2.2.1,h3.1⟩
theorem Pq{l:List Bool}{i:Nat}(hi:i < l.length)(b:Bool):kQ l (i:Int) b=gY l (i:Int) b:=by
 rw[kQ,if_pos ⟨by omega,by omega⟩];rfl
theorem Gc(x:bK)(k:Int)(i:Nat):pI x k (i:Int)=hasB (zY k x) i:=by
 unfold pI;simp
theorem aC4(s:aD)(x:bK)(k i:Int):sF x (dQ s) k i=pI x k i:=by
 rw[sF,aFK,Bool.or_false]
section
variable{s:aD}{x:bK}{k i:Nat}
theorem aQf(hm:s.made)(jQ:x.of s)(hk:k < 64)(hi:i < s.domains.length)(hno:hasB x.d i=false)(mR:∀d,s.domains[i]? =some d→0≤d.above→hasB x.d d.above.toNat=true):Tq s x ⟨17,4,i,1⟩ k:=by
 obtain⟨e0,e1,e2,e3,e4⟩:=Wu (m:=4) (p:=17) (.inl rfl) (.inl rfl) hk
 have hr:dZ s [(eA 4 0 17 k).1,(i:Int),1]=(0,117,(i:Int)):=by
  unfold dZ;dsimp only;rw[e1,e2,e3,e4,if_neg (by simp),show qI 17 4=some ⟨2,3,100,117,107⟩ from rfl,show eG 17 4=⟨2,3,100,117,107⟩ from rfl];simp[vY,tC,lI.act,zP,hi]
 have hd:s.domains[i]? =some s.domains[i]:=List.getElem?_eq_getElem hi
 have hfit:=(hm.domains i _ hd).1
 refine⟨e0,?_,(by show(117:Int)≠0;decide),?_,⟨by simp,by have:=hm.nd;simp;omega⟩,⟨by simp,by simp⟩⟩
 ·show jG s x (dQ s) [] 0 [(eA 4 0 17 k).1,(i:Int),1]=(0,117,(i:Int))
  rw[aEx hr (.inl rfl) (by decide) (by rw[if_pos rfl,Gc];exact hno),if_neg];rintro⟨_,h2⟩;rw[Int.toNat_natCast,hd] at h2;simp only[Option.any_some,Bool.and_eq_true,decide_eq_true_eq,Bool.not_eq_true'] at h2
  have h0:0≤(s.domains[i]).above:=by omega
  have h3:=mR _ hd h0
  rw[aC4,show(s.domains[i]).above=(((s.domains[i]).above.toNat:Nat):Int) by omega,Gc] at h2;rw[show zY 117 x=x.d from rfl,h3] at h2;cases h2.2
 ·show(if(0:Nat)=0 then kO x 117 i else x)=_
  rw[if_pos rfl];unfold kO gP;dsimp only;rw[if_pos (.inl rfl),if_pos ⟨rfl,rfl,by decide⟩,Pq (by rw[jQ.d];exact hi)];rfl
theorem aQd(hm:s.made)(jQ:x.of s)(hk:k < 64)(hi:i < s.aF.length)(lP:mH s i=true)(hno:hasB x.c i=false):Tq s x ⟨20,7,i,1⟩ k:=by
 obtain⟨e0,e1,e2,e3,e4⟩:=Wu (m:=7) (p:=20) (.inr rfl) (.inr (.inl rfl)) hk
 have aD8:qU s i:=by
  have hc:s.aF[i]? =some s.aF[i]:=List.getElem?_eq_getElem hi
  unfold mH at lP;unfold qU kindOf;rw[hc] at lP⊢;exact of_decide_eq_true lP
 have hr:dZ s [(eA 7 0 20 k).1,(i:Int),1]=(0,99,(i:Int)):=by
  unfold dZ;dsimp only;rw[e1,e2,e3,e4,if_neg (by simp),show qI 20 7=some ⟨2,2,111,99,0⟩ from rfl,show eG 20 7=⟨2,2,111,99,0⟩ from rfl];simp[vY,tC,lI.act,zP,hi,aD8]
 refine⟨e0,?_,(by show(99:Int)≠0;decide),?_,⟨by simp,by have:=hm.nc;simp;omega⟩,⟨by simp,by simp⟩⟩
 ·show jG s x (dQ s) [] 0 [(eA 7 0 20 k).1,(i:Int),1]=(0,99,(i:Int))
  rw[aEx hr (.inr (.inl rfl)) (by decide) (by rw[if_pos rfl,Gc];exact hno),if_neg];rintro⟨h2,_⟩;cases h2
 ·show(if(0:Nat)=0 then kO x 99 i else x)=_
  rw[if_pos rfl];unfold kO gP;dsimp only;rw[if_neg (by decide),if_pos (.inl rfl),if_neg (by decide),if_pos ⟨rfl,rfl,by decide⟩,Pq (by rw[jQ.c];exact hi)];rfl
theorem aQc(hm:s.made)(jQ:x.of s)(hk:k < 64)(hi:i < s.aT.length)(hno:hasB x.l i=false):Tq s x ⟨22,4,i,0⟩ k:=by
 obtain⟨e0,e1,e2,e3,e4⟩:=Wu (m:=4) (p:=22) (.inl rfl) (.inr (.inr rfl)) hk
 have hr:dZ s [(eA 4 0 22 k).1,(i:Int),0]=(0,114,(i:Int)):=by
  unfold dZ;dsimp only;rw[e1,e2,e3,e4,if_neg (by simp),show qI 22 4=some ⟨2,2,114,97,0⟩ from rfl,show eG 22 4=⟨2,2,114,97,0⟩ from rfl];simp[vY,tC,lI.act,zP,hi]
 refine⟨e0,?_,(by show(114:Int)≠0;decide),?_,⟨by simp,by have:=hm.nr;simp;omega⟩,⟨by simp,by simp⟩⟩
 ·show jG s x (dQ s) [] 0 [(eA 4 0 22 k).1,(i:Int),0]=(0,114,(i:Int))
  rw[aEx hr (.inr (.inr rfl)) (by decide) (by rw[if_pos rfl,Gc];exact hno),if_neg];rintro⟨h2,_⟩;cases h2
 ·show(if(0:Nat)=0 then kO x 114 i else x)=_
  rw[if_pos rfl];unfold kO gP;dsimp only;rw[if_neg (by decide),if_neg (by decide),if_pos (.inl rfl),if_neg (by decide),if_neg (by decide),if_pos ⟨rfl,rfl,by decide⟩,Pq (by rw[jQ.l];exact hi)];rfl
theorem aEw(a:bK)(kd id:Int)(h:Kg s a (dQ s) kd id=false):Ia s a (dQ s) 0 kd id=false:=by
 rw[Ia,if_pos rfl,aFK,h];rfl
theorem aQe(hm:s.made)(jQ:x.of s)(hk:k < 64)(hi:i < s.aF.length)(lP:mH s i=true)(hyes:hasB x.c i=true)(hno:∀j:Nat,j≠i→hasB x.c j=true→i∉fU s j):Tq s x ⟨20,7,i,0⟩ k:=by
 obtain⟨e0,e1,e2,e3,e4⟩:=Wu (m:=7) (p:=20) (.inr rfl) (.inr (.inl rfl)) hk
 have aD8:qU s i:=by
  have hc:s.aF[i]? =some s.aF[i]:=List.getElem?_eq_getElem hi
  unfold mH at lP;unfold qU kindOf;rw[hc] at lP⊢;exact of_decide_eq_true lP
 have hr:dZ s [(eA 7 0 20 k).1,(i:Int),0]=(0,111,(i:Int)):=by
  unfold dZ;dsimp only;rw[e1,e2,e3,e4,if_neg (by simp),show qI 20 7=some ⟨2,2,111,99,0⟩ from rfl,show eG 20 7=⟨2,2,111,99,0⟩ from rfl];simp[vY,tC,lI.act,zP,hi,aD8]
 refine⟨e0,?_,(by show(111:Int)≠0;decide),?_,⟨by simp,by have:=hm.nc;simp;omega⟩,⟨by simp,by simp⟩⟩
 ·show jG s x (dQ s) [] 0 [(eA 7 0 20 k).1,(i:Int),0]=(0,111,(i:Int))
  rw[aEy hr (by decide) (by decide) (by rw[if_pos rfl,Gc];exact hyes),aEw,aBD]
  ·rfl
  ·refine Xg fun j hj=>?_;cases ht:yK s x (dQ s) 111 i j with
   | false=>rfl
   | true=>
    exfalso;unfold yK at ht;rw[if_neg (by decide)] at ht;simp only[Bool.and_eq_true,decide_eq_true_eq,aC4,Gc] at ht
    have hc:=ht.2.2
    unfold yT at hc
    have hmem:=of_decide_eq_true hc
    rw[Int.toNat_natCast] at hmem;refine hno j (fun e=>ht.1 (by rw[e])) ht.2.1 ?_;simp only[dL,List.mem_map] at hmem;obtain⟨q,h1,h2⟩:=hmem
    have h3:(q:Int)=(i:Int):=h2
    have:q=i:=by omega
    rwa [←this]
 ·show(if(0:Nat)=0 then kO x 111 i else x)=_
  rw[if_pos rfl];unfold kO gP;dsimp only;rw[if_neg (by decide),if_pos (.inr rfl),if_neg (by decide),if_pos ⟨rfl,rfl,by decide⟩,Pq (by rw[jQ.c];exact hi)];rfl
theorem aQg(hm:s.made)(jQ:x.of s)(hk:k < 64)(hi:i < s.domains.length)(hyes:hasB x.d i=true)(hno:∀(j:Nat) d,s.domains[j]? =some d→d.above=(i:Int)→hasB x.d j=false):Tq s x ⟨17,4,i,mJ s i⟩ k:=by
 obtain⟨e0,e1,e2,e3,e4⟩:=Wu (m:=4) (p:=17) (.inl rfl) (.inl rfl) hk
 have hd:s.domains[i]? =some s.domains[i]:=List.getElem?_eq_getElem hi
 have aIh:∀kd:Int,(kd=100∨kd=107)→Kg s x (dQ s) kd i=false:=by
  intro kd Qy;refine Xg fun j hj=>?_;cases ht:yK s x (dQ s) kd i j with
  | false=>rfl
  | true =>
   exfalso;unfold yK at ht;rw[if_pos Qy,Bool.and_eq_true,aC4,Gc] at ht;cases hdj:s.domains[j]? with
   | none=>rw[hdj] at ht;simp at ht
   | some d=>
    rw[hdj] at ht
    have ha:d.above=(i:Int):=by simpa using ht.1
    have:=hno j d hdj ha
    have hl:zY kd x=x.d:=by rcases Qy with rfl | rfl<;>rfl
    rw[hl,this] at ht;cases ht.2
 cases Jr:(s.domains[i]).ret with
 | false =>
  have e:mJ s i=0:=by unfold mJ;rw[hd];simp[Jr]
  rw[e]
  have hr:dZ s [(eA 4 0 17 k).1,(i:Int),0]=(0,100,(i:Int)):=by
   unfold dZ;dsimp only;rw[e1,e2,e3,e4,if_neg (by simp),show qI 17 4=some ⟨2,3,100,117,107⟩ from rfl,show eG 17 4=⟨2,3,100,117,107⟩ from rfl];simp[vY,tC,lI.act,zP,hi]
  refine⟨e0,?_,(by show(100:Int)≠0;decide),?_,⟨by simp,by have:=hm.nd;simp;omega⟩,⟨by simp,by simp⟩⟩
  ·show jG s x (dQ s) [] 0 [(eA 4 0 17 k).1,(i:Int),0]=(0,100,(i:Int))
   rw[aEy hr (by decide) (by decide) (by rw[if_pos rfl,Gc];exact hyes),aEw _ _ _ (aIh 100 (.inl rfl)),aBD];rfl
  ·show(if(0:Nat)=0 then kO x 100 i else x)=_
   rw[if_pos rfl];unfold kO gP;dsimp only;rw[if_pos (.inr (.inl rfl)),if_pos ⟨rfl,rfl,by decide⟩,Pq (by rw[jQ.d];exact hi)];rfl
 | true =>
  have e:mJ s i=2:=by unfold mJ;rw[hd];simp[Jr]
  rw[e]
  have hr:dZ s [(eA 4 0 17 k).1,(i:Int),2]=(0,107,(i:Int)):=by
   have hro:Ly s i=true:=by unfold Ly;rw[hd];simp[Jr]
   unfold dZ;dsimp only;rw[e1,e2,e3,e4,if_neg (by simp),show qI 17 4=some ⟨2,3,100,117,107⟩ from rfl,show eG 17 4=⟨2,3,100,117,107⟩ from rfl];simp[vY,tC,lI.act,zP,hi,hro]
  refine⟨e0,?_,(by show(107:Int)≠0;decide),?_,⟨by simp,by have:=hm.nd;simp;omega⟩,⟨by simp,by simp⟩⟩
  ·show jG s x (dQ s) [] 0 [(eA 4 0 17 k).1,(i:Int),2]=(0,107,(i:Int))
   rw[aEy hr (by decide) (by decide) (by rw[if_pos rfl,Gc];exact hyes),aEw _ _ _ (aIh 107 (.inr rfl)),aBD];rfl
  ·show(if(0:Nat)=0 then kO x 107 i else x)=_
   rw[if_pos rfl];unfold kO gP;dsimp only;rw[if_pos (.inr (.inr rfl)),if_pos ⟨rfl,rfl,by decide⟩,Pq (by rw[jQ.d];exact hi)];rfl
end
theorem aQw{s:aD}{L:List cZ}{x:bK}(h:x.of s):(L.foldl gP x).of s:=by
 induction L generalizing x with
 | nil=>exact h
 | cons p L ih=>
  obtain⟨h1,h2,h3⟩:=aSF x p;exact ih ⟨by rw[h1];exact h.d,by rw[h2];exact h.c,by rw[h3];exact h.l⟩
section
variable{s:aD}{x y:bK}
theorem zL{a b:List Bool}{i:Nat}:sG a b i=true↔hasB b i=true∧hasB a i=false:=by
 unfold sG;rw[Bool.and_eq_true,Bool.not_eq_true']
theorem Ru(L:List Nat)(z:bK):(jT 17 4 (fun _=>1) L).foldl gP z=⟨L.foldl (fun d (i:Nat)=>gY d (i:Int) true) z.d,z.c,z.l⟩:=Xr (val:=fun _=>1) (b:=true) (fun _=>⟨by decide,rfl⟩) L z
theorem Xw(L:List Nat)(z:bK):(jT 20 7 (fun _=>1) L).foldl gP z=⟨z.d,L.foldl (fun d (i:Nat)=>gY d (i:Int) true) z.c,z.l⟩:=Xs (val:=fun _=>1) (b:=true) (fun _=>⟨by decide,rfl⟩) L z
theorem aBw(L:List Nat)(z:bK):(jT 22 4 (fun _=>0) L).foldl gP z=⟨z.d,z.c,L.foldl (fun d (i:Nat)=>gY d (i:Int) true) z.l⟩:=Xq (val:=fun _=>0) (b:=true) (fun _=>⟨by decide,rfl⟩) L z
theorem aEj(L:List Nat)(z:bK):(jT 22 4 (fun _=>1) L).foldl gP z=⟨z.d,z.c,L.foldl (fun d (i:Nat)=>gY d (i:Int) false) z.l⟩:=Xq (val:=fun _=>1) (b:=false) (fun _=>⟨by decide,rfl⟩) L z
theorem aIF(L:List Nat)(z:bK):(jT 20 7 (fun _=>0) L).foldl gP z=⟨z.d,L.foldl (fun d (i:Nat)=>gY d (i:Int) false) z.c,z.l⟩:=Xs (val:=fun _=>0) (b:=false) (fun _=>⟨by decide,rfl⟩) L z
theorem aQH(s:aD)(L:List Nat)(z:bK):(jT 17 4 (mJ s) L).foldl gP z=⟨L.foldl (fun d (i:Nat)=>gY d (i:Int) false) z.d,z.c,z.l⟩:=Xr (val:=mJ s) (b:=false) (fun k=>by have:=aCU s k;exact⟨by omega,decide_eq_false (by omega)⟩) L z
theorem aAD(b:Bool)(ids:List Nat)(l:List Bool):(ids.foldl (fun d (i:Nat)=>gY d (i:Int) b) l).length=l.length:=by
 induction ids generalizing l with
 | nil=>rfl
 | cons i ids ih=>rw[List.foldl_cons,ih,Ma]
end
section
variable{w0:World}{R:List Piece}{H:List HP}
end
end
section
structure aD.dG(s:aD):Prop where
 t:s.wQ
 domains:Fits Dom.fit s.domains
 aT:∀r∈s.aT,0≤r∧r≤3
theorem aD.made.dG{s:aD}(h:s.made):s.dG:=⟨h.wQ,h.domains,h.aT⟩
structure eP where
 on:Bool
 left:Int
def yS(c:eF):eP:=⟨false,if c.kind=112 then c.lock else 0⟩
def byF(c:eF):Int:=if c.kind=100 then c.div else 0
def rM(c:eF)(x:eP):Bool:=if c.kind=112 then x.on&&decide (x.left=0) else if c.kind=103 then x.on else true
def Pf(s:aD)(st:List eP)(i:Nat):Bool:=match s.aF[i]?,st[i]? with
 | some c,some x=>rM c x
 | _,_=>false
def runs(s:aD)(st:List eP)(i:Nat):Bool:=(fU s i).all (Pf s st)
theorem aE7{s:aD}(hf:Fits eF.fit s.aF):∀(c k:Nat),c < k→lF s k c=lF s (c+1) c:=by
 intro c
 induction c using Nat.strongRecOn with
 | _ c ih =>
  intro k hk;obtain⟨k,rfl⟩:=Nat.exists_eq_add_of_lt hk;rw[show c+k+1=(c+k)+1 from rfl];unfold lF;cases hc:s.aF[c]? with
  | none=>rfl
  | some x =>
   dsimp only;cases hs:x.src with
   | nil=>rfl
   | cons f fs=>
    have hfit:=(hf c x hc).1 f (by rw[hs];simp)
    have h1:f.toNat < c:=by omega
    dsimp only;rw[ih f.toNat h1 (c+k) (by omega),ih f.toNat h1 c h1]
theorem Yr{s:aD}(hf:Fits eF.fit s.aF){i:Nat}{c:eF}(hc:s.aF[i]? =some c):fU s i=i::(match c.src with
  | []=>[]
  | f::_=>fU s f.toNat):=by
 have hlt:i < s.aF.length:=(List.getElem?_eq_some_iff.1 hc).1
 unfold fU;rw[aE7 hf i _ hlt];rw[lF,hc];dsimp only;cases hs:c.src with
 | nil=>rfl
 | cons f fs=>
  have hfit:=(hf i c hc).1 f (by rw[hs];simp)
  dsimp only;rw[aE7 hf f.toNat i (by omega),aE7 hf f.toNat s.aF.length (by omega)]
theorem aGq{s:aD}(hf:Fits eF.fit s.aF){st:List eP}{i:Nat}{c:eF}{x:eP}(hc:s.aF[i]? =some c)(hx:st[i]? =some x):runs s st i=(rM c x&&(match c.src with
  | []=>true
  | f::_=>runs s st f.toNat)):=by
 unfold runs;rw[Yr hf hc,List.all_cons]
 have:Pf s st i=rM c x:=by unfold Pf;rw[hc,hx]
 rw[this];cases c.src<;>rfl
def bN(n:Nat)(i:Int):Bool:=decide (0≤i∧i < (n:Int))
def qB(s:aD)(st:List eP)(i:Int):Bool:=bN s.aF.length i&&runs s st i.toNat
def Gp(c:eF)(x:eP)(b:Bool):eP:=⟨b,if c.kind=112∧b=false then c.lock else x.left⟩
def kZ(s:aD)(st:List eP)(i:Int)(b:Bool):Int×List eP:=
 if bN s.aF.length i=false then(4,st) else match s.aF[i.toNat]?,st[i.toNat]? with
 | some c,some x=>if c.kind≠112∧c.kind≠103 then(1,st) else(0,st.set i.toNat (Gp c x b))
 | _,_=>(4,st)
def Pp(c:eF):Nat:=(c.src.headD 0).toNat
def vG(s:aD)(st:List eP)(c:eF)(x:eP):eP:=
 if c.kind=112∧x.on=true then(if runs s st (Pp c)=false then⟨true,c.lock⟩ else if 0 < x.left then⟨true,x.left - 1⟩ else x) else x
def lN(s:aD)(st:List eP):List eP:=List.zipWith (vG s st) s.aF st
structure qS(s:aD)(st:List eP):Prop where
 len:st.length=s.aF.length
 left:∀x∈st,0≤x.left∧x.left≤3
structure fD where
 phase:Int
 left:Int
 kept:Bool
 keep:Bool
def yR:fD:=⟨48,0,false,false⟩
def Kn(x:fD):Bool:=decide (x.phase=48∨x.phase=116)
def qD(st:List fD)(d:Int):Int:=if bN st.length d then(st[d.toNat]?.map (·.phase)).getD 0 else 0
def Nw(st:List fD)(a:Int):Bool:=decide (a= -1)||decide ((st[a.toNat]?.map (·.phase)).getD 0=49)
def uC(s:aD)(st:List fD)(d:Int):Int×List fD:=
 if bN st.length d=false then(4,st) else match s.domains[d.toNat]?,st[d.toNat]? with
 | some c,some x=>if Kn x=false∨Nw st c.above=false then(6,st) else(0,st.set d.toNat ⟨114,c.delay,decide (x.phase=116),x.keep⟩)
 | _,_=>(4,st)
def Hj(d:Int)(c:Dom)(x:fD):Bool:=decide (c.above=d)&& !Kn x
def Fa(s:aD)(st:List fD)(d:Int):Bool:=(List.zipWith (Hj d) s.domains st).any id
def vW(s:aD)(st:List fD)(d:Int)(keep:Bool):Int×List fD:=
 if bN st.length d=false then(4,st) else match s.domains[d.toNat]?,st[d.toNat]? with
 | some c,some x=>if x.phase≠49 then(6,st) else if keep=true∧c.ret=false then(1,st) else if Fa s st d then(7,st) else(0,st.set d.toNat ⟨99,x.left,x.kept,keep⟩)
 | _,_=>(4,st)
def fW(x:fD):Int×fD:=
 if x.phase=114 then(if 0 < x.left then(0,⟨114,x.left - 1,x.kept,x.keep⟩) else(if x.kept then 114 else 110,⟨104,x.left,x.kept,x.keep⟩))
 else if x.phase=104 then(111,⟨49,x.left,x.kept,x.keep⟩)
 else if x.phase=99 then(if x.keep then(115,⟨116,x.left,x.kept,x.keep⟩) else(108,⟨48,x.left,x.kept,x.keep⟩))
 else(0,x)
def lS(st:List fD)(n:Nat):List (Int×Nat):=(List.range n).filterMap fun i=>(st[i]?).bind fun x=>if(fW x).1=0 then none else some ((fW x).1,i)
def oF(st:List fD):List fD:=st.map fun x=>(fW x).2
structure vB(s:aD)(st:List fD):Prop where
 len:st.length=s.domains.length
 left:∀x∈st,0≤x.left∧x.left≤3
 phase:∀x∈st,0≤x.phase∧x.phase < 256
structure kH where
 left:Int
 held:Bool
 wanted:Bool
def sM:kH:=⟨0,true,false⟩
def Aj(st:List kH)(i:Int):Bool:= !bN st.length i||(st[i.toNat]?.map (·.held)).getD true
def tQ(s:aD)(st:List kH)(i:Int):Int×List kH:=
 if bN st.length i=false then(4,st) else(0,st.set i.toNat ⟨(s.aT[i.toNat]?).getD 0,true,false⟩)
def vI(st:List kH)(i:Int):Int×List kH:=
 if bN st.length i=false then(4,st) else match st[i.toNat]? with
 | some x=>if x.held=false then(6,st) else(0,st.set i.toNat ⟨x.left,x.held,true⟩)
 | none=>(4,st)
def lM(x:kH):kH:=if x.held=false then x else if 0 < x.left then⟨x.left - 1,x.held,x.wanted⟩ else if x.wanted then⟨x.left,false,false⟩ else x
def Ee(st:List kH):List kH:=st.map lM
structure Ga(s:aD)(st:List kH):Prop where
 len:st.length=s.aT.length
 left:∀x∈st,0≤x.left∧x.left≤3
structure cN where
 now:List Int
 saved:List Int
 kept:Bool
def Fk(d:bO):cN:=⟨d.aP.map (·.reset),d.aP.map fun _=>0,false⟩
def Fu(d:bO)(x:cN):cN:=⟨d.aP.map (·.reset),x.saved,false⟩
def Lw(r:Rg)(p:Int×Int):Int:=if r.kept then p.1 else p.2
def wM(d:bO)(x:cN):cN:=⟨x.now,List.zipWith Lw d.aP (x.now.zip x.saved),true⟩
def aA8(k:Bool)(r:Rg)(v:Int):Int:=if k&&r.kept then v else r.reset
def Jf(d:bO)(x:cN):cN:=⟨List.zipWith (aA8 x.kept) d.aP x.saved,x.saved,x.kept⟩
structure zA(d:bO)(x:cN):Prop where
 now:x.now.length=d.aP.length
 saved:x.saved.length=d.aP.length
 u:(∀v∈x.now,0≤v∧v < 4294967296)∧∀v∈x.saved,0≤v∧v < 4294967296
structure dK where
 at_:Int
 denied:Int
def Pu:dK:=⟨0,0⟩
def qF(a:Int):Int:=if a=0 then 114 else if a=1 then 97 else if a=2 then 115 else 100
def sB(x:dK):Int×dK:=if x.at_≠0 then(6,x) else(0,⟨1,x.denied⟩)
def nM(x:dK):Int×dK:=if x.at_≠2∧x.at_≠3 then(6,x) else(0,⟨0,x.denied⟩)
def uE(x:dK)(Nu cY:Bool):dK:=if x.at_≠1 then x else if cY then⟨3,IntKind.i64.wrap (x.denied+1)⟩ else if Nu then x else⟨2,0⟩
def Bt(x:dK):Prop:=0≤x.at_∧x.at_≤3
end
section
def Tr(n:Nat)(xs:List Value)(v:Value)(hs:List HP)(_:Piece):Prop:=∃A c,v=.slice A n c∧hs=[HP.own 48 2 (.slice A n c) n xs]
theorem Yo(A:Option Addr)(n c:Nat)(xs:List Value)(w:World)(hs:aI (all w) 2 A n xs)(h1:∀u∈xs,u.oneCell'=true)(hn:n≤1000000):
  Cz 146 #[.slice A n c] w (fun y w'=>(∃v hs q,y=.returned v∧q.w=w'∧Tr n xs v hs q∧kA w hs q)∧Below w.heap.size w w'):=by
 refine aL func146 ntmps146 ?_;refine aA ?_;refine aAk (el:=48) (by kernel_rfl) rfl (by decide) ?_;refine dO ?_;refine pU rfl (fun hA=>?_) (fun hA=>?_)
 ·refine aA ?_
  have hn0:n=0:=by
   rcases Nat.eq_zero_or_pos n with h | h
   ·exact h
   ·obtain⟨b,off,rfl,_⟩:=hs.2 h;cases hA
  subst hn0
  have hx:xs=[]:=List.eq_nil_of_length_eq_zero (by simpa using hs.1)
  subst hx;refine iO 48 2 ?_;refine dP [] [] [0] (by simp) rfl (by decide) (by decide) fun q _ _ hfr=>?_;exact aS (h:=fun w1 st=>⟨_,_,⟨w1,q.Z⟩,rfl,rfl,⟨_,_,rfl,rfl⟩,st.newR (by simp) (by simp) (hfr (by simp) (by simp))⟩)
 ·refine aA ?_;refine Dw (el:=48) (sz:=2) (by kernel_rfl) (by kernel_rfl) (by decide) fun g=>?_;refine Bn 0 2 0 rfl rfl (by omega) ?_;dsimp only[List.set];refine aA ?_;refine gH 0 2 8 n (n':=n) (el:=48) (by kernel_rfl) (by kernel_rfl) (by decide) rfl rfl rfl (qV (by simp) hs) h1 (by omega) (by omega) (by omega) (by decide) fun A' k'=>?_;dsimp only[List.set,List.nil_append];refine aA ?_;refine dP [] [] [0] (by simp) rfl (by decide) (by decide) fun q _ _ hfr=>?_;exact aS (h:=fun w1 st=>⟨_,_,⟨w1,q.Z⟩,rfl,rfl,⟨_,_,rfl,rfl⟩,st.newR (by simp) (by simp) (hfr (by simp) (by simp))⟩)
def aFs(n:Nat)(xs:List Value)(v:Value)(hs:List HP)(_:Piece):Prop:=∃A c,v=.slice A n c∧hs=[HP.own 23 1 (.slice A n c) n xs]
theorem aJi(A:Option Addr)(n c:Nat)(xs:List Value)(w:World)(hs:aI (all w) 1 A n xs)(h1:∀u∈xs,u.oneCell'=true)(hn:n≤1000000):
  Cz 164 #[.slice A n c] w (fun y w'=>(∃v hs q,y=.returned v∧q.w=w'∧aFs n xs v hs q∧kA w hs q)∧Below w.heap.size w w'):=by
 refine aL func164 ntmps164 ?_;refine aA ?_;refine aAk (el:=23) (by kernel_rfl) rfl (by decide) ?_;refine dO ?_;refine pU rfl (fun hA=>?_) (fun hA=>?_)
 ·refine aA ?_
  have hn0:n=0:=by
   rcases Nat.eq_zero_or_pos n with h | h
   ·exact h
   ·obtain⟨b,off,rfl,_⟩:=hs.2 h;cases hA
  subst hn0
  have hx:xs=[]:=List.eq_nil_of_length_eq_zero (by simpa using hs.1)
  subst hx;refine iO 23 1 ?_;refine dP [] [] [0] (by simp) rfl (by decide) (by decide) fun q _ _ hfr=>?_;exact aS (h:=fun w1 st=>⟨_,_,⟨w1,q.Z⟩,rfl,rfl,⟨_,_,rfl,rfl⟩,st.newR (by simp) (by simp) (hfr (by simp) (by simp))⟩)
 ·refine aA ?_;refine Dw (el:=23) (sz:=1) (by kernel_rfl) (by kernel_rfl) (by decide) fun g=>?_;refine Bn 0 1 0 rfl rfl (by omega) ?_;dsimp only[List.set];refine aA ?_;refine gH 0 1 4 n (n':=n) (el:=23) (by kernel_rfl) (by kernel_rfl) (by decide) rfl rfl rfl (qV (by simp) hs) h1 (by omega) (by omega) (by omega) (by decide) fun A' k'=>?_;dsimp only[List.set,List.nil_append];refine aA ?_;refine dP [] [] [0] (by simp) rfl (by decide) (by decide) fun q _ _ hfr=>?_;exact aS (h:=fun w1 st=>⟨_,_,⟨w1,q.Z⟩,rfl,rfl,⟨_,_,rfl,rfl⟩,st.newR (by simp) (by simp) (hfr (by simp) (by simp))⟩)
end
section
def nI(l:List Int):List Value:=l.map (Value.int .u32)
theorem aAs(l:List Int):(nI l).length=l.length:=by simp[nI]
theorem aCB{l:List Int}{i:Nat}{v:Int}(h:l[i]? =some v):(nI l)[i]? =some (.int .u32 v):=by simp[nI,h]
theorem aCA(l:List Int)(i:Nat)(v:Int):(nI l).set i (.int .u32 v)=nI (l.set i v):=by simp[nI,List.map_set]
structure FL where
 f:Nat
 gn:Nat
 gs:Nat
 A:Option Addr
 c:Nat
def tV(d:bO)(A:Option Addr)(p:Piece):Prop:=aI p 2 A d.aP.length (d.aP.flatMap Rg.cells)
theorem tV.le{d:bO}{A:Option Addr}(p q:Piece)(hl:p.Le q)(h:tV d A p):tV d A q:=aI.le h hl
def Kk(L:FL)(d:bO)(k:Bool):List Value:=[.slice L.A d.aP.length L.c,.slice (some ⟨L.gn,0,none⟩) d.aP.length d.aP.length,.slice (some ⟨L.gs,0,none⟩) d.aP.length d.aP.length,.bool k]
def iF(L:FL)(d:bO)(x:cN):HP:=HP.many [HP.aE L.f 298 (Kk L d x.kept),HP.aE L.gn 23 (nI x.now),HP.aE L.gs 23 (nI x.saved),HP.bT (tV d L.A) (tV.le (d:=d) (A:=L.A))]
structure Dt(w:World)(L:FL)(d:bO)(x:cN):Prop where
 r0:eC w L.f 0 (Kk L d x.kept)
 now:eC w L.gn 0 (nI x.now)
 saved:eC w L.gs 0 (nI x.saved)
 made:aI (all w) 2 L.A d.aP.length (d.aP.flatMap Rg.cells)
theorem Dt.below{w w':World}{L:FL}{d:bO}{x:cN}(h:Dt w L d x)(hb:Below w.heap.size w w'):Dt w' L d x:=⟨h.r0.below hb,h.now.below hb,h.saved.below hb,h.made.le (jR hb)⟩
theorem uT{w:World}{g:Nat}{t:TypeId}{cs:List Value}(h:vC w g t cs.toArray):eC w g 0 cs:=⟨h.lt,fun j v hv=>by rw[h.cell,Nat.zero_add];simpa using hv⟩
theorem aAa{L:FL}{d:bO}{x:cN}{F:Nat→Prop}{w:World}(h:(iF L d x).sat F w)(hF:∀b,F b→b < w.heap.size):Dt w L d x:=by
 obtain⟨G,g1,g2,_⟩:=h;exact⟨uT (g1 0 _ rfl).2,uT (g1 1 _ rfl).2,uT (g1 2 _ rfl).2,aI.le (g1 3 _ rfl) (fun b hb=>⟨hF b (g2 3 b hb),rfl⟩)⟩
section
variable{N:bZ}{w0 w:World}{e:Env}{R:List Piece}{H:List HP}{K:Act→World→Prop}{L:FL}{d:bO}{x:cN}
theorem St.aEm(t:St w0 R H w)(i:Nat)(hi:H[i]? =some (iF L d x)):Dt w L d x:=by
 obtain⟨F,h1,h2,_⟩:=t.chunk hi;exact aAa h1 h2
theorem Zi(i:Nat)(hi:H[i]? =some (iF L d x))(h:XK N w0 K e R (HP.aE L.gs 23 (nI x.saved)::HP.aE L.gn 23 (nI x.now)::HP.aE L.f 298 (Kk L d x.kept)::H.set i (HP.many [cG,cG,cG,HP.bT (tV d L.A) (tV.le (d:=d) (A:=L.A))]))):XK N w0 K e R H:=by
 have hlt:=Ai hi
 refine sU i 0 hi rfl ?_;refine sU (i+1) 1 (by rw[List.getElem?_cons_succ,List.getElem?_set_self hlt]) rfl ?_;refine sU (i+2) 2 (by simp[hlt];rfl) rfl ?_
 simpa[List.set_cons_succ,List.set_set] using h
theorem Zo(i:Nat)(hi:H[i]? =some (HP.many [cG,cG,cG,HP.bT (tV d L.A) (tV.le (d:=d) (A:=L.A))]))(h:XK N w0 K e R (H.set i (iF L d x))):XK N w0 K e R (HP.aE L.gs 23 (nI x.saved)::HP.aE L.gn 23 (nI x.now)::HP.aE L.f 298 (Kk L d x.kept)::H):=by
 have hlt:=Ai hi
 refine sV (i+2) 2 (by simpa using hi) rfl ?_;dsimp only[List.set];refine sV (i+1) 1 (by simp[hlt];rfl) rfl ?_;dsimp only[List.set];refine sV i 0 (by simp[hlt];rfl) rfl ?_
 simpa[List.set_set,iF] using h
end
theorem Uw(L:FL)(d:bO)(x:cN)(w:World)(hR:Dt w L d x):
  Cz 72 #[.pointer (some ⟨L.f,0,none⟩)] w (Rt (iv d.aP.length) w):=by
 have h0:=hR.r0.at_ (j:=0) rfl
 refine aL func72 ntmps72 ?_;refine aA ?_;exact dF
theorem aGI(p:Piece)(S:Nat→HP)(L:FL)(d:bO)(hrl:d.aP.length≤100)(f:FuncId)(hf:fH Tryz.prog f=true)(ca:List Value)
  (hread:∀i,i≤d.aP.length→∀w F,(S i).sat F w→(∀b,F b→b < w.heap.size)→∃x,Dt w L d x)
  (hstep:∀i r,d.aP[i]? =some r→∀w F,(S i).sat F w→(∀b,F b→b < w.heap.size)→p.Le ⟨w,fun b=>b < w.heap.size∧¬F b⟩→
   Cz f (([iv (i:Int),.agg r.cells.toArray]:List Value)++ca).toArray w (Wr (.tuple #[]) (S (i+1)) w F))
  (w:World) (F:Nat→Prop) (hp:(S 0).sat F w) (hF:∀b,F b→b < w.heap.size) (Gz:p.Le ⟨w,fun b=>b < w.heap.size∧¬F b⟩):
  Cz 188 #[.pointer (some ⟨L.f,0,none⟩),.func (.func f) #[] ca.toArray] w (Wr (.tuple #[]) (S d.aP.length) w F):=by
 have hfr:∀{i:Nat} {R:List Piece} {H:List HP} {w1:World},i≤d.aP.length→St w R (S i::H) w1→∃x,Dt w1 L d x:=fun hi t=>by
  obtain⟨G,g1,g2,_⟩:=t.chunk (i:=0) rfl;exact hread _ hi _ G g1 g2
 refine dJ func188 ntmps188 hp hF ?_;refine aA ?_
 refine aU (v:=iv d.aP.length) (fun w1 t=>by
  obtain⟨x,hx⟩:=hfr (Nat.zero_le _) t
  exact Uw L d x w1 hx) ?_
 refine aA ?_;refine bJ [(7,iv 0),(6,iv d.aP.length),(1,.func (.func f) #[] ca.toArray),(0,.pointer (some ⟨L.f,0,none⟩))] ?_;refine eI (fun m e R H=>∃i:Nat,i≤d.aP.length∧m=d.aP.length - i∧e=[(7,iv i),(6,iv d.aP.length),(1,.func (.func f) #[] ca.toArray),(0,.pointer (some ⟨L.f,0,none⟩))]∧R=[⟨w,fun b=>b < w.heap.size∧¬F b⟩]∧H=[S i]) d.aP.length ⟨0,by omega,rfl,rfl,rfl,rfl⟩ fun m e R H hI=>?_;obtain⟨i,hi,rfl,rfl,rfl,rfl⟩:=hI;refine aA ?_;refine aG rfl (fun hlt=>?_) (fun hge=>?_)
 ·have hlt:i < d.aP.length:=by omega
  obtain⟨r,hr⟩:=get_some hlt
  have hb0:∃b off,L.A=some ⟨b,off,none⟩:=by
   obtain⟨x,hx⟩:=hread 0 (Nat.zero_le _) w F hp hF;obtain⟨b,off,h,_⟩:=hx.made.2 (by omega);exact⟨b,off,h⟩
  obtain⟨b,off,hA⟩:=hb0
  have aDG:Rd w [⟨w,fun b=>b < w.heap.size∧¬F b⟩] [S i] L.f 0 (.slice (some ⟨b,off,none⟩) d.aP.length L.c):=fun w1 t=>by
   obtain⟨x,hx⟩:=hfr hi t;rw[←hA];exact(hx.r0.at_ (j:=0) rfl).2
  have aUe:aQ w [⟨w,fun b=>b < w.heap.size∧¬F b⟩] [S i] b (off+i*2) r.cells:=fun w1 t=>by
   obtain⟨x,hx⟩:=hfr hi t;obtain⟨b',off',rX,hro⟩:=aI.row (rows:=d.aP.map Rg.cells) (by rw[←List.flatMap_def];exact hx.made) (fun r hr=>by obtain⟨q,_,rfl⟩:=List.mem_map.1 hr;rfl) (by rw[List.getElem?_map,hr];rfl) hlt;rw[hA] at rX;cases rX;exact hro.2
  refine aA ?_;refine kd (dat i (off+i*2)) ?_;refine aA ?_
  refine aFC 0 (fi:=[]) (ca:=ca) (vs:=[iv (i:Int),.agg r.cells.toArray]) (p:=S i) (S (i+1)) hf rfl rfl rfl ⟨(by decide),rfl⟩ (fun w1 G t hG yF hle=>by
   have hpl:=Piece.Le.trans Gz (hle _ (by simp))
   simpa using hstep i r hr w1 G hG yF hpl) ?_
  dsimp only[List.set];refine aA ?_;exact dY (d.aP.length - (i+1)) ⟨i+1,hlt,rfl,rfl,rfl,rfl⟩
 ·obtain rfl:i=d.aP.length:=by omega
  refine aA ?_;exact jZ 0 hF
end
section
def lA(vs old:List Int)(i:Nat):List Int:=vs.take i++old.drop i
theorem Vl(vs old:List Int):lA vs old 0=old:=by simp[lA]
theorem Vo{vs old:List Int}{n:Nat}(h1:vs.length=n)(h2:old.length=n):lA vs old n=vs:=by
 rw[lA,List.drop_eq_nil_of_le (by omega),List.append_nil,List.take_of_length_le (by omega)]
theorem Vn{vs old:List Int}{i n:Nat}(h1:vs.length=n)(h2:old.length=n)(hi:i≤n):(lA vs old i).length=n:=by simp[lA];omega
theorem Vm{vs old:List Int}{i:Nat}{v:Int}(h1:vs.length=old.length)(hv:vs[i]? =some v):(lA vs old i).set i v=lA vs old (i+1):=by
 have hi:=(List.getElem?_eq_some_iff.1 hv).1
 refine List.ext_getElem? fun j=>?_;rw[List.getElem?_set];unfold lA
 by_cases he:i=j
 ·subst he;rw[if_pos rfl,if_pos (by simp;omega),List.getElem?_append_left (by simp;omega),List.getElem?_take_of_lt (by omega),hv]
 ·rw[if_neg he];rcases Nat.lt_or_ge j i with hj | hj
  ·rw[List.getElem?_append_left (by simp;omega),List.getElem?_append_left (by simp;omega),List.getElem?_take_of_lt hj,List.getElem?_take_of_lt (by omega)]
  ·rw[List.getElem?_append_right (by simp;omega),List.getElem?_append_right (by simp;omega),List.getElem?_drop,List.getElem?_drop]
   congr 1
   simp;omega
theorem aOr{vs old:List Int}{i:Nat}{v:Int}(h1:vs.length=old.length)(hi:i < old.length)(hv:old[i]? =some v):(lA vs old i)[i]? =some v:=by
 rw[lA,List.getElem?_append_right (by simp;omega),List.getElem?_drop];simp only[List.length_take];rw[show i+(i - min i vs.length)=i by omega];exact hv
theorem aML(p:Piece)(L:FL)(d:bO)(x:cN)(f:FuncId)(hf:fH Tryz.prog f=true)(ca:List Value)(g2 g3 i:Nat)(r:Rg)(v:Int)(hr:d.aP[i]? =some r)(Ew:x.now.length=d.aP.length)
  (h2:p.Z g2∧p.w.cell? ⟨g2,0,none⟩=some (.pointer (some ⟨L.f,0,none⟩))) (h3:p.Z g3∧p.w.cell? ⟨g3,0,none⟩=some (.func (.func f) #[] ca.toArray))
  (hw:∀w F,(iF L d x).sat F w→(∀b,F b→b < w.heap.size)→p.Le (all w)→Cz f (([iv (i:Int),.agg r.cells.toArray]:List Value)++ca).toArray w (Rt (.int .u32 v) w))
  (w:World) (F:Nat→Prop) (hp:(iF L d x).sat F w) (hF:∀b,F b→b < w.heap.size) (Gz:p.Le ⟨w,fun b=>b < w.heap.size∧¬F b⟩):
  Cz 233 #[iv (i:Int),.agg r.cells.toArray,pt g3,pt g2] w (Wr (.tuple #[]) (iF L d ⟨x.now.set i v,x.saved,x.kept⟩) w F):=by
 have hlt:=(List.getElem?_eq_some_iff.1 hr).1
 obtain⟨c2,e2⟩:=Gz g2 h2.1;obtain⟨c3,e3⟩:=Gz g3 h3.1
 have k2:w.cell? ⟨g2,0,none⟩=some (.pointer (some ⟨L.f,0,none⟩)):=(World.cell?_of_block (w:=p.w) e2).trans h2.2
 have k3:w.cell? ⟨g3,0,none⟩=some (.func (.func f) #[] ca.toArray):=(World.cell?_of_block (w:=p.w) e3).trans h3.2
 refine dJ func233 ntmps233 hp hF ?_;refine aA ?_;refine bA fun g1=>?_;refine aA ?_
 have r2:Rd w [⟨w,fun b=>b < w.heap.size∧¬F b⟩] [HP.aE g1 48 r.cells,iF L d x] g2 0 (.pointer (some ⟨L.f,0,none⟩)):=Rd.ro (List.mem_singleton.2 rfl) c2 k2
 have r3:Rd w [⟨w,fun b=>b < w.heap.size∧¬F b⟩] [HP.aE g1 48 r.cells,iF L d x] g3 0 (.func (.func f) #[] ca.toArray):=Rd.ro (List.mem_singleton.2 rfl) c3 k3
 have r4:Rd w [⟨w,fun b=>b < w.heap.size∧¬F b⟩] [HP.aE g1 48 r.cells,iF L d x] L.f 1 (.slice (some ⟨L.gn,0,none⟩) d.aP.length d.aP.length):=fun w1 t=>((t.aEm 1 rfl).r0.at_ (j:=1) rfl).2
 refine rB 9 (by kernel_rfl) (by kernel_rfl) ?_;refine bB 0 ?_;refine bB 1 ?_;refine bB 2 ?_;refine bB 3 ?_;refine bB 4 ?_;refine bB 5 ?_;refine bB 6 ?_;refine bB 7 ?_;refine cE 8 ?_
 refine aAV (fi:=[]) (ca:=ca) (vs:=[iv (i:Int),.agg r.cells.toArray]) (v:=.int .u32 v) (hf:=hf) (fun w1 t=>by
  obtain⟨G,g1',g2',g3',_⟩:=t.chunk (i:=1) rfl
  have hle:p.Le (all w1):=fun b hb=>by
   obtain⟨a1,a2⟩:=(Piece.Le.trans Gz (g3' _ (List.mem_singleton.2 rfl))) b hb;exact⟨a1.1,a2⟩
  simpa using hw w1 G g1' g2' hle) ?_
 refine nS ?_;refine cE 9 ?_;refine kd (dat i i) ?_;refine fA ?_;refine cE 10 ?_;refine Zi 1 rfl ?_;dsimp only[List.set]
 have Qq:=aAs x.now
 refine fG rfl rfl ?_;dsimp only[List.set];rw[aCA];refine Zo (x:=⟨x.now.set i v,x.saved,x.kept⟩) 1 rfl ?_;refine fA ?_;refine kG ?_;refine aA ?_;exact jZ 1 hF
theorem aGJ(L:FL)(d:bO)(x:cN)(hrl:d.aP.length≤100)(f:FuncId)(hf:fH Tryz.prog f=true)(ca:List Value)(p:Piece)(vs:List Int)(hvl:vs.length=d.aP.length)(Ew:x.now.length=d.aP.length)
  (hw:∀(i:Nat) (r:Rg) (v:Int),d.aP[i]? =some r→vs[i]? =some v→∀(now:List Int) w F,(iF L d ⟨now,x.saved,x.kept⟩).sat F w→(∀b,F b→b < w.heap.size)→p.Le (all w)→Cz f (([iv (i:Int),.agg r.cells.toArray]:List Value)++ca).toArray w (Rt (.int .u32 v) w))
  (w:World) (F:Nat→Prop) (hp:(iF L d x).sat F w) (hF:∀b,F b→b < w.heap.size) (Gz:p.Le ⟨w,fun b=>b < w.heap.size∧¬F b⟩):
  Cz 190 #[.pointer (some ⟨L.f,0,none⟩),.func (.func f) #[] ca.toArray] w (Wr (.tuple #[]) (iF L d ⟨vs,x.saved,x.kept⟩) w F):=by
 refine dJ func190 ntmps190 hp hF ?_;refine aA ?_;refine bA fun g2=>?_;refine bA fun g3=>?_;refine aA ?_;refine kL (vf:=[]) (vc:=[pt g3,pt g2]) rfl rfl (by decide) ?_;refine dP [⟨w,fun b=>b < w.heap.size∧¬F b⟩] [0,1] [2] (by simp) rfl (by decide) (by decide) fun q hq hLe _=>?_;obtain⟨F3,s3,z3⟩:=hq 0 _ (by simp) rfl;obtain⟨F2,s2,z2⟩:=hq 1 _ (by simp) rfl
 have hpq:p.Le q:=Piece.Le.trans Gz (hLe _ (by simp))
 refine dU 0 (iF L d ⟨vs,x.saved,x.kept⟩) (fun w1 G t hG yF hle=>by
  have key:=aGI q (fun i=>iF L d ⟨lA vs x.now i,x.saved,x.kept⟩) L d hrl 233 (by kernel_rfl) [pt g3,pt g2]
   (fun i _ w F h1 h2=>⟨_,aAa h1 h2⟩) (fun i r hr w2 F2' h1 h2 h3=>by
    have hlt:=(List.getElem?_eq_some_iff.1 hr).1
    obtain⟨v,hv⟩:=get_some (l:=vs) (i:=i) (by omega)
    have:=aML q L d ⟨lA vs x.now i,x.saved,x.kept⟩ f hf ca g2 g3 i r v hr (Vn hvl Ew (by omega))
     ⟨z2 _ s2.1,by rw[s2.2.cell];rfl⟩ ⟨z3 _ s3.1,by rw[s3.2.cell];rfl⟩ (fun w3 F3 a1 a2 a3=>hw i r v hr hv _ w3 F3 a1 a2 (Piece.Le.trans hpq a3)) w2 F2' h1 h2 h3
    try dsimp only at this
    rw[Vm (by omega) hv] at this
    exact this) w1 G (by show(iF L d ⟨lA vs x.now 0,x.saved,x.kept⟩).sat G w1;rw[Vl];exact hG) yF (hle q (by simp))
  try dsimp only at key
  rw[Vo hvl Ew] at key
  exact key) ?_
 refine aA ?_;exact jZ 0 hF
end
section
structure GL where
 t:Nat
 A:Option Addr
 c:Nat
def pQ(c:Dom)(x:fD):List Value:=[iv c.above,iv c.delay,.bool c.ret,.int .u8 x.phase,iv x.left,.bool x.kept,.bool x.keep]
def rA(s:aD)(st:List fD):List (List Value):=List.zipWith pQ s.domains st
abbrev wE(L:GL)(s:aD)(st:List fD):HP:=Ol 273 231 7 L.t L.A s.domains.length L.c (rA s st)
abbrev aK0(w:World)(L:GL)(s:aD)(st:List fD):Prop:=Dm w 7 L.t L.A s.domains.length L.c (rA s st)
section
variable{s:aD}{st:List fD}
theorem aB2(hok:vB s st):(rA s st).length=s.domains.length∧∀r∈rA s st,r.length=7:=by
 have:=hok.len
 refine⟨by simp[rA];omega,fun r hr=>?_⟩;obtain⟨j,hj⟩:=List.getElem?_of_mem hr;rw[rA,List.getElem?_zipWith] at hj;split at hj<;>cases hj
 rfl
theorem Ko{i:Nat}{c:Dom}{x:fD}(hc:s.domains[i]? =some c)(hx:st[i]? =some x):(rA s st)[i]? =some (pQ c x):=by
 rw[rA,List.getElem?_zipWith,hc,hx]
theorem aEr{i:Nat}{c:Dom}{x:fD}(hc:s.domains[i]? =some c)(hi:i < st.length):(rA s st).set i (pQ c x)=rA s (st.set i x):=by
 refine List.ext_getElem? fun j=>?_;rw[List.getElem?_set]
 by_cases he:i=j
 ·subst he;rw[if_pos rfl,Ko hc (x:=x) (by rw[List.getElem?_set_self hi])];rw[if_pos]
  have h1:=(List.getElem?_eq_some_iff.1 hc).1
  simp[rA];omega
 ·rw[if_neg he,rA,rA,List.getElem?_zipWith,List.getElem?_zipWith,List.getElem?_set_ne he]
end
theorem aDd(t n c b off i:Nat)(w:World)(h0:fK w t 0 (.slice (some ⟨b,off,none⟩) n c))(hi:i < n):
  Cz 91 #[pt t,iv (i:Int)] w (Rt (.pointer (some ⟨b,off+i*7,none⟩)) w):=by
 refine aL func91 ntmps91 ?_;refine aA ?_;refine bU (t:=11) rfl (fun h=>absurd h (by omega)) (fun _=>?_);refine aA ?_;refine aG rfl (fun h=>absurd h (by omega)) (fun _=>?_);refine aA ?_;refine kd (dat i (off+i*7)) ?_;refine aA ?_;exact dF
theorem aDc(t n c:Nat)(A:Option Addr)(i:Int)(w:World)(h0:fK w t 0 (.slice A n c))(hi:bN n i=false):
  Cz 91 #[pt t,iv i] w (Rt (.pointer none) w):=by
 have hi:=of_decide_eq_false hi
 refine aL func91 ntmps91 ?_;refine aA ?_;refine bU (t:=11) rfl (fun h=>?_) (fun h=>?_)
 ·refine aA ?_;exact dF
 ·refine aA ?_;refine aG rfl (fun h=>?_) (fun h=>absurd hi (by omega));refine aA ?_;exact dF
theorem aGY(g o:Nat)(p:Int)(w:World)(h3:fK w g (o+3) (.int .u8 p)):
  Cz 239 #[.pointer (some ⟨g,o,none⟩)] w (Rt (.bool (decide (p=48∨p=116))) w):=by
 refine aL func239 ntmps239 ?_;refine aA ?_;refine bU (t:=8) rfl (fun h=>?_) (fun h=>?_)
 ·refine aA ?_;refine jY (by simp) ?_;simp[h]
 ·refine aA ?_;refine jY (by simp) ?_;simp[h]
theorem aGX(L:GL)(s:aD)(st:List fD)(hok:vB s st)(d:Int)(w:World)(hR:aK0 w L s st):
  Cz 42 #[.pointer (some ⟨L.t,0,none⟩),iv d] w (Rt (.int .u8 (qD st d)) w):=by
 have hl:=hok.len
 cases hi:bN s.domains.length d
 ·refine aL func42 ntmps42 ?_;refine aA ?_;refine aU (fun w1 t=>aDc L.t s.domains.length L.c L.A d w1 ((hR.below (t.below (by simp))).r0) hi) ?_;refine aA ?_;refine jY (by simp) ?_;simp[qD,hl,hi]
 ·obtain⟨n,rfl⟩:∃n:Nat,d=n:=⟨d.toNat,by have:=of_decide_eq_true hi;omega⟩
  have hlt:n < s.domains.length:=by have:=of_decide_eq_true hi;omega
  obtain⟨c,hc⟩:=get_some hlt;obtain⟨x,hx⟩:=get_some (l:=st) (i:=n) (by omega);obtain⟨b,off,hA,hro⟩:=hR.at_ (aB2 hok).2 (Ko hc hx) hlt
  have h3:=hro.at_ (j:=3) rfl
  refine aL func42 ntmps42 ?_;refine aA ?_;refine aU (fun w1 t=>aDd L.t s.domains.length L.c b off n w1 (by rw[←hA];exact(hR.below (t.below (by simp))).r0) hlt) ?_;refine aA ?_;refine jY (by simp) ?_;simp[qD,hl,hi,hx]
theorem aNw(L:GL)(s:aD)(st:List fD)(hH:s.dG)(hok:vB s st)(d:Int)(w:World)(F:Nat→Prop)(hp:(wE L s st).sat F w)(hF:∀b,F b→b < w.heap.size):
  Cz 223 #[.pointer (some ⟨L.t,0,none⟩),iv d] w (Wr (iv (uC s st d).1) (wE L s (uC s st d).2) w F):=by
 have hl:=hok.len
 cases hi:bN s.domains.length d
 ·have hr:uC s st d=(4,st):=by simp[uC,hl,hi]
  rw[hr];refine dJ func223 ntmps223 hp hF ?_;refine aA ?_;refine aU (fun w1 t=>aDc L.t s.domains.length L.c L.A d w1 ((t.aCS 0 rfl).r0) hi) ?_;refine aA ?_;exact cH 0 hF
 ·obtain⟨n,rfl⟩:∃n:Nat,d=n:=⟨d.toNat,by have:=of_decide_eq_true hi;omega⟩
  have hlt:n < s.domains.length:=by have:=of_decide_eq_true hi;omega
  obtain⟨c,hc⟩:=get_some hlt;obtain⟨x,hx⟩:=get_some (l:=st) (i:=n) (by omega);obtain⟨iK,iJ⟩:=aB2 hok
  have mR:uC s st (n:Int)=if Kn x=false∨Nw st c.above=false then(6,st) else(0,st.set n ⟨114,c.delay,decide (x.phase=116),x.keep⟩):=by
   simp[uC,hl,hi,hc,hx]
  obtain⟨hfa,_,_⟩:=hH.domains n c hc;refine dJ func223 ntmps223 hp hF ?_;refine aEN 0 rfl (by omega) fun g cs hA h1 h2 h3 h4=>?_;dsimp only[List.set]
  have hs:=Hq h2 iK iJ (Ko hc hx)
  have hlen:n*7+7≤cs.length:=by omega
  have hs1:=hs.set 5 (.bool (decide (x.phase=116))) (by simp[pQ]) (by omega)
  have fX:=hs1.set 3 (.int .u8 114) (by simp[pQ]) (by simp;omega)
  have rU:=fX.set 4 (iv c.delay) (by simp[pQ]) (by simp;omega)
  have hu3:=(((vZ.refl cs (n*7) 7).set 5 (.bool (decide (x.phase=116))) (by decide)).set 3 (.int .u8 114) (by decide)).set 4 (iv c.delay) (by decide)
  have hf:=Fj (r':=pQ c ⟨114,c.delay,decide (x.phase=116),x.keep⟩) h2 iK iJ hlt (by omega) rfl rU hu3
  rw[aEr hc (by omega)] at hf;refine aA ?_;refine aU (fun w1 t=>aDd L.t s.domains.length L.c g 0 n w1 ((t.box (i:=1) rfl).at_ (j:=0) rfl) hlt) ?_;rw[Nat.zero_add];refine aA ?_;refine mG ?_;refine iZ ?_;refine tR (fun w1 t=>aGY g (n*7) x.phase w1 ⟨(t.aE (i:=0) rfl).lt,Rd.sub 0 3 rfl hs rfl rfl w1 t⟩) ?_;refine iZ ?_;refine Nx 14 rfl (fun hd=>?_) (fun hd=>?_)
  ·rw[mR,if_pos (.inl (decide_eq_false hd))];refine jA ?_;refine aA ?_;refine Io 0 hA h1 h2 h3 h4 rfl ?_;exact cH 0 hF
  ·have hdn:Kn x=true:=decide_eq_true (Classical.not_not.1 hd)
   refine iZ ?_;refine Nx 21 rfl (fun ha=>?_) (fun ha=>?_)
   ·obtain⟨a,vU,vS⟩:∃a:Nat,c.above=a∧a < n:=⟨c.above.toNat,by omega,by omega⟩
    obtain⟨ca,hca⟩:=get_some (l:=s.domains) (i:=a) (by omega);obtain⟨xa,hxa⟩:=get_some (l:=st) (i:=a) (by omega)
    have hsa:=Hq h2 iK iJ (Ko hca hxa)
    refine iZ ?_;refine xA (dat a (a*7)) ?_;refine jA ?_
    have hal:Nw st c.above=decide (xa.phase=49):=by
     unfold Nw;rw[vU,Int.toNat_natCast,hxa]
     first | (simp;done) | (simp;omega)
    refine aG rfl (fun h=>?_) (fun h=>?_)
    ·rw[mR,if_pos (.inr (by rw[hal];exact decide_eq_false h))];refine aA ?_;refine Io 0 hA h1 h2 h3 h4 rfl ?_;exact cH 0 hF
    ·rw[mR,if_neg (by rw[hal,hdn];simp;exact Classical.not_not.1 h)];refine aA ?_;refine Io 0 hA (by simpa using h1) hf h3 h4 rfl ?_;exact cH 0 hF
   ·have ha:=Classical.not_not.1 ha
    rw[mR,if_neg (by rw[hdn];simp[Nw,ha])];refine jA ?_;refine aA ?_;refine Io 0 hA (by simpa using h1) hf h3 h4 rfl ?_;exact cH 0 hF
end
section
theorem aPS{s:aD}{st:List fD}{d:Int}(h:∀(j:Nat) (c:Dom) (x:fD),s.domains[j]? =some c→st[j]? =some x→Hj d c x=false):Fa s st d=false:=by
 unfold Fa;rw[List.any_eq_false];intro b hb;obtain⟨j,hj⟩:=List.getElem?_of_mem hb;rw[List.getElem?_zipWith] at hj;cases hc:s.domains[j]? with
 | none=>rw[hc] at hj;cases hj
 | some c =>
  cases hx:st[j]? with
  | none=>rw[hc,hx] at hj;cases hj
  | some x=>
   rw[hc,hx] at hj;cases hj;rw[h j c x hc hx];decide
theorem aPR{s:aD}{st:List fD}{d:Int}{j:Nat}{c:Dom}{x:fD}(hc:s.domains[j]? =some c)(hx:st[j]? =some x)(h:Hj d c x=true):Fa s st d=true:=by
 unfold Fa;rw[List.any_eq_true];exact⟨Hj d c x,List.mem_of_getElem? (i:=j) (by rw[List.getElem?_zipWith,hc,hx]),h⟩
theorem aN1(L:GL)(s:aD)(st:List fD)(hok:vB s st)(hnd:s.domains.length≤1000)(d:Int)(keep:Bool)(w:World)(F:Nat→Prop)(hp:(wE L s st).sat F w)(hF:∀b,F b→b < w.heap.size):
  Cz 227 #[.pointer (some ⟨L.t,0,none⟩),iv d,.bool keep] w (Wr (iv (vW s st d keep).1) (wE L s (vW s st d keep).2) w F):=by
 have hl:=hok.len
 cases hi:bN s.domains.length d
 ·have hr:vW s st d keep=(4,st):=by simp[vW,hl,hi]
  rw[hr];refine dJ func227 ntmps227 hp hF ?_;refine aB ?_;refine aU (fun w1 t=>aDc L.t s.domains.length L.c L.A d w1 ((t.aCS 0 rfl).r0) hi) ?_;refine aB ?_;exact cH 0 hF
 ·obtain⟨n,rfl⟩:∃n:Nat,d=n:=⟨d.toNat,by have:=of_decide_eq_true hi;omega⟩
  have hlt:n < s.domains.length:=by have:=of_decide_eq_true hi;omega
  obtain⟨c,hc⟩:=get_some hlt;obtain⟨x,hx⟩:=get_some (l:=st) (i:=n) (by omega);obtain⟨iK,iJ⟩:=aB2 hok
  have hdn:vW s st (n:Int) keep=if x.phase≠49 then(6,st) else if keep=true∧c.ret=false then(1,st) else if Fa s st n then(7,st) else(0,st.set n ⟨99,x.left,x.kept,keep⟩):=by
   simp[vW,hl,hi,hc,hx]
  refine dJ func227 ntmps227 hp hF ?_;refine aEN 0 rfl (by omega) fun g cs hA h1 h2 h3 h4=>?_;dsimp only[List.set]
  have hs:=Hq h2 iK iJ (Ko hc hx)
  have hlen:n*7+7≤cs.length:=by omega
  have hs1:=hs.set 3 (.int .u8 99) (by simp[pQ]) (by omega)
  have fX:=hs1.set 6 (.bool keep) (by simp[pQ]) (by simp;omega)
  have hu2:=((vZ.refl cs (n*7) 7).set 3 (.int .u8 99) (by decide)).set 6 (.bool keep) (by decide)
  have hf:=Fj (r':=pQ c ⟨99,x.left,x.kept,keep⟩) h2 iK iJ hlt (by omega) rfl fX hu2
  rw[aEr hc (by omega)] at hf;refine aB ?_;refine aU (fun w1 t=>aDd L.t s.domains.length L.c g 0 n w1 ((t.box (i:=1) rfl).at_ (j:=0) rfl) hlt) ?_;rw[Nat.zero_add];refine aB ?_;refine aG rfl (fun oP=>?_) (fun oP=>?_)
  ·rw[hdn,if_pos oP];refine aB ?_;refine Io 0 hA h1 h2 h3 h4 rfl ?_;exact cH 0 hF
  rw[if_neg oP] at hdn;refine lU ?_;refine dW ?_;refine cO ?_;refine Zn 27 (keep=true∧c.ret=false) ?_ ?_
  ·cases keep
   ·refine aA ?_;exact Su
   ·refine aA ?_;cases hrt:c.ret<;>exact Su
  refine aG rfl (fun hk=>?_) (fun hk=>?_)
  ·rw[hdn,if_pos hk];refine aB ?_;refine Io 0 hA h1 h2 h3 h4 rfl ?_;exact cH 0 hF
  rw[if_neg hk] at hdn;refine aB ?_;refine bJ [(33,iv 0),(32,iv s.domains.length),(7,.pointer (some ⟨g,n*7,none⟩)),(2,.bool keep),(1,iv n),(0,.pointer (some ⟨L.t,0,none⟩))] ?_;refine eI (fun m e R H=>∃i:Nat,i≤s.domains.length∧(∀(j:Nat) (c:Dom) (x:fD),j < i→s.domains[j]? =some c→st[j]? =some x→Hj n c x=false)∧m=s.domains.length - i∧e=[(33,iv i),(32,iv s.domains.length),(7,.pointer (some ⟨g,n*7,none⟩)),(2,.bool keep),(1,iv n),(0,.pointer (some ⟨L.t,0,none⟩))]∧R=[⟨w,fun b=>b < w.heap.size∧¬F b⟩]∧H=[HP.aE g 231 cs,HP.aE L.t 273 [.slice (some ⟨g,0,none⟩) s.domains.length L.c],HP.many [cG,cG]]) s.domains.length ⟨0,by omega,fun j _ _ hj=>by omega,rfl,rfl,rfl,rfl⟩ fun m e R H hI=>?_;obtain⟨i,hi2,hno,rfl,rfl,rfl,rfl⟩:=hI;refine aB ?_;refine aG rfl (fun vS=>?_) (fun hge=>?_)
  ·have vS:i < s.domains.length:=by omega
   obtain⟨ci,rW⟩:=get_some vS;obtain⟨xi,hxi⟩:=get_some (l:=st) (i:=i) (by omega)
   have hsi:=Hq h2 iK iJ (Ko rW hxi)
   clear hs1 fX;refine aA ?_;refine kd (dat i (i*7)) ?_;refine aB ?_;refine bU (t:=47) rfl (fun ha=>?_) (fun ha=>?_)
   ·refine aA ?_;refine kd (dat i (i*7)) ?_;refine aB ?_;refine aU (fun w1 t=>aGY g (i*7) xi.phase w1 ⟨(t.aE (i:=0) rfl).lt,Rd.sub 0 3 rfl hsi rfl rfl w1 t⟩) ?_;refine aB ?_;refine aG rfl (fun hd=>?_) (fun hd=>?_)
    ·have hh:Fa s st n=true:=aPR rW hxi (by simp[Hj,ha,Kn];simpa using hd)
     rw[hdn,if_pos hh];refine aB ?_;refine Io 0 hA h1 h2 h3 h4 rfl ?_;exact cH 0 hF
    ·refine aB ?_;refine bJ [(33,iv (i+1:Nat)),(32,iv s.domains.length),(7,.pointer (some ⟨g,n*7,none⟩)),(2,.bool keep),(1,iv n),(0,.pointer (some ⟨L.t,0,none⟩))] ?_;refine iC (s.domains.length - (i+1)) (by omega) ⟨i+1,vS,fun j c x hj Ez yA=>?_,rfl,rfl,rfl,rfl⟩;rcases Nat.lt_or_ge j i with h | h
     ·exact hno j c x h Ez yA
     ·obtain rfl:j=i:=by omega
      rw[rW] at Ez;rw[hxi] at yA;cases Ez;cases yA
      have hd:=Classical.not_not.1 hd
      simp[Hj,Kn,hd]
   ·refine aB ?_;refine bJ [(33,iv (i+1:Nat)),(32,iv s.domains.length),(7,.pointer (some ⟨g,n*7,none⟩)),(2,.bool keep),(1,iv n),(0,.pointer (some ⟨L.t,0,none⟩))] ?_;refine iC (s.domains.length - (i+1)) (by omega) ⟨i+1,vS,fun j c x hj Ez yA=>?_,rfl,rfl,rfl,rfl⟩;rcases Nat.lt_or_ge j i with h | h
    ·exact hno j c x h Ez yA
    ·obtain rfl:j=i:=by omega
     rw[rW] at Ez;rw[hxi] at yA;cases Ez;cases yA;simp[Hj,ha]
  ·obtain rfl:i=s.domains.length:=by omega
   have hh:Fa s st n=false:=aPS fun j c x Ez yA=>hno j c x (List.getElem?_eq_some_iff.1 Ez).1 Ez yA
   rw[hdn,if_neg (by rw[hh];decide)];refine aB ?_;refine Io 0 hA (by simpa using h1) hf h3 h4 rfl ?_;exact cH 0 hF
def nT(cs:List Value)(o:Nat)(x:fD):List Value:=
 if x.phase=114 then(if 0 < x.left then cs.set (o+4) (iv (x.left - 1)) else cs.set (o+3) (.int .u8 104))
 else if x.phase=104 then cs.set (o+3) (.int .u8 49)
 else if x.phase=99 then cs.set (o+3) (.int .u8 (if x.keep then 116 else 48)) else cs
theorem aLx{cs:List Value}{o:Nat}{c:Dom}{x:fD}(h:Sub cs o (pQ c x))(hl:o+7≤cs.length):Sub (nT cs o x) o (pQ c (fW x).2)∧vZ cs (nT cs o x) o 7:=by
 have hu:=vZ.refl cs o 7
 obtain⟨ph,left,kept,keep⟩:=x
 by_cases h1:ph=114
 ·subst h1
  by_cases h2:0 < left
  ·simp only[nT,fW,if_pos h2,if_true];exact⟨h.set 4 (iv (left - 1)) (by simp[pQ]) (by omega),hu.set 4 _ (by decide)⟩
  ·simp only[nT,fW,if_neg h2,if_true];exact⟨h.set 3 (.int .u8 104) (by simp[pQ]) (by omega),hu.set 3 _ (by decide)⟩
 ·by_cases h2:ph=104
  ·simp only[nT,fW,if_neg h1,if_pos h2];exact⟨h.set 3 (.int .u8 49) (by simp[pQ]) (by omega),hu.set 3 _ (by decide)⟩
  ·by_cases h3:ph=99
   ·simp only[nT,fW,if_neg h1,if_neg h2,if_pos h3];cases keep
    ·exact⟨h.set 3 (.int .u8 48) (by simp[pQ]) (by omega),hu.set 3 _ (by decide)⟩
    ·exact⟨h.set 3 (.int .u8 116) (by simp[pQ]) (by omega),hu.set 3 _ (by decide)⟩
   ·simp only[nT,fW,if_neg h1,if_neg h2,if_neg h3];exact⟨h,hu⟩
theorem aNy(g o:Nat)(cs:List Value)(c:Dom)(x:fD)(hs:Sub cs o (pQ c x))(hlen:o+7≤cs.length)(hx:0≤x.left∧x.left≤3)(w:World)(F:Nat→Prop)(hp:(HP.aE g 231 cs).sat F w)(hF:∀b,F b→b < w.heap.size):
  Cz 112 #[.pointer (some ⟨g,o,none⟩)] w (Wr (.int .u8 (fW x).1) (HP.aE g 231 (nT cs o x)) w F):=by
 refine dJ func112 ntmps112 hp hF ?_;obtain⟨ph,left,kept,keep⟩:=x;dsimp only at hx;dsimp only[pQ] at hs;refine aA ?_;refine aG rfl (fun h=>?_) (fun h=>?_)
 ·subst h;refine aA ?_;refine aG rfl (fun hp=>?_) (fun hp=>?_)
  ·refine aA ?_;refine nR rfl rfl fun w1 t=>⟨by simp[fW,nT,hp,if_true],?_⟩
   simp only[fW,nT,if_pos hp,if_true];exact t.turns hF (by simp) (i:=0) rfl
  ·have hs1:=hs.set 3 (.int .u8 104) (by simp) (by omega)
   refine aA ?_;refine pU rfl (fun hk=>?_) (fun hk=>?_)
   ·refine aA ?_;refine nR rfl rfl fun w1 t=>⟨by simp[fW,nT,hp,if_true,hk],?_⟩
    simp only[fW,nT,if_neg hp,if_true,hk];exact t.turns hF (by simp) (i:=0) rfl
   ·refine aA ?_;refine nR rfl rfl fun w1 t=>⟨by simp[fW,nT,hp,if_true,hk],?_⟩
    simp only[fW,nT,if_neg hp,if_true,hk];exact t.turns hF (by simp) (i:=0) rfl
 ·refine aA ?_;refine aG rfl (fun h2=>?_) (fun h2=>?_)
  ·refine aA ?_;refine nR rfl rfl fun w1 t=>⟨by simp[fW,nT,h,h2],?_⟩
   simp only[fW,nT,if_neg h,if_pos h2];exact t.turns hF (by simp) (i:=0) rfl
  ·refine aA ?_;refine aG rfl (fun h3=>?_) (fun h3=>?_)
   ·refine aA ?_;refine pU rfl (fun hk=>?_) (fun hk=>?_)
    ·refine aA ?_;refine nR rfl rfl fun w1 t=>⟨by simp[fW,nT,h,h2,h3,hk,if_true],?_⟩
     simp only[fW,nT,if_neg h,if_neg h2,if_pos h3,hk,if_true];exact t.turns hF (by simp) (i:=0) rfl
    ·refine aA ?_;refine nR rfl rfl fun w1 t=>⟨by simp[fW,nT,h,h2,h3,hk],?_⟩
     simp only[fW,nT,if_neg h,if_neg h2,if_pos h3,hk];exact t.turns hF (by simp) (i:=0) rfl
   ·refine aA ?_;refine nR rfl rfl fun w1 t=>⟨by simp[fW,nT,h,h2,h3],?_⟩
    simp only[fW,nT,if_neg h,if_neg h2,if_neg h3];exact t.turns hF (by simp) (i:=0) rfl
theorem aGi{α:Type}{l:List α}{i:Nat}{x:α}(h:l[i]? =some x):l.set i x=l:=by
 refine List.ext_getElem? fun j=>?_;rw[List.getElem?_set]
 by_cases he:i=j
 ·subst he;rw[if_pos rfl,if_pos (List.getElem?_eq_some_iff.1 h).1,h]
 ·rw[if_neg he]
def Gr(st:List fD)(i:Nat):List fD:=(oF st).take i++st.drop i
theorem aDo{α:Type}(f:α→α)(st:List α){i:Nat}(hi:i < st.length):((st.map f).take i++st.drop i)[i]? =st[i]? :=by
 have:((st.map f).take i).length=i:=by simp;omega
 rw[List.getElem?_append_right (by omega),this,Nat.sub_self,List.getElem?_drop,Nat.add_zero]
theorem aDn{α:Type}(f:α→α)(st:List α){i:Nat}{x:α}(hx:st[i]? =some x):((st.map f).take i++st.drop i).set i (f x)=(st.map f).take (i+1)++st.drop (i+1):=by
 have hi:=(List.getElem?_eq_some_iff.1 hx).1
 refine List.ext_getElem? fun j=>?_;rw[List.getElem?_set]
 by_cases he:i=j
 ·subst he;rw[if_pos rfl,if_pos (by simp;omega),List.getElem?_append_left (by simp;omega),List.getElem?_take_of_lt (by omega),List.getElem?_map,hx];rfl
 ·rw[if_neg he];rcases Nat.lt_or_ge j i with hj | hj
  ·rw[List.getElem?_append_left (by simp;omega),List.getElem?_append_left (by simp;omega),List.getElem?_take_of_lt hj,List.getElem?_take_of_lt (by omega)]
  ·rw[List.getElem?_append_right (by simp;omega),List.getElem?_append_right (by simp;omega),List.getElem?_drop,List.getElem?_drop]
   congr 1
   simp;omega
theorem aFW{x:fD}(hl:0≤x.left∧x.left≤3)(hp:0≤x.phase∧x.phase < 256):(0≤(fW x).2.left∧(fW x).2.left≤3)∧(0≤(fW x).2.phase∧(fW x).2.phase < 256):=by
 unfold fW
 repeat' split
 all_goals(dsimp only;constructor<;>omega)
theorem aCE{s:aD}{st:List fD}(hok:vB s st):vB s (oF st):=by
 have hl:=hok.len
 refine⟨by simp[oF];omega,fun x hx=>?_,fun x hx=>?_⟩
 ·obtain⟨y,hy,rfl⟩:=List.mem_map.1 hx;exact(aFW (hok.left y hy) (hok.phase y hy)).1
 ·obtain⟨y,hy,rfl⟩:=List.mem_map.1 hx;exact(aFW (hok.left y hy) (hok.phase y hy)).2
theorem aOt{s:aD}{st:List fD}(hok:vB s st){i:Nat}(hi:i≤s.domains.length):vB s (Gr st i):=by
 have hl:=hok.len
 have ht:=aCE hok
 refine⟨by simp[Gr,oF];omega,fun x hx=>?_,fun x hx=>?_⟩
 ·rcases List.mem_append.1 hx with h | h
  ·exact ht.left x (List.mem_of_mem_take h)
  ·exact hok.left x (List.mem_of_mem_drop h)
 ·rcases List.mem_append.1 hx with h | h
  ·exact ht.phase x (List.mem_of_mem_take h)
  ·exact hok.phase x (List.mem_of_mem_drop h)
def Fo(p:Int×Nat):List Value:=[.int .u8 p.1,iv (p.2:Int)]
theorem aII(st:List fD)(n:Nat):(lS st n).length≤n:=by
 unfold lS;exact Nat.le_trans (List.length_filterMap_le _ _) (by simp)
theorem aQO{st:List fD}{i:Nat}{x:fD}(hx:st[i]? =some x):lS st (i+1)=lS st i++(if(fW x).1=0 then[] else[((fW x).1,i)]):=by
 unfold lS;rw[List.range_succ,List.filterMap_append];simp only[List.filterMap_cons,List.filterMap_nil,hx,Option.bind_some]
 by_cases h:(fW x).1=0<;>simp[h]
theorem aNx(L:GL)(s:aD)(st:List fD)(hok:vB s st)(hnd:s.domains.length≤1000)(w:World)(F:Nat→Prop)(hp:(wE L s st).sat F w)(hF:∀b,F b→b < w.heap.size):
  Cz 59 #[.pointer (some ⟨L.t,0,none⟩)] w (fun y w'=>∃a:Option Addr×Nat,y=.returned (.slice a.1 (lS st s.domains.length).length a.2)∧True∧∃F',(HP.many [wE L s (oF st),HP.own 151 2 (.slice a.1 (lS st s.domains.length).length a.2) (lS st s.domains.length).length ((lS st s.domains.length).flatMap Fo)]).sat F' w'∧iE w w' F F'):=by
 have hl:=hok.len
 refine dJ func59 ntmps59 hp hF ?_
 have aDG:Rd w [⟨w,fun b=>b < w.heap.size∧¬F b⟩] [wE L s st] L.t 0 (.slice L.A s.domains.length L.c):=Rd.row 0 rfl
 refine aA ?_;refine iO 151 2 ?_;refine bJ [(13,iv 0),(12,iv s.domains.length),(3,sn),(0,.pointer (some ⟨L.t,0,none⟩))] ?_;refine eI (fun m e R H=>∃(i:Nat) (A:Option Addr) (k:Nat),i≤s.domains.length∧m=s.domains.length - i∧e=[(13,iv i),(12,iv s.domains.length),(3,.slice A (lS st i).length k),(0,.pointer (some ⟨L.t,0,none⟩))]∧R=[⟨w,fun b=>b < w.heap.size∧¬F b⟩]∧H=[HP.own 151 2 (.slice A (lS st i).length k) (lS st i).length ((lS st i).flatMap Fo),wE L s (Gr st i)]) s.domains.length ⟨0,none,0,by omega,rfl,rfl,rfl,by simp[Gr,lS]⟩ fun m e R H hI=>?_;obtain⟨i,A,k,hi,rfl,rfl,rfl,rfl⟩:=hI;refine aA ?_;refine aG rfl (fun hlt=>?_) (fun hge=>?_)
 ·have hlt:i < s.domains.length:=by omega
  obtain⟨c,hc⟩:=get_some hlt;obtain⟨x,hx⟩:=get_some (l:=st) (i:=i) (by omega)
  have Ka:(Gr st i)[i]? =some x:=by rw[Gr,oF,aDo _ st (by omega)];exact hx
  have Wg:=aOt hok hi
  obtain⟨iK,iJ⟩:=aB2 Wg
  have hel:=aII st i
  refine aEN 1 rfl (by omega) fun g cs hA h1 h2 h3 h4=>?_;dsimp only[List.set]
  have hs:=Hq h2 iK iJ (Ko hc Ka)
  obtain⟨hs1,vP⟩:=aLx hs (by omega)
  have hf:=Fj (r':=pQ c (fW x).2) h2 iK iJ hlt (by omega) rfl hs1 vP
  rw[aEr hc (by have:=Wg.len;omega),Gr,oF,aDn (fun x=>(fW x).2) st hx] at hf;refine aA ?_;refine kd (dat i (i*7)) ?_;refine Tx 0 (fi:=[]) (ca:=[]) (p:=HP.aE g 231 cs) (HP.aE g 231 (nT cs (i*7) x)) (by kernel_rfl) rfl rfl rfl ⟨(by decide),rfl⟩ (fun w1 G t hG yF=>aNy g (i*7) cs c x hs (by omega) (hok.left x (List.mem_of_getElem? hx)) w1 G hG yF) ?_;dsimp only[List.set]
  have nO:(nT cs (i*7) x).length=L.c*7:=by rw[vP.1,h1]
  refine Io 1 hA nO hf h3 h4 rfl ?_;dsimp only[List.set]
  have dV:=aQO hx
  refine aA ?_;refine aG rfl (fun hz=>?_) (fun hz=>?_)
  ·rw[if_neg hz] at dV;refine aB ?_;refine eL fun g2=>?_;refine gH 1 2 16 1 (el:=151) (by kernel_rfl) (by kernel_rfl) (by decide) rfl rfl rfl (nJ 0 rfl rfl) (by simp[Value.oneCell']) rfl (by omega) (by omega) (by decide) fun A' k'=>?_;dsimp only[List.set];refine aA ?_
   have e1:(lS st (i+1)).length=(lS st i).length+1:=by rw[dV];simp
   have e2:(lS st (i+1)).flatMap Fo=(lS st i).flatMap Fo++[.int .u8 (fW x).1,iv (i:Int)]:=by rw[dV,List.flatMap_append];rfl
   refine aY [1,2] rfl (by decide) (fun _ h=>h) ?_;refine bJ [(13,iv (i+1:Nat)),(12,iv s.domains.length),(3,.slice A' ((lS st i).length+1) k'),(0,.pointer (some ⟨L.t,0,none⟩))] ?_;exact iC (s.domains.length - (i+1)) (by omega) ⟨i+1,A',k',hlt,rfl,by rw[e1],rfl,by rw[e1,e2];rfl⟩
  ·have hz:=Classical.not_not.1 hz
   rw[if_pos hz,List.append_nil] at dV;refine aA ?_;refine bJ [(13,iv (i+1:Nat)),(12,iv s.domains.length),(3,.slice A (lS st i).length k),(0,.pointer (some ⟨L.t,0,none⟩))] ?_;refine iC (s.domains.length - (i+1)) (by omega) ⟨i+1,A,k,hlt,rfl,by rw[dV],rfl,by rw[dV];rfl⟩
 ·obtain rfl:i=s.domains.length:=by omega
  have wS:Gr st s.domains.length=oF st:=by
   rw[Gr,List.drop_eq_nil_of_le (by omega),List.append_nil,List.take_of_length_le (by simp[oF];omega)]
  rw[wS];refine aA ?_;refine aY [1,0] rfl (by decide) (fun _ h=>h) ?_;refine nG ?_;exact nR rfl rfl fun w1 t=>⟨(A,k),rfl,trivial,t.turns hF (by simp) (i:=0) rfl⟩
end
section
theorem aQS(w:World)(q:Piece):(⟨w,fun _=>False⟩:Piece).Le q:=fun _ h=>h.elim
theorem aSk(i:Nat)(r:Rg)(w:World):
  Cz 192 #[iv (i:Int),.agg r.cells.toArray] w (Rt (.int .u32 r.reset) w):=by
 refine aL func192 ntmps192 ?_;refine aA ?_;refine bA fun g1=>?_;dsimp only[Value.cells,Rg.cells];refine aA ?_;exact dF
theorem aAA(L:FL)(d:bO)(x:cN)(hrl:d.aP.length≤100)(hok:zA d x)(w:World)(F:Nat→Prop)(hp:(iF L d x).sat F w)(hF:∀b,F b→b < w.heap.size):
  Cz 115 #[.pointer (some ⟨L.f,0,none⟩)] w (Wr (.tuple #[]) (iF L d (Fu d x)) w F):=by
 refine dJ func115 ntmps115 hp hF ?_;refine aA ?_
 refine dU 0 (iF L d ⟨d.aP.map (·.reset),x.saved,x.kept⟩) (fun w1 G t hG yF hle=>by
  have:=aGJ L d x hrl 192 (by kernel_rfl) [] ⟨w1,fun _=>False⟩ (d.aP.map (·.reset)) (by simp) hok.now (fun i r v hr hv now w2 F2 _ _ _=>by
   rw[List.getElem?_map,hr] at hv;cases hv
   exact aSk i r w2) w1 G hG yF (aQS _ _)
  exact this) ?_
 refine Zi 0 rfl ?_;dsimp only[List.set,Kk];refine aA ?_;refine Zo (x:=Fu d x) 0 rfl ?_;exact jZ 0 hF
theorem aMC(L:FL)(d:bO)(x:cN)(g1 i:Nat)(r:Rg)(v:Int)(hr:d.aP[i]? =some r)(hv:x.saved[i]? =some v)(w:World)(hR:Dt w L d x)(h1:fK w g1 0 (.pointer (some ⟨L.f,0,none⟩))):
  Cz 191 #[iv (i:Int),.agg r.cells.toArray,pt g1] w (Rt (.int .u32 (aA8 x.kept r v)) w):=by
 have hlt:=(List.getElem?_eq_some_iff.1 hr).1
 have k3:=hR.r0.at_ (j:=3) rfl
 have k2:=hR.r0.at_ (j:=2) rfl
 have kv:=hR.saved.at_ (aCB hv)
 rw[Nat.zero_add] at kv;obtain⟨rs,kp⟩:=r;cases hk:x.kept
 ·rw[hk] at k3;refine aL func191 ntmps191 ?_;refine aA ?_;refine bA fun g2=>?_;dsimp only[Value.cells,Rg.cells];refine aA ?_;exact dF
 ·rw[hk] at k3;cases kp
  ·refine aL func191 ntmps191 ?_;refine aA ?_;refine bA fun g2=>?_;dsimp only[Value.cells,Rg.cells];refine aA ?_;exact dF
  ·refine aL func191 ntmps191 ?_;refine aA ?_;refine bA fun g2=>?_;dsimp only[Value.cells,Rg.cells];refine aB ?_;exact dF
theorem aMI(L:FL)(d:bO)(x:cN)(hrl:d.aP.length≤100)(hok:zA d x)(w:World)(F:Nat→Prop)(hp:(iF L d x).sat F w)(hF:∀b,F b→b < w.heap.size):
  Cz 114 #[.pointer (some ⟨L.f,0,none⟩)] w (Wr (.tuple #[]) (iF L d (Jf d x)) w F):=by
 have rT:=hok.saved
 refine dJ func114 ntmps114 hp hF ?_;refine aA ?_;refine bA fun g1=>?_;refine aA ?_;refine kL (vf:=[]) (vc:=[pt g1]) rfl rfl (by decide) ?_;refine dP [⟨w,fun b=>b < w.heap.size∧¬F b⟩] [0] [1] (by simp) rfl (by decide) (by decide) fun q hq hLe _=>?_;obtain⟨F1,s1,z1⟩:=hq 0 _ (by simp) rfl
 refine dU 0 (iF L d (Jf d x)) (fun w1 G t hG yF hle=>by
  have:=aGJ L d x hrl 191 (by kernel_rfl) [pt g1] q (Jf d x).now (by simp[Jf];omega) hok.now (fun i r v hr hv now w2 F2 a1 a2 a3=>by
   have hlt:=(List.getElem?_eq_some_iff.1 hr).1
   obtain⟨u,hu⟩:=get_some (l:=x.saved) (i:=i) (by omega)
   have he:v=aA8 x.kept r u:=by
    rw[Jf,List.getElem?_zipWith,hr,hu] at hv;cases hv;rfl
   subst he;obtain⟨b1,b2⟩:=a3 g1 (z1 _ s1.1)
   exact aMC L d ⟨now,x.saved,x.kept⟩ g1 i r u hr hu w2 (aAa a1 a2) ⟨b1,(World.cell?_of_block (w:=q.w) b2).trans (by rw[s1.2.cell];rfl)⟩) w1 G hG yF (hle q (by simp))
  exact this) ?_
 refine aA ?_;exact jZ 0 hF
theorem aLO(p:Piece)(L:FL)(d:bO)(x:cN)(g1 i:Nat)(r:Rg)(v u:Int)(hr:d.aP[i]? =some r)(hv:x.now[i]? =some v)(hu:x.saved[i]? =some u)(Ew:x.saved.length=d.aP.length)
  (h1:p.Z g1∧p.w.cell? ⟨g1,0,none⟩=some (.pointer (some ⟨L.f,0,none⟩))) (w:World) (F:Nat→Prop) (hp:(iF L d x).sat F w) (hF:∀b,F b→b < w.heap.size) (Gz:p.Le ⟨w,fun b=>b < w.heap.size∧¬F b⟩):
  Cz 189 #[iv (i:Int),.agg r.cells.toArray,pt g1] w (Wr (.tuple #[]) (iF L d ⟨x.now,x.saved.set i (Lw r (v,u)),x.kept⟩) w F):=by
 have hlt:=(List.getElem?_eq_some_iff.1 hr).1
 obtain⟨c1,e1⟩:=Gz g1 h1.1
 have k1:w.cell? ⟨g1,0,none⟩=some (.pointer (some ⟨L.f,0,none⟩)):=(World.cell?_of_block (w:=p.w) e1).trans h1.2
 obtain⟨rs,kp⟩:=r;cases kp
 ·have hsame:x.saved.set i (Lw ⟨rs,false⟩ (v,u))=x.saved:=aGi hu
  rw[hsame];refine dJ func189 ntmps189 hp hF ?_;refine aA ?_;refine bA fun g2=>?_;dsimp only[Value.cells,Rg.cells];refine aA ?_;exact jZ 1 hF
 ·refine dJ func189 ntmps189 hp hF ?_;refine aA ?_;refine bA fun g2=>?_;dsimp only[Value.cells,Rg.cells];refine aA ?_;refine Zi 1 rfl ?_;dsimp only[List.set,Kk]
  have Qq:=aAs x.now
  have rT:=aAs x.saved
  have r1:Rd w [⟨w,fun b=>b < w.heap.size∧¬F b⟩] [HP.aE L.gs 23 (nI x.saved),HP.aE L.gn 23 (nI x.now),HP.aE L.f 298 [.slice L.A d.aP.length L.c,.slice (some ⟨L.gn,0,none⟩) d.aP.length d.aP.length,.slice (some ⟨L.gs,0,none⟩) d.aP.length d.aP.length,.bool x.kept],HP.aE g2 48 [.int .u32 rs,.bool true],HP.many [cG,cG,cG,HP.bT (tV d L.A) (tV.le (d:=d) (A:=L.A))]] g1 0 (.pointer (some ⟨L.f,0,none⟩)):=Rd.ro (List.mem_singleton.2 rfl) c1 k1
  have r2:Rd w [⟨w,fun b=>b < w.heap.size∧¬F b⟩] [HP.aE L.gs 23 (nI x.saved),HP.aE L.gn 23 (nI x.now),HP.aE L.f 298 [.slice L.A d.aP.length L.c,.slice (some ⟨L.gn,0,none⟩) d.aP.length d.aP.length,.slice (some ⟨L.gs,0,none⟩) d.aP.length d.aP.length,.bool x.kept],HP.aE g2 48 [.int .u32 rs,.bool true],HP.many [cG,cG,cG,HP.bT (tV d L.A) (tV.le (d:=d) (A:=L.A))]] L.gn i (.int .u32 v):=Rd.aE 1 rfl (aCB hv)
  refine rB 12 (by kernel_rfl) (by kernel_rfl) ?_;refine bB 0 ?_;refine bB 1 ?_;refine bB 2 ?_;refine bB 3 ?_;refine bB 4 ?_;refine bB 5 ?_;refine bB 6 ?_;refine bB 7 ?_;refine bB 8 ?_;refine bB 9 ?_;refine bB 10 ?_ (dI:=dat (sz:=1) i i);refine bB 11 ?_;refine cE 12 ?_;refine kd (dat i i) ?_;refine fA ?_;refine cE 13 ?_;refine fG rfl rfl ?_;dsimp only[List.set];rw[aCA];refine fA ?_;refine kG ?_;refine aA ?_;refine aY [0,1,2,4] rfl (by decide) (fun _ h=>h) ?_;refine Zo (x:=⟨x.now,x.saved.set i v,x.kept⟩) 0 rfl ?_;exact jZ 0 hF
theorem aMH(L:FL)(d:bO)(x:cN)(hrl:d.aP.length≤100)(hok:zA d x)(w:World)(F:Nat→Prop)(hp:(iF L d x).sat F w)(hF:∀b,F b→b < w.heap.size):
  Cz 113 #[.pointer (some ⟨L.f,0,none⟩)] w (Wr (.tuple #[]) (iF L d (wM d x)) w F):=by
 have rT:=hok.saved
 have iK:=hok.now
 have hvl:(wM d x).saved.length=d.aP.length:=by simp[wM];omega
 refine dJ func113 ntmps113 hp hF ?_;refine aA ?_;refine bA fun g1=>?_;refine aA ?_;refine kL (vf:=[]) (vc:=[pt g1]) rfl rfl (by decide) ?_;refine dP [⟨w,fun b=>b < w.heap.size∧¬F b⟩] [0] [1] (by simp) rfl (by decide) (by decide) fun q hq hLe _=>?_;obtain⟨F1,s1,z1⟩:=hq 0 _ (by simp) rfl
 refine dU 0 (iF L d ⟨x.now,(wM d x).saved,x.kept⟩) (fun w1 G t hG yF hle=>by
  have key:=aGI q (fun i=>iF L d ⟨x.now,lA (wM d x).saved x.saved i,x.kept⟩) L d hrl 189 (by kernel_rfl) [pt g1]
   (fun i _ w F h1 h2=>⟨_,aAa h1 h2⟩) (fun i r hr w2 F2' h1 h2 h3=>by
    have hlt:=(List.getElem?_eq_some_iff.1 hr).1
    obtain⟨v,hv⟩:=get_some (l:=x.now) (i:=i) (by omega);obtain⟨u,hu⟩:=get_some (l:=x.saved) (i:=i) (by omega)
    have hs:(wM d x).saved[i]? =some (Lw r (v,u)):=by
     rw[wM,List.getElem?_zipWith,hr,(List.getElem?_zip_eq_some (z:=(v,u))).2 ⟨hv,hu⟩]
    have:=aLO q L d ⟨x.now,lA (wM d x).saved x.saved i,x.kept⟩ g1 i r v u hr hv (aOr (by omega) (by omega) hu) (Vn hvl rT (by omega))
     ⟨z1 _ s1.1,by rw[s1.2.cell];rfl⟩ w2 F2' h1 h2 h3
    try dsimp only at this
    rw[Vm (by omega) hs] at this
    exact this) w1 G (by show(iF L d ⟨x.now,lA (wM d x).saved x.saved 0,x.kept⟩).sat G w1;rw[Vl];exact hG) yF (hle q (by simp))
  try dsimp only at key
  rw[Vo hvl rT] at key
  exact key) ?_
 refine Zi 0 rfl ?_;dsimp only[List.set,Kk]
 have r1:∀H,Rd w [q,⟨w,fun b=>b < w.heap.size∧¬F b⟩] H g1 0 (.pointer (some ⟨L.f,0,none⟩)):=fun H=>Rd.ro (by simp:q∈_) (z1 _ s1.1) (by rw[s1.2.cell];rfl)
 have r1:=r1 [HP.aE L.gs 23 (nI (wM d x).saved),HP.aE L.gn 23 (nI x.now),HP.aE L.f 298 [.slice L.A d.aP.length L.c,.slice (some ⟨L.gn,0,none⟩) d.aP.length d.aP.length,.slice (some ⟨L.gs,0,none⟩) d.aP.length d.aP.length,.bool x.kept],HP.many [cG,cG,cG,HP.bT (tV d L.A) (tV.le (d:=d) (A:=L.A))]]
 refine aA ?_;refine Zo (x:=wM d x) 0 rfl ?_;exact jZ 0 hF
theorem aMJ(L:FL)(d:bO)(x:cN)(i:Nat)(v:Int)(Ew:x.now.length=d.aP.length)(hv:x.now[i]? =some v)(w:World)(hR:Dt w L d x):
  Cz 109 #[.pointer (some ⟨L.f,0,none⟩),iv (i:Int)] w (Rt (.tuple #[.int .u32 v,iv 0]) w):=by
 have hlt:i < d.aP.length:=by have:=(List.getElem?_eq_some_iff.1 hv).1;omega
 have k1:=hR.r0.at_ (j:=1) rfl
 have kv:=hR.now.at_ (aCB hv)
 rw[Nat.zero_add] at kv;refine aL func109 ntmps109 ?_;refine aA ?_;refine bU (t:=8) rfl (fun h=>absurd h (by omega)) (fun _=>?_);refine aA ?_;refine aU (fun w1 t=>Uw L d x w1 (hR.below (t.below (by simp)))) ?_;refine aA ?_;refine aG rfl (fun h=>absurd h (by omega)) (fun _=>?_);refine aB ?_;exact eK rfl rfl rfl fun w1 t=>⟨rfl,t.below (by simp)⟩
theorem aMG(L:FL)(d:bO)(x:cN)(i:Nat)(v:Int)(Ew:x.now.length=d.aP.length)(hlt:i < d.aP.length)(w:World)(F:Nat→Prop)(hp:(iF L d x).sat F w)(hF:∀b,F b→b < w.heap.size):
  Cz 110 #[.pointer (some ⟨L.f,0,none⟩),iv (i:Int),.int .u32 v] w (Wr (iv 0) (iF L d ⟨x.now.set i v,x.saved,x.kept⟩) w F):=by
 refine dJ func110 ntmps110 hp hF ?_;refine aA ?_;refine bU (t:=9) rfl (fun h=>absurd h (by omega)) (fun _=>?_);refine aA ?_;refine aU (fun w1 t=>Uw L d x w1 (t.aEm 0 rfl)) ?_;refine aA ?_;refine aG rfl (fun h=>absurd h (by omega)) (fun _=>?_);refine Zi 0 rfl ?_;dsimp only[List.set,Kk]
 have Qq:=aAs x.now
 refine aB ?_;rw[aCA];refine aA ?_;refine Zo (x:=⟨x.now.set i v,x.saved,x.kept⟩) 0 rfl ?_;exact cH 0 hF
end
section
def aKq(n:Nat)(xs:List Value)(v:Value)(hs:List HP)(_:Piece):Prop:=∃A c,v=.slice A n c∧hs=[HP.own 86 6 (.slice A n c) n xs]
theorem aND(A:Option Addr)(n c:Nat)(xs:List Value)(w:World)(hs:aI (all w) 6 A n xs)(h1:∀u∈xs,u.oneCell'=true)(hn:n≤1000000):
  Cz 147 #[.slice A n c] w (fun y w'=>(∃v hs q,y=.returned v∧q.w=w'∧aKq n xs v hs q∧kA w hs q)∧Below w.heap.size w w'):=by
 refine aL func147 ntmps147 ?_;refine aA ?_;refine iO 86 6 ?_;refine gH 0 6 64 n (n':=n) (v:=sn) (el:=86) (by kernel_rfl) (by kernel_rfl) (by decide) rfl rfl rfl (qV (by simp) hs) h1 (by omega) (by omega) (by omega) (by decide) fun A' k'=>?_;dsimp only[List.set,List.nil_append];refine aA ?_;refine dP [] [] [0] (by simp) rfl (by decide) (by decide) fun q _ _ hfr=>?_;exact aS (h:=fun w1 st=>⟨_,_,⟨w1,q.Z⟩,rfl,rfl,⟨_,_,rfl,rfl⟩,st.newR (by simp) (by simp) (hfr (by simp) (by simp))⟩)
def aKo(n:Nat)(xs:List Value)(v:Value)(hs:List HP)(_:Piece):Prop:=∃A c,v=.slice A n c∧hs=[HP.own 50 3 (.slice A n c) n xs]
theorem aNB(A:Option Addr)(n c:Nat)(xs:List Value)(w:World)(hs:aI (all w) 3 A n xs)(h1:∀u∈xs,u.oneCell'=true)(hn:n≤1000000):
  Cz 148 #[.slice A n c] w (fun y w'=>(∃v hs q,y=.returned v∧q.w=w'∧aKo n xs v hs q∧kA w hs q)∧Below w.heap.size w w'):=by
 refine aL func148 ntmps148 ?_;refine aA ?_;refine iO 50 3 ?_;refine gH 0 3 24 n (n':=n) (v:=sn) (el:=50) (by kernel_rfl) (by kernel_rfl) (by decide) rfl rfl rfl (qV (by simp) hs) h1 (by omega) (by omega) (by omega) (by decide) fun A' k'=>?_;dsimp only[List.set,List.nil_append];refine aA ?_;refine dP [] [] [0] (by simp) rfl (by decide) (by decide) fun q _ _ hfr=>?_;exact aS (h:=fun w1 st=>⟨_,_,⟨w1,q.Z⟩,rfl,rfl,⟨_,_,rfl,rfl⟩,st.newR (by simp) (by simp) (hfr (by simp) (by simp))⟩)
def aKm(n:Nat)(xs:List Value)(v:Value)(hs:List HP)(_:Piece):Prop:=∃A c,v=.slice A n c∧hs=[HP.own 88 1 (.slice A n c) n xs]
theorem aN9(A:Option Addr)(n c:Nat)(xs:List Value)(w:World)(hs:aI (all w) 1 A n xs)(h1:∀u∈xs,u.oneCell'=true)(hn:n≤1000000):
  Cz 149 #[.slice A n c] w (fun y w'=>(∃v hs q,y=.returned v∧q.w=w'∧aKm n xs v hs q∧kA w hs q)∧Below w.heap.size w w'):=by
 refine aL func149 ntmps149 ?_;refine aA ?_;refine iO 88 1 ?_;refine gH 0 1 8 n (n':=n) (v:=sn) (el:=88) (by kernel_rfl) (by kernel_rfl) (by decide) rfl rfl rfl (qV (by simp) hs) h1 (by omega) (by omega) (by omega) (by decide) fun A' k'=>?_;dsimp only[List.set,List.nil_append];refine aA ?_;refine dP [] [] [0] (by simp) rfl (by decide) (by decide) fun q _ _ hfr=>?_;exact aS (h:=fun w1 st=>⟨_,_,⟨w1,q.Z⟩,rfl,rfl,⟨_,_,rfl,rfl⟩,st.newR (by simp) (by simp) (hfr (by simp) (by simp))⟩)
def aKp(n:Nat)(xs:List Value)(v:Value)(hs:List HP)(_:Piece):Prop:=∃A c,v=.slice A n c∧hs=[HP.own 38 6 (.slice A n c) n xs]
theorem aNC(A:Option Addr)(n c:Nat)(xs:List Value)(w:World)(hs:aI (all w) 6 A n xs)(h1:∀u∈xs,u.oneCell'=true)(hn:n≤1000000):
  Cz 150 #[.slice A n c] w (fun y w'=>(∃v hs q,y=.returned v∧q.w=w'∧aKp n xs v hs q∧kA w hs q)∧Below w.heap.size w w'):=by
 refine aL func150 ntmps150 ?_;refine aA ?_;refine iO 38 6 ?_;refine gH 0 6 80 n (n':=n) (v:=sn) (el:=38) (by kernel_rfl) (by kernel_rfl) (by decide) rfl rfl rfl (qV (by simp) hs) h1 (by omega) (by omega) (by omega) (by decide) fun A' k'=>?_;dsimp only[List.set,List.nil_append];refine aA ?_;refine dP [] [] [0] (by simp) rfl (by decide) (by decide) fun q _ _ hfr=>?_;exact aS (h:=fun w1 st=>⟨_,_,⟨w1,q.Z⟩,rfl,rfl,⟨_,_,rfl,rfl⟩,st.newR (by simp) (by simp) (hfr (by simp) (by simp))⟩)
def aFi(n:Nat)(xs:List Value)(v:Value)(hs:List HP)(_:Piece):Prop:=∃A c,v=.slice A n c∧hs=[HP.own 3 1 (.slice A n c) n xs]
theorem aHf(A:Option Addr)(n c:Nat)(xs:List Value)(w:World)(hs:aI (all w) 1 A n xs)(h1:∀u∈xs,u.oneCell'=true)(hn:n≤1000000):
  Cz 140 #[.slice A n c] w (fun y w'=>(∃v hs q,y=.returned v∧q.w=w'∧aFi n xs v hs q∧kA w hs q)∧Below w.heap.size w w'):=by
 refine aL func140 ntmps140 ?_;refine aA ?_;refine iO 3 1 ?_;refine gH 0 1 8 n (n':=n) (v:=sn) (el:=3) (by kernel_rfl) (by kernel_rfl) (by decide) rfl rfl rfl (qV (by simp) hs) h1 (by omega) (by omega) (by omega) (by decide) fun A' k'=>?_;dsimp only[List.set,List.nil_append];refine aA ?_;refine dP [] [] [0] (by simp) rfl (by decide) (by decide) fun q _ _ hfr=>?_;exact aS (h:=fun w1 st=>⟨_,_,⟨w1,q.Z⟩,rfl,rfl,⟨_,_,rfl,rfl⟩,st.newR (by simp) (by simp) (hfr (by simp) (by simp))⟩)
def aKn(n:Nat)(xs:List Value)(v:Value)(hs:List HP)(_:Piece):Prop:=∃A c,v=.slice A n c∧hs=[HP.own 48 2 (.slice A n c) n xs]
theorem aNA(A:Option Addr)(n c:Nat)(xs:List Value)(w:World)(hs:aI (all w) 2 A n xs)(h1:∀u∈xs,u.oneCell'=true)(hn:n≤1000000):
  Cz 151 #[.slice A n c] w (fun y w'=>(∃v hs q,y=.returned v∧q.w=w'∧aKn n xs v hs q∧kA w hs q)∧Below w.heap.size w w'):=by
 refine aL func151 ntmps151 ?_;refine aA ?_;refine iO 48 2 ?_;refine gH 0 2 8 n (n':=n) (v:=sn) (el:=48) (by kernel_rfl) (by kernel_rfl) (by decide) rfl rfl rfl (qV (by simp) hs) h1 (by omega) (by omega) (by omega) (by decide) fun A' k'=>?_;dsimp only[List.set,List.nil_append];refine aA ?_;refine dP [] [] [0] (by simp) rfl (by decide) (by decide) fun q _ _ hfr=>?_;exact aS (h:=fun w1 st=>⟨_,_,⟨w1,q.Z⟩,rfl,rfl,⟨_,_,rfl,rfl⟩,st.newR (by simp) (by simp) (hfr (by simp) (by simp))⟩)
end
section
structure aTL(p:Piece)(s:aD)(A1:Option Addr)(n1:Nat)(A2:Option Addr)(n2:Nat)(A3:Option Addr)(n3:Nat)(A4:Option Addr)(n4:Nat):Prop where
 jJ:jN (fF p) (tZ (fF p)) 86 6 A1 n1 s.aF
 dom:jN (fF p) vA 50 3 A2 n2 s.domains
 Cj:jN (fF p) yV 88 1 A3 n3 s.aT
 dev:jN (fF p) (sY (fF p)) 38 6 A4 n4 s.aC
section
variable{p q:Piece}{w:World}{s:aD}{A1 A2 A3 A4:Option Addr}{n1 n2 n3 n4:Nat}
theorem wB.Q{cs:Array Value}(h:wB (fF p) s cs):∃A1 n1 k1 A2 n2 k2 A3 n3 k3 A4 n4 k4,cs=#[.slice A1 n1 k1,.slice A2 n2 k2,.slice A3 n3 k3,.slice A4 n4 k4]∧aTL p s A1 n1 A2 n2 A3 n3 A4 n4:=by
 obtain⟨A1,n1,k1,A2,n2,k2,A3,n3,k3,A4,n4,k4,h0,h1,h2,h3,h4⟩:=h;exact⟨A1,n1,k1,A2,n2,k2,A3,n3,k3,A4,n4,k4,h0,h1,h2,h3,h4⟩
end
theorem jN.aG8{α:Type}{p:Piece}{R:α→List Value→Prop}{t:TypeId}{sz n:Nat}{A:Option Addr}{es:List α}(h:jN (fF p) R t sz A n es){k:Nat}{e:α}(hk:es[k]? =some e):
  ∃b off r,A=some ⟨b,off,none⟩∧p.Z b∧r.length=sz∧R e r∧∀f u,r[f]? =some u→p.w.cell? ⟨b,off+k*sz+f,none⟩=some u:=by
 obtain⟨rows,h1,h2,h3⟩:=h
 have hlt:k < n:=by
  rw[h2];rcases Nat.lt_or_ge k es.length with h | h
  ·exact h
  ·rw[List.getElem?_eq_none h] at hk;cases hk
 obtain⟨b,off,hA,hb,hc⟩:=aI.at_ h3 hlt;obtain⟨r,h4,h5,h6⟩:=h1.get hk;refine⟨b,off,r,hA,hb,h4,h5,fun f u hu=>hc f u ?_⟩
 have hf:f < sz:=by
  rw[←h4];rcases Nat.lt_or_ge f r.length with h | h
  ·exact h
  ·rw[List.getElem?_eq_none h] at hu;cases hu
 rw[h6 f hf,hu]
end
section
theorem Bm{N:bZ}{w0:World}{e:Env}{R:List Piece}{H:List HP}{K:Act→World→Prop}{p:HP}(hp:∀w,p.sat (fun _=>False) w)(h:XK N w0 K e R (p::H)):XK N w0 K e R H:=fun a w hr st=>
 h a w hr (st.new (w':=w) (Below.refl _ _) (by
  rw[show(fresh w w).Z=fun _=>False from by funext b;simp only[fresh,eq_iff_iff,iff_false];omega]
  exact hp w))
abbrev AC:=Option Addr×Nat
def Be(c:eF)(a:AC):List Value:=[.int .u8 c.kind,.slice a.1 c.src.length a.2,.int .u64 c.rate,iv c.mul,iv c.div,iv c.lock]
def Bd(d:bO)(p:AC×AC):List Value:=[iv d.clock,iv d.domain,iv d.reset,.int .u32 d.iT,.slice p.1.1 d.aP.length p.1.2,.slice p.2.1 d.fR.length p.2.2]
def Sh(s:aD)(fa:List AC):List (List Value):=List.zipWith Be s.aF fa
def Sd(s:aD)(da:List (AC×AC)):List (List Value):=List.zipWith Bd s.aC da
section
variable{α β:Type}{f:α→β→List Value}{sz:Nat}
theorem aAc{es:List α}{bs:List β}(hl:bs.length=es.length)(hf:∀e a,(f e a).length=sz):(List.zipWith f es bs).length=es.length∧∀r∈List.zipWith f es bs,r.length=sz:=by
 refine⟨by simp;omega,fun r hr=>?_⟩;obtain⟨j,hj⟩:=List.getElem?_of_mem hr;rw[List.getElem?_zipWith] at hj;split at hj<;>cases hj
 exact hf _ _
theorem Tt{es:List α}{bs:List β}{i:Nat}{e:α}{a:β}(he:es[i]? =some e)(ha:bs[i]? =some a):(List.zipWith f es bs)[i]? =some (f e a):=by rw[List.getElem?_zipWith,he,ha]
theorem aFx{es:List α}{bs:List β}{i:Nat}{e:α}{a:β}(he:es[i]? =some e)(hi:i < bs.length):(List.zipWith f es bs).set i (f e a)=List.zipWith f es (bs.set i a):=by
 refine List.ext_getElem? fun j=>?_;rw[List.getElem?_set]
 by_cases hj:i=j
 ·subst hj
  have h1:=(List.getElem?_eq_some_iff.1 he).1
  rw[if_pos rfl,Tt he (List.getElem?_set_self hi),if_pos (by simp;omega)]
 ·rw[if_neg hj,List.getElem?_zipWith,List.getElem?_zipWith,List.getElem?_set_ne hj]
theorem aFy{es:List α}{bs:List β}(hf:∀e a,∀u∈f e a,u.oneCell'=true):∀u∈(List.zipWith f es bs).flatten,u.oneCell'=true:=fun u hu=>by
 obtain⟨r,hr,hu⟩:=List.mem_flatten.1 hu;obtain⟨j,hj⟩:=List.getElem?_of_mem hr;rw[List.getElem?_zipWith] at hj;split at hj<;>cases hj
 exact hf _ _ u hu
end
theorem aSi(c:eF)(a:AC):∀u∈Be c a,u.oneCell'=true:=by simp[Be,Value.oneCell']
theorem aRF(d:bO)(p:AC×AC):∀u∈Bd d p,u.oneCell'=true:=by simp[Bd,Value.oneCell']
theorem aE4{S:xE}:∀{cl:List eF} {rs:List (List Value)},Rows (tZ S) 6 cl rs→∃fa:List AC,fa.length=cl.length∧rs=List.zipWith Be cl fa∧∀(i:Nat) (c:eF) (a:AC),cl[i]? =some c→fa[i]? =some a→S 3 1 a.1 c.src.length (aK c.src)
 | [],[],_=>⟨[],rfl,rfl,fun i c a h=>by simp at h⟩
 | e::es,r::rs,h=>by
  obtain⟨_,⟨A,n,k,hr,hn,hS⟩,h3⟩:=h;obtain⟨fa,h4,h5,h6⟩:=aE4 h3;subst hn;refine⟨(A,k)::fa,by simp[h4],by rw[hr,h5];rfl,fun i c a hc ha=>?_⟩;cases i with
  | zero=>simp at hc ha;subst hc;subst ha;exact hS
  | succ i=>exact h6 i c a (by simpa using hc) (by simpa using ha)
theorem aG6{S:xE}:∀{cl:List eF} {fa:List AC},fa.length=cl.length→(∀(i:Nat) (c:eF) (a:AC),cl[i]? =some c→fa[i]? =some a→S 3 1 a.1 c.src.length (aK c.src))→Rows (tZ S) 6 cl (List.zipWith Be cl fa)
 | [],[],_,_=>trivial
 | c::cl,a::fa,hl,h=>⟨rfl,⟨a.1,_,a.2,rfl,rfl,h 0 c a rfl rfl⟩,aG6 (by simpa using hl) fun i c' a' hc ha=>h (i+1) c' a' (by simpa using hc) (by simpa using ha)⟩
theorem aEv{S:xE}:∀{cl:List bO} {rs:List (List Value)},Rows (sY S) 6 cl rs→∃da:List (AC×AC),da.length=cl.length∧rs=List.zipWith Bd cl da∧∀(i:Nat) (d:bO) (p:AC×AC),cl[i]? =some d→da[i]? =some p→S 48 2 p.1.1 d.aP.length (d.aP.flatMap Rg.cells)∧S 3 1 p.2.1 d.fR.length (aK d.fR)
 | [],[],_=>⟨[],rfl,rfl,fun i c a h=>by simp at h⟩
 | e::es,r::rs,h=>by
  obtain⟨_,⟨A,n,k,A',n',k',hr,hn,hn',hS,hS'⟩,h3⟩:=h;obtain⟨da,h4,h5,h6⟩:=aEv h3;subst hn;subst hn';refine⟨((A,k),(A',k'))::da,by simp[h4],by rw[hr,h5];rfl,fun i d p hc ha=>?_⟩;cases i with
  | zero=>simp at hc ha;subst hc;subst ha;exact⟨hS,hS'⟩
  | succ i=>exact h6 i d p (by simpa using hc) (by simpa using ha)
theorem aG5{S:xE}:∀{cl:List bO} {da:List (AC×AC)},da.length=cl.length→(∀(i:Nat) (d:bO) (p:AC×AC),cl[i]? =some d→da[i]? =some p→S 48 2 p.1.1 d.aP.length (d.aP.flatMap Rg.cells)∧S 3 1 p.2.1 d.fR.length (aK d.fR))→Rows (sY S) 6 cl (List.zipWith Bd cl da)
 | [],[],_,_=>trivial
 | c::cl,a::da,hl,h=>⟨rfl,⟨a.1.1,_,a.1.2,a.2.1,_,a.2.2,rfl,rfl,rfl,(h 0 c a rfl rfl).1,(h 0 c a rfl rfl).2⟩,aG5 (by simpa using hl) fun i c' a' hc ha=>h (i+1) c' a' (by simpa using hc) (by simpa using ha)⟩
theorem aRu{es:List Dom}{rs:List (List Value)}(h:Rows vA 3 es rs):∀u∈rs.flatten,u.oneCell'=true:=fun u hu=>by
 obtain⟨r,hr,hu⟩:=List.mem_flatten.1 hu;obtain⟨j,hj⟩:=List.getElem?_of_mem hr;obtain⟨e,_,_,hR⟩:=h.at_ hj;unfold vA at hR;subst hR;simp only[List.mem_cons,List.not_mem_nil,or_false] at hu;rcases hu with rfl | rfl | rfl<;>rfl
theorem aMi{es:List Int}{rs:List (List Value)}(h:Rows yV 1 es rs):∀u∈rs.flatten,u.oneCell'=true:=fun u hu=>by
 obtain⟨r,hr,hu⟩:=List.mem_flatten.1 hu;obtain⟨j,hj⟩:=List.getElem?_of_mem hr;obtain⟨e,_,_,hR⟩:=h.at_ hj;unfold yV at hR;subst hR;simp only[List.mem_cons,List.not_mem_nil,or_false] at hu;subst hu;rfl
def zC(s:aD)(fa:List AC)(i:Nat)(p:Piece):Prop:=∀(j:Nat) (c:eF) (a:AC),j < i→s.aF[j]? =some c→fa[j]? =some a→aI p 1 a.1 c.src.length (aK c.src)
theorem zC.le{s:aD}{fa:List AC}{i:Nat}(p q:Piece)(hl:p.Le q)(h:zC s fa i p):zC s fa i q:=fun j c a hj hc ha=>(h j c a hj hc ha).le hl
def Du(s:aD)(da:List (AC×AC))(i:Nat)(p:Piece):Prop:=∀(j:Nat) (d:bO) (a:AC×AC),j < i→s.aC[j]? =some d→da[j]? =some a→aI p 2 a.1.1 d.aP.length (d.aP.flatMap Rg.cells)∧aI p 1 a.2.1 d.fR.length (aK d.fR)
theorem Du.le{s:aD}{da:List (AC×AC)}{i:Nat}(p q:Piece)(hl:p.Le q)(h:Du s da i p):Du s da i q:=fun j c a hj hc ha=>⟨(h j c a hj hc ha).1.le hl,(h j c a hj hc ha).2.le hl⟩
end
end Go.Proofs.YtdcdccmpcmjmhaaGreatDoor
