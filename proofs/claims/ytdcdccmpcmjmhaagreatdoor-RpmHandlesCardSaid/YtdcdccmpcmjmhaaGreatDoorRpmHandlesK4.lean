/- package table: the messages that there are. -/
import Derived.KernelRfl
import Derived.Test.YtdcdccmpcmjmhaaGreatDoorProg
import Derived.Test.YtdcdccmpcmjmhaaGreatDoorRpmHandlesK3
namespace Go.Proofs.YtdcdccmpcmjmhaaGreatDoor
set_option linter.all false
set_option maxHeartbeats 4000000
set_option maxRecDepth 20000
open Go.RowKit Go.Proofs.Tryz
section
theorem aIG(L:List (Nat×Nat))(place:Nat→Option (Nat×Nat))(hp:∀i x,L[i]? =some x→place i=some x):∀(ps:List (Nat×Value)) (cs cs':List Value),fK L cs ps=some cs'→Instr.fill place cs.toArray ps=some cs'.toArray
 | [],cs,cs',h=>by cases h;rfl
 | (i, v) :: rest, cs, cs', h => by
  unfold fK at h;unfold Instr.fill;split at h
  ·rename_i off sz hL
   rw[hp _ _ hL];split at h
   ·rename_i hc
    have e1:(decide (v.cells.size≠sz)||decide (off+v.cells.size>cs.toArray.size))=false:=by simp;omega
    simp only[e1,Bool.false_eq_true,if_false]
    have:=aCN v.cells.toList cs off 0
    rw[show v.cells.zipIdx.foldl (fun cs (c,j)=>cs.setIfInBounds (off+j) c) cs.toArray=(gN cs off v.cells.toList).toArray by
     rw[←Array.foldl_toList,Array.toList_zipIdx];exact this]
    exact aIG L place hp rest _ cs' h
   ·cases h
  ·cases h
section
variable{P:Program}{N:cH}{w0:World}{e:Env}{R:List Piece}{H:List HP}{d:Nat}{ty:TypeId}{pos:String}{aH:Array Edge}
theorem aEw{t el:TypeId}{n sz:Nat}{ps:List (Nat×Operand)}{vs:List (Nat×Value)}{zs cs:List Value}(hz:Eb P t zs)(ht:P.underlying t=some (.array n el))(hsz:(P.info? el).map (·.size)=some sz)(hp:e.parts ps=some vs)(hf:fK ((List.range n).map fun i=>(i*sz,sz)) zs vs=some cs):bR P N w0 e R H ⟨some d,.build t ps.toArray,ty,pos,aH,none⟩ (.agg cs.toArray):=
 iN (fun a w hr => by
  have:=hr.parts hp
  obtain⟨i,z,hi,Ew,rfl⟩:=hz;obtain⟨j,hj,rfl⟩:=Option.map_eq_some_iff.1 hsz
  have hfl:=aIG _ (fun i=>some (i*j.size,j.size)) (fun i x hx=>by
   rw[List.getElem?_map] at hx;obtain⟨q,hq,rfl⟩:=Option.map_eq_some_iff.1 hx
   have hlt:i < n:=by
    rcases Nat.lt_or_ge i n with h | h
    ·exact h
    ·rw[List.getElem?_eq_none (by simpa using h)] at hq;cases hq
   rw[List.getElem?_range hlt] at hq;cases hq
   rfl) vs z.cells.toList cs hf
  simp at hfl;simp only[execOp,List.map_toArray,this]
  simp[Instr.build,zeroValue,typeInfo,sizeOf,hi,hj,Ew,run_underlying ht,hfl])
end
def sV(n m a b c:Int):Value:=.agg #[iv n,iv m,.int .u8 a,.int .u8 b,.int .u8 c]
theorem aAR:Du Tryz.prog 371:=Du.of Tryz.underlying371 Tryz.underlying3 Tryz.underlying3 rfl rfl (fun _ _ _ _=>by kernel_rfl)
def Be:Nat→(Int×Int)×Value
 | 3=>((16,0),sV 0 0 0 0 0) | 6=>((17,0),sV 0 0 0 0 0) | 9=>((20,0),sV 0 0 0 0 0) | 12=>((22,0),sV 0 0 0 0 0) | 15=>((16,1),sV 0 0 0 0 0)
 | 19=>((17,4),sV 2 3 100 117 107) | 22=>((17,5),sV 1 0 0 0 0) | 25=>((20,6),sV 1 0 0 0 0) | 29=>((20,7),sV 2 2 111 99 0) | _=>((22,4),sV 2 2 114 97 0)
def Nj:List Nat:=[3,6,9,12,15,19,22,25,29,33]
def aEg:List ((Int×Int)×Value):=Nj.map Be
def aFu(v:Value)(hs:List HP)(_:Piece):Prop:=∃(g:Nat) (sub:List Nat),v=.map (some g)∧sub.Perm Nj∧hs=[HP.vS g (sub.reverse.map Be)]
theorem aI4(w:World):Cz 219 #[] w (fun y w'=>(∃v hs q,y=.returned v∧q.w=w'∧aFu v hs q∧kC w hs q)∧Below w.heap.size w w'):=by
 refine aN func219 ntmps219 ?_;refine cQ ?_;refine eD ?_;refine fV rfl (by decide) ?_;refine dO ?_;refine cQ ?_;refine rI 34 (by kernel_rfl) (by kernel_rfl) ?_;refine fS 1 rfl rfl rfl (by decide) (lX (zs:=[iv 0,iv 0]) (L:=[(0,1),(1,1)]) (iK (by kernel_rfl)) (by kernel_rfl) rfl (by simp[fK,gN,Value.cells];rfl)) (by kernel_rfl) (fun _ _ _ h=>h) (fun _ h=>h) ?_;refine fS 2 rfl rfl rfl (by decide) (lX (zs:=[iv 0,iv 0,.int .u8 0,.int .u8 0,.int .u8 0]) (L:=[(0,1),(1,1),(2,3)]) (iK (by kernel_rfl)) (by kernel_rfl) rfl (by simp[fK,gN,Value.cells];rfl)) (by kernel_rfl) (fun _ _ _ h=>h) (fun _ h=>h) ?_;refine fS 4 rfl rfl rfl (by decide) (lX (zs:=[iv 0,iv 0]) (L:=[(0,1),(1,1)]) (iK (by kernel_rfl)) (by kernel_rfl) rfl (by simp[fK,gN,Value.cells];rfl)) (by kernel_rfl) (fun _ _ _ h=>h) (fun _ h=>h) ?_;refine fS 5 rfl rfl rfl (by decide) (lX (zs:=[iv 0,iv 0,.int .u8 0,.int .u8 0,.int .u8 0]) (L:=[(0,1),(1,1),(2,3)]) (iK (by kernel_rfl)) (by kernel_rfl) rfl (by simp[fK,gN,Value.cells];rfl)) (by kernel_rfl) (fun _ _ _ h=>h) (fun _ h=>h) ?_;refine fS 7 rfl rfl rfl (by decide) (lX (zs:=[iv 0,iv 0]) (L:=[(0,1),(1,1)]) (iK (by kernel_rfl)) (by kernel_rfl) rfl (by simp[fK,gN,Value.cells];rfl)) (by kernel_rfl) (fun _ _ _ h=>h) (fun _ h=>h) ?_;refine fS 8 rfl rfl rfl (by decide) (lX (zs:=[iv 0,iv 0,.int .u8 0,.int .u8 0,.int .u8 0]) (L:=[(0,1),(1,1),(2,3)]) (iK (by kernel_rfl)) (by kernel_rfl) rfl (by simp[fK,gN,Value.cells];rfl)) (by kernel_rfl) (fun _ _ _ h=>h) (fun _ h=>h) ?_;refine fS 10 rfl rfl rfl (by decide) (lX (zs:=[iv 0,iv 0]) (L:=[(0,1),(1,1)]) (iK (by kernel_rfl)) (by kernel_rfl) rfl (by simp[fK,gN,Value.cells];rfl)) (by kernel_rfl) (fun _ _ _ h=>h) (fun _ h=>h) ?_;refine fS 11 rfl rfl rfl (by decide) (lX (zs:=[iv 0,iv 0,.int .u8 0,.int .u8 0,.int .u8 0]) (L:=[(0,1),(1,1),(2,3)]) (iK (by kernel_rfl)) (by kernel_rfl) rfl (by simp[fK,gN,Value.cells];rfl)) (by kernel_rfl) (fun _ _ _ h=>h) (fun _ h=>h) ?_;refine fS 13 rfl rfl rfl (by decide) (lX (zs:=[iv 0,iv 0]) (L:=[(0,1),(1,1)]) (iK (by kernel_rfl)) (by kernel_rfl) rfl (by simp[fK,gN,Value.cells];rfl)) (by kernel_rfl) (fun _ _ _ h=>h) (fun _ h=>h) ?_;refine fS 14 rfl rfl rfl (by decide) (lX (zs:=[iv 0,iv 0,.int .u8 0,.int .u8 0,.int .u8 0]) (L:=[(0,1),(1,1),(2,3)]) (iK (by kernel_rfl)) (by kernel_rfl) rfl (by simp[fK,gN,Value.cells];rfl)) (by kernel_rfl) (fun _ _ _ h=>h) (fun _ h=>h) ?_;refine fS 16 rfl rfl rfl (by decide) (lX (zs:=[iv 0,iv 0]) (L:=[(0,1),(1,1)]) (iK (by kernel_rfl)) (by kernel_rfl) rfl (by simp[fK,gN,Value.cells];rfl)) (by kernel_rfl) (fun _ _ _ h=>h) (fun _ h=>h) ?_;refine fS 17 rfl rfl rfl (by decide) (aEw (n:=3) (sz:=1) (el:=5) (zs:=[.int .u8 0,.int .u8 0,.int .u8 0]) (iK (by kernel_rfl)) (by kernel_rfl) (by kernel_rfl) rfl (by simp[fK,gN,Value.cells,List.range_succ,List.set];rfl)) (by kernel_rfl) (fun _ _ _ h=>h) (fun _ h=>h) ?_;refine fS 18 rfl rfl rfl (by decide) (lX (zs:=[iv 0,iv 0,.int .u8 0,.int .u8 0,.int .u8 0]) (L:=[(0,1),(1,1),(2,3)]) (iK (by kernel_rfl)) (by kernel_rfl) rfl (by simp[fK,gN,Value.cells];rfl)) (by kernel_rfl) (fun _ _ _ h=>h) (fun _ h=>h) ?_;refine fS 20 rfl rfl rfl (by decide) (lX (zs:=[iv 0,iv 0]) (L:=[(0,1),(1,1)]) (iK (by kernel_rfl)) (by kernel_rfl) rfl (by simp[fK,gN,Value.cells];rfl)) (by kernel_rfl) (fun _ _ _ h=>h) (fun _ h=>h) ?_;refine fS 21 rfl rfl rfl (by decide) (lX (zs:=[iv 0,iv 0,.int .u8 0,.int .u8 0,.int .u8 0]) (L:=[(0,1),(1,1),(2,3)]) (iK (by kernel_rfl)) (by kernel_rfl) rfl (by simp[fK,gN,Value.cells];rfl)) (by kernel_rfl) (fun _ _ _ h=>h) (fun _ h=>h) ?_;refine fS 23 rfl rfl rfl (by decide) (lX (zs:=[iv 0,iv 0]) (L:=[(0,1),(1,1)]) (iK (by kernel_rfl)) (by kernel_rfl) rfl (by simp[fK,gN,Value.cells];rfl)) (by kernel_rfl) (fun _ _ _ h=>h) (fun _ h=>h) ?_;refine fS 24 rfl rfl rfl (by decide) (lX (zs:=[iv 0,iv 0,.int .u8 0,.int .u8 0,.int .u8 0]) (L:=[(0,1),(1,1),(2,3)]) (iK (by kernel_rfl)) (by kernel_rfl) rfl (by simp[fK,gN,Value.cells];rfl)) (by kernel_rfl) (fun _ _ _ h=>h) (fun _ h=>h) ?_;refine fS 26 rfl rfl rfl (by decide) (lX (zs:=[iv 0,iv 0]) (L:=[(0,1),(1,1)]) (iK (by kernel_rfl)) (by kernel_rfl) rfl (by simp[fK,gN,Value.cells];rfl)) (by kernel_rfl) (fun _ _ _ h=>h) (fun _ h=>h) ?_;refine fS 27 rfl rfl rfl (by decide) (aEw (n:=3) (sz:=1) (el:=5) (zs:=[.int .u8 0,.int .u8 0,.int .u8 0]) (iK (by kernel_rfl)) (by kernel_rfl) (by kernel_rfl) rfl (by simp[fK,gN,Value.cells,List.range_succ,List.set];rfl)) (by kernel_rfl) (fun _ _ _ h=>h) (fun _ h=>h) ?_;refine fS 28 rfl rfl rfl (by decide) (lX (zs:=[iv 0,iv 0,.int .u8 0,.int .u8 0,.int .u8 0]) (L:=[(0,1),(1,1),(2,3)]) (iK (by kernel_rfl)) (by kernel_rfl) rfl (by simp[fK,gN,Value.cells];rfl)) (by kernel_rfl) (fun _ _ _ h=>h) (fun _ h=>h) ?_;refine fS 30 rfl rfl rfl (by decide) (lX (zs:=[iv 0,iv 0]) (L:=[(0,1),(1,1)]) (iK (by kernel_rfl)) (by kernel_rfl) rfl (by simp[fK,gN,Value.cells];rfl)) (by kernel_rfl) (fun _ _ _ h=>h) (fun _ h=>h) ?_;refine fS 31 rfl rfl rfl (by decide) (aEw (n:=3) (sz:=1) (el:=5) (zs:=[.int .u8 0,.int .u8 0,.int .u8 0]) (iK (by kernel_rfl)) (by kernel_rfl) (by kernel_rfl) rfl (by simp[fK,gN,Value.cells,List.range_succ,List.set];rfl)) (by kernel_rfl) (fun _ _ _ h=>h) (fun _ h=>h) ?_;refine fS 32 rfl rfl rfl (by decide) (lX (zs:=[iv 0,iv 0,.int .u8 0,.int .u8 0,.int .u8 0]) (L:=[(0,1),(1,1),(2,3)]) (iK (by kernel_rfl)) (by kernel_rfl) rfl (by simp[fK,gN,Value.cells];rfl)) (by kernel_rfl) (fun _ _ _ h=>h) (fun _ h=>h) ?_;refine cJ 0 ?_;refine aKO (by decide) fun g1=>?_;refine oA ?_;refine aUp (fuel:=2) Nj Be g1 (by decide) (fun i hi=>?_) (by decide) (by kernel_rfl) (fun l w1 h=>h.tail) (fun sub hsub=>?_)
 ·simp only[Nj,List.mem_cons,List.not_mem_nil,or_false] at hi;rcases hi with rfl | rfl | rfl | rfl | rfl | rfl | rfl | rfl | rfl | rfl
  all_goals exact⟨_,_,_,_,_,_,_,_,_,rfl,Tryz.underlying368,aAR,rfl,rfl,rfl⟩
 rw[aAY hsub];refine cJ 34 ?_;refine cS rfl (by decide) ?_;refine eZ ?_;refine cJ 35 ?_;refine fV rfl (by decide) ?_;refine eZ ?_;refine kH ?_;refine dN ?_;refine Lj ?_;refine dN ?_;refine dP [] [] [0] (by simp) rfl (by decide) (by decide) fun q _ _ hfr=>?_;exact aT (h:=fun w1 st=>⟨_,_,⟨w1,q.Z⟩,rfl,rfl,⟨g1,sub,rfl,hsub,rfl⟩,st.newR (by simp) (by simp) (hfr (by simp) (by simp))⟩)
end
section
def aBT(a b:Int):Int:=IntKind.u32.wrap (BitVec.ofInt 32 a&&& BitVec.ofInt 32 b).toNat
def Zh(a b:Int):Int:=IntKind.u32.wrap (BitVec.ofInt 32 a&&& ~~~ BitVec.ofInt 32 b).toNat
def aAQ(a b:Int):Int:=IntKind.u32.wrap (BitVec.ofInt 32 a||| BitVec.ofInt 32 b).toNat
theorem Pt(a:Int):0≤IntKind.u32.wrap a∧IntKind.u32.wrap a < 4294967296:=by
 unfold IntKind.wrap;simp only[IntKind.signed,IntKind.bits,Bool.false_and,Bool.false_eq_true,if_false];exact⟨Int.emod_nonneg _ (by decide),Int.emod_lt_of_pos _ (by decide)⟩
def Ju(many at':Int):Int:=IntKind.u32.wrap (IntKind.u64.wrap (IntKind.u64.wrap (IntKind.u64.wrap (1*2 ^ min many.toNat 64) - 1)*2 ^ min at'.toNat 64))
def bZ(w low many:Int):Int:=aBT (w.fdiv (2 ^ min low.toNat 32)) (Ju many 0)
def zT(w low many v:Int):Int×Int:=if Zh v (Ju many 0)≠0 then(0,1) else(aAQ (Zh w (Ju many low)) (IntKind.u32.wrap (v*2 ^ min low.toNat 32)),0)
def iY(w low many v:Int):Int×Int:=if v < 0∨IntKind.i64.wrap (1*2 ^ min many.toNat 64)≤v then(0,1) else if(zT w low many (IntKind.u32.wrap v)).2≠0 then(0,1) else((zT w low many (IntKind.u32.wrap v)).1,0)
def okF(low many:Int):Prop:=1≤many∧many≤32∧0≤low∧low≤32 - many
def aFv(many:Int)(v:Value)(w w':World):Prop:=∃g,v=.tuple #[.func (.func 247) #[] #[pt g],.bool true]∧RP (fresh w w') g 0 (iv many)
theorem aEp(a many:Int)(g:Nat)(w:World)(h:fO w g 0 (iv many))(ha:0≤a)(hm:0≤many):
  Cz 247 #[iv a,pt g] w (Rt (.int .u32 (Ju many a)) w):=by
 refine aN func247 ntmps247 ?_;refine aB ?_;refine Pk rfl rfl (by omega) rfl (by decide) ?_;refine aAp rfl rfl rfl (by decide) ?_;refine cS rfl (by decide) ?_;refine Pk rfl rfl (by omega) rfl (by decide) ?_;refine Ef (kd:=.u32) (ds:=.int .u64) (by kernel_rfl) (by kernel_rfl) rfl rfl (by decide) ?_;refine aB ?_;exact aT (h:=fun _ _=>rfl)
theorem aIH(low many:Int)(w:World)(hok:okF low many):Cz 245 #[iv low,iv many] w (fun y w'=>(∃x,y=.returned x∧aFv many x w w')∧Below w.heap.size w w'):=by
 refine aN func245 ntmps245 ?_;refine aA ?_;refine bF fun g1=>?_;refine aA ?_
 (first | refine bU (t:=8) rfl (fun hg=>?_) (fun hg=>?_) | refine sI (t:=8) rfl (fun hg=>?_) (fun hg=>?_))
 ·
  refine aA ?_;exact absurd hok (by unfold okF;omega)
 ·
  refine aA ?_
  (first | refine bU (t:=12) rfl (fun hg=>?_) (fun hg=>?_) | refine sI (t:=12) rfl (fun hg=>?_) (fun hg=>?_))
  ·
   refine aA ?_;exact absurd hok (by unfold okF;omega)
  ·
   refine aA ?_
   (first | refine bU (t:=16) rfl (fun hg=>?_) (fun hg=>?_) | refine sI (t:=16) rfl (fun hg=>?_) (fun hg=>?_))
   ·
    refine aA ?_;exact absurd hok (by unfold okF;omega)
   ·
    refine aA ?_;refine aG rfl (fun h=>?_) (fun h=>?_)
    ·
     refine aA ?_;exact absurd hok (by unfold okF;omega)
    ·
     refine aA ?_;refine kS (vf:=[]) (vc:=[pt g1]) rfl rfl (by decide) ?_;refine aA ?_;refine dP [] [0] [] (by simp) rfl (by decide) (by decide) fun q hq _ hfr=>?_;refine eL rfl rfl rfl fun w1 st=>⟨⟨_,rfl,g1,rfl,(tY (o:=0) (v:=iv many) (hq 0 _ (by simp) rfl) rfl).le (st.mL (by simp) (hfr (by simp) (by simp)))⟩,st.below (by simp)⟩
theorem aI0(w0 low many:Int)(w:World)(hok:okF low many):
  Cz 241 #[.int .u32 w0,iv low,iv many] w (Rt (.tuple #[.int .u32 (bZ w0 low many),iv 0]) w):=by
 refine aN func241 ntmps241 ?_;refine aB ?_;refine jS [] (aFv many) (fun w1 st=>aIH low many w1 hok) ?_;rintro _ w1 q1 ⟨g,rfl,cP⟩ hf _ _
 have cP:=cP.le hf
 clear hf;refine cS rfl (by decide) ?_;refine aAu rfl rfl (by decide) ?_;refine aAu rfl rfl (by decide) ?_;refine fV rfl (by decide) ?_;refine fV rfl (by decide) ?_;refine dO ?_;refine cQ ?_;refine cQ ?_;refine eD ?_;refine cS rfl (by decide) ?_
 (first | refine Lu rfl (by decide) ?_ | refine zJ rfl (by decide) ?_)
 refine dO ?_;refine qB rfl (fun h=>?_) (fun h=>?_)
 ·
  refine aB ?_;exact absurd h (by simp)
 ·
  refine lY ?_;refine dN ?_;refine cQ ?_;refine rI 5 (by kernel_rfl) (by kernel_rfl) ?_;refine gK 0 rfl rfl rfl (mZ rfl) ?_;refine gK 1 rfl rfl rfl (mZ rfl) ?_;refine gK 2 rfl rfl rfl (aIW rfl rfl (by unfold okF at hok;omega) rfl) ?_;refine gK 3 rfl rfl rfl (mZ rfl) ?_;refine cJ 4 ?_;refine zL (f:=247) (fi:=[]) (ca:=[pt g]) (by kernel_rfl) rfl rfl (by decide) (fun w1 st=>aEp 0 many g w1 (cP.le (st.le (by simp))) (by unfold okF at hok;omega) (by unfold okF at hok;omega)) ?_;refine oA ?_;refine cJ 5 ?_;refine aC2 (c:=bZ w0 low many) rfl rfl (fun _=>rfl) (by simp) (by decide) ?_;refine eZ ?_;refine cJ 6 ?_;refine fV rfl (by decide) ?_;refine eZ ?_;refine cJ 7 ?_;refine fV rfl (by decide) ?_;refine eZ ?_;refine kH ?_;refine dN ?_;refine Lj ?_;refine dN ?_;exact eL rfl rfl rfl fun w1 st=>⟨rfl,st.below (by simp)⟩
theorem aDb(w0 low many v:Int)(w:World)(hok:okF low many):
  Cz 244 #[.int .u32 w0,iv low,iv many,.int .u32 v] w (Rt (.tuple #[.int .u32 (zT w0 low many v).1,iv (zT w0 low many v).2]) w):=by
 refine aN func244 ntmps244 ?_;refine aB ?_;refine jS [] (aFv many) (fun w1 st=>aIH low many w1 hok) ?_;rintro _ w1 q1 ⟨g,rfl,cP⟩ hf _ _
 have cP:=cP.le hf
 clear hf;refine cS rfl (by decide) ?_;refine aAu rfl rfl (by decide) ?_;refine aAu rfl rfl (by decide) ?_;refine fV rfl (by decide) ?_;refine fV rfl (by decide) ?_;refine dO ?_;refine cQ ?_;refine cQ ?_;refine eD ?_;refine cS rfl (by decide) ?_
 (first | refine Lu rfl (by decide) ?_ | refine zJ rfl (by decide) ?_)
 refine dO ?_;refine qB rfl (fun h=>?_) (fun h=>?_)
 ·
  refine aB ?_;exact absurd h (by simp)
 ·
  refine aB ?_;refine zL (f:=247) (fi:=[]) (ca:=[pt g]) (by kernel_rfl) rfl rfl (by decide) (fun w1 st=>aEp 0 many g w1 (cP.le (st.le (by simp))) (by unfold okF at hok;omega) (by unfold okF at hok;omega)) ?_;refine aC2 (c:=Zh v (Ju many 0)) rfl rfl (fun _=>rfl) (by simp) (by decide) ?_;refine aB ?_;refine aG rfl (fun h=>?_) (fun h=>?_)
  ·
   refine aB ?_;refine eL rfl rfl rfl fun w1 st=>⟨by rw[zT,if_pos h],st.below (by simp)⟩
  ·
   refine lY ?_;refine dN ?_;refine cQ ?_;refine rI 8 (by kernel_rfl) (by kernel_rfl) ?_;refine gK 0 rfl rfl rfl (mZ rfl) ?_;refine gK 1 rfl rfl rfl (mZ rfl) ?_;refine gK 2 rfl rfl rfl (mZ rfl) ?_;refine gK 5 rfl rfl rfl (mZ rfl) ?_;refine gK 6 rfl rfl rfl (mZ rfl) ?_;refine gK 7 rfl rfl rfl (aRK rfl rfl (by unfold okF at hok;omega) rfl) ?_;refine cJ 3 ?_;refine zL (f:=247) (fi:=[]) (ca:=[pt g]) (by kernel_rfl) rfl rfl (by decide) (fun w1 st=>aEp low many g w1 (cP.le (st.le (by simp))) (by unfold okF at hok;omega) (by unfold okF at hok;omega)) ?_;refine oA ?_;refine gK 4 rfl rfl rfl (aJd (c:=Zh w0 (Ju many low)) rfl rfl (fun _=>rfl) (by simp)) ?_;refine cJ 8 ?_;refine aC2 (c:=aAQ (Zh w0 (Ju many low)) (IntKind.u32.wrap (v*2 ^ min low.toNat 32))) rfl rfl (fun _=>rfl) (by simp) (by decide) ?_;refine eZ ?_;refine cJ 9 ?_;refine fV rfl (by decide) ?_;refine eZ ?_;refine cJ 10 ?_;refine fV rfl (by decide) ?_;refine eZ ?_;refine kH ?_;refine dN ?_;refine Lj ?_;refine dN ?_;refine eL rfl rfl rfl fun w1 st=>⟨by rw[zT,if_neg h],st.below (by simp)⟩
theorem Vr(w0 low many:Int)(w:World)(hok:okF low many):
  Cz 231 #[.int .u32 w0,iv low,iv many] w (Rt (iv (bZ w0 low many)) w):=by
 refine aN func231 ntmps231 ?_;refine aA ?_;refine dJ (fun w1 st=>aI0 w0 low many w1 hok) ?_;refine aA ?_;refine Ef (ds:=.int .u32) (by kernel_rfl) (by kernel_rfl) rfl (iT (by have:=Pt (BitVec.ofInt 32 (w0.fdiv (2 ^ min low.toNat 32))&&& BitVec.ofInt 32 (Ju many 0)).toNat;unfold bZ aBT;omega)) (by decide) ?_;refine aA ?_;exact aT (h:=fun _ _=>rfl)
theorem aAL(w0 low many v:Int)(w:World)(hok:okF low many):
  Cz 237 #[.int .u32 w0,iv low,iv many,iv v] w (Rt (.tuple #[.int .u32 (iY w0 low many v).1,iv (iY w0 low many v).2]) w):=by
 refine aN func237 ntmps237 ?_;refine aB ?_
 (first | refine bU (t:=13) rfl (fun hg=>?_) (fun hg=>?_) | refine sI (t:=13) rfl (fun hg=>?_) (fun hg=>?_))
 ·
  refine aB ?_;refine eL rfl rfl rfl fun w1 st=>⟨by rw[iY,if_pos (.inl hg)],st.below (by simp)⟩
 ·
  refine fP rfl rfl ?_;refine cS rfl (by decide) ?_;refine fP rfl rfl ?_;refine cS rfl (by decide) ?_;refine fP rfl rfl ?_;refine Pk rfl rfl (by unfold okF at hok;omega) rfl (by decide) ?_;refine aB ?_;refine aG rfl (fun h=>?_) (fun h=>?_)
  ·
   refine aB ?_;refine eL rfl rfl rfl fun w1 st=>⟨by rw[iY,if_pos (.inr h)],st.below (by simp)⟩
  ·
   refine lY ?_
   have hno:¬(v < 0∨IntKind.i64.wrap (1*2 ^ min many.toNat 64)≤v):=fun h2=>h2.elim hg h
   refine dN ?_;refine cQ ?_;refine eD ?_;refine cS rfl (by decide) ?_;refine cS rfl (by decide) ?_;refine cS rfl (by decide) ?_;refine cS rfl (by decide) ?_;refine Ef (kd:=.u32) (ds:=.int .i64) (by kernel_rfl) (by kernel_rfl) rfl rfl (by decide) ?_;refine dJ (fun w1 st=>aDb w0 low many (IntKind.u32.wrap v) w1 hok) ?_;refine aB ?_;refine aG rfl (fun h2=>?_) (fun h2=>?_)
   ·
    refine aB ?_;refine eL rfl rfl rfl fun w1 st=>⟨by rw[iY,if_neg hno,if_pos h2],st.below (by simp)⟩
   ·
    refine aB ?_;refine eL rfl rfl rfl fun w1 st=>⟨by rw[iY,if_neg hno,if_neg h2];rfl,st.below (by simp)⟩
end
section
def eB(m t p k:Int):Int×Int:=
 if(iY 0 0 8 m).2≠0 then(0,(iY 0 0 8 m).2)
 else if(iY (iY 0 0 8 m).1 8 2 t).2≠0 then(0,(iY (iY 0 0 8 m).1 8 2 t).2)
 else if(iY (iY (iY 0 0 8 m).1 8 2 t).1 10 8 p).2≠0 then(0,(iY (iY (iY 0 0 8 m).1 8 2 t).1 10 8 p).2)
 else if(iY (iY (iY (iY 0 0 8 m).1 8 2 t).1 10 8 p).1 18 10 k).2≠0 then(0,(iY (iY (iY (iY 0 0 8 m).1 8 2 t).1 10 8 p).1 18 10 k).2)
 else((iY (iY (iY (iY 0 0 8 m).1 8 2 t).1 10 8 p).1 18 10 k).1,0)
def Ht(m t p k:Int):List Value:=[iv m,iv t,iv p,iv k]
def Gk(w:Int):List Value:=if bZ w 28 4≠0 then Ht 0 0 0 0 else Ht (bZ w 0 8) (bZ w 8 2) (bZ w 10 8) (bZ w 18 10)
def uG(w:Int):Int:=if bZ w 28 4≠0 then 2 else 0
theorem Uk(l:List Int):∀u∈qX l,u.oneCell'=true:=by
 intro u hu;simp only[qX,List.mem_map] at hu;obtain⟨_,_,rfl⟩:=hu;rfl
def aAi(l:List Int)(v:Value)(w w':World):Prop:=∃A c,v=.slice A l.length c∧aI (fresh w w') 1 A l.length (qX l)
theorem aNI(m t p k:Int)(w:World):
  Cz 218 #[.agg #[iv m,iv t,iv p,iv k]] w (Rt (.tuple #[.int .u32 (eB m t p k).1,iv (eB m t p k).2]) w):=by
 refine aN func218 ntmps218 ?_;refine aB ?_;refine bF fun g1=>?_;refine aB ?_;refine dJ (fun w1 st=>aAL 0 0 8 m w1 (by unfold okF;omega)) ?_;refine aB ?_;refine aG rfl (fun h1=>?_) (fun h1=>?_)
 ·
  refine aB ?_;refine eL rfl rfl rfl fun w1 st=>⟨by rw[eB,if_pos h1];rfl,st.below (by simp)⟩
 ·
  refine aB ?_;refine dJ (fun w1 st=>aAL (iY 0 0 8 m).1 8 2 t w1 (by unfold okF;omega)) ?_;refine aB ?_;refine aG rfl (fun h2=>?_) (fun h2=>?_)
  ·
   refine aB ?_;refine eL rfl rfl rfl fun w1 st=>⟨by rw[eB,if_neg h1,if_pos h2];rfl,st.below (by simp)⟩
  ·
   refine aB ?_;refine dJ (fun w1 st=>aAL (iY (iY 0 0 8 m).1 8 2 t).1 10 8 p w1 (by unfold okF;omega)) ?_;refine aB ?_;refine aG rfl (fun h3=>?_) (fun h3=>?_)
   ·
    refine aB ?_;refine eL rfl rfl rfl fun w1 st=>⟨by rw[eB,if_neg h1,if_neg h2,if_pos h3];rfl,st.below (by simp)⟩
   ·
    refine aB ?_;refine dJ (fun w1 st=>aAL (iY (iY (iY 0 0 8 m).1 8 2 t).1 10 8 p).1 18 10 k w1 (by unfold okF;omega)) ?_;refine aB ?_;refine aG rfl (fun h4=>?_) (fun h4=>?_)
    ·
     refine aB ?_;refine eL rfl rfl rfl fun w1 st=>⟨by rw[eB,if_neg h1,if_neg h2,if_neg h3,if_pos h4];rfl,st.below (by simp)⟩
    ·
     refine aB ?_;refine eL rfl rfl rfl fun w1 st=>⟨by rw[eB,if_neg h1,if_neg h2,if_neg h3,if_neg h4];rfl,st.below (by simp)⟩
theorem aFW(w0:Int)(w:World):
  Cz 184 #[.int .u32 w0] w (Rt (.tuple #[.agg (Gk w0).toArray,iv (uG w0)]) w):=by
 refine aN func184 ntmps184 ?_;refine aA ?_;refine bT fun g1=>?_;refine aA ?_;refine dJ (fun w1 st=>Vr w0 28 4 w1 (by unfold okF;omega)) ?_;refine aA ?_;refine aG rfl (fun h=>?_) (fun h=>?_)
 ·
  refine aA ?_;refine kd (fL rfl) ?_;refine uE rfl rfl ?_;simp only[fJ,Value.cells,List.set,List.take,List.drop,List.nil_append,List.append_nil,List.length_cons,List.length_nil,List.cons_append,Nat.reduceAdd];refine aA ?_;refine xH rfl (n:=4) (vs:=Ht 0 0 0 0) (by kernel_rfl) rfl rfl (aQ.whole 0 rfl) rfl fun w1 st=>⟨by rw[Gk,uG,if_pos h,if_pos h],st.below (by simp)⟩
 ·
  refine aA ?_;refine dJ (fun w1 st=>Vr w0 0 8 w1 (by unfold okF;omega)) ?_;refine aA ?_;refine dJ (fun w1 st=>Vr w0 8 2 w1 (by unfold okF;omega)) ?_;refine aA ?_;refine dJ (fun w1 st=>Vr w0 10 8 w1 (by unfold okF;omega)) ?_;refine aA ?_;refine dJ (fun w1 st=>Vr w0 18 10 w1 (by unfold okF;omega)) ?_;refine kd (fL rfl) ?_;refine uE rfl rfl ?_;simp only[fJ,Value.cells,List.set,List.take,List.drop,List.nil_append,List.append_nil,List.length_cons,List.length_nil,List.cons_append,Nat.reduceAdd];refine aA ?_;refine xH rfl (n:=4) (vs:=Ht (bZ w0 0 8) (bZ w0 8 2) (bZ w0 10 8) (bZ w0 18 10)) (by kernel_rfl) rfl rfl (aQ.whole 0 rfl) rfl fun w1 st=>⟨by rw[Gk,uG,if_neg h,if_neg h],st.below (by simp)⟩
theorem aMI(w0:Int)(A:Option Addr)(n c:Nat)(zs:List Int)(w:World)(hs:aI (all w) 1 A n (qX zs))(hn:n=zs.length)(hn2:n≤1000000):Cz 187 #[.int .u32 w0,.slice A n c] w (fun y w'=>(∃x,y=.returned x∧aAi (w0::zs) x w w')∧Below w.heap.size w w'):=by
 refine aN func187 ntmps187 ?_;refine aB ?_;refine aF9 1 4 (el:=23) (c:=n+1) (k0:=1) (uR:=.i64) (by kernel_rfl) (by kernel_rfl) rfl (by rw[Int.natCast_add];rfl) (by omega) (by omega) (by decide) fun g1=>?_;refine aB ?_;refine eK fun g2=>?_;refine gM 1 1 4 1 (n':=1) (el:=23) (by kernel_rfl) (by kernel_rfl) (by decide) rfl rfl rfl (nS 0 rfl rfl) (by simp[Value.oneCell']) rfl (by omega) (by omega) (by decide) fun A1 c1=>?_;dsimp only[List.set];refine aB ?_;refine gM 1 1 4 n (n':=n+1) (el:=23) (by kernel_rfl) (by kernel_rfl) (by decide) rfl rfl rfl (qZ (by simp) hs) (Uk _) (by omega) (by omega) (by omega) (by decide) fun A2 c2=>?_;dsimp only[List.set];refine aB ?_;refine dP [] [1] [] (by simp) rfl (by decide) (by decide) fun q hq _ hfr=>?_;obtain⟨F2,Cj,Cb⟩:=hq 1 _ (by simp) rfl;obtain⟨Am,cm,hBm,cR⟩:=vD (Y:=q.Z) Cj Cb;cases hBm;subst hn;refine nA rfl rfl fun w1 st=>⟨⟨_,rfl,A2,c2,rfl,?_⟩,st.below (by simp)⟩
 exact aI.le cR (st.mL (by simp) (hfr (by simp) (by simp)))
def aCu(l:List Int)(v:Value)(w w':World):Prop:=∃A c,v=.tuple #[.slice A l.length c,iv 0]∧aI (fresh w w') 1 A l.length (qX l)
theorem aSo(m t p k:Int)(A:Option Addr)(n c:Nat)(zs:List Int)(w:World)(hs:aI (all w) 1 A n (qX zs))(hn:n=zs.length)(hn2:n≤1000000)(hok:(eB m t p k).2=0):Cz 162 #[.agg #[iv m,iv t,iv p,iv k],.slice A n c] w (fun y w'=>(∃x,y=.returned x∧aCu ((eB m t p k).1::zs) x w w')∧Below w.heap.size w w'):=by
 refine aN func162 ntmps162 ?_;refine aB ?_;refine bF fun g1=>?_;refine aB ?_;refine dJ (fun w1 st=>aNI m t p k w1) ?_;refine aB ?_;refine aG rfl (fun h=>?_) (fun h=>?_)
 ·
  refine aB ?_;exact absurd hok h
 ·
  refine aB ?_;refine jS [] (aAi ((eB m t p k).1::zs)) (fun w1 st=>aMI (eB m t p k).1 A n c zs w1 (hs.le (st.le (by simp))) hn hn2) ?_;rintro _ w1 q1 ⟨A1,c1,rfl,h1⟩ hf _ tN
  have tN:=tN (by simp)
  have h1:=h1.le hf
  clear hf;refine aB ?_;refine eL rfl rfl rfl fun w1 st=>⟨⟨_,rfl,A1,c1,rfl,aI.le h1 (st.mL (by simp) tN)⟩,st.below (by simp)⟩
theorem aLd(pr m id v k:Int)(w:World)(hok:(eB m 0 pr k).2=0):Cz 93 #[.agg #[iv pr,iv m,.int .u32 id,.int .u32 v],iv k] w (fun y w'=>(∃x,y=.returned x∧aCu [(eB m 0 pr k).1,id,v] x w w')∧Below w.heap.size w w'):=by
 refine aN func93 ntmps93 ?_;refine aB ?_;refine bF fun g1=>?_;refine aB ?_;refine eK fun g2=>?_;refine jS [] (aCu ((eB m 0 pr k).1::[id,v])) (fun w1 st=>aSo m 0 pr k (some ⟨g2,0,none⟩) 2 2 [id,v] w1 (st.rT (i:=0) rfl rfl) rfl (by omega) hok) ?_;rintro _ w1 q1 ⟨A1,c1,rfl,h1⟩ hf _ tN
 have tN:=tN (by simp)
 have h1:=h1.le hf
 clear hf;refine aB ?_;refine eL rfl rfl rfl fun w1 st=>⟨⟨_,rfl,A1,c1,rfl,aI.le h1 (st.mL (by simp) tN)⟩,st.below (by simp)⟩
end
section
def eM(w:Int):Int:=if bZ w 28 4≠0 then 0 else bZ w 0 8
def Fo(w:Int):Int:=if bZ w 28 4≠0 then 0 else bZ w 8 2
def eF(w:Int):Int:=if bZ w 28 4≠0 then 0 else bZ w 10 8
def aB1(w:Int):Int:=if bZ w 28 4≠0 then 0 else bZ w 18 10
theorem aFX(w:Int):Gk w=Ht (eM w) (Fo w) (eF w) (aB1 w):=by
 unfold Gk eM Fo eF aB1;split<;>rfl
structure lN where
 n:Int
 m:Int
 a:Int
 b:Int
 c:Int
def lN.v(f:lN):Value:=sV f.n f.m f.a f.b f.c
def lN.act(f:lN)(v:Int):Int:=if v=0 then f.a else if v=1 then f.b else f.c
def qO(p m:Int):Option lN:=
 if m=0 then(if p=16∨p=17∨p=20∨p=22 then some ⟨0,0,0,0,0⟩ else none)
 else if m=1 then(if p=16 then some ⟨0,0,0,0,0⟩ else none)
 else if m=4 then(if p=17 then some ⟨2,3,100,117,107⟩ else if p=22 then some ⟨2,2,114,97,0⟩ else none)
 else if m=5 then(if p=17 then some ⟨1,0,0,0,0⟩ else none)
 else if m=6 then(if p=20 then some ⟨1,0,0,0,0⟩ else none)
 else if m=7 then(if p=20 then some ⟨2,2,111,99,0⟩ else none)
 else none
theorem aQC(p m:Int):lS aEg (p,m)=(qO p m).map lN.v:=by
 unfold aEg Nj qO;simp only[List.map_cons,List.map_nil,Be,Mi,Prod.mk.injEq]
 by_cases h0:m=0
 ·subst h0
  by_cases xB:p=16
  ·subst xB;simp[lN.v]
  ·by_cases De:p=17
   ·subst De;simp[lN.v]
   ·by_cases yP:p=20
    ·subst yP;simp[lN.v]
    ·by_cases Nh:p=22
     ·subst Nh;simp[lN.v]
     ·simp[xB,De,yP,Nh,lS,Ne.symm xB,Ne.symm De,Ne.symm yP,Ne.symm Nh]
 ·by_cases h1:m=1
  ·subst h1
   by_cases xB:p=16
   ·subst xB;simp[lN.v]
   ·simp[xB,Ne.symm xB,lS]
  ·by_cases h4:m=4
   ·subst h4
    by_cases De:p=17
    ·subst De;simp[lN.v]
    ·by_cases Nh:p=22
     ·subst Nh;simp[lN.v]
     ·simp[De,Nh,Ne.symm De,Ne.symm Nh,lS]
   ·by_cases h5:m=5
    ·subst h5
     by_cases De:p=17
     ·subst De;simp[lN.v]
     ·simp[De,Ne.symm De,lS]
    ·by_cases h6:m=6
     ·subst h6
      by_cases yP:p=20
      ·subst yP;simp[lN.v]
      ·simp[yP,Ne.symm yP,lS]
     ·by_cases h7:m=7
      ·subst h7
       by_cases yP:p=20
       ·subst yP;simp[lN.v]
       ·simp[yP,Ne.symm yP,lS]
      ·simp[h0,h1,h4,h5,h6,h7,Ne.symm h0,Ne.symm h1,Ne.symm h4,Ne.symm h5,Ne.symm h6,Ne.symm h7,lS]
def eH(p m:Int):lN:=(qO p m).getD ⟨0,0,0,0,0⟩
theorem aQB{sub:List Nat}(h:sub.Perm Nj)(p m:Int):lS (sub.reverse.map Be) (p,m)=(qO p m).map lN.v:=by
 rw[←aQC]
 have hp:(sub.reverse.map Be).Perm aEg:=((List.reverse_perm sub).trans h).map Be
 refine aOB hp ?_ _;exact((hp.map (·.1)).nodup_iff).2 (by decide)
theorem Sb{sub:List Nat}(h:sub.Perm Nj)(p m:Int):(lS (sub.reverse.map Be) (p,m)).getD (sV 0 0 0 0 0)=(eH p m).v∧(lS (sub.reverse.map Be) (p,m)).isSome=(qO p m).isSome:=by
 rw[aQB h];unfold eH;cases qO p m<;>exact⟨rfl,rfl⟩
theorem aI2(p m : Int) : ((eH p m).n = 0 ∨ (eH p m).n = 1 ∨ (eH p m).n = 2) ∧ 0 ≤ (eH p m).m ∧ (eH p m).m ≤ 3 ∧ (∀ v, 0 ≤ v → v < (eH p m).m → (eH p m).act v = 107 → p = 17) ∧
  ((eH p m).m≠0→p=17∨p=20∨p=22):=by
 unfold eH qO
 by_cases h0:m=0
 ·by_cases h:p=16∨p=17∨p=20∨p=22<;>simp[h0,h]<;>omega
 ·by_cases h1:m=1
  ·by_cases h:p=16<;>simp[h1,h]<;>omega
  ·by_cases h4:m=4
   ·by_cases h:p=17
    ·simp[h4,h]
    ·by_cases h':p=22
     ·subst h4 h';simp only[lN.act];refine⟨by simp,by simp,by simp,fun v h1 h2 h3=>?_,by simp⟩;simp at h2 h3;split at h3
      ·omega
      ·split at h3<;>omega
     ·simp[h4,h,h'];omega
   ·by_cases h5:m=5
    ·by_cases h:p=17<;>simp[h5,h]<;>omega
    ·by_cases h6:m=6
     ·by_cases h:p=20<;>simp[h6,h]<;>omega
     ·by_cases h7:m=7
      ·by_cases h:p=20
       ·subst h7 h;simp only[lN.act];refine⟨by simp,by simp,by simp,fun v h1 h2 h3=>?_,by simp⟩;simp at h2 h3;split at h3
        ·omega
        ·split at h3<;>omega
       ·simp[h7,h];omega
      ·simp[h0,h1,h4,h5,h6,h7];omega
def Me(s:aC)(k:Nat):Bool:=(s.domains[k]?).any (·.ret)
def kindOf(s:aC)(k:Nat):Int:=((s.aF[k]?).map (·.kind)).getD 0
def qY(s:aC)(k:Nat):Prop:=kindOf s k=112∨kindOf s k=103
instance(s:aC)(k:Nat):Decidable (qY s k):=inferInstanceAs (Decidable (_∨_))
def zU(s:aC)(p k:Int)(id:Nat):Prop:=(k=107∧Me s id=false)∨(p=20∧¬qY s id)
instance(s:aC)(p k:Int)(id:Nat):Decidable (zU s p k id):=inferInstanceAs (Decidable (_∨_))
def wD(s:aC)(p:Int)(f:lN)(id v:Int):Int×Int×Int:=
 if(tD s p:Int)≤id then(-4,0,0) else if f.m=0 then(0,0,0) else if f.m≤v then(-2,0,0) else if zU s p (f.act v) id.toNat then(-2,0,0) else(0,f.act v,id)
def dZ(s:aC)(l:List Int):Int×Int×Int:=
 match l with
 | []=>(-10,0,0)
 | w::r=>
  if uG w≠0∨Fo w≠0 then(-10,0,0)
  else if(qO (eF w) (eM w)).isSome=false then(-1,0,0)
  else if(r.length:Int)≠(eH (eF w) (eM w)).n then(-10,0,0)
  else if(eH (eF w) (eM w)).n=0 then(0,0,0)
  else wD s (eF w) (eH (eF w) (eM w)) (r.getD 0 0) (r.getD ((eH (eF w) (eM w)).n.toNat - 1) 0)
def aEM(a:Int×Int×Int):Value:=.tuple #[.int .i32 a.1,.agg #[.int .u8 a.2.1,iv a.2.2]]
def wH(l:List Int):Prop:=∀x∈l,0≤x∧x < 4294967296
theorem aI.u32{w:World}{A:Option Addr}{n:Nat}{l:List Int}(h:aI (all w) 1 A n (qX l))(hn:0 < n):∃b off,A=some ⟨b,off,none⟩∧∀(i:Nat) (x:Int),l[i]? =some x→fO w b (off+i) (.int .u32 x):=by
 obtain⟨b,off,hA,hb,hc⟩:=h.2 hn;refine⟨b,off,hA,fun i x hx=>⟨hb,hc i _ ?_⟩⟩;simp only[qX,List.getElem?_map,hx,Option.map_some]
section
variable{P:Program}{N:lN}{w0:World}{e:Env}{R:List Piece}{H:List HP}
theorem aTH{nn:Nat}{fn:Func}{Post:Ending→World→Prop}{t u n b:Nat}{s:TypeId}{vs:List Value}{v':Value}(hr:fn.results=#[.tmp u,.cell t s])(hs:Ep P s n=true)(hn:vs.length=n)(ht:e.get t=some (pt b))(hrd:aQ w0 R H b 0 vs)(hu:e.get u=some v')(h:∀w,St w0 R H w→Post (.returned (.tuple #[v',.agg vs.toArray])) w):XK ⟨nn,[]⟩ w0 (bodyPost P fn Post .ret) e R H:=fun a w cP st=>by
 have hl:=Vb (P:=P) hs hn (hrd w st)
 refine bodyPost_ret (v:=.tuple #[v',.agg vs.toArray]) ?_ cP.defers (h w st)
 have ha:=cP.get t _ ht
 have hb:=cP.get u _ hu
 simp only[Instr.loadAt,Instr.sureAddr,Sem.run_bind,Sem.run_pure,Result.andThen_ok] at hl;simp only[results,hr];simp[ha,hb,asAddr,hl]
end
end
section
theorem aOs(s:aC)(A1 A2 A3 A4:Option Addr)(n1 k1 n2 k2 n3 k3 n4 k4:Nat)(p:Int){w0:World}(w:World)(hS:fM w0 s A1 n1 A2 n2 A3 n3 A4 n4):Cz 220 #[.agg #[.slice A1 n1 k1,.slice A2 n2 k2,.slice A3 n3 k3,.slice A4 n4 k4],iv p] w (Rt (iv (tD s p)) w):=by
 obtain⟨h1,h2,h3,h4⟩:=And.intro hS.nJ (And.intro hS.nT (And.intro hS.pS hS.oK));subst h1 h2 h3 h4;exact aOr s A1 A2 A3 A4 k1 k2 k3 k4 p w
theorem pZ{nn:Nat}{w:World}{e:Env}{R:List Piece}{H:List HP}{fn:Func}{t u n b:Nat}{s:TypeId}{vs:List Value}{v v':Value}(hv:v=.tuple #[v',.agg vs.toArray])(hr:fn.results=#[.tmp u,.cell t s]:=by rfl)(hs:Ep Tryz.prog s n=true:=by kernel_rfl)(ht:e.get t=some (pt b):=by rfl)(hrd:aQ w R H b 0 vs:=by first | exact aQ.whole 0 rfl | exact aQ.whole 1 rfl | exact aQ.whole 2 rfl | exact aQ.whole 3 rfl)(hn:vs.length=n:=by rfl)(hu:e.get u=some v':=by rfl)(hR:all w∈R:=by simp):XK ⟨nn,[]⟩ w (bodyPost Tryz.prog fn (Rt v w) .ret) e R H:=
 aTH hr hs hn ht hrd hu fun w9 st=>⟨by rw[hv],st.below hR⟩
theorem aNv(s:aC)(A1 A2 A3 A4:Option Addr)(n1 k1 n2 k2 n3 k3 n4 k4:Nat)(A:Option Addr)(n c:Nat)(l:List Int)(w:World)(hS:fM w s A1 n1 A2 n2 A3 n3 A4 n4)(hl:aI (all w) 1 A n (qX l))(hn:n=l.length)(hn2:n≤1000000)(hu:wH l):
  Cz 165 #[.agg #[.slice A1 n1 k1,.slice A2 n2 k2,.slice A3 n3 k3,.slice A4 n4 k4],.slice A n c] w (Rt (aEM (dZ s l)) w):=by
 refine aN func165 ntmps165 ?_;refine aB ?_;refine bF fun g1=>?_;refine aB ?_;refine bT fun g2=>?_;refine aB ?_;refine aG rfl (fun h=>?_) (fun h=>?_)
 ·obtain rfl:l=[]:=List.eq_nil_of_length_eq_zero (by omega);refine aB ?_
  (refine pZ ?_;rfl)
 obtain⟨b,off,rfl,hcell⟩:=hl.u32 (by omega)
 obtain⟨w1,r,rfl⟩:∃x r,l=x::r:=by
  cases l with
  | nil=>exact absurd (by simpa using hn) (show ¬n=0 by omega)
  | cons x r=>exact⟨x,r,rfl⟩
 have hw1:=hcell 0 w1 rfl
 have hlen:n=r.length+1:=by simpa using hn
 refine aB ?_;refine aU (v:=.tuple #[.agg #[iv (eM w1),iv (Fo w1),iv (eF w1),iv (aB1 w1)],iv (uG w1)]) (fun w2 st=>(aFW w1 w2).mono fun x w3 hx=>aFi hx (by rw[aFX];rfl)) ?_;refine aB ?_;refine bT fun g3=>?_;refine aB ?_;refine bU (t:=26) rfl (fun hg=>?_) (fun hg=>?_)
 ·refine aB ?_
  (refine pZ ?_;rw[dZ,if_pos (.inl hg)];rfl)
 refine aB ?_;refine aG rfl (fun h4=>?_) (fun h5=>?_)
 ·refine aB ?_
  (refine pZ ?_;rw[dZ,if_pos (.inr h4)];rfl)
 have h4:¬(uG w1≠0∨Fo w1≠0):=fun hh=>hh.elim hg h5
 refine lY ?_;refine dN ?_;refine Tm (α:=Nat) (fun g4=>[(9,.bool (qO (eF w1) (eM w1)).isSome),(8,pt g4),(7,iv (uG w1)),(6,pt g3),(5,pt g2),(2,pt g1),(1,.slice (some ⟨b,off,none⟩) n c)]) (fun g4=>[HP.aE g4 366 [iv (eH (eF w1) (eM w1)).n,iv (eH (eF w1) (eM w1)).m,.int .u8 (eH (eF w1) (eM w1)).a,.int .u8 (eH (eF w1) (eM w1)).b,.int .u8 (eH (eF w1) (eM w1)).c],HP.aE g3 334 [iv (eM w1),iv (Fo w1),iv (eF w1),iv (aB1 w1)],HP.aE g2 136 [.int .u8 0,iv 0],HP.aE g1 30 [.slice A1 n1 k1,.slice A2 n2 k2,.slice A3 n3 k3,.slice A4 n4 k4]]) (fun _=>True) ?_ fun g4 _=>?_
 ·skip
  refine rI 12 (by kernel_rfl) (by kernel_rfl) ?_;refine gK 1 rfl rfl rfl (Fw (off:=2) (by kernel_rfl) rfl) ?_;refine gK 2 rfl rfl rfl (Ky rfl) ?_;refine gK 3 rfl rfl rfl (Fw (off:=0) (by kernel_rfl) rfl) ?_;refine gK 4 rfl rfl rfl (Ky rfl) ?_;refine gK 5 rfl rfl rfl (lX (zs:=[iv 0,iv 0]) (L:=[(0,1),(1,1)]) (iK (by kernel_rfl)) (by kernel_rfl) rfl (by simp[fK,gN,Value.cells];rfl)) ?_;refine Lm 0 10 rfl rfl (by kernel_rfl) ?_ ?_
  ·refine fR aFu (fun w2 _=>aI4 w2) ?_;rintro _ _ q1 ⟨gm,sub,rfl,hsub,rfl⟩ _;simp only[List.cons_append,List.nil_append];refine iG ?_;refine iA ?_;refine lA (fun _ h=>h.bE.tail) ?_;refine Lm 6 10 rfl rfl (by kernel_rfl) ?_ ?_
   ·refine aC0 (v:=.agg #[iv (eH (eF w1) (eM w1)).n,iv (eH (eF w1) (eM w1)).m,.int .u8 (eH (eF w1) (eM w1)).a,.int .u8 (eH (eF w1) (eM w1)).b,.int .u8 (eH (eF w1) (eM w1)).c]) (et:=366) (l:=sub.reverse.map Be) Tryz.underlying368 aAR (z:=sV 0 0 0 0 0) (by kernel_rfl) rfl (k:=(eF w1,eM w1)) rfl (fun w2 st=>st.vS (i:=0) rfl) (Sb hsub _ _).1 (Sb hsub _ _).2 (by decide) ?_;refine iG ?_;refine iA ?_;refine lA (fun _ h=>h.bE.tail) ?_;refine fS 7 rfl rfl rfl (by decide) (mZ rfl) (by kernel_rfl) (fun _ _ _ h=>h) (fun _ h=>h.bE.tail) ?_;refine fS 8 rfl rfl rfl (by decide) (Dl rfl rfl) (by kernel_rfl) (fun _ _ _ h=>h) (fun _ h=>h.bE.tail) ?_;refine fS 9 rfl rfl rfl (by decide) (Dl rfl rfl) (by kernel_rfl) (fun _ _ _ h=>h) (fun _ h=>h.bE.tail) ?_;refine cJ 10 ?_;refine bT fun g4=>?_;refine iG ?_;refine iA ?_;refine lA (fun _ h=>h.bE.tail.tail) ?_;refine cJ 11 ?_;refine uE rfl rfl ?_;simp only[fJ,Value.cells,List.set,List.take,List.drop,List.nil_append,List.append_nil,List.length_cons,List.length_nil,List.cons_append,Nat.reduceAdd];refine iG ?_;refine iA ?_;refine lA (fun _ h=>h.bE.tail.tail) ?_;refine cJ 12 ?_;refine fV rfl (by decide) ?_;refine eZ ?_;refine kH ?_;refine dN ?_;exact iB g4
   ·refine bT fun g4=>?_;refine iG ?_;refine iA ?_;refine lA (fun _ h=>h.bE.tail.tail) ?_;refine cJ 6 ?_;refine aC0 (v:=.agg #[iv (eH (eF w1) (eM w1)).n,iv (eH (eF w1) (eM w1)).m,.int .u8 (eH (eF w1) (eM w1)).a,.int .u8 (eH (eF w1) (eM w1)).b,.int .u8 (eH (eF w1) (eM w1)).c]) (et:=366) (l:=sub.reverse.map Be) Tryz.underlying368 aAR (z:=sV 0 0 0 0 0) (by kernel_rfl) rfl (k:=(eF w1,eM w1)) rfl (fun w2 st=>st.vS (i:=1) rfl) (Sb hsub _ _).1 (Sb hsub _ _).2 (by decide) ?_;refine iG ?_;refine iA ?_;refine lA (fun _ h=>h.bE.tail.tail) ?_;refine fS 7 rfl rfl rfl (by decide) (mZ rfl) (by kernel_rfl) (fun _ _ _ h=>h) (fun _ h=>h.bE.tail.tail) ?_;refine fS 8 rfl rfl rfl (by decide) (Dl rfl rfl) (by kernel_rfl) (fun _ _ _ h=>h) (fun _ h=>h.bE.tail.tail) ?_;refine fS 9 rfl rfl rfl (by decide) (Dl rfl rfl) (by kernel_rfl) (fun _ _ _ h=>h) (fun _ h=>h.bE.tail.tail) ?_;refine cJ 11 ?_;refine uE rfl rfl ?_;simp only[fJ,Value.cells,List.set,List.take,List.drop,List.nil_append,List.append_nil,List.length_cons,List.length_nil,List.cons_append,Nat.reduceAdd];refine iG ?_;refine iA ?_;refine lA (fun _ h=>h.bE.tail.tail) ?_;refine cJ 12 ?_;refine fV rfl (by decide) ?_;refine eZ ?_;refine kH ?_;refine dN ?_;exact iB g4
  ·refine bT fun g4=>?_;refine iG ?_;refine iA ?_;refine lA (fun _ h=>h.tail) ?_;refine cJ 0 ?_;refine fR aFu (fun w2 _=>aI4 w2) ?_;rintro _ _ q1 ⟨gm,sub,rfl,hsub,rfl⟩ _;simp only[List.cons_append,List.nil_append];refine iG ?_;refine iA ?_;refine lA (fun _ h=>h.bE.tail.tail) ?_;refine cJ 6 ?_;refine aC0 (v:=.agg #[iv (eH (eF w1) (eM w1)).n,iv (eH (eF w1) (eM w1)).m,.int .u8 (eH (eF w1) (eM w1)).a,.int .u8 (eH (eF w1) (eM w1)).b,.int .u8 (eH (eF w1) (eM w1)).c]) (et:=366) (l:=sub.reverse.map Be) Tryz.underlying368 aAR (z:=sV 0 0 0 0 0) (by kernel_rfl) rfl (k:=(eF w1,eM w1)) rfl (fun w2 st=>st.vS (i:=0) rfl) (Sb hsub _ _).1 (Sb hsub _ _).2 (by decide) ?_;refine iG ?_;refine iA ?_;refine lA (fun _ h=>h.bE.tail.tail) ?_;refine fS 7 rfl rfl rfl (by decide) (mZ rfl) (by kernel_rfl) (fun _ _ _ h=>h) (fun _ h=>h.bE.tail.tail) ?_;refine fS 8 rfl rfl rfl (by decide) (Dl rfl rfl) (by kernel_rfl) (fun _ _ _ h=>h) (fun _ h=>h.bE.tail.tail) ?_;refine fS 9 rfl rfl rfl (by decide) (Dl rfl rfl) (by kernel_rfl) (fun _ _ _ h=>h) (fun _ h=>h.bE.tail.tail) ?_;refine cJ 11 ?_;refine uE rfl rfl ?_;simp only[fJ,Value.cells,List.set,List.take,List.drop,List.nil_append,List.append_nil,List.length_cons,List.length_nil,List.cons_append,Nat.reduceAdd];refine iG ?_;refine iA ?_;refine lA (fun _ h=>h.bE.tail.tail) ?_;refine cJ 12 ?_;refine fV rfl (by decide) ?_;refine eZ ?_;refine kH ?_;refine dN ?_;exact iB g4
 obtain⟨tN,Ko,hF3,hF4,hF5⟩:=aI2 (eF w1) (eM w1);refine aB ?_;cases h7:(qO (eF w1) (eM w1)).isSome
 ·refine aB ?_
  (refine pZ ?_;rw[dZ,if_neg h4,if_pos h7];rfl)
 have h7':¬(qO (eF w1) (eM w1)).isSome=false:=by rw[h7];simp
 refine aB ?_;refine aG rfl (fun h9=>?_) (fun h9=>?_)
 ·refine aB ?_
  (refine pZ ?_;rw[dZ,if_neg h4,if_neg h7',if_pos (by omega)];rfl)
 have h9':¬(r.length:Int)≠(eH (eF w1) (eM w1)).n:=by omega
 refine aB ?_;refine aG rfl (fun h11=>?_) (fun h11=>?_)
 ·refine aB ?_
  (refine pZ ?_;rw[dZ,if_neg h4,if_neg h7',if_neg h9',if_pos h11];rfl)
 obtain⟨id,hid⟩:∃x,r[0]? =some x:=⟨r[0]'(by omega),List.getElem?_eq_getElem _⟩
 obtain⟨v,hv⟩:∃x,r[(eH (eF w1) (eM w1)).n.toNat - 1]? =some x:=⟨r[(eH (eF w1) (eM w1)).n.toNat - 1]'(by omega),List.getElem?_eq_getElem _⟩
 have aPA:r.getD 0 0=id:=by rw[List.getD_eq_getElem?_getD,hid];rfl
 have hv':r.getD ((eH (eF w1) (eM w1)).n.toNat - 1) 0=v:=by rw[List.getD_eq_getElem?_getD,hv];rfl
 have aUX:=hu id (List.mem_cons_of_mem _ (List.mem_of_getElem? hid))
 have Xp:=hu v (List.mem_cons_of_mem _ (List.mem_of_getElem? hv))
 have aUW:=hcell 1 id (by simpa using hid)
 have Xm:=hcell (eH (eF w1) (eM w1)).n.toNat v (by
  obtain⟨t,ht⟩:∃t,(eH (eF w1) (eM w1)).n.toNat=t+1:=⟨(eH (eF w1) (eM w1)).n.toNat - 1,by omega⟩
  rw[ht] at hv⊢;simpa using hv)
 have hread:dZ s (w1::r)=wD s (eF w1) (eH (eF w1) (eM w1)) id v:=by rw[dZ,if_neg h4,if_neg h7',if_neg h9',if_neg h11,aPA,hv']
 refine aB ?_;refine aU (fun w2 st=>aOs s A1 A2 A3 A4 n1 k1 n2 k2 n3 k3 n4 k4 (eF w1) w2 hS) ?_;refine aB ?_;refine aG rfl (fun Bd=>?_) (fun Bd=>?_)
 ·refine aB ?_
  (refine pZ ?_;rw[hread,wD,if_pos Bd];rfl)
 refine aB ?_;refine aG rfl (fun xB=>?_) (fun xB=>?_)
 ·refine aB ?_
  (refine pZ ?_;rw[hread,wD,if_neg Bd,if_pos xB];rfl)
 refine aB ?_;refine aG rfl (fun Xy=>?_) (fun Xy=>?_)
 ·refine aB ?_
  (refine pZ ?_;rw[hread,wD,if_neg Bd,if_neg xB,if_pos Xy];rfl)
 have hact:([iv (eH (eF w1) (eM w1)).n,iv (eH (eF w1) (eM w1)).m,.int .u8 (eH (eF w1) (eM w1)).a,.int .u8 (eH (eF w1) (eM w1)).b,.int .u8 (eH (eF w1) (eM w1)).c]:List Value)[2+v.toNat]? =some (.int .u8 ((eH (eF w1) (eM w1)).act v)):=by
  unfold lN.act;rcases(by omega:v=0∨v=1∨v=2) with rfl | rfl | rfl<;>rfl
 have aP2:=hF4 v Xp.1 (by omega)
 generalize hk:(eH (eF w1) (eM w1)).act v=k at *;refine aB ?_;refine kd (bP rfl (Rd.aE 0 rfl hact)) ?_;refine aB ?_;refine bT fun g5=>?_;refine oL 0 rfl ?_;dsimp only[List.set];refine dO ?_;refine Tm (α:=Unit) (fun _=>[(12,pt g5),(5,pt g2)]) (fun _=>[HP.aE g5 136 [.int .u8 k,iv id],HP.aE g2 136 [.int .u8 0,iv 0]]) (fun _=>¬zU s (eF w1) k id.toNat) ?_ fun _ mI=>?_
 ·refine aB ?_;refine bU (t:=91) rfl (fun hg=>?_) (fun hg=>?_)
  ·have hp:=aP2 hg
   obtain⟨dm,tM⟩:∃d,s.domains[id.toNat]? =some d:=⟨s.domains[id.toNat]'(by rw[hp] at Bd;simp only[tD,if_true] at Bd;omega),List.getElem?_eq_getElem _⟩
   obtain⟨bD,oD,rD,rfl,_,rfl,hRD⟩:=hS.dom.row tM
   have Kb:Me s id.toNat=dm.ret:=by rw[Me,tM];rfl
   have hlD:=hS.nT
   have aUL:=(List.getElem?_eq_some_iff.1 tM).1
   have Nc:=hRD.at_ (j:=2) rfl
   cases hr:dm.ret
   all_goals
    rw[hr] at Nc Kb;refine aB ?_
   ·(refine pZ ?_;rw[hread,wD,if_neg Bd,if_neg xB,if_neg Xy,hk,if_pos (.inl ⟨hg,Kb⟩)];rfl)
   ·refine bU (t:=104) rfl (fun yP=>by omega) (fun yP=>?_);refine aB ?_;exact iB () (hg:=fun h=>by simp_all [zU])
  ·refine aB ?_;refine bU (t:=104) rfl (fun hp=>?_) (fun hp=>?_)
   ·obtain⟨ck,yL⟩:∃d,s.aF[id.toNat]? =some d:=⟨s.aF[id.toNat]'(by rw[hp] at Bd;simp only[tD,if_true] at Bd;simp at Bd;omega),List.getElem?_eq_getElem _⟩
    obtain⟨bC,oC,rC,rfl,_,⟨cA,cn,aVc,rfl,_⟩,hC⟩:=hS.jO.row yL
    have aBq:kindOf s id.toNat=ck.kind:=by rw[kindOf,yL];rfl
    have hlC:=hS.nJ
    have aUM:=(List.getElem?_eq_some_iff.1 yL).1
    refine aB ?_;refine aU (fun w2 st=>aLD ck.kind _ _ _ _ _ _ _ w2) ?_
    by_cases lT:ck.kind=112∨ck.kind=103
    ·rw[decide_eq_true lT];refine aB ?_;exact iB () (hg:=fun h=>by simp_all [zU,qY])
    ·rw[decide_eq_false lT];refine aB ?_
     (refine pZ ?_;rw[hread,wD,if_neg Bd,if_neg xB,if_neg Xy,hk,if_pos (.inr ⟨hp,fun hc=>lT (by rw[←aBq];exact hc)⟩)];rfl)
   ·refine aB ?_;exact iB () (hg:=fun h=>by simp_all [zU])
 refine aB ?_;refine aAa [2] ?_;refine aB ?_
 (refine pZ ?_;rw[hread,wD,if_neg Bd,if_neg xB,if_neg Xy,hk,if_neg mI];rfl)
end
section
def Jf(l:List Nat)(v:Value)(w w':World):Prop:=∃A c,v=.slice A l.length c∧aI (fresh w w') 1 A l.length (aL (dM l))
theorem aOx{l:List Nat}{k i:Nat}(h:l[k]? =some i):(aL (dM l))[k]? =some (iv (i:Int)):=by simp[aL,dM,h]
theorem aBF(q : Piece)(s : aC)(A1 A2 A3 A4 : Option Addr)(n1 k1 n2 k2 n3 k3 n4 k4 : Nat)(c : Nat)(w : World)(oN : sY q s A1 n1 A2 n2 A3 n3 A4 n4)(hm : s.wX)(hq : q.Le (all w))(hc : c < s.aF.length) :
    Cz 153 #[.agg #[.slice A1 n1 k1,.slice A2 n2 k2,.slice A3 n3 k3,.slice A4 n4 k4],iv (c:Int)] w (Tt (Jf (fZ s c)) w):=by
  obtain⟨rfl,rfl,rfl,rfl⟩:=oN.len;refine aN func153 ntmps153 ?_;refine Bn q (by simp) hq ?_;refine aB ?_;refine bF fun g1=>?_;refine aB ?_;refine iR 3 1 ?_;refine bL [(1,iv (c:Int)),(5,sn),(2,pt g1)] ?_;refine aB ?_;refine eJ (fun m e R H=>∃(cur:Nat) (l:List Nat) (A:Option Addr) (k:Nat),cur < s.aF.length∧l.length≤s.aF.length∧m=s.aF.length - l.length∧fZ s c=l++lK s (s.aF.length - l.length) cur∧e=[(1,iv (cur:Int)),(5,.slice A l.length k),(2,pt g1)]∧R=[q,all w]∧H=[HP.own 3 1 (.slice A l.length k) l.length (aL (dM l)),HP.aE g1 30 [.slice A1 s.aF.length k1,.slice A2 s.domains.length k2,.slice A3 s.aR.length k3,.slice A4 s.aD.length k4]]) s.aF.length ⟨c,[],none,0,hc,by simp,rfl,rfl,rfl,rfl,rfl⟩ fun m e R H hI=>?_;obtain⟨cur,l,A,k,Ba,pU,rfl,jU,rfl,rfl,rfl⟩:=hI;refine cQ ?_;refine aAb 22 (l.length < s.aF.length) ?_ ?_
  · skip
    refine eD ?_;refine cS rfl (by decide) ?_;refine aFD rfl rfl (by decide) ?_;refine cS rfl (by decide) ?_;refine bU (t:=8) rfl (fun hg=>?_) (fun hg=>?_)
    ·
      refine fP rfl rfl ?_;refine cS rfl (by decide) ?_;refine fP rfl rfl ?_;refine qE (off:=0) (by kernel_rfl) rfl (by decide) ?_;refine fP rfl rfl ?_;refine Ee rfl ?_;refine fP rfl rfl ?_;refine Ed (el:=86) (by kernel_rfl) rfl (by decide) ?_;refine fP rfl rfl ?_;refine Pm rfl rfl (by decide) ?_
      (first | refine qC rfl rfl (by decide) ?_ | refine qD rfl rfl (by decide) ?_)
      refine cS rfl (by decide) ?_;refine bU (t:=15) rfl (fun hg=>?_) (fun hg=>?_)
      ·
        refine fP rfl rfl ?_;refine cS rfl (by decide) ?_;refine fP rfl rfl ?_;refine Ed (el:=3) (by kernel_rfl) rfl (by decide) ?_;refine fP rfl rfl ?_;refine qE (off:=0) (by kernel_rfl) rfl (by decide) ?_;refine fP rfl rfl ?_;refine Ee rfl ?_;refine fP rfl rfl ?_;refine Ed (el:=86) (by kernel_rfl) rfl (by decide) ?_;refine fP rfl rfl ?_;refine Pm rfl rfl (by decide) ?_
        (first | refine qC rfl rfl (by decide) ?_ | refine qD rfl rfl (by decide) ?_)
        refine dO ?_;exact Tg (by repeat (first | exact trivial | refine⟨rfl,?_⟩)) (Sa rfl (by omega))
      ·
        refine fW rfl rfl rfl (by decide) ?_;refine fW rfl rfl rfl (by decide) ?_;refine fW rfl rfl rfl (by decide) ?_;refine fW rfl rfl rfl (by decide) ?_;refine fW rfl rfl rfl (by decide) ?_;refine fW rfl rfl rfl (by decide) ?_
        (first | refine qC rfl rfl (by decide) ?_ | refine qD rfl rfl (by decide) ?_)
        refine dO ?_;exact Tg (by repeat (first | exact trivial | refine⟨rfl,?_⟩)) (Ya rfl (by omega))
    ·
      refine fW rfl rfl rfl (by decide) ?_;refine fW rfl rfl rfl (by decide) ?_;refine fW rfl rfl rfl (by decide) ?_;refine fW rfl rfl rfl (by decide) ?_;refine fW rfl rfl rfl (by decide) ?_
      (first | refine qC rfl rfl (by decide) ?_ | refine qD rfl rfl (by decide) ?_)
      refine cS rfl (by decide) ?_;refine fW rfl rfl rfl (by decide) ?_;refine fW rfl rfl rfl (by decide) ?_;refine fW rfl rfl rfl (by decide) ?_;refine fW rfl rfl rfl (by decide) ?_;refine fW rfl rfl rfl (by decide) ?_;refine fW rfl rfl rfl (by decide) ?_
      (first | refine qC rfl rfl (by decide) ?_ | refine qD rfl rfl (by decide) ?_)
      refine dO ?_;exact Tg (by repeat (first | exact trivial | refine⟨rfl,?_⟩)) (Ya rfl (by omega))
  refine aG rfl (fun h=>?_) (fun h=>?_)
  ·
    refine aB ?_
    have hlt:l.length < s.aF.length:=h
    obtain⟨x,hx⟩:∃x,s.aF[cur]? =some x:=⟨_,List.getElem?_eq_getElem Ba⟩
    obtain⟨k0,Kh⟩:∃k0,s.aF.length - l.length=k0+1:=⟨s.aF.length - l.length - 1,by omega⟩
    rw[Kh,aJu hx] at jU
    have hn9:=hm.nc
    have hfit:=(hm.aF cur x hx).1
    refine aB ?_;refine eK fun g2=>?_;refine gM 1 1 8 1 (n':=l.length+1) (el:=3) (by kernel_rfl) (by kernel_rfl) (by decide) rfl rfl rfl (nS 0 rfl rfl) (by simp[Value.oneCell']) rfl (by omega) (by omega) (by decide) fun A' k'=>?_;dsimp only[List.set];rw[show aL (dM l)++[Value.int .i64 (cur:Int)]=aL (dM (l++[cur])) by simp[aL,dM]];refine aY [1,2] rfl (by decide) (R':=[q,all w]) (by simp) ?_;refine fV rfl (by decide) ?_;refine dO ?_;refine cQ ?_;refine cQ ?_;obtain⟨bC,oC,rC,rfl,hzC,_,hR,hcC⟩:=oN.jO.zR hx;obtain⟨As,ns,ks,rfl,rfl,Ka⟩:=hR;refine eD ?_;refine qE (off:=0) (by kernel_rfl) rfl (by decide) ?_;refine Ee rfl ?_;refine cS rfl (by decide) ?_;refine kd (dat (cur) (oC+cur*6)) ?_;refine qE (off:=1) (by kernel_rfl) rfl (by decide) ?_;refine jG (by kernel_rfl) rfl (Rd.ro (p:=q) (by simp) hzC (hcC 1 _ rfl)) (by decide) ?_;refine Ed (el:=3) (by kernel_rfl) rfl (by decide) ?_;refine aFE rfl rfl (by decide) ?_;refine dO ?_;refine aG rfl (fun h0=>?_) (fun h0=>?_)
    ·
      refine aB ?_
      have hs0:x.src=[]:=List.eq_nil_of_length_eq_zero (by have:((x.src.length:Nat):Int)=0:=h0;omega)
      rw[hs0] at jU
      have wZ:(l++[cur])=fZ s c:=jU.symm
      refine dP [] [0] [] (by simp) rfl (by decide) (by decide) fun qf Wo _ hfr=>?_;obtain⟨Ff,sf,zf⟩:=Wo 0 _ (by simp) rfl;obtain⟨Av,cv,hv,vV⟩:=vD (Y:=qf.Z) sf zf
      exact nA rfl rfl fun w1 st=>⟨⟨_,rfl,by
        rw[←wZ];unfold Jf;rw[hv]
        exact⟨Av,cv,by simp,by simpa using aI.le vV (st.mL (by simp) (hfr (by simp) (by simp)))⟩⟩,st.below (by simp)⟩
    ·
      refine lY ?_;refine dN ?_
      obtain⟨f,fs,hs0⟩:∃f fs,x.src=f::fs:=by
        cases hs0:x.src with
        | nil=>exact absurd (by rw[hs0];rfl) h0
        | cons f fs=>exact⟨f,fs,rfl⟩
      have hf:=hfit f (by rw[hs0];simp)
      obtain⟨f',rfl⟩:∃f':Nat,f=(f':Int):=⟨f.toNat,by omega⟩
      rw[hs0] at jU;obtain⟨bS,oS,rfl,hzS,hcS⟩:=Ka.2 (by rw[hs0];simp);refine eD ?_;refine qE (off:=0) (by kernel_rfl) rfl (by decide) ?_;refine Ee rfl ?_;refine cS rfl (by decide) ?_;refine kd (dat (cur) (oC+cur*6)) ?_;refine qE (off:=1) (by kernel_rfl) rfl (by decide) ?_;refine jG (by kernel_rfl) rfl (Rd.ro (p:=q) (by simp) hzC (hcC 1 _ rfl)) (by decide) ?_;refine aKX 0 oS (el:=3) (sz:=1) (by kernel_rfl) (by kernel_rfl) rfl rfl rfl (by rw[hs0];simp) (by omega) (by decide) ?_;refine jG (by kernel_rfl) rfl (Rd.ro (p:=q) (by simp) hzS (hcS 0 _ (by rw[hs0];rfl))) (by decide) ?_;refine aB ?_;exact bL [(1,iv (f':Int)),(5,.slice A' (l.length+1) k'),(2,pt g1)] (iF (s.aF.length - (l.length+1)) (by omega) ⟨f',l++[cur],A',k',by omega,by simp;omega,by simp,by rw[jU];simp[show s.aF.length - (l.length+1)=k0 by omega],by simp,rfl,by simp⟩)
  ·
    refine aB ?_
    have hge:¬l.length < s.aF.length:=h
    rw[show s.aF.length - l.length=0 by omega] at jU
    have wZ:l=fZ s c:=by rw[jU];simp[lK]
    refine dP [] [0] [] (by simp) rfl (by decide) (by decide) fun qf Wo _ hfr=>?_;obtain⟨Ff,sf,zf⟩:=Wo 0 _ (by simp) rfl;obtain⟨Av,cv,hv,vV⟩:=vD (Y:=qf.Z) sf zf
    exact nA rfl rfl fun w1 st=>⟨⟨_,rfl,by
      rw[←wZ];unfold Jf;rw[hv]
      exact⟨Av,cv,rfl,aI.le vV (st.mL (by simp) (hfr (by simp) (by simp)))⟩⟩,st.below (by simp)⟩
 in
end
section
def Ml(l:List Int)(x:Int):Int:=if x∈l then(l.idxOf x:Int) else -1
theorem aPn{l:List Int}{x:Int}{i:Nat}(hno:∀j y,j < i→l[j]? =some y→y≠x)(h:l[i]? =some x):Ml l x=i:=by
 have hm:x∈l:=List.mem_of_getElem? h
 rw[Ml,if_pos hm]
 have h2:l.idxOf x=i:=by
  induction l generalizing i with
  | nil=>simp at h
  | cons a r ih =>
   cases i with
   | zero=>simp at h;subst h;simp
   | succ i=>
    have ha:a≠x:=hno 0 a (by omega) rfl
    simp at h
    have hmr:x∈r:=List.mem_of_getElem? h
    have hi:=ih (fun j y hj hy=>hno (j+1) y (by omega) (by simpa using hy)) h hmr
    have hb:(a==x)=false:=by simpa using ha
    rw[List.idxOf_cons,hb];simp[hi]
 rw[h2]
theorem aPl{l:List Int}{x:Int}(hno:∀(j:Nat) (y:Int),l[j]? =some y→y≠x):Ml l x= -1:=by
 rw[Ml,if_neg];intro hm;obtain⟨j,hj⟩:=List.getElem?_of_mem hm;exact hno j x hj rfl
theorem aPm(l:List Int)(x:Int):decide (0≤Ml l x)=decide (x∈l):=by
 unfold Ml
 by_cases h:x∈l<;>simp[h]
def yX(s:aC)(c id:Int):Bool:=decide (id∈dM (fZ s c.toNat))
def Cv(s:aC)(k id:Int)(d:bQ):Bool:=
 if k=100∨k=107 then decide (d.domain=id) else if k=111 then yX s d.clock id else if k=97 then decide (d.reset=id) else false
def Dm(s:aC)(wt:List Int)(k id:Int)(i:Nat):Bool:=decide (0 < (wt[i]?).getD 0)&&((s.aD[i]?).any fun d=>Cv s k id d)
def Ir(s:aC)(wt:List Int)(k id:Int):Bool:=(List.range s.aD.length).any (Dm s wt k id)
theorem aBM{s:aC}{wt:List Int}{k id:Int}{i:Nat}(hi:i < s.aD.length)(h:Dm s wt k id i=true):Ir s wt k id=true:=by
 rw[Ir,List.any_eq_true];exact⟨i,List.mem_range.2 hi,h⟩
theorem aED{s:aC}{wt:List Int}{k id:Int}(h:∀i,i < s.aD.length→Dm s wt k id i=false):Ir s wt k id=false:=by
 rw[Ir,List.any_eq_false];intro i hi;simp[h i (List.mem_range.1 hi)]
def yN(s:aC)(x y:bM)(k id:Int)(i:Nat):Bool:=
 if k=100∨k=107 then((s.domains[i]?).any fun d=>decide (d.above=id))&&sJ x y k i
 else decide ((i:Int)≠id)&&(sJ x y k i&&yX s i id)
def Km(s:aC)(k:Int):Nat:=if k=100∨k=107 then s.domains.length else if k=111 then s.aF.length else 0
def Kn(s:aC)(x y:bM)(k id:Int):Bool:=(List.range (Km s k)).any (yN s x y k id)
theorem aIv{s:aC}{x y:bM}{k id:Int}{i:Nat}(hi:i < Km s k)(h:yN s x y k id i=true):Kn s x y k id=true:=by
 rw[Kn,List.any_eq_true];exact⟨i,List.mem_range.2 hi,h⟩
theorem Xs{s:aC}{x y:bM}{k id:Int}(h:∀i,i < Km s k→yN s x y k id i=false):Kn s x y k id=false:=by
 rw[Kn,List.any_eq_false];intro i hi;simp[h i (List.mem_range.1 hi)]
def Il(s:aC)(x y:bM)(ag:Nat)(k id:Int):Bool:=pQ (if ag=0 then y else x) k id||Kn s x y k id
def jK(s:aC)(x y:bM)(wt:List Int)(ag:Nat)(l:List Int):Int×Int×Int:=
 if(dZ s l).1≠0∨(dZ s l).2.1=0∨pQ (if ag=0 then x else y) (dZ s l).2.1 (dZ s l).2.2=decide (rX (dZ s l).2.1) then((dZ s l).1,0,0)
 else if rX (dZ s l).2.1 then
  (if(dZ s l).2.1=117∧(s.domains[(dZ s l).2.2.toNat]?).any (fun d=>decide (d.above≠ -1)&& !sJ x y 117 d.above)=true then(-3,0,0) else(0,(dZ s l).2))
 else if Il s x y ag (dZ s l).2.1 (dZ s l).2.2 then(-3,0,0)
 else if Ir s wt (dZ s l).2.1 (dZ s l).2.2 then(-6,0,0)
 else(0,(dZ s l).2)
def Qx(k:Int):Int:=if k=117∨k=100∨k=107 then 17 else if k=99∨k=111 then 20 else 22
def Wb(k:Int):Prop:=k=117∨k=100∨k=107∨k=99∨k=111∨k=114∨k=97
theorem aQD(p m:Int)(v:Int)(h0:0≤v)(hv:v < (eH p m).m):Qx ((eH p m).act v)=p∧Wb ((eH p m).act v):=by
 have h1:∀f:lN,qO p m=some f→v < f.m→Qx (f.act v)=p∧Wb (f.act v):=by
  intro f hf hv;unfold qO at hf
  have hv3:f.m≤3:=by
   have:=(aI2 p m).2.2.1
   unfold eH qO at this;rw[hf] at this;exact this
  rcases(by omega:v=0∨v=1∨v=2) with rfl | rfl | rfl<;>
  ·repeat' split at hf
   all_goals first
    | (cases hf;done)
    | (cases hf;simp at hv;done)
    | (cases hf;simp_all [Qx,Wb,lN.act])
 unfold eH at hv⊢;cases h:qO p m with
 | none=>rw[h] at hv;simp at hv;omega
 | some f=>rw[h] at hv;exact h1 f h hv
theorem aGU{s : aC}{l : List Int}(hu : wH l) : ((dZ s l).2.1 = 0 ∧ (dZ s l).2.2 = 0) ∨ ((dZ s l).1 = 0 ∧ Wb (dZ s l).2.1 ∧ 0 ≤ (dZ s l).2.2 ∧ (dZ s l).2.2 < (tD s (Qx (dZ s l).2.1) : Int) ∧
  ((dZ s l).2.1=107→Me s (dZ s l).2.2.toNat=true)∧(Qx (dZ s l).2.1=20→qY s (dZ s l).2.2.toNat)):=by
 unfold dZ;split
 ·exact .inl ⟨rfl,rfl⟩
 ·rename_i w r
  split
  ·exact .inl ⟨rfl,rfl⟩
  ·split
   ·exact .inl ⟨rfl,rfl⟩
   ·split
    ·exact .inl ⟨rfl,rfl⟩
    ·split
     ·exact .inl ⟨rfl,rfl⟩
     ·have hd : ∀ i, 0 ≤ r.getD i 0 := fun i => by
       rw[List.getD_eq_getElem?_getD];cases hi:r[i]? with
       | none=>exact Int.le_refl _
       | some x=>exact(hu x (List.mem_cons_of_mem _ (List.mem_of_getElem? hi))).1
      have hid:=hd 0
      have hv:=hd ((eH (eF w) (eM w)).n.toNat - 1)
      generalize r.getD 0 0=id at *;generalize r.getD ((eH (eF w) (eM w)).n.toNat - 1) 0=v at *;unfold wD;split
      ·exact .inl ⟨rfl,rfl⟩
      ·split
       ·exact .inl ⟨rfl,rfl⟩
       ·split
        ·exact .inl ⟨rfl,rfl⟩
        ·split
         ·exact .inl ⟨rfl,rfl⟩
         ·rename_i h1 h2 h3 h4
          obtain⟨a1,a2⟩:=aQD (eF w) (eM w) v hv (by omega);refine .inr ⟨rfl,a2,hid,by dsimp only;rw[a1];omega,fun h5=>?_,fun h5=>?_⟩
          ·dsimp only at h5⊢;cases hr:Me s id.toNat with
           | true=>rfl
           | false=>exact absurd (.inl ⟨h5,hr⟩) h4
          ·dsimp only at h5⊢;rw[a1] at h5;exact Decidable.byContradiction fun hs=>h4 (.inr ⟨h5,hs⟩)
theorem aI.int{w:World}{A:Option Addr}{n:Nat}{l:List Int}(h:aI (all w) 1 A n (aL l))(hn:0 < n):∃b off,A=some ⟨b,off,none⟩∧∀(i:Nat) (x:Int),l[i]? =some x→fO w b (off+i) (iv x):=by
 obtain⟨b,off,hA,hb,hc⟩:=h.2 hn;refine⟨b,off,hA,fun i x hx=>⟨hb,hc i _ ?_⟩⟩;simp only[aL,List.getElem?_map,hx,Option.map_some]
end
section
section
variable{N:cH}{w0:World}{e e':Env}{R R' R0:List Piece}{H H' H0:List HP}{fuel:Nat}{listed:Array Bool}{Q:Exit→Act→World→Prop}
def zMv(ops:Array Oper):List Nat:=(List.range ops.size).filter fun i=>match ops[i]? with
 | some o=>aAK o.op||(o.guard.isSome&&aGl o.op)
 | none=>false
theorem aEU{id:Nat}{l:List Oper}(k:XB Tryz.prog N w0 l.toArray Q R H (zMv l.toArray) fuel listed e' R' H')(hk:XB Tryz.prog N w0 l.toArray Q R H (zMv l.toArray) fuel listed e' R' H'→XL 0 N w0 l.toArray Q R H (zMv l.toArray) l.length (Array.replicate l.length false) e R H:=by
  intro h
  repeat (first | refine Zr ?_ | refine Zq ?_ | refine Zo ?_ | refine Zp ?_ | refine Zn ?_ | refine Zm ?_ | refine Zs ?_)
  exact h)(hm:Tryz.prog.follows .mixedOrders=true:=by kernel_rfl)(hs:Region.noSelect l.toArray=true:=by kernel_rfl):XK N w0 ((Code.region id l.toArray true).wp Tryz.prog Q) e R H:=iO (zMv l.toArray) (hk k) hm hs
theorem Om{ops:Array Oper}{Z:List Nat}{p:Prop}[Decidable p](t:Nat)(ht:e.get t=some (.bool (decide p)))(h1:p→XB Tryz.prog N w0 ops Q R0 H0 Z fuel listed ((t,.bool true)::e) R H)(h2:¬p→XB Tryz.prog N w0 ops Q R0 H0 Z fuel listed ((t,.bool false)::e) R H):XB Tryz.prog N w0 ops Q R0 H0 Z fuel listed e R H:=by
 intro up a w hr st
 by_cases hp:p
 ·rw[decide_eq_true hp] at ht;exact h1 hp up a w (hr.as ht) st
 ·rw[decide_eq_false hp] at ht;exact h2 hp up a w (hr.as ht) st
theorem Iz{ops:Array Oper}{Z:List Nat}{d j t:Nat}{op:Op}{ty:TypeId}{pos:String}{aH:Array Edge}{want b:Bool}(i:Nat)(k:XB Tryz.prog N w0 ops Q R0 H0 Z fuel (listed.setIfInBounds i true) ((d,undef)::e) R H)(hr:Region.ready .any ops listed=[i]:=by decide+kernel)(hi:ops[i]? =some ⟨some d,op,ty,pos,aH,some (j,want)⟩:=by rfl)(hj:(ops[j]?).bind (·.dst)=some t:=by rfl)(ht:e.get t=some (.bool b):=by rfl)(hb:b= !want:=by rfl)(hd:d < N.n:=by decide)(hS:∀w,St w0 R H w→St w0 R0 H0 w:=by exact fun _ h=>h):XB Tryz.prog N w0 ops Q R0 H0 Z (fuel+1) listed e R H:=
 aJ i (fW hj ht hb hd (bB k hS)) hr hi
theorem Og{P:Program}{c:Code}(E:Nat→Env)(n:Nat)(hr:∀i,i≤n→XK N w0 (c.wp P (Exit.then (LpK (α:=Unit) N w0 n (fun i _=>E i) R (fun _ _=>H) (fun _ _=>True) i) Q)) (E i) R H)(hE:(E 0).Sub e:=by repeat (first | exact trivial | refine⟨rfl,?_⟩))(hC:lZ [] H H:=by exact Ts):XK N w0 ((Code.loop c).wp P Q) e R H:=
 qA (α:=Unit) (fun i _=>E i) (fun _ _=>H) (fun _ _=>True) n () trivial (fun i _ hi _=>hr i hi) hE hC
end
end
section
theorem aPk(A:Option Addr)(n c:Nat)(l:List Int)(x:Int)(w:World)(hs:aI (all w) 1 A n (aL l))(hn:n=l.length)(hn2:n≤1000000):
  Cz 238 #[.slice A n c,iv x] w (Rt (iv (Ml l x)) w):=by
 refine aN func238 ntmps238 ?_;refine aB ?_;refine bL [(8,iv 0),(7,iv n),(1,iv x),(0,.slice A n c)] ?_;refine aB ?_;refine eJ (fun m e R H=>∃(i:Nat),i≤n∧m=n - i∧(∀(j:Nat) (y:Int),j < i→l[j]? =some y→y≠x)∧e=[(8,iv i),(7,iv n),(1,iv x),(0,.slice A n c)]∧R=[all w]∧H=[]) n ⟨0,by omega,rfl,(fun j y hj=>absurd hj (Nat.not_lt_zero j)),rfl,rfl,rfl⟩ fun m e R H hI=>?_;obtain⟨i,hi,rfl,hno,rfl,rfl,rfl⟩:=hI;refine aB ?_;refine aG rfl (fun h=>?_) (fun h=>?_)
 ·
  refine aB ?_
  have hil:i < n:=by have h':(i:Int) < (n:Int):=h;omega
  obtain⟨y,hy⟩:∃y,l[i]? =some y:=⟨l[i]'(by omega),List.getElem?_eq_getElem _⟩
  obtain⟨b,off,rfl,hc⟩:=hs.int (by omega)
  have Kk:=hc i y hy
  refine aB ?_;refine aG rfl (fun h2=>?_) (fun h2=>?_)
  ·
   refine aB ?_;exact aT (h:=fun _ _=>by rw[aPn (i:=i) hno (h2▸hy)])
  ·
   refine aB ?_
   exact dX (n - (i+1)) ⟨i+1,by omega,rfl,(fun j y' hj hy'=>by
    rcases Nat.lt_or_ge j i with h1 | h1
    ·exact hno j y' h1 hy'
    ·have hji:j=i:=by omega
     subst hji;rw[hy] at hy';cases hy'
     exact fun h=>h2 h.symm),rfl,rfl,rfl⟩
 ·
  refine aB ?_
  have hin:i=n:=by have h':¬(i:Int) < (n:Int):=h;omega
  subst hin;exact aT (h:=fun _ _=>by rw[aPl (fun j y hy=>hno j y (by have:=(List.getElem?_eq_some_iff.1 hy).1;omega) hy)])
theorem aJg(A:Option Addr)(n c:Nat)(l:List Int)(x:Int)(w:World)(hs:aI (all w) 1 A n (aL l))(hn:n=l.length)(hn2:n≤1000000):
  Cz 222 #[.slice A n c,iv x] w (Rt (.bool (decide (x∈l))) w):=by
 refine aN func222 ntmps222 ?_;refine aB ?_;refine dJ (fun w1 st=>aPk A n c l x w1 (hs.le (st.le (by simp))) hn hn2) ?_;refine aB ?_;exact aT (h:=fun _ _=>by rw[←aPm])
theorem aSZ(q:Piece)(s:aC)(A1 A2 A3 A4:Option Addr)(n1 k1 n2 k2 n3 k3 n4 k4:Nat)(Aw:Option Addr)(nw cw:Nat)(wt:List Int)(k id:Int)(w:World)(oN:sY q s A1 n1 A2 n2 A3 n3 A4 n4)(hm:s.wX)(hq:q.Le (all w))(hw:aI (all w) 1 Aw nw (aL wt))(hnw:nw=wt.length):
  Cz 170 #[.agg #[.slice A1 n1 k1,.slice A2 n2 k2,.slice A3 n3 k3,.slice A4 n4 k4],.slice Aw nw cw,.agg #[.int .u8 k,iv id]] w (Rt (.bool (Ir s wt k id)) w):=by
 obtain⟨rfl,rfl,rfl,rfl⟩:=oN.len;refine aN func170 ntmps170 ?_;refine Bn q (by simp) hq ?_;refine aB ?_;refine bF fun g1=>?_;refine aB ?_;refine bF fun g2=>?_;refine aB ?_;refine Gd (α:=Unit) (fun _=>[]) (fun _=>[]) (fun _=>∀j,j < s.aD.length→Dm s wt k id j=false) ?_ fun _ hno=>?_
 ·refine qA (α:=Unit) (fun i _=>[(12,iv i),(11,iv s.aD.length),(10,.slice A4 s.aD.length k4),(5,pt g2),(3,pt g1),(1,.slice Aw nw cw)]) (fun _ _=>[HP.aE g2 136 [.int .u8 k,iv id],HP.aE g1 30 [.slice A1 s.aF.length k1,.slice A2 s.domains.length k2,.slice A3 s.aR.length k3,.slice A4 s.aD.length k4]]) (fun i _=>∀j,j < i→Dm s wt k id j=false) s.aD.length () (fun j hj=>absurd hj (Nat.not_lt_zero j)) fun i _ hi hno=>?_
  have vY:Dm s wt k id i=false→∀j,j < i+1→Dm s wt k id j=false:=fun h j hj=>by
   rcases(by omega:j < i∨j=i) with hj | rfl
   ·exact hno j hj
   ·exact h
  have hnc:=hm.nc
  have hnd:=hm.nd
  have mK:=hm.nv
  refine aB ?_;refine aG rfl (fun h=>?_) (fun h=>?_)
  ·have hil:i < s.aD.length:=by omega
   obtain⟨d,hd⟩:=get_some hil;obtain⟨hx1,tG,hx3,hx4,hx5,hx6,_⟩:=hm.aD i d hd;obtain⟨bV,oV,rV,rfl,hzV,_,hR,Xn⟩:=oN.dev.zR hd;obtain⟨Ar,nr,kr,An,nn,kn,rfl,_⟩:=hR;obtain⟨xc,hxc⟩:∃xc:Nat,d.clock=(xc:Int):=⟨d.clock.toNat,by omega⟩
   rw[hxc] at Xn
   have hk:=eE.le hzV Xn hq
   have yM:Dm s wt k id i=(decide (0 < (wt[i]?).getD 0)&&Cv s k id d):=by rw[Dm,hd];rfl
   refine aB ?_;refine bT fun g3=>?_;refine aB ?_;refine bU (t:=21) rfl (fun h2=>?_) (fun h2=>?_)
   ·refine aB ?_;exact jL () (hg:=vY (by rw[yM,List.getElem?_eq_none (by omega)];rfl))
   obtain⟨y,hy⟩:=get_some (l:=wt) (i:=i) (by omega);obtain⟨bW,oW,rfl,hcW⟩:=hw.int (by omega)
   have Kk:=hcW i y hy
   rw[hy] at yM;refine aB ?_;refine aG rfl (fun h3=>?_) (fun h3=>?_)
   ·refine aB ?_;exact jL () (hg:=vY (by rw[yM,decide_eq_false (by simpa using h3)];rfl))
   rw[decide_eq_true (show 0 < (some y).getD 0 by simpa using h3)] at yM;refine aB ?_;refine bU (t:=30) rfl (fun hA=>?_) (fun hA=>?_)
   ·refine aB ?_;refine aG rfl (fun h4=>?_) (fun h4=>?_)
    ·refine aB ?_;exact cZ (by rw[aBM hil (by rw[yM];unfold Cv yX;simp_all)])
    ·refine aB ?_;exact jL () (hg:=vY (by rw[yM];unfold Cv yX;simp_all))
   refine aB ?_;refine bU (t:=30) rfl (fun hB=>?_) (fun hB=>?_)
   ·refine aB ?_;refine aG rfl (fun h4=>?_) (fun h4=>?_)
    ·refine aB ?_;exact cZ (by rw[aBM hil (by rw[yM];unfold Cv yX;simp_all)])
    ·refine aB ?_;exact jL () (hg:=vY (by rw[yM];unfold Cv yX;simp_all))
   refine aB ?_;refine bU (t:=38) rfl (fun hC=>?_) (fun hC=>?_)
   ·refine aB ?_;refine pN ?_;refine aJ 3 ?_;refine jS [q] (Jf (fZ s xc)) (fun w2 st=>aBF q s _ _ _ _ _ k1 _ k2 _ k3 _ k4 xc w2 oN hm (st.le (by simp)) (by omega)) ?_;rintro _ w2 q1 ⟨Ac,cc,rfl,jU⟩ hf hle _
    have jU:=jU.le hf
    have aQb:=aBG s s.aF.length xc
    refine bB ?_ (hS:=fun _ h=>h.bE);refine aJ 6 ?_;refine aU (fun w3 st=>aJg Ac _ cc (dM (fZ s xc)) id w3 (jU.le (st.le (by simp))) (by simp[dM]) (by unfold fZ;omega)) ?_;refine bO ?_;refine eN ?_;refine aB ?_;refine aG rfl (fun h4=>?_) (fun h4=>?_)
    ·refine aB ?_;exact cZ (by rw[aBM hil (by rw[yM];unfold Cv yX;simp_all)])
    ·refine aB ?_;exact jL () (hg:=vY (by rw[yM];unfold Cv yX;simp_all))
   refine aB ?_;refine bU (t:=47) rfl (fun hD=>?_) (fun hD=>?_)
   ·refine aB ?_;refine aG rfl (fun h4=>?_) (fun h4=>?_)
    ·refine aB ?_;exact cZ (by rw[aBM hil (by rw[yM];unfold Cv yX;simp_all)])
    ·refine aB ?_;exact jL () (hg:=vY (by rw[yM];unfold Cv yX;simp_all))
   refine aB ?_;exact jL () (hg:=vY (by rw[yM];unfold Cv yX;simp_all))
  ·refine aB ?_;exact iB () (hg:=fun j hj=>hno j (by omega))
 ·refine aB ?_;exact cZ (by rw[aED hno])
theorem vC.box{q:Piece}{x y:bM}{A1 A2 A3 B1 B2 B3:Option Addr}{n1 k1 n2 k2 n3 k3 m1 l1 m2 l2 m3 l3:Nat}{w:World}{g:Nat}
  (hx:vC q x y (.agg #[.slice A1 n1 k1,.slice A2 n2 k2,.slice A3 n3 k3,.slice B1 m1 l1,.slice B2 m2 l2,.slice B3 m3 l3])) (hq:q.Le (all w)) (hg:eE w g 0 [.slice A1 n1 k1,.slice A2 n2 k2,.slice A3 n3 k3,.slice B1 m1 l1,.slice B2 m2 l2,.slice B3 m3 l3]):StM w g x y:=by
 obtain⟨C1,j1,C2,j2,C3,j3,D1,i1,D2,i2,D3,i3,he,s1,s2,s3,s4,s5,s6⟩:=hx;simp only[Value.agg.injEq,Array.mk.injEq,List.cons.injEq,Value.slice.injEq] at he;obtain⟨⟨rfl,rfl,rfl⟩,⟨rfl,rfl,rfl⟩,⟨rfl,rfl,rfl⟩,⟨rfl,rfl,rfl⟩,⟨rfl,rfl,rfl⟩,⟨rfl,rfl,rfl⟩,_⟩:=he;intro i hi;rcases(by omega:i=0∨i=1) with rfl | rfl
 ·exact⟨A1,k1,A2,k2,A3,k3,by simpa using hg.at_ (j:=0) rfl,by simpa using hg.at_ (j:=1) rfl,by simpa using hg.at_ (j:=2) rfl,s1.le hq,s2.le hq,s3.le hq⟩
 ·exact⟨B1,l1,B2,l2,B3,l3,by simpa using hg.at_ (j:=3) rfl,by simpa using hg.at_ (j:=4) rfl,by simpa using hg.at_ (j:=5) rfl,s4.le hq,s5.le hq,s6.le hq⟩
theorem aSf(q qx:Piece)(s:aC)(A1 A2 A3 A4:Option Addr)(n1 k1 n2 k2 n3 k3 n4 k4:Nat)(X1 X2 X3 Y1 Y2 Y3:Option Addr)(Ch xS Cg xR Cf xQ Ce xP Cd xO Cc xN:Nat)(x y:bM)(ag:Nat)(k id:Int)(w:World)(oN:sY q s A1 n1 A2 n2 A3 n3 A4 n4)(hm:s.wX)(hq:q.Le (all w))(Ng:vC qx x y (.agg #[.slice X1 Ch xS,.slice X2 Cg xR,.slice X3 Cf xQ,.slice Y1 Ce xP,.slice Y2 Cd xO,.slice Y3 Cc xN]))(Hj:qx.Le (all w))(hag:ag < 2):
  Cz 169 #[.agg #[.slice A1 n1 k1,.slice A2 n2 k2,.slice A3 n3 k3,.slice A4 n4 k4],.agg #[.slice X1 Ch xS,.slice X2 Cg xR,.slice X3 Cf xQ,.slice Y1 Ce xP,.slice Y2 Cd xO,.slice Y3 Cc xN],iv (ag:Int),.agg #[.int .u8 k,iv id]] w (Rt (.bool (Il s x y ag k id)) w):=by
 obtain⟨rfl,rfl,rfl,rfl⟩:=oN.len
 have hnc:=hm.nc
 have hnd:=hm.nd
 have nx:∀{i:Nat} {p:Nat→Prop},(∀j,j < i→p j)→p i→∀j,j < i+1→p j:=fun {i p} h1 h2 j hj=>by
  rcases(by omega:j < i∨j=i) with hj | rfl
  ·exact h1 j hj
  ·exact h2
 refine aN func169 ntmps169 ?_;refine Bn qx (by simp) Hj ?_;refine Bn q (by simp) hq ?_;refine aB ?_;refine bF fun g1=>?_;refine aB ?_;refine bF fun g2=>?_;refine aB ?_;refine bF fun g3=>?_;refine aB ?_;refine Gd (α:=Unit) (fun _=>[(7,pt g3),(5,pt g2),(4,pt g1)]) (fun _=>[HP.aE g3 136 [.int .u8 k,iv id],HP.aE g2 130 [.slice X1 Ch xS,.slice X2 Cg xR,.slice X3 Cf xQ,.slice Y1 Ce xP,.slice Y2 Cd xO,.slice Y3 Cc xN],HP.aE g1 30 [.slice A1 s.aF.length k1,.slice A2 s.domains.length k2,.slice A3 s.aR.length k3,.slice A4 s.aD.length k4]]) (fun _=>pQ (if ag=0 then y else x) k id=false) ?_ fun _ aDJ=>?_
 ·refine qA (α:=Unit) (fun i _=>[(13,iv i),(7,pt g3),(5,pt g2),(4,pt g1),(2,iv (ag:Int))]) (fun _ _=>[HP.aE g3 136 [.int .u8 k,iv id],HP.aE g2 130 [.slice X1 Ch xS,.slice X2 Cg xR,.slice X3 Cf xQ,.slice Y1 Ce xP,.slice Y2 Cd xO,.slice Y3 Cc xN],HP.aE g1 30 [.slice A1 s.aF.length k1,.slice A2 s.domains.length k2,.slice A3 s.aR.length k3,.slice A4 s.aD.length k4]]) (fun i _=>∀j:Nat,j < i→¬(j:Int)=ag→pQ (if j=0 then x else y) k id=false) 2 () (fun j hj=>absurd hj (Nat.not_lt_zero j)) fun i _ hi hno=>?_;refine aB ?_;refine aG rfl (fun h=>?_) (fun h=>?_)
  ·have hi2:i < 2:=by omega
   refine aB ?_;refine bU (t:=19) rfl (fun h1=>?_) (fun h1=>?_)
   ·refine aB ?_;refine aU (fun w1 st=>aC8 g2 i (if i=0 then x else y) k id w1 hi2 (vC.box Ng (st.le (by simp)) (st.box (i:=1) rfl) i hi2)) ?_;cases hb:pQ (if i=0 then x else y) k id
    ·refine aB ?_;exact jL () (hg:=nx hno fun _=>hb)
    ·refine aB ?_;refine kA (by simp) ?_
     have aDJ:pQ (if ag=0 then y else x) k id=true:=by
      rcases(by omega:(i=0∧ag=1)∨(i=1∧ag=0)) with⟨rfl,rfl⟩ | ⟨rfl,rfl⟩<;>simpa using hb
     rw[Il,aDJ];rfl
   ·refine aB ?_;exact jL () (hg:=nx hno fun hc=>absurd hc h1)
  ·obtain rfl:i=2:=by omega
   refine aB ?_;refine iB () (hg:=?_);rcases(by omega:ag=0∨ag=1) with rfl | rfl
   ·simpa using hno 1 (by omega) (by omega)
   ·simpa using hno 0 (by omega) (by omega)
 have Xk:Il s x y ag k id=Kn s x y k id:=by rw[Il,aDJ,Bool.false_or]
 refine cQ ?_;refine cQ ?_;refine eD ?_;refine bA ?_;refine bA ?_;refine dO ?_;refine sF ?_;refine Tm (α:=Bool) (fun b=>[(30,.bool b),(29,.int .u8 k),(7,pt g3),(5,pt g2),(4,pt g1)]) (fun _=>[HP.aE g3 136 [.int .u8 k,iv id],HP.aE g2 130 [.slice X1 Ch xS,.slice X2 Cg xR,.slice X3 Cf xQ,.slice Y1 Ce xP,.slice Y2 Cd xO,.slice Y3 Cc xN],HP.aE g1 30 [.slice A1 s.aF.length k1,.slice A2 s.domains.length k2,.slice A3 s.aR.length k3,.slice A4 s.aD.length k4]]) (fun b=>b=true↔k=100∨k=107) ?_ fun b hb=>?_
 ·refine aB ?_;refine bU (t:=30) rfl (fun hA=>?_) (fun hA=>?_)
  ·refine aB ?_;exact iB true (hg:=by simp[hA])
  ·refine aB ?_;refine bU (t:=30) rfl (fun hB=>?_) (fun hB=>?_)
   ·exact iB true (hg:=by simp[hB])
   ·exact iB false (hg:=by simp[hA,hB])
 cases b
 ·have Rn:¬(k=100∨k=107):=fun hh=>by simpa using hb.2 hh
  refine aB ?_;refine bU (t:=53) rfl (fun hC=>?_) (fun hC=>?_)
  ·have Xa:Km s k=s.aF.length:=by rw[Km,if_neg Rn,if_pos hC]
   refine aB ?_;refine qA (α:=Unit) (fun i _=>[(58,iv i),(57,iv s.aF.length),(7,pt g3),(5,pt g2),(4,pt g1)]) (fun _ _=>[HP.aE g3 136 [.int .u8 k,iv id],HP.aE g2 130 [.slice X1 Ch xS,.slice X2 Cg xR,.slice X3 Cf xQ,.slice Y1 Ce xP,.slice Y2 Cd xO,.slice Y3 Cc xN],HP.aE g1 30 [.slice A1 s.aF.length k1,.slice A2 s.domains.length k2,.slice A3 s.aR.length k3,.slice A4 s.aD.length k4]]) (fun i _=>∀j,j < i→yN s x y k id j=false) s.aF.length () (fun j hj=>absurd hj (Nat.not_lt_zero j)) fun i _ hi hno=>?_;refine aB ?_;refine aG rfl (fun h=>?_) (fun h=>?_)
   ·have hil:i < s.aF.length:=by omega
    have fN:yN s x y k id i=(decide ((i:Int)≠id)&&(sJ x y k i&&decide (id∈dM (fZ s i)))):=by rw[yN,if_neg Rn,yX,Int.toNat_natCast]
    refine aB ?_;refine aEU ?_;refine Om 65 rfl (fun h1=>?_) (fun h1=>?_)
    ·rw[decide_eq_true h1] at fN;refine nZ 5 ?_;refine aJ 8 ?_;refine aB ?_;refine aU (fun w1 st=>aCA g2 x y k i w1 (vC.box Ng (st.le (by simp)) (st.box (i:=1) rfl))) ?_;cases hw:sJ x y k i
     all_goals
      rw[hw] at fN;refine bB ?_;refine nZ 9 ?_
     ·refine Iz 13 ?_;refine nZ 14 ?_;refine Iz 16 ?_;refine nZ 17 ?_;refine eN ?_;refine aB ?_;exact jL () (hg:=nx hno (by rw[fN];rfl))
     ·refine aJ 13 ?_;refine aB ?_;refine jS [q] (Jf (fZ s i)) (fun w2 st=>aBF q s _ _ _ _ _ k1 _ k2 _ k3 _ k4 i w2 oN hm (st.le (by simp)) (by omega)) ?_;rintro _ w2 q1 ⟨Ac,cc,rfl,jU⟩ hf hle _
      have jU:=jU.le hf
      have aQb:=aBG s s.aF.length i
      refine bB ?_ (hS:=fun _ h=>h.bE);refine aJ 16 ?_;refine aB ?_;refine aU (fun w3 st=>aJg Ac _ cc (dM (fZ s i)) id w3 (jU.le (st.le (by simp))) (by simp[dM]) (by unfold fZ;omega)) ?_;refine bB ?_ (hS:=fun _ h=>h.bE);refine On 17 ?_;refine eN ?_;refine aB ?_;refine aG rfl (fun h4=>?_) (fun h4=>?_)
      ·refine aB ?_;exact cZ (by rw[Xk,aIv (by rw[Xa];exact hil) (by rw[fN,decide_eq_true h4];rfl)])
      ·refine aB ?_;exact jL () (hg:=nx hno (by rw[fN,decide_eq_false h4];rfl))
    ·refine nZ 5 ?_;refine Iz 8 ?_;refine nZ 9 ?_;refine Iz 13 ?_;refine nZ 14 ?_;refine Iz 16 ?_;refine nZ 17 ?_;refine eN ?_;refine aB ?_;exact jL () (hg:=nx hno (by rw[fN,decide_eq_false h1];rfl))
   ·refine aB ?_;exact cZ (by rw[Xk,Xs (by rw[Xa];exact fun j hj=>hno j (by omega))])
  ·refine aB ?_;exact cZ (by rw[Xk,Xs (by rw[Km,if_neg Rn,if_neg hC];exact fun j hj=>absurd hj (Nat.not_lt_zero j))])
 ·have Rn:k=100∨k=107:=hb.1 rfl
  have Xa:Km s k=s.domains.length:=by rw[Km,if_pos Rn]
  refine aB ?_;refine qA (α:=Unit) (fun i _=>[(36,iv i),(35,iv s.domains.length),(34,.slice A2 s.domains.length k2),(7,pt g3),(5,pt g2),(4,pt g1)]) (fun _ _=>[HP.aE g3 136 [.int .u8 k,iv id],HP.aE g2 130 [.slice X1 Ch xS,.slice X2 Cg xR,.slice X3 Cf xQ,.slice Y1 Ce xP,.slice Y2 Cd xO,.slice Y3 Cc xN],HP.aE g1 30 [.slice A1 s.aF.length k1,.slice A2 s.domains.length k2,.slice A3 s.aR.length k3,.slice A4 s.aD.length k4]]) (fun i _=>∀j,j < i→yN s x y k id j=false) s.domains.length () (fun j hj=>absurd hj (Nat.not_lt_zero j)) fun i _ hi hno=>?_;refine aB ?_;refine aG rfl (fun h=>?_) (fun h=>?_)
  ·have hil:i < s.domains.length:=by omega
   obtain⟨d,hd⟩:=get_some hil;obtain⟨bD,oD,rD,rfl,Wf,_,rfl,Nc⟩:=oN.dom.zR hd
   have hk:=eE.le Wf Nc hq
   have fN:yN s x y k id i=(decide (d.above=id)&&sJ x y k i):=by rw[yN,if_pos Rn,hd];rfl
   refine aB ?_;refine bT fun g4=>?_;refine aB ?_;refine bU (t:=46) rfl (fun h1=>?_) (fun h1=>?_)
   ·rw[decide_eq_true h1] at fN;refine aB ?_;refine aU (fun w1 st=>aCA g2 x y k i w1 (vC.box Ng (st.le (by simp)) (st.box (i:=2) rfl))) ?_;cases hw:sJ x y k i
    all_goals
     rw[hw] at fN;refine aB ?_
    ·exact jL () (hg:=nx hno fN)
    ·exact cZ (by rw[Xk,aIv (by rw[Xa];exact hil) fN])
   ·refine aB ?_;exact jL () (hg:=nx hno (by rw[fN,decide_eq_false h1];rfl))
  ·refine aB ?_;exact cZ (by rw[Xk,Xs (by rw[Xa];exact fun j hj=>hno j (by omega))])
end
section
theorem aSh(q qx:Piece)(s:aC)(A1 A2 A3 A4:Option Addr)(n1 k1 n2 k2 n3 k3 n4 k4:Nat)(X1 X2 X3 Y1 Y2 Y3:Option Addr)(Ch xS Cg xR Cf xQ Ce xP Cd xO Cc xN:Nat)(x y:bM)(Aw:Option Addr)(nw cw:Nat)(wt:List Int)(ag:Nat)(Al:Option Addr)(nl cl:Nat)(l:List Int)(w:World)(oN:sY q s A1 n1 A2 n2 A3 n3 A4 n4)(hm:s.wX)(hq:q.Le (all w))(Ng:vC qx x y (.agg #[.slice X1 Ch xS,.slice X2 Cg xR,.slice X3 Cf xQ,.slice Y1 Ce xP,.slice Y2 Cd xO,.slice Y3 Cc xN]))(Hj:qx.Le (all w))(hw:aI (all w) 1 Aw nw (aL wt))(hnw:nw=wt.length)(hag:ag < 2)(hl:aI (all w) 1 Al nl (qX l))(iM:nl=l.length)(aIc:nl≤1000000)(hu:wH l):
  Cz 98 #[.agg #[.slice A1 n1 k1,.slice A2 n2 k2,.slice A3 n3 k3,.slice A4 n4 k4],.agg #[.slice X1 Ch xS,.slice X2 Cg xR,.slice X3 Cf xQ,.slice Y1 Ce xP,.slice Y2 Cd xO,.slice Y3 Cc xN],.slice Aw nw cw,iv (ag:Int),.slice Al nl cl] w (Rt (aEM (jK s x y wt ag l)) w):=by
 generalize hrd:dZ s l=rd;obtain⟨st,k,id⟩:=rd;refine aN func98 ntmps98 ?_;refine Bn qx (by simp) Hj ?_;refine Bn q (by simp) hq ?_;refine aB ?_;refine bF fun g1=>?_;refine aB ?_;refine bF fun g2=>?_;refine aB ?_;refine bT fun g3=>?_;refine aB ?_;refine bU (t:=17) rfl (fun h=>absurd h (by omega)) (fun _=>?_);refine aB ?_;refine bU (t:=21) rfl (fun h=>absurd h (by omega)) (fun _=>?_);refine aB ?_;refine aU (v:=iv 0) (fun w1 st=>(aBD s A1 A2 A3 A4 n1 k1 n2 k2 n3 k3 n4 k4 w1 (oN.W (st.le (by simp)) hm.small)).mono fun _ _ h=>aFi h (by rw[hm.Sv])) ?_;refine aB ?_;refine aU (v:=.tuple #[.int .i32 st,.agg #[.int .u8 k,iv id]]) (fun w1 st=>(aNv s A1 A2 A3 A4 n1 k1 n2 k2 n3 k3 n4 k4 Al nl cl l w1 (oN.W (st.le (by simp)) hm.small) (hl.le (st.le (by simp))) iM aIc hu).mono fun _ _ h=>aFi h (by rw[hrd];rfl)) ?_;refine aB ?_;refine bT fun g4=>?_;refine aB ?_;refine aEU ?_;refine Om 35 rfl (fun h1=>?_) (fun h1=>?_)
 ·refine nZ 3 ?_;refine Iz 13 ?_;refine nZ 14 ?_;refine Iz 16 ?_;refine nZ 17 ?_;refine eN ?_;refine aB ?_
  (refine pZ ?_;rw[jK,hrd];dsimp only;rw[if_pos (.inl h1)];rfl)
 refine nZ 3 ?_;refine Om 40 rfl (fun h2=>?_) (fun h2=>?_)
 ·refine nZ 8 ?_;refine Iz 13 ?_;refine nZ 14 ?_;refine Iz 16 ?_;refine nZ 17 ?_;refine eN ?_;refine aB ?_
  (refine pZ ?_;rw[jK,hrd];dsimp only;rw[if_pos (.inr (.inl h2))];rfl)
 refine nZ 8 ?_;refine aJ 13 ?_;refine aB ?_;refine aU (fun w1 st=>aC8 g2 ag (if ag=0 then x else y) k id w1 hag (vC.box Ng (st.le (by simp)) (st.box (i:=2) rfl) ag hag)) ?_;refine bB ?_;refine nZ 14 ?_;refine aJ 16 ?_;refine aB ?_;refine aU (fun w1 st=>aDj k w1) ?_;refine bB ?_;refine nZ 17 ?_;refine eN ?_;refine aB ?_;refine qB rfl (fun h3=>?_) (fun h3=>?_)
 ·refine aB ?_
  (refine pZ ?_;rw[jK,hrd];dsimp only;rw[if_pos (.inr (.inr (by simpa using h3)))];rfl)
 have Mq:st=0:=by omega
 have h4:¬(st≠0∨k=0∨pQ (if ag=0 then x else y) k id=decide (rX k)):=fun hh=>by
  rcases hh with hh | hh | hh
  ·exact hh Mq
  ·exact h2 hh
  ·rw[hh] at h3;simp at h3
 refine aB ?_;refine aU (fun w1 st=>aDj k w1) ?_;refine aB ?_;refine aG rfl (fun h6=>?_) (fun h6=>?_)
 ·refine aB ?_;refine aG rfl (fun h7=>?_) (fun h7=>?_)
  ·subst h7
   have hok:=aGU (s:=s) hu
   rw[hrd] at hok
   have hid:=hok.resolve_left (fun hh=>by have:=hh.1;simp at this)
   have aUO:0≤id:=hid.2.2.1
   have aUN:id < (s.domains.length:Int):=hid.2.2.2.1
   obtain⟨d,hd⟩:=get_some (l:=s.domains) (i:=id.toNat) (by omega);obtain⟨rfl,rfl,rfl,rfl⟩:=oN.len;obtain⟨bD,oD,rD,rfl,Wf,_,rfl,Nc⟩:=oN.dom.zR hd
   have hk:=eE.le Wf Nc hq
   have ha:=hk.at_ (j:=0) rfl
   have hab:(s.domains[id.toNat]?).any (fun d=>decide (d.above≠ -1)&& !sJ x y 117 d.above)=(decide (d.above≠ -1)&& !sJ x y 117 d.above):=by rw[hd];rfl
   refine aB ?_;refine bU (t:=69) rfl (fun h8=>?_) (fun h8=>?_)
   ·rw[decide_eq_true h8] at hab;refine aB ?_;refine aU (fun w1 st=>aCA g2 x y 117 d.above w1 (vC.box Ng (st.le (by simp)) (st.box (i:=2) rfl))) ?_;cases hw9:sJ x y 117 d.above
    all_goals
     rw[hw9] at hab;refine aB ?_
    ·(refine pZ ?_;rw[jK,hrd];dsimp only;rw[if_neg h4,if_pos h6,if_pos ⟨rfl,hab⟩];rfl)
    ·refine aAa [2] ?_;refine aB ?_
     (refine pZ ?_;rw[jK,hrd];dsimp only;rw[if_neg h4,if_pos h6,if_neg (fun hh=>by have h':=hh.2;rw[hab] at h';cases h')];rfl)
   ·rw[decide_eq_false h8] at hab;refine aB ?_;refine aAa [2] ?_;refine aB ?_
    (refine pZ ?_;rw[jK,hrd];dsimp only;rw[if_neg h4,if_pos h6,if_neg (fun hh=>by have h':=hh.2;rw[hab] at h';cases h')];rfl)
  ·refine aB ?_;refine aAa [2] ?_;refine aB ?_
   (refine pZ ?_;rw[jK,hrd];dsimp only;rw[if_neg h4,if_pos h6,if_neg (fun hh=>h7 hh.1)];rfl)
 ·refine aB ?_;refine aU (fun w1 st=>aSf q qx s A1 A2 A3 A4 n1 k1 n2 k2 n3 k3 n4 k4 X1 X2 X3 Y1 Y2 Y3 Ch xS Cg xR Cf xQ Ce xP Cd xO Cc xN x y ag k id w1 oN hm (st.le (by simp)) Ng (st.le (by simp)) hag) ?_;cases hde:Il s x y ag k id
  ·refine aB ?_;refine aU (fun w1 st=>aSZ q s A1 A2 A3 A4 n1 k1 n2 k2 n3 k3 n4 k4 Aw nw cw wt k id w1 oN hm (st.le (by simp)) (hw.le (st.le (by simp))) hnw) ?_;cases hbu:Ir s wt k id
   ·refine aB ?_;refine aAa [2] ?_;refine aB ?_
    (refine pZ ?_;rw[jK,hrd];dsimp only;rw[if_neg h4,if_neg h6,hde,if_neg (by simp),hbu,if_neg (by simp)];rfl)
   ·refine aB ?_
    (refine pZ ?_;rw[jK,hrd];dsimp only;rw[if_neg h4,if_neg h6,hde,if_neg (by simp),hbu,if_pos rfl];rfl)
  ·refine aB ?_
   (refine pZ ?_;rw[jK,hrd];dsimp only;rw[if_neg h4,if_neg h6,hde,if_pos rfl];rfl)
end
section
def kV(l:List Bool)(id:Int)(b:Bool):List Bool:=if 0≤id∧id < (l.length:Int) then l.set id.toNat b else l
theorem aGu{l:List Bool}{id:Int}(b:Bool)(h:¬(0≤id∧id < (l.length:Int))):kV l id b=l:=if_neg h
theorem Cl(l:List Bool)(id:Int)(b:Bool):(kV l id b).length=l.length:=by unfold kV;split<;>simp
def kU(x:bM)(k id:Int):bM:=
 if k=117∨k=100∨k=107 then⟨kV x.d id (decide (rX k)),x.c,x.l⟩
 else if k=99∨k=111 then⟨x.d,kV x.c id (decide (rX k)),x.l⟩
 else if k=114∨k=97 then⟨x.d,x.c,kV x.l id (decide (rX k))⟩ else x
def jZ(x:bM)(ag:Nat)(k id:Int):bM:=if ag=0 then kU x k id else x
def mT(y:bM)(ag:Nat)(k id:Int):bM:=if ag=0 then y else kU y k id
theorem aTg{l:List Bool}{id:Int}(b:Bool)(h:0≤id∧id < (l.length:Int)):(bK l).set id.toNat (.bool b)=bK (kV l id b):=by
 rw[kV,if_pos h];simp[bK,List.map_set]
section
variable{N:cH}{w0 w:World}{e:Env}{R:List Piece}{H:List HP}{K:Act→World→Prop}
theorem St.aNL(st:St w0 R H w){i n c sz:Nat}{t:TypeId}{A:Option Addr}{xs:List Value}(hi:H[i]? =some (HP.own t sz (.slice A n c) n xs))(hn:0 < n):∃g,A=some ⟨g,0,none⟩:=by
 obtain⟨_,h2⟩:=st.own hi;rcases h2 with⟨h2,h3⟩ | ⟨g',cap,cur,hv,_⟩
 ·omega
 ·injection hv with h4 h5 h6
  exact⟨g',h4⟩
theorem aJU(i:Nat){n c sz:Nat}{t:TypeId}{A:Option Addr}{xs:List Value}(hi:H[i]? =some (HP.own t sz (.slice A n c) n xs))(hn:0 < n)(h:(∃g,A=some ⟨g,0,none⟩)→XK N w0 K e R H):XK N w0 K e R H:=fun a w hr st=>h (st.aNL hi hn) a w hr st
end
end
section
def aAj(P:Program)(c:Code)(Q:Exit→Act→World→Prop):Nat→Act→World→Prop
 | 0=>fun _ _=>False
 | n+1=>c.wp P (Exit.then (aAj P c Q n) Q)
section
variable{P:Program}{N:cH}{w0:World}{e:Env}{R:List Piece}{H:List HP}{Q:Exit→Act→World→Prop}{c:Code}{n:Nat}
theorem aTF(n:Nat)(h:XK N w0 (aAj P c Q n) e R H):XK N w0 ((Code.loop c).wp P Q) e R H:=fun a w hr st=>by
 refine aC4 (aAj P c Q) n (h a w hr st) fun n a w hI=>?_;cases n with
 | zero=>exact absurd hI (fun h=>h)
 | succ n=>
  refine wp_mono hI fun x a' w' hq=>?_;cases x with
  | normal=>exact⟨n,Nat.lt_succ_self n,hq⟩
  | _=>exact hq
theorem aCh{y:Code}{x:Code}(M:Env→List Piece→List HP→Prop)(h:XK N w0 (x.wp P (Exit.then (fun a' w'=>∃e' R' H',M e' R' H'∧eR N e' a'∧St w0 R' H' w') Q)) e R H)
  (hy:∀e' R' H',M e' R' H'→XK N w0 (y.wp P Q) e' R' H'):XK N w0 (x.wp P (Exit.then (y.wp P Q) Q)) e R H:=fun a w hr st=>
 wp_mono (h a w hr st) fun x a' w' hq=>by
  cases x with
  | normal=>
   obtain⟨e',R',H',hm,hr',st'⟩:=hq;exact hy e' R' H' hm a' w' hr' st'
  | _=>exact hq
theorem aEQ(h:XK N w0 (c.wp P (Exit.then (aAj P c Q n) Q)) e R H):XK N w0 (aAj P c Q (n+1)) e R H:=h
end
theorem aR8(x y:bM)(ag:Nat)(k id:Int):(jZ x ag k id).d.length=x.d.length∧(jZ x ag k id).c.length=x.c.length∧(jZ x ag k id).l.length=x.l.length∧(mT y ag k id).d.length=y.d.length∧(mT y ag k id).c.length=y.c.length∧(mT y ag k id).l.length=y.l.length:=by
 have h:∀z:bM,(kU z k id).d.length=z.d.length∧(kU z k id).c.length=z.c.length∧(kU z k id).l.length=z.l.length:=fun z=>by
  unfold kU;split
  ·exact⟨Cl _ _ _,rfl,rfl⟩
  ·split
   ·exact⟨rfl,Cl _ _ _,rfl⟩
   ·split
    ·exact⟨rfl,rfl,Cl _ _ _⟩
    ·exact⟨rfl,rfl,rfl⟩
 unfold jZ mT;split
 ·exact⟨(h x).1,(h x).2.1,(h x).2.2,rfl,rfl,rfl⟩
 ·exact⟨rfl,rfl,rfl,(h y).1,(h y).2.1,(h y).2.2⟩
theorem aGt(k id:Int)(z:bM):((∀a b c,gO k a b c=sn)∧kU z k id=z)∨((∀a b c,gO k a b c=a)∧kU z k id=⟨kV z.d id (decide (rX k)),z.c,z.l⟩)∨((∀a b c,gO k a b c=b)∧kU z k id=⟨z.d,kV z.c id (decide (rX k)),z.l⟩)∨((∀a b c,gO k a b c=c)∧kU z k id=⟨z.d,z.c,kV z.l id (decide (rX k))⟩):=by
 by_cases k0:k=117∨k=100∨k=107
 ·exact .inr (.inl ⟨fun a b c=>by rw[gO,if_pos k0],by rw[kU,if_pos k0]⟩)
 by_cases k1:k=99∨k=111
 ·exact .inr (.inr (.inl ⟨fun a b c=>by rw[gO,if_neg k0,if_pos k1],by rw[kU,if_neg k0,if_pos k1]⟩))
 by_cases k2:k=114∨k=97
 ·exact .inr (.inr (.inr ⟨fun a b c=>by rw[gO,if_neg k0,if_neg k1,if_pos k2],by rw[kU,if_neg k0,if_neg k1,if_pos k2]⟩))
 exact .inl ⟨fun a b c=>by rw[gO,if_neg k0,if_neg k1,if_neg k2],by rw[kU,if_neg k0,if_neg k1,if_neg k2]⟩
theorem aNK{l:List Bool}{id:Int}{n:Nat}{cs:List Value}{b:Bool}(h:cs.take n=bK l)(hi:0≤id∧id < (l.length:Int)):(cs.set id.toNat (.bool b)).take (n*1)=bK (kV l id b):=by
 rw[Nat.mul_one,←aTg _ hi,←h,List.take_set]
theorem Ti{N:cH}{w0:World}{e:Env}{R:List Piece}{H H':List HP}{K:Act→World→Prop}{t:TypeId}{A:Option Addr}{n c:Nat}{xs:List Value}(i:Nat)(he:e.get 10=some (.slice A n c))(hH:Cm (i::(List.range 9).filter (· !=i)) H=some (HP.own t 1 (.slice A n c) n xs::H'))(hn:(i::(List.range 9).filter (· !=i)).Nodup)(h:XK N w0 K e R (HP.own t 1 (.slice A n c) n xs::H')):XK N w0 K e R H:=aY _ hH hn (fun _ h=>h) h
theorem aR9(qx:Piece)(X1 X2 X3 Y1 Y2 Y3:Option Addr)(xS xR xQ xP xO xN:Nat)(x y:bM)(ag:Nat)(k id:Int)(w:World)(Hj:qx.Le (all w))(hag:ag < 2)(hbx:x.sm)(hby:y.sm)(s0:aI qx 1 X1 x.d.length (bK x.d))(s1:aI qx 1 X2 x.c.length (bK x.c))(s2:aI qx 1 X3 x.l.length (bK x.l))(s3:aI qx 1 Y1 y.d.length (bK y.d))(s4:aI qx 1 Y2 y.c.length (bK y.c))(s5:aI qx 1 Y3 y.l.length (bK y.l)):
  Cz 99 #[.agg #[.slice X1 x.d.length xS,.slice X2 x.c.length xR,.slice X3 x.l.length xQ,.slice Y1 y.d.length xP,.slice Y2 y.c.length xO,.slice Y3 y.l.length xN],iv (ag:Int),.agg #[.int .u8 k,iv id]] w (Tt (fun v w w'=>vC (fresh w w') (jZ x ag k id) (mT y ag k id) v) w):=by
 obtain⟨h0,h1,h2⟩:=hbx;obtain⟨h3,h4,h5⟩:=hby;refine aN func99 ntmps99 ?_;refine Bn qx (by simp) Hj ?_;refine aA ?_;refine bF fun g1=>?_;refine bF fun g2=>?_;refine bT fun g3=>?_;refine aA ?_;refine bT fun g4=>?_;refine aA ?_;refine aTF 3 ?_;refine aEQ ?_;refine aA ?_;refine aFC 0 (len:=2) (n:=3) (by kernel_rfl) rfl rfl rfl (by decide) rfl (by decide) ?_;refine bT fun g5=>?_;refine aA ?_;refine iO [1,2,4,5,7,8,11] ?_;refine bH 0 ?_;refine aK 1 ?_;refine aK 2 ?_;refine aK 4 ?_;refine aK 5 ?_;refine aK 7 ?_;refine aK 8 ?_;refine aK 11 ?_;refine aJ 3 ?_;refine fR (Pe x.d.length (bK x.d)) (fun w1 st=>Sr _ _ _ _ w1 (s0.le (st.le (by simp))) (Sx _) (by have:=h0;omega)) ?_;rintro _ _ q0 ⟨B0,c0,rfl,rfl⟩ _;dsimp only[List.cons_append,List.nil_append];refine bB ?_ (hS:=fun _ h=>h.bE.tail);refine aJ 6 ?_;refine fR (Pe x.c.length (bK x.c)) (fun w1 st=>Sr _ _ _ _ w1 (s1.le (st.le (by simp))) (Sx _) (by have:=h1;omega)) ?_;rintro _ _ q1 ⟨B1,c1,rfl,rfl⟩ _;dsimp only[List.cons_append,List.nil_append];refine bB ?_ (hS:=fun _ h=>h.bE.bE.tail.tail);refine aJ 9 ?_;refine fR (Pe x.l.length (bK x.l)) (fun w1 st=>Sr _ _ _ _ w1 (s2.le (st.le (by simp))) (Sx _) (by have:=h2;omega)) ?_;rintro _ _ q2 ⟨B2,c2,rfl,rfl⟩ _;dsimp only[List.cons_append,List.nil_append];refine bB ?_ (hS:=fun _ h=>h.bE.bE.bE.tail.tail.tail);refine aJ 10 ?_;refine kd (fL rfl) ?_;refine bB ?_ (hS:=fun _ h=>h.bE.bE.bE.tail.tail.tail);refine aJ 12 ?_;refine kd (fB (sz:=3) 0 0) ?_;refine bO ?_;refine aJ 13 ?_;refine uE rfl rfl ?_;simp only[fJ,Value.cells,List.set,List.take,List.drop,List.nil_append,List.append_nil,List.length_cons,List.length_nil,List.cons_append,Nat.reduceAdd];refine bO ?_;refine eN ?_;refine aA ?_;refine aY [2,1,0,4,5,6,7] rfl (by decide) (R':=[qx,all w]) (by simp) ?_;refine aEQ ?_;refine aA ?_;refine aFC 1 (len:=2) (n:=3) (by kernel_rfl) rfl rfl rfl (by decide) rfl (by decide) ?_;refine bT fun g6=>?_;refine aA ?_;refine iO [1,2,4,5,7,8,11] ?_;refine bH 0 ?_;refine aK 1 ?_;refine aK 2 ?_;refine aK 4 ?_;refine aK 5 ?_;refine aK 7 ?_;refine aK 8 ?_;refine aK 11 ?_;refine aJ 3 ?_;refine fR (Pe y.d.length (bK y.d)) (fun w1 st=>Sr _ _ _ _ w1 (s3.le (st.le (by simp))) (Sx _) (by have:=h3;omega)) ?_;rintro _ _ q3 ⟨B3,c3,rfl,rfl⟩ _;dsimp only[List.cons_append,List.nil_append];refine bB ?_ (hS:=fun _ h=>h.bE.tail);refine aJ 6 ?_;refine fR (Pe y.c.length (bK y.c)) (fun w1 st=>Sr _ _ _ _ w1 (s4.le (st.le (by simp))) (Sx _) (by have:=h4;omega)) ?_;rintro _ _ q4 ⟨B4,c4,rfl,rfl⟩ _;dsimp only[List.cons_append,List.nil_append];refine bB ?_ (hS:=fun _ h=>h.bE.bE.tail.tail);refine aJ 9 ?_;refine fR (Pe y.l.length (bK y.l)) (fun w1 st=>Sr _ _ _ _ w1 (s5.le (st.le (by simp))) (Sx _) (by have:=h5;omega)) ?_;rintro _ _ q5 ⟨B5,c5,rfl,rfl⟩ _;dsimp only[List.cons_append,List.nil_append];refine bB ?_ (hS:=fun _ h=>h.bE.bE.bE.tail.tail.tail);refine aJ 10 ?_;refine kd (fL rfl) ?_;refine bB ?_ (hS:=fun _ h=>h.bE.bE.bE.tail.tail.tail);refine aJ 12 ?_;refine kd (fB (sz:=3) 1 3) ?_;refine bO ?_;refine aJ 13 ?_;refine uE rfl rfl ?_;simp only[fJ,Value.cells,List.set,List.take,List.drop,List.nil_append,List.append_nil,List.length_cons,List.length_nil,List.cons_append,Nat.reduceAdd];refine bO ?_;refine eN ?_;refine aA ?_;refine aY [4,5,6,2,1,0,9,7,8] rfl (by decide) (R':=[qx,all w]) (by simp) ?_;refine aEQ ?_;refine aA ?_;refine bU (t:=33) rfl (fun h=>absurd h (by omega)) (fun _=>?_);refine aA ?_;refine aG rfl (fun h=>absurd h (by omega)) (fun _=>?_);refine aA ?_;obtain⟨X,hX⟩:∃z,z=jZ x ag k id:=⟨_,rfl⟩
 obtain⟨Y,hY⟩:∃z,z=mT y ag k id:=⟨_,rfl⟩
 have hl:=aR8 x y ag k id
 rw[←hX,←hY] at hl⊢;obtain rfl | rfl:ag=0∨ag=1:=by omega
 have hc:=aGt k id x
 refine iO [1,2,3,4] ?_;refine bH 0 ?_;refine aK 1 ?_;refine aK 2 ?_ (dD:=fB (sz:=3) 0 0);refine aK 3 ?_;refine aK 4 ?_;refine aJ 5 ?_;refine aU (fun w1 t=>aDz g4 0 k (.slice B0 x.d.length c0) (.slice B1 x.c.length c1) (.slice B2 x.l.length c2) w1 (by simpa using(t.box (i:=7) rfl).at_ (j:=0) rfl) (by simpa using(t.box (i:=7) rfl).at_ (j:=1) rfl) (by simpa using(t.box (i:=7) rfl).at_ (j:=2) rfl)) ?_
 rotate_left
 have hc:=aGt k id y
 refine iO [1,2,3,4] ?_;refine bH 0 ?_;refine aK 1 ?_;refine aK 2 ?_ (dD:=fB (sz:=3) 1 3);refine aK 3 ?_;refine aK 4 ?_;refine aJ 5 ?_;refine aU (fun w1 t=>aDz g4 3 k (.slice B3 y.d.length c3) (.slice B4 y.c.length c4) (.slice B5 y.l.length c5) w1 (by simpa using(t.box (i:=7) rfl).at_ (j:=3) rfl) (by simpa using(t.box (i:=7) rfl).at_ (j:=4) rfl) (by simpa using(t.box (i:=7) rfl).at_ (j:=5) rfl)) ?_
 all_goals
  refine bO ?_;refine aJ 6 ?_;refine bA ?_;refine bO ?_;refine eN ?_;refine dN ?_;refine aY [0,1,2,3,4,5,6,7,8] rfl (by decide) (fun _ h=>h) ?_;refine bL [(10,_),(7,pt g4),(6,pt g3),(5,pt g2)] ?_;refine aCh (fun e R H=>e=[(7,pt g4),(6,pt g3)]∧R=[qx,all w]∧H=[HP.own 4 1 (.slice B0 x.d.length c0) x.d.length (bK X.d),HP.own 4 1 (.slice B1 x.c.length c1) x.c.length (bK X.c),HP.own 4 1 (.slice B2 x.l.length c2) x.l.length (bK X.l),HP.own 4 1 (.slice B3 y.d.length c3) y.d.length (bK Y.d),HP.own 4 1 (.slice B4 y.c.length c4) y.c.length (bK Y.c),HP.own 4 1 (.slice B5 y.l.length c5) y.l.length (bK Y.l),HP.aE g2 136 [.int .u8 k,iv id],HP.aE g4 130 [.slice B0 x.d.length c0,.slice B1 x.c.length c1,.slice B2 x.l.length c2,.slice B3 y.d.length c3,.slice B4 y.c.length c4,.slice B5 y.l.length c5],HP.aE g3 130 [sn,sn,sn,sn,sn,sn]]) ?_ ?_
  ·clear hl;simp only[jZ,mT,if_true,if_false,Nat.one_ne_zero] at hX hY;subst hX hY;obtain⟨h,h2⟩ | hc:=hc
   ·rw[h,h2];refine aA ?_;refine bU (t:=47) rfl (fun hid=>?_) (fun hid=>?_)
    ·refine aA ?_;refine aG rfl (fun h=>absurd h (by omega)) (fun _=>?_);refine aA ?_;exact nP ⟨rfl,rfl,rfl⟩
    ·refine aA ?_;exact nP ⟨rfl,rfl,rfl⟩
   rcases hc with⟨h,h2⟩ | ⟨h,h2⟩ | ⟨h,h2⟩
   all_goals
    rw[h,h2];dsimp only
    first | refine Ti 0 rfl rfl (by decide) ?_ | refine Ti 1 rfl rfl (by decide) ?_ | refine Ti 2 rfl rfl (by decide) ?_ | refine Ti 3 rfl rfl (by decide) ?_ | refine Ti 4 rfl rfl (by decide) ?_ | refine Ti 5 rfl rfl (by decide) ?_
    refine aA ?_;refine bU (t:=47) rfl (fun hid=>?_) (fun hid=>?_)
    ·refine aA ?_;refine aG rfl (fun aDN=>?_) (fun aDN=>?_)
     ·have hin:=And.intro hid aDN
      refine aJU 0 rfl (by omega) ?_;rintro⟨gb,rfl⟩;refine Tb 0 rfl fun cs iD hct hnc hcm=>?_;simp only[Nat.mul_one] at iD hct;dsimp only[List.set];refine iO [1,2,3,4] ?_;refine bH 0 ?_;refine aK 1 ?_;refine aK 2 ?_;refine aK 3 ?_;refine aK 4 ?_;refine aJ 5 ?_;refine aU (fun w1 t=>aDj k w1) ?_;refine bB ?_;refine aJ 6 ?_;refine kd (dat id.toNat id.toNat) ?_;refine bO ?_;refine aJ 7 ?_;refine fF rfl rfl ?_;dsimp only[List.set];refine bO ?_;refine eN ?_;refine aA ?_;refine Oj 0 (sz:=1) rfl (by simpa using iD) (aNK hct hin) hnc hcm ?_;dsimp only[List.set];exact nP ⟨rfl,rfl,rfl⟩
     ·rw[aGu _ fun h=>aDN h.2];refine aA ?_;exact nP ⟨rfl,rfl,rfl⟩
    ·rw[aGu _ fun h=>hid h.1];refine aA ?_;exact nP ⟨rfl,rfl,rfl⟩
  ·rintro _ _ _ ⟨rfl,rfl,rfl⟩;refine aY [7,8,0,1,2,3,4,5] rfl (by decide) (fun _ h=>h) ?_;refine aA ?_;refine dP [] [2,3,4,5,6,7] [0,1] (by simp) rfl (by decide) (by decide) fun q hq _ hfr=>?_;refine Li rfl (n:=6) (vs:=[.slice B0 x.d.length c0,.slice B1 x.c.length c1,.slice B2 x.l.length c2,.slice B3 y.d.length c3,.slice B4 y.c.length c4,.slice B5 y.l.length c5]) (by kernel_rfl) rfl rfl (aQ.whole 1 rfl) fun w1 st=>⟨⟨_,rfl,?_⟩,st.below (by simp)⟩
   have hle:=st.mL (by simp) (hfr (by simp) (by simp))
   obtain⟨l1,l2,l3,l4,l5,l6⟩:=hl
   have hs:∀{A n c xs},(∃F,(HP.own 4 1 (.slice A n c) n xs).sat F q.w∧∀b,F b→q.Z b)→aI (fresh w w1) 1 A n xs:=fun h=>(aI.own h).le hle
   refine⟨B0,c0,B1,c1,B2,c2,B3,c3,B4,c4,B5,c5,?_,?_,?_,?_,?_,?_,?_⟩
   ·rw[l1,l2,l3,l4,l5,l6]
   ·rw[l1];exact hs (hq 2 _ (by simp) rfl)
   ·rw[l2];exact hs (hq 3 _ (by simp) rfl)
   ·rw[l3];exact hs (hq 4 _ (by simp) rfl)
   ·rw[l4];exact hs (hq 5 _ (by simp) rfl)
   ·rw[l5];exact hs (hq 6 _ (by simp) rfl)
   ·rw[l6];exact hs (hq 7 _ (by simp) rfl)
end
section
def aDT(m p k:Int):Bool:=decide ((eB m 0 p k).2=0∧bZ (eB m 0 p k).1 28 4=0∧bZ (eB m 0 p k).1 0 8=m∧bZ (eB m 0 p k).1 8 2=0∧bZ (eB m 0 p k).1 10 8=p∧bZ (eB m 0 p k).1 18 10=k)
theorem aPI:([4,7]:List Int).all (fun m=>([17,20,22]:List Int).all fun p=>(List.range 64).all fun k=>aDT m p k)=true:=by decide+kernel
theorem aPJ{m p:Int}{k:Nat}(hm:m=4∨m=7)(hp:p=17∨p=20∨p=22)(hk:k < 64):(eB m 0 p k).2=0∧uG (eB m 0 p k).1=0∧Gk (eB m 0 p k).1=Ht m 0 p k:=by
 have h:=aPI
 rw[List.all_eq_true] at h
 have h1:=h m (by rcases hm with rfl | rfl<;>simp)
 rw[List.all_eq_true] at h1
 have h2:=h1 p (by rcases hp with rfl | rfl | rfl<;>simp)
 rw[List.all_eq_true] at h2
 have h3:=of_decide_eq_true (h2 k (List.mem_range.2 hk))
 obtain⟨e1,e2,e3,e4,e5,e6⟩:=h3;refine⟨e1,?_,?_⟩
 ·rw[uG,if_neg (fun h=>h e2)]
 ·rw[Gk,if_neg (fun h=>h e2),e3,e4,e5,e6]
end
section
theorem aOc(a b:Int):0≤aAQ a b∧aAQ a b < 4294967296:=Pt _
theorem aGZ(w low many v:Int):0≤(iY w low many v).1∧(iY w low many v).1 < 4294967296:=by
 unfold iY;split
 ·exact⟨by decide,by decide⟩
 ·split
  ·exact⟨by decide,by decide⟩
  ·unfold zT;split
   ·exact⟨by decide,by decide⟩
   ·exact aOc _ _
theorem aNH(m t p k:Int):0≤(eB m t p k).1∧(eB m t p k).1 < 4294967296:=by
 unfold eB;split
 ·exact⟨by dsimp only;decide,by dsimp only;decide⟩
 ·split
  ·exact⟨by dsimp only;decide,by dsimp only;decide⟩
  ·split
   ·exact⟨by dsimp only;decide,by dsimp only;decide⟩
   ·split
    ·exact⟨by dsimp only;decide,by dsimp only;decide⟩
    ·exact aGZ _ _ _ _
end
section
theorem aGs(x:bM)(k id:Int):(kU x k id).d.length=x.d.length∧(kU x k id).c.length=x.c.length∧(kU x k id).l.length=x.l.length:=by
 unfold kU;split
 ·exact⟨Cl _ _ _,rfl,rfl⟩
 ·split
  ·exact⟨rfl,Cl _ _ _,rfl⟩
  ·split
   ·exact⟨rfl,rfl,Cl _ _ _⟩
   ·exact⟨rfl,rfl,rfl⟩
theorem aGq{x:bM}(h:x.sm)(k id:Int):(kU x k id).sm:=by
 obtain⟨h1,h2,h3⟩:=aGs x k id;exact⟨by rw[h1];exact h.d,by rw[h2];exact h.c,by rw[h3];exact h.l⟩
theorem aRB{x:bM}(h:x.sm)(ag:Nat)(k id:Int):(jZ x ag k id).sm:=by
 unfold jZ;split
 ·exact aGq h k id
 ·exact h
theorem aRA{x:bM}(h:x.sm)(ag:Nat)(k id:Int):(mT x ag k id).sm:=by
 unfold mT;split
 ·exact h
 ·exact aGq h k id
end
section
theorem aIu(n:Nat)(i:Nat):hasB (List.replicate n false) i=false:=by
 unfold hasB;rw[List.getElem?_replicate];split<;>rfl
theorem aFO(s:aC)(k id:Int):pQ (dQ s) k id=false:=by
 unfold pQ Ai dQ
 have h:∀n i,hasB (List.replicate n false) i=false:=aIu
 split
 ·rw[h];simp
 ·split
  ·rw[h];simp
  ·split
   ·rw[h];simp
   ·simp[hasB]
section
variable{s:aC}{r:Nat}{p m on off kn kf n:Int}
theorem aE0{x y:bM}{wt:List Int}{ag:Nat}{l:List Int}{k id:Int}(hr:dZ s l=(0,k,id))(hk:rX k)(Kh:k≠0)(hw:pQ (if ag=0 then x else y) k id=false):
  jK s x y wt ag l=if k=117∧(s.domains[id.toNat]?).any (fun d=>decide (d.above≠ -1)&& !sJ x y 117 d.above)=true then(-3,0,0) else(0,k,id):=by
 unfold jK;rw[hr];dsimp only;rw[hw,if_neg (by simp[Kh,hk]),if_pos hk]
theorem aE1{x y:bM}{wt:List Int}{ag:Nat}{l:List Int}{k id:Int}(hr:dZ s l=(0,k,id))(hk:¬rX k)(Kh:k≠0)(hw:pQ (if ag=0 then x else y) k id=true):
  jK s x y wt ag l=if Il s x y ag k id=true then(-3,0,0) else if Ir s wt k id=true then(-6,0,0) else(0,k,id):=by
 unfold jK;rw[hr];dsimp only;rw[hw,if_neg (by simp[Kh,hk]),if_neg hk]
theorem aBL(s:aC)(k id:Int):Ir s [] k id=false:=aED fun i hi=>by simp[Dm]
end
section
variable{s:aC}{r:Nat}{p m on off kn kf n:Int}{a b:Nat}
end
end
section
theorem aA1{s:aC}{act:List Bool}(i:Nat)(hi:i < s.domains.length):∀n,(iP s act n).d[i]?.getD false=true↔∃j,j < n∧hasB act j=true∧∃x,s.aD[j]? =some x∧i∈Ei s x.domain.toNat
 | 0=>by simp[iP,dQ,hi]
 | n + 1 => by
  have ih:=aA1 (act:=act) i hi n
  have hl:=(Eh s act n).d
  cases ha:hasB act n with
  | false =>
   rw[Po ha,ih];constructor
   ·rintro⟨j,h1,h2⟩;exact⟨j,by omega,h2⟩
   ·rintro⟨j,h1,h2,h3⟩;rcases Nat.lt_or_ge j n with h | h
    ·exact⟨j,h,h2,h3⟩
    ·have:j=n:=by omega
     subst this;rw[ha] at h2;cases h2
  | true =>
   cases hx:s.aD[n]? with
   | none =>
    have e:iP s act (n+1)=iP s act n:=by
     show(if hasB act n then _ else _)=_
     rw[if_pos ha,hx]
    rw[e,ih];constructor
    ·rintro⟨j,h1,h2⟩;exact⟨j,by omega,h2⟩
    ·rintro⟨j,h1,h2,x,h3,h4⟩;rcases Nat.lt_or_ge j n with h | h
     ·exact⟨j,h,h2,x,h3,h4⟩
     ·have:j=n:=by omega
      subst this;rw[hx] at h3;cases h3
   | some x =>
    rw[Ui hx ha]
    show(sM (Ei s x.domain.toNat) (iP s act n).d)[i]?.getD false=true↔_
    rw[aHb _ _ _ (by omega),Bool.or_eq_true,decide_eq_true_eq,ih];constructor
    ·rintro(h | ⟨j,h1,h2⟩)
     ·exact⟨n,by omega,ha,x,hx,h⟩
     ·exact⟨j,by omega,h2⟩
    ·rintro⟨j,h1,h2,y,h3,h4⟩;rcases Nat.lt_or_ge j n with h | h
     ·exact .inr ⟨j,h,h2,y,h3,h4⟩
     ·have:j=n:=by omega
      subst this;rw[hx] at h3;cases h3;exact .inl h4
theorem Pp{s:aC}{act:List Bool}(i:Nat)(hi:i < s.aF.length):∀n,(iP s act n).c[i]?.getD false=true↔∃j,j < n∧hasB act j=true∧∃x,s.aD[j]? =some x∧i∈(fZ s x.clock.toNat).filter (mN s)
 | 0=>by simp[iP,dQ,hi]
 | n + 1 => by
  have ih:=Pp (act:=act) i hi n
  have hl:=(Eh s act n).c
  cases ha:hasB act n with
  | false =>
   rw[Po ha,ih];constructor
   ·rintro⟨j,h1,h2⟩;exact⟨j,by omega,h2⟩
   ·rintro⟨j,h1,h2,h3⟩;rcases Nat.lt_or_ge j n with h | h
    ·exact⟨j,h,h2,h3⟩
    ·have:j=n:=by omega
     subst this;rw[ha] at h2;cases h2
  | true =>
   cases hx:s.aD[n]? with
   | none =>
    have e:iP s act (n+1)=iP s act n:=by
     show(if hasB act n then _ else _)=_
     rw[if_pos ha,hx]
    rw[e,ih];constructor
    ·rintro⟨j,h1,h2⟩;exact⟨j,by omega,h2⟩
    ·rintro⟨j,h1,h2,x,h3,h4⟩;rcases Nat.lt_or_ge j n with h | h
     ·exact⟨j,h,h2,x,h3,h4⟩
     ·have:j=n:=by omega
      subst this;rw[hx] at h3;cases h3
   | some x =>
    rw[Ui hx ha]
    show(sM ((fZ s x.clock.toNat).filter (mN s)) (iP s act n).c)[i]?.getD false=true↔_
    rw[aHb _ _ _ (by omega),Bool.or_eq_true,decide_eq_true_eq,ih];constructor
    ·rintro(h | ⟨j,h1,h2⟩)
     ·exact⟨n,by omega,ha,x,hx,h⟩
     ·exact⟨j,by omega,h2⟩
    ·rintro⟨j,h1,h2,y,h3,h4⟩;rcases Nat.lt_or_ge j n with h | h
     ·exact .inr ⟨j,h,h2,y,h3,h4⟩
     ·have:j=n:=by omega
      subst this;rw[hx] at h3;cases h3;exact .inl h4
theorem aFR{s:aC}{act:List Bool}(i:Nat){j:Nat}{x:bQ}(hi:i < s.aR.length)(hx:s.aD[j]? =some x)(ha:hasB act j=true)(hr:x.reset=(i:Int)):∀n,j < n→(iP s act n).l[i]?.getD false=true
 | n + 1, hj => by
  have hl:=(Eh s act n).l
  by_cases hjn:j=n
  ·subst hjn;rw[Ui hx ha]
   show(iC (iP s act j).l x.reset true)[i]?.getD false=true
   rw[hr,aHa,if_pos rfl,List.getElem?_eq_getElem (by omega)];rfl
  ·have ih:=aFR i hi hx ha hr n (by omega)
   cases vZ:hasB act n with
   | false=>rw[Po vZ];exact ih
   | true =>
    cases hy:s.aD[n]? with
    | none =>
     have e:iP s act (n+1)=iP s act n:=by
      show(if hasB act n then _ else _)=_
      rw[if_pos vZ,hy]
     rw[e];exact ih
    | some y =>
     rw[Ui hy vZ]
     show(iC (iP s act n).l y.reset true)[i]?.getD false=true
     unfold iC;rw[List.getElem?_set];split
     ·split<;>simp
      omega
     ·exact ih
theorem aLg{s:aC}(hm:s.made){a:List Bool}{j:Nat}{x:bQ}(hx:s.aD[j]? =some x)(ha:hasB a j=true):
  (eU s a).d[x.domain.toNat]?.getD false=true∧(eU s a).l[x.reset.toNat]?.getD false=true∧∀c,s.aF[x.clock.toNat]? =some c→(c.kind=112∨c.kind=103)→(eU s a).c[x.clock.toNat]?.getD false=true:=by
 have hj:=(List.getElem?_eq_some_iff.1 hx).1
 obtain⟨c0,c1,d0,d1,r0,r1,_⟩:=hm.aD j x hx
 have hu:Bt s (x.domain.toNat:Int) (Ei s x.domain.toNat):=aA2 hm (by omega)
 refine⟨(aA1 _ (by omega) _).2 ⟨j,hj,ha,x,hx,hu.head⟩,aFR _ (by omega) hx ha (by omega) _ hj,fun c hc hk=>(Pp _ (List.getElem?_eq_some_iff.1 hc).1 _).2 ⟨j,hj,ha,x,hx,List.mem_filter.2 ⟨?_,?_⟩⟩⟩
 ·unfold fZ;obtain⟨n,hn⟩:∃n,s.aF.length=n+1:=⟨s.aF.length - 1,by have:=hm.nc;omega⟩
  rw[hn,aJu hc];simp
 ·unfold mN;rw[hc];exact decide_eq_true hk
theorem aLf(s:aC):eU s []=dQ s:=by
 have:∀n,iP s [] n=dQ s:=fun n=>by
  induction n with
  | zero=>rfl
  | succ n ih=>rw[Po (by simp[hasB]),ih]
 exact this _
end
section
section
variable{s:aC}
theorem aE8(hm:s.made):∀(k c:Nat),∀i∈lK s k c,i≤c
 | 0,c,i,h=>by simp[lK] at h
 | k + 1, c, i, h => by
  unfold lK at h;cases hc:s.aF[c]? with
  | none=>rw[hc] at h;simp at h
  | some x =>
   rw[hc] at h;dsimp only at h;cases hs:x.src with
   | nil=>rw[hs] at h;simp at h;omega
   | cons f fs =>
    rw[hs] at h;rcases List.mem_cons.1 h with rfl | h
    ·exact Nat.le_refl _
    ·have:=aE8 hm k _ i h
     have hf:=((hm.aF c x hc).1) f (by rw[hs];simp)
     omega
theorem aJs(hm:s.made):∀(k k' c:Nat),c < k→c < k'→lK s k c=lK s k' c
 | 0,_,c,h,_=>by omega
 | _,0,c,_,h=>by omega
 | k + 1, k' + 1, c, h, h' => by
  unfold lK;cases hc:s.aF[c]? with
  | none=>rfl
  | some x =>
   dsimp only;cases hs:x.src with
   | nil=>rfl
   | cons f fs=>
    dsimp only
    have hf:=((hm.aF c x hc).1) f (by rw[hs];simp)
    rw[aJs hm k k' f.toNat (by omega) (by omega)]
theorem aJr(hm:s.made):∀(k c:Nat),c < k→∀i∈lK s k c,∀j∈lK s k i,j∈lK s k c
 | 0,c,h,_,_,_,_=>by omega
 | k + 1, c, hk, i, hi, j, hj => by
  have hi':=hi
  unfold lK at hi;cases hc:s.aF[c]? with
  | none=>rw[hc] at hi;simp at hi
  | some x =>
   rw[hc] at hi;dsimp only at hi;cases hs:x.src with
   | nil=>rw[hs] at hi;simp at hi;subst hi;exact hj
   | cons f fs =>
    rw[hs] at hi;rcases List.mem_cons.1 hi with rfl | hi
    ·exact hj
    ·have hf:=((hm.aF c x hc).1) f (by rw[hs];simp)
     have hle:=aE8 hm k _ i hi
     have hj2:j∈lK s k i:=by rw[aJs hm k (k+1) i (by omega) (by omega)];exact hj
     have:=aJr hm k f.toNat (by omega) i hi j hj2
     unfold lK;rw[hc];dsimp only;rw[hs];exact List.mem_cons_of_mem _ this
theorem aSQ(hm:s.made){c i j:Nat}(hc:c < s.aF.length)(hi:i∈fZ s c)(hj:j∈fZ s i):j∈fZ s c:=aJr hm _ c hc i hi j hj
theorem aBI(hm:s.made){c i:Nat}(hi:i∈fZ s c):i≤c:=aE8 hm _ c i hi
end
theorem Fk(l:List Bool)(i:Nat):hasB l i=l[i]?.getD false:=rfl
structure bM.cl(x:bM)(s:aC):Prop where
 of:x.of s
 up:∀(i:Nat) d,hasB x.d i=true→s.domains[i]? =some d→0≤d.above→hasB x.d d.above.toNat=true
 ch:∀i j:Nat,hasB x.c i=true→j∈fZ s i→mN s j=true→hasB x.c j=true
 sw:∀i:Nat,hasB x.c i=true→mN s i=true
theorem Rx{l:List Bool}{i:Nat}(h:hasB l i=true):i < l.length:=by
 rw[Fk] at h;rcases Nat.lt_or_ge i l.length with h1 | h1
 ·exact h1
 ·rw[List.getElem?_eq_none h1] at h;cases h
theorem aFQ{s:aC}(hm:s.made)(act:List Bool)(n:Nat):(iP s act n).cl s:=by
 have jT:=Eh s act n
 refine⟨jT,fun i d hi hd h0=>?_,fun i j hi hj hs=>?_,fun i hi=>?_⟩
 ·have hlt:=Rx hi
  rw[jT.d] at hlt;obtain⟨k,h1,h2,x,h3,h4⟩:=(aA1 i hlt n).1 hi
  have hx:=hm.aD k x h3
  have jB:x.domain.toNat < s.domains.length:=by obtain⟨_,tG,_⟩:=hx;omega
  have mX:=(aA2 hm jB).up i h4 d hd h0
  exact(aA1 _ ((aA2 hm jB).in_ _ mX) n).2 ⟨k,h1,h2,x,h3,mX⟩
 ·have hlt:=Rx hi
  rw[jT.c] at hlt;obtain⟨k,h1,h2,x,h3,h4⟩:=(Pp i hlt n).1 hi
  have hx:=hm.aD k x h3
  have iD:x.clock.toNat < s.aF.length:=by obtain⟨hx1,_⟩:=hx;omega
  rw[List.mem_filter] at h4
  have Ro:=aSQ hm iD h4.1 hj
  exact(Pp j (aE9 s _ _ j Ro) n).2 ⟨k,h1,h2,x,h3,List.mem_filter.2 ⟨Ro,hs⟩⟩
 ·have hlt:=Rx hi
  rw[jT.c] at hlt;obtain⟨k,h1,h2,x,h3,h4⟩:=(Pp i hlt n).1 hi;exact(List.mem_filter.1 h4).2
theorem aA6{l:List Nat}(hp:l.Pairwise (· < ·)){t i:Nat}(hi:l[t]? =some i)(j:Nat):j∈l.take t↔j∈l∧j < i:=by
 induction l generalizing t with
 | nil=>simp at hi
 | cons a r ih =>
  rw[List.pairwise_cons] at hp;cases t with
  | zero=>
   simp at hi;subst hi;simp only[List.take_zero,List.not_mem_nil,false_iff,not_and,List.mem_cons];rintro(rfl | h) h2
   ·omega
   ·have:=hp.1 j h;omega
  | succ t =>
   simp at hi
   have hir:=hp.1 i (List.mem_of_getElem? hi)
   rw[List.take_succ_cons,List.mem_cons,List.mem_cons,ih hp.2 hi];constructor
   ·rintro(rfl | h)
    ·exact⟨.inl rfl,hir⟩
    ·exact⟨.inr h.1,h.2⟩
   ·rintro⟨rfl | h,h2⟩
    ·exact .inl rfl
    ·exact .inr ⟨h,h2⟩
theorem aGe{l:List Nat}(hp:l.Pairwise (· > ·)){t i:Nat}(hi:l[t]? =some i)(j:Nat):j∈l.take t↔j∈l∧i < j:=by
 induction l generalizing t with
 | nil=>simp at hi
 | cons a r ih =>
  rw[List.pairwise_cons] at hp;cases t with
  | zero=>
   simp at hi;subst hi;simp only[List.take_zero,List.not_mem_nil,false_iff,not_and,List.mem_cons];rintro(rfl | h) h2
   ·omega
   ·have:=hp.1 j h;omega
  | succ t =>
   simp at hi
   have hir:=hp.1 i (List.mem_of_getElem? hi)
   rw[List.take_succ_cons,List.mem_cons,List.mem_cons,ih hp.2 hi];constructor
   ·rintro(rfl | h)
    ·exact⟨.inl rfl,hir⟩
    ·exact⟨.inr h.1,h.2⟩
   ·rintro⟨rfl | h,h2⟩
    ·exact .inl rfl
    ·exact .inr ⟨h,h2⟩
theorem aGV(n:Nat):(List.range n).Pairwise (· < ·):=List.pairwise_lt_range
theorem aAS(n:Nat)(a b:List Bool):(eW (List.range n) a b).Pairwise (· < ·):=(aGV n).filter _
theorem aHz(n:Nat)(a b:List Bool):(eW (List.range n).reverse a b).Pairwise (· > ·):=by
 unfold eW;refine List.Pairwise.filter _ ?_;rw[List.pairwise_reverse];exact aGV n
theorem has_fold(b:Bool)(ids:List Nat)(l:List Bool)(j:Nat)(hj:j < l.length):hasB (ids.foldl (fun d (i:Nat)=>iC d (i:Int) b) l) j=if j∈ids then b else hasB l j:=by
 unfold hasB;rw[Vo];split
 ·rw[List.getElem?_eq_getElem hj];rfl
 ·rfl
theorem Zg{α:Type}{A B:List α}{k:Nat}{p:α}(h:(A++B)[k]? =some p):(A[k]? =some p∧(A++B).take k=A.take k)∨∃t,B[t]? =some p∧(A++B).take k=A++B.take t:=by
 rcases Nat.lt_or_ge k A.length with hk | hk
 ·left;rw[List.getElem?_append_left hk] at h;exact⟨h,List.take_append_of_le_length (by omega)⟩
 ·right;rw[List.getElem?_append_right hk] at h;exact⟨k - A.length,h,by rw[List.take_append,List.take_of_length_le hk]⟩
theorem Px{pr msg:Int}{val:Nat→Int}{ids:List Nat}{t:Nat}{p:dG}(h:(jX pr msg val ids)[t]? =some p):∃i,ids[t]? =some i∧p=⟨pr,msg,i,val i⟩∧(jX pr msg val ids).take t=jX pr msg val (ids.take t):=by
 unfold jX at h⊢;rw[List.getElem?_map] at h;obtain⟨i,hi,rfl⟩:=Option.map_eq_some_iff.1 h;exact⟨i,hi,rfl,by rw[List.map_take]⟩
def uQ(p:dG):Int:=if p.pr=17 then(if p.v=1 then 117 else if p.v=0 then 100 else 107) else if p.pr=20 then(if p.v=1 then 99 else 111) else(if p.v=0 then 114 else 97)
structure Ty(s:aC)(x:bM)(p:dG)(k:Nat):Prop where
 pack:(eB p.msg 0 p.pr k).2=0
 dec:jK s x (dQ s) [] 0 [(eB p.msg 0 p.pr k).1,p.id,p.v]=(0,uQ p,p.id)
 kind:uQ p≠0
 done:jZ x 0 (uQ p) p.id=gZ x p
 id:0≤p.id∧p.id < 4294967296
 v:0≤p.v∧p.v < 4294967296
theorem Xh{m p:Int}{k:Nat}(hm:m=4∨m=7)(hp:p=17∨p=20∨p=22)(hk:k < 64):(eB m 0 p k).2=0∧uG (eB m 0 p k).1=0∧Fo (eB m 0 p k).1=0∧eF (eB m 0 p k).1=p∧eM (eB m 0 p k).1=m:=by
 obtain⟨h1,h2,h3⟩:=aPJ hm hp hk;rw[aFX] at h3;simp only[Ht,List.cons.injEq,Value.int.injEq,true_and,and_true] at h3;exact⟨h1,h2,h3.2.1,h3.2.2.1,h3.1⟩
theorem Qa{l:List Bool}{i:Nat}(hi:i < l.length)(b:Bool):kV l (i:Int) b=iC l (i:Int) b:=by
 rw[kV,if_pos ⟨by omega,by omega⟩];rfl
theorem Gi(x:bM)(k:Int)(i:Nat):pQ x k (i:Int)=hasB (Ai k x) i:=by
 unfold pQ;simp
theorem aC9(s:aC)(x:bM)(k i:Int):sJ x (dQ s) k i=pQ x k i:=by
 rw[sJ,aFO,Bool.or_false]
section
variable{s:aC}{x:bM}{k i:Nat}
theorem aQx(hm:s.made)(jT:x.of s)(hk:k < 64)(hi:i < s.domains.length)(hno:hasB x.d i=false)(mX:∀d,s.domains[i]? =some d→0≤d.above→hasB x.d d.above.toNat=true):Ty s x ⟨17,4,i,1⟩ k:=by
 obtain⟨e0,e1,e2,e3,e4⟩:=Xh (m:=4) (p:=17) (.inl rfl) (.inl rfl) hk
 have hr:dZ s [(eB 4 0 17 k).1,(i:Int),1]=(0,117,(i:Int)):=by
  unfold dZ;dsimp only;rw[e1,e2,e3,e4,if_neg (by simp),show qO 17 4=some ⟨2,3,100,117,107⟩ from rfl,show eH 17 4=⟨2,3,100,117,107⟩ from rfl];simp[wD,tD,lN.act,zU,hi]
 have hd:s.domains[i]? =some s.domains[i]:=List.getElem?_eq_getElem hi
 have hfit:=(hm.domains i _ hd).1
 refine⟨e0,?_,(by show(117:Int)≠0;decide),?_,⟨by simp,by have:=hm.nd;simp;omega⟩,⟨by simp,by simp⟩⟩
 ·show jK s x (dQ s) [] 0 [(eB 4 0 17 k).1,(i:Int),1]=(0,117,(i:Int))
  rw[aE0 hr (.inl rfl) (by decide) (by rw[if_pos rfl,Gi];exact hno),if_neg];rintro⟨_,h2⟩;rw[Int.toNat_natCast,hd] at h2;simp only[Option.any_some,Bool.and_eq_true,decide_eq_true_eq,Bool.not_eq_true'] at h2
  have h0:0≤(s.domains[i]).above:=by omega
  have h3:=mX _ hd h0
  rw[aC9,show(s.domains[i]).above=(((s.domains[i]).above.toNat:Nat):Int) by omega,Gi] at h2;rw[show Ai 117 x=x.d from rfl,h3] at h2;cases h2.2
 ·show(if(0:Nat)=0 then kU x 117 i else x)=_
  rw[if_pos rfl];unfold kU gZ;dsimp only;rw[if_pos (.inl rfl),if_pos ⟨rfl,rfl,by decide⟩,Qa (by rw[jT.d];exact hi)];rfl
theorem aQv(hm:s.made)(jT:x.of s)(hk:k < 64)(hi:i < s.aF.length)(lT:mN s i=true)(hno:hasB x.c i=false):Ty s x ⟨20,7,i,1⟩ k:=by
 obtain⟨e0,e1,e2,e3,e4⟩:=Xh (m:=7) (p:=20) (.inr rfl) (.inr (.inl rfl)) hk
 have aDA:qY s i:=by
  have hc:s.aF[i]? =some s.aF[i]:=List.getElem?_eq_getElem hi
  unfold mN at lT;unfold qY kindOf;rw[hc] at lT⊢;exact of_decide_eq_true lT
 have hr:dZ s [(eB 7 0 20 k).1,(i:Int),1]=(0,99,(i:Int)):=by
  unfold dZ;dsimp only;rw[e1,e2,e3,e4,if_neg (by simp),show qO 20 7=some ⟨2,2,111,99,0⟩ from rfl,show eH 20 7=⟨2,2,111,99,0⟩ from rfl];simp[wD,tD,lN.act,zU,hi,aDA]
 refine⟨e0,?_,(by show(99:Int)≠0;decide),?_,⟨by simp,by have:=hm.nc;simp;omega⟩,⟨by simp,by simp⟩⟩
 ·show jK s x (dQ s) [] 0 [(eB 7 0 20 k).1,(i:Int),1]=(0,99,(i:Int))
  rw[aE0 hr (.inr (.inl rfl)) (by decide) (by rw[if_pos rfl,Gi];exact hno),if_neg];rintro⟨h2,_⟩;cases h2
 ·show(if(0:Nat)=0 then kU x 99 i else x)=_
  rw[if_pos rfl];unfold kU gZ;dsimp only;rw[if_neg (by decide),if_pos (.inl rfl),if_neg (by decide),if_pos ⟨rfl,rfl,by decide⟩,Qa (by rw[jT.c];exact hi)];rfl
theorem aQu(hm:s.made)(jT:x.of s)(hk:k < 64)(hi:i < s.aR.length)(hno:hasB x.l i=false):Ty s x ⟨22,4,i,0⟩ k:=by
 obtain⟨e0,e1,e2,e3,e4⟩:=Xh (m:=4) (p:=22) (.inl rfl) (.inr (.inr rfl)) hk
 have hr:dZ s [(eB 4 0 22 k).1,(i:Int),0]=(0,114,(i:Int)):=by
  unfold dZ;dsimp only;rw[e1,e2,e3,e4,if_neg (by simp),show qO 22 4=some ⟨2,2,114,97,0⟩ from rfl,show eH 22 4=⟨2,2,114,97,0⟩ from rfl];simp[wD,tD,lN.act,zU,hi]
 refine⟨e0,?_,(by show(114:Int)≠0;decide),?_,⟨by simp,by have:=hm.nr;simp;omega⟩,⟨by simp,by simp⟩⟩
 ·show jK s x (dQ s) [] 0 [(eB 4 0 22 k).1,(i:Int),0]=(0,114,(i:Int))
  rw[aE0 hr (.inr (.inr rfl)) (by decide) (by rw[if_pos rfl,Gi];exact hno),if_neg];rintro⟨h2,_⟩;cases h2
 ·show(if(0:Nat)=0 then kU x 114 i else x)=_
  rw[if_pos rfl];unfold kU gZ;dsimp only;rw[if_neg (by decide),if_neg (by decide),if_pos (.inl rfl),if_neg (by decide),if_neg (by decide),if_pos ⟨rfl,rfl,by decide⟩,Qa (by rw[jT.l];exact hi)];rfl
theorem aEz(a:bM)(kd id:Int)(h:Kn s a (dQ s) kd id=false):Il s a (dQ s) 0 kd id=false:=by
 rw[Il,if_pos rfl,aFO,h];rfl
theorem aQw(hm:s.made)(jT:x.of s)(hk:k < 64)(hi:i < s.aF.length)(lT:mN s i=true)(hyes:hasB x.c i=true)(hno:∀j:Nat,j≠i→hasB x.c j=true→i∉fZ s j):Ty s x ⟨20,7,i,0⟩ k:=by
 obtain⟨e0,e1,e2,e3,e4⟩:=Xh (m:=7) (p:=20) (.inr rfl) (.inr (.inl rfl)) hk
 have aDA:qY s i:=by
  have hc:s.aF[i]? =some s.aF[i]:=List.getElem?_eq_getElem hi
  unfold mN at lT;unfold qY kindOf;rw[hc] at lT⊢;exact of_decide_eq_true lT
 have hr:dZ s [(eB 7 0 20 k).1,(i:Int),0]=(0,111,(i:Int)):=by
  unfold dZ;dsimp only;rw[e1,e2,e3,e4,if_neg (by simp),show qO 20 7=some ⟨2,2,111,99,0⟩ from rfl,show eH 20 7=⟨2,2,111,99,0⟩ from rfl];simp[wD,tD,lN.act,zU,hi,aDA]
 refine⟨e0,?_,(by show(111:Int)≠0;decide),?_,⟨by simp,by have:=hm.nc;simp;omega⟩,⟨by simp,by simp⟩⟩
 ·show jK s x (dQ s) [] 0 [(eB 7 0 20 k).1,(i:Int),0]=(0,111,(i:Int))
  rw[aE1 hr (by decide) (by decide) (by rw[if_pos rfl,Gi];exact hyes),aEz,aBL]
  ·rfl
  ·refine Xs fun j hj=>?_;cases ht:yN s x (dQ s) 111 i j with
   | false=>rfl
   | true=>
    exfalso;unfold yN at ht;rw[if_neg (by decide)] at ht;simp only[Bool.and_eq_true,decide_eq_true_eq,aC9,Gi] at ht
    have hc:=ht.2.2
    unfold yX at hc
    have hmem:=of_decide_eq_true hc
    rw[Int.toNat_natCast] at hmem;refine hno j (fun e=>ht.1 (by rw[e])) ht.2.1 ?_;simp only[dM,List.mem_map] at hmem;obtain⟨q,h1,h2⟩:=hmem
    have h3:(q:Int)=(i:Int):=h2
    have:q=i:=by omega
    rwa [←this]
 ·show(if(0:Nat)=0 then kU x 111 i else x)=_
  rw[if_pos rfl];unfold kU gZ;dsimp only;rw[if_neg (by decide),if_pos (.inr rfl),if_neg (by decide),if_pos ⟨rfl,rfl,by decide⟩,Qa (by rw[jT.c];exact hi)];rfl
theorem aQy(hm:s.made)(jT:x.of s)(hk:k < 64)(hi:i < s.domains.length)(hyes:hasB x.d i=true)(hno:∀(j:Nat) d,s.domains[j]? =some d→d.above=(i:Int)→hasB x.d j=false):Ty s x ⟨17,4,i,mP s i⟩ k:=by
 obtain⟨e0,e1,e2,e3,e4⟩:=Xh (m:=4) (p:=17) (.inl rfl) (.inl rfl) hk
 have hd:s.domains[i]? =some s.domains[i]:=List.getElem?_eq_getElem hi
 have aIi:∀kd:Int,(kd=100∨kd=107)→Kn s x (dQ s) kd i=false:=by
  intro kd Rm;refine Xs fun j hj=>?_;cases ht:yN s x (dQ s) kd i j with
  | false=>rfl
  | true =>
   exfalso;unfold yN at ht;rw[if_pos Rm,Bool.and_eq_true,aC9,Gi] at ht;cases hdj:s.domains[j]? with
   | none=>rw[hdj] at ht;simp at ht
   | some d=>
    rw[hdj] at ht
    have ha:d.above=(i:Int):=by simpa using ht.1
    have:=hno j d hdj ha
    have hl:Ai kd x=x.d:=by rcases Rm with rfl | rfl<;>rfl
    rw[hl,this] at ht;cases ht.2
 cases Kb:(s.domains[i]).ret with
 | false =>
  have e:mP s i=0:=by unfold mP;rw[hd];simp[Kb]
  rw[e]
  have hr:dZ s [(eB 4 0 17 k).1,(i:Int),0]=(0,100,(i:Int)):=by
   unfold dZ;dsimp only;rw[e1,e2,e3,e4,if_neg (by simp),show qO 17 4=some ⟨2,3,100,117,107⟩ from rfl,show eH 17 4=⟨2,3,100,117,107⟩ from rfl];simp[wD,tD,lN.act,zU,hi]
  refine⟨e0,?_,(by show(100:Int)≠0;decide),?_,⟨by simp,by have:=hm.nd;simp;omega⟩,⟨by simp,by simp⟩⟩
  ·show jK s x (dQ s) [] 0 [(eB 4 0 17 k).1,(i:Int),0]=(0,100,(i:Int))
   rw[aE1 hr (by decide) (by decide) (by rw[if_pos rfl,Gi];exact hyes),aEz _ _ _ (aIi 100 (.inl rfl)),aBL];rfl
  ·show(if(0:Nat)=0 then kU x 100 i else x)=_
   rw[if_pos rfl];unfold kU gZ;dsimp only;rw[if_pos (.inr (.inl rfl)),if_pos ⟨rfl,rfl,by decide⟩,Qa (by rw[jT.d];exact hi)];rfl
 | true =>
  have e:mP s i=2:=by unfold mP;rw[hd];simp[Kb]
  rw[e]
  have hr:dZ s [(eB 4 0 17 k).1,(i:Int),2]=(0,107,(i:Int)):=by
   have hro:Me s i=true:=by unfold Me;rw[hd];simp[Kb]
   unfold dZ;dsimp only;rw[e1,e2,e3,e4,if_neg (by simp),show qO 17 4=some ⟨2,3,100,117,107⟩ from rfl,show eH 17 4=⟨2,3,100,117,107⟩ from rfl];simp[wD,tD,lN.act,zU,hi,hro]
  refine⟨e0,?_,(by show(107:Int)≠0;decide),?_,⟨by simp,by have:=hm.nd;simp;omega⟩,⟨by simp,by simp⟩⟩
  ·show jK s x (dQ s) [] 0 [(eB 4 0 17 k).1,(i:Int),2]=(0,107,(i:Int))
   rw[aE1 hr (by decide) (by decide) (by rw[if_pos rfl,Gi];exact hyes),aEz _ _ _ (aIi 107 (.inr rfl)),aBL];rfl
  ·show(if(0:Nat)=0 then kU x 107 i else x)=_
   rw[if_pos rfl];unfold kU gZ;dsimp only;rw[if_pos (.inr (.inr rfl)),if_pos ⟨rfl,rfl,by decide⟩,Qa (by rw[jT.d];exact hi)];rfl
end
theorem aQE{s:aC}{L:List dG}{x:bM}(h:x.of s):(L.foldl gZ x).of s:=by
 induction L generalizing x with
 | nil=>exact h
 | cons p L ih=>
  obtain⟨h1,h2,h3⟩:=aTm x p;exact ih ⟨by rw[h1];exact h.d,by rw[h2];exact h.c,by rw[h3];exact h.l⟩
section
variable{s:aC}{x y:bM}
theorem zP{a b:List Bool}{i:Nat}:sK a b i=true↔hasB b i=true∧hasB a i=false:=by
 unfold sK;rw[Bool.and_eq_true,Bool.not_eq_true']
theorem Sd(L:List Nat)(z:bM):(jX 17 4 (fun _=>1) L).foldl gZ z=⟨L.foldl (fun d (i:Nat)=>iC d (i:Int) true) z.d,z.c,z.l⟩:=Yd (val:=fun _=>1) (b:=true) (fun _=>⟨by decide,rfl⟩) L z
theorem Yi(L:List Nat)(z:bM):(jX 20 7 (fun _=>1) L).foldl gZ z=⟨z.d,L.foldl (fun d (i:Nat)=>iC d (i:Int) true) z.c,z.l⟩:=Ye (val:=fun _=>1) (b:=true) (fun _=>⟨by decide,rfl⟩) L z
theorem aB6(L:List Nat)(z:bM):(jX 22 4 (fun _=>0) L).foldl gZ z=⟨z.d,z.c,L.foldl (fun d (i:Nat)=>iC d (i:Int) true) z.l⟩:=Yc (val:=fun _=>0) (b:=true) (fun _=>⟨by decide,rfl⟩) L z
theorem aEl(L:List Nat)(z:bM):(jX 22 4 (fun _=>1) L).foldl gZ z=⟨z.d,z.c,L.foldl (fun d (i:Nat)=>iC d (i:Int) false) z.l⟩:=Yc (val:=fun _=>1) (b:=false) (fun _=>⟨by decide,rfl⟩) L z
theorem aII(L:List Nat)(z:bM):(jX 20 7 (fun _=>0) L).foldl gZ z=⟨z.d,L.foldl (fun d (i:Nat)=>iC d (i:Int) false) z.c,z.l⟩:=Ye (val:=fun _=>0) (b:=false) (fun _=>⟨by decide,rfl⟩) L z
theorem aRf(s:aC)(L:List Nat)(z:bM):(jX 17 4 (mP s) L).foldl gZ z=⟨L.foldl (fun d (i:Nat)=>iC d (i:Int) false) z.d,z.c,z.l⟩:=Yd (val:=mP s) (b:=false) (fun k=>by have:=aCX s k;exact⟨by omega,decide_eq_false (by omega)⟩) L z
theorem aAM(b:Bool)(ids:List Nat)(l:List Bool):(ids.foldl (fun d (i:Nat)=>iC d (i:Int) b) l).length=l.length:=by
 induction ids generalizing l with
 | nil=>rfl
 | cons i ids ih=>rw[List.foldl_cons,ih,Mg]
end
section
variable{w0:World}{R:List Piece}{H:List HP}
end
end
section
structure aC.cX(s:aC):Prop where
 t:s.wX
 domains:Fits Dom.fit s.domains
 aR:∀r∈s.aR,0≤r∧r≤3
theorem aC.made.cX{s:aC}(h:s.made):s.cX:=⟨h.wX,h.domains,h.aR⟩
structure eS where
 on:Bool
 left:Int
def yW(c:eG):eS:=⟨false,if c.kind=112 then c.lock else 0⟩
def byF(c:eG):Int:=if c.kind=100 then c.div else 0
def rR(c:eG)(x:eS):Bool:=if c.kind=112 then x.on&&decide (x.left=0) else if c.kind=103 then x.on else true
def Pr(s:aC)(st:List eS)(i:Nat):Bool:=match s.aF[i]?,st[i]? with
 | some c,some x=>rR c x
 | _,_=>false
def runs(s:aC)(st:List eS)(i:Nat):Bool:=(fZ s i).all (Pr s st)
theorem aEA{s:aC}(hf:Fits eG.fit s.aF):∀(c k:Nat),c < k→lK s k c=lK s (c+1) c:=by
 intro c
 induction c using Nat.strongRecOn with
 | _ c ih =>
  intro k hk;obtain⟨k,rfl⟩:=Nat.exists_eq_add_of_lt hk;rw[show c+k+1=(c+k)+1 from rfl];unfold lK;cases hc:s.aF[c]? with
  | none=>rfl
  | some x =>
   dsimp only;cases hs:x.src with
   | nil=>rfl
   | cons f fs=>
    have hfit:=(hf c x hc).1 f (by rw[hs];simp)
    have h1:f.toNat < c:=by omega
    dsimp only;rw[ih f.toNat h1 (c+k) (by omega),ih f.toNat h1 c h1]
theorem Zd{s:aC}(hf:Fits eG.fit s.aF){i:Nat}{c:eG}(hc:s.aF[i]? =some c):fZ s i=i::(match c.src with
  | []=>[]
  | f::_=>fZ s f.toNat):=by
 have hlt:i < s.aF.length:=(List.getElem?_eq_some_iff.1 hc).1
 unfold fZ;rw[aEA hf i _ hlt];rw[lK,hc];dsimp only;cases hs:c.src with
 | nil=>rfl
 | cons f fs=>
  have hfit:=(hf i c hc).1 f (by rw[hs];simp)
  dsimp only;rw[aEA hf f.toNat i (by omega),aEA hf f.toNat s.aF.length (by omega)]
theorem aGx{s:aC}(hf:Fits eG.fit s.aF){st:List eS}{i:Nat}{c:eG}{x:eS}(hc:s.aF[i]? =some c)(hx:st[i]? =some x):runs s st i=(rR c x&&(match c.src with
  | []=>true
  | f::_=>runs s st f.toNat)):=by
 unfold runs;rw[Zd hf hc,List.all_cons]
 have:Pr s st i=rR c x:=by unfold Pr;rw[hc,hx]
 rw[this];cases c.src<;>rfl
def bN(n:Nat)(i:Int):Bool:=decide (0≤i∧i < (n:Int))
def qG(s:aC)(st:List eS)(i:Int):Bool:=bN s.aF.length i&&runs s st i.toNat
def Gw(c:eG)(x:eS)(b:Bool):eS:=⟨b,if c.kind=112∧b=false then c.lock else x.left⟩
def lD(s:aC)(st:List eS)(i:Int)(b:Bool):Int×List eS:=
 if bN s.aF.length i=false then(4,st) else match s.aF[i.toNat]?,st[i.toNat]? with
 | some c,some x=>if c.kind≠112∧c.kind≠103 then(1,st) else(0,st.set i.toNat (Gw c x b))
 | _,_=>(4,st)
def Pz(c:eG):Nat:=(c.src.headD 0).toNat
def vM(s:aC)(st:List eS)(c:eG)(x:eS):eS:=
 if c.kind=112∧x.on=true then(if runs s st (Pz c)=false then⟨true,c.lock⟩ else if 0 < x.left then⟨true,x.left - 1⟩ else x) else x
def lR(s:aC)(st:List eS):List eS:=List.zipWith (vM s st) s.aF st
structure qW(s:aC)(st:List eS):Prop where
 len:st.length=s.aF.length
 left:∀x∈st,0≤x.left∧x.left≤3
structure fH where
 phase:Int
 left:Int
 kept:Bool
 keep:Bool
def yV:fH:=⟨48,0,false,false⟩
def Kv(x:fH):Bool:=decide (x.phase=48∨x.phase=116)
def rW(st:List fH)(d:Int):Int:=if bN st.length d then(st[d.toNat]?.map (·.phase)).getD 0 else 0
def Oc(st:List fH)(a:Int):Bool:=decide (a= -1)||decide ((st[a.toNat]?.map (·.phase)).getD 0=49)
def uF(s:aC)(st:List fH)(d:Int):Int×List fH:=
 if bN st.length d=false then(4,st) else match s.domains[d.toNat]?,st[d.toNat]? with
 | some c,some x=>if Kv x=false∨Oc st c.above=false then(6,st) else(0,st.set d.toNat ⟨114,c.delay,decide (x.phase=116),x.keep⟩)
 | _,_=>(4,st)
def Hw(d:Int)(c:Dom)(x:fH):Bool:=decide (c.above=d)&& !Kv x
def Fm(s:aC)(st:List fH)(d:Int):Bool:=(List.zipWith (Hw d) s.domains st).any id
def wB(s:aC)(st:List fH)(d:Int)(keep:Bool):Int×List fH:=
 if bN st.length d=false then(4,st) else match s.domains[d.toNat]?,st[d.toNat]? with
 | some c,some x=>if x.phase≠49 then(6,st) else if keep=true∧c.ret=false then(1,st) else if Fm s st d then(7,st) else(0,st.set d.toNat ⟨99,x.left,x.kept,keep⟩)
 | _,_=>(4,st)
def gA(x:fH):Int×fH:=
 if x.phase=114 then(if 0 < x.left then(0,⟨114,x.left - 1,x.kept,x.keep⟩) else(if x.kept then 114 else 110,⟨104,x.left,x.kept,x.keep⟩))
 else if x.phase=104 then(111,⟨49,x.left,x.kept,x.keep⟩)
 else if x.phase=99 then(if x.keep then(115,⟨116,x.left,x.kept,x.keep⟩) else(108,⟨48,x.left,x.kept,x.keep⟩))
 else(0,x)
def lW(st:List fH)(n:Nat):List (Int×Nat):=(List.range n).filterMap fun i=>(st[i]?).bind fun x=>if(gA x).1=0 then none else some ((gA x).1,i)
def oU(st:List fH):List fH:=st.map fun x=>(gA x).2
structure vG(s:aC)(st:List fH):Prop where
 len:st.length=s.domains.length
 left:∀x∈st,0≤x.left∧x.left≤3
 phase:∀x∈st,0≤x.phase∧x.phase < 256
structure kJ where
 left:Int
 held:Bool
 wanted:Bool
def sQ:kJ:=⟨0,true,false⟩
def Au(st:List kJ)(i:Int):Bool:= !bN st.length i||(st[i.toNat]?.map (·.held)).getD true
def tS(s:aC)(st:List kJ)(i:Int):Int×List kJ:=
 if bN st.length i=false then(4,st) else(0,st.set i.toNat ⟨(s.aR[i.toNat]?).getD 0,true,false⟩)
def vO(st:List kJ)(i:Int):Int×List kJ:=
 if bN st.length i=false then(4,st) else match st[i.toNat]? with
 | some x=>if x.held=false then(6,st) else(0,st.set i.toNat ⟨x.left,x.held,true⟩)
 | none=>(4,st)
def lQ(x:kJ):kJ:=if x.held=false then x else if 0 < x.left then⟨x.left - 1,x.held,x.wanted⟩ else if x.wanted then⟨x.left,false,false⟩ else x
def Ej(st:List kJ):List kJ:=st.map lQ
structure Gf(s:aC)(st:List kJ):Prop where
 len:st.length=s.aR.length
 left:∀x∈st,0≤x.left∧x.left≤3
structure cO where
 now:List Int
 saved:List Int
 kept:Bool
def Fu(d:bQ):cO:=⟨d.aP.map (·.reset),d.aP.map fun _=>0,false⟩
def Ga(d:bQ)(x:cO):cO:=⟨d.aP.map (·.reset),x.saved,false⟩
def Mc(r:Rg)(p:Int×Int):Int:=if r.kept then p.1 else p.2
def wT(d:bQ)(x:cO):cO:=⟨x.now,List.zipWith Mc d.aP (x.now.zip x.saved),true⟩
def aAH(k:Bool)(r:Rg)(v:Int):Int:=if k&&r.kept then v else r.reset
def Jn(d:bQ)(x:cO):cO:=⟨List.zipWith (aAH x.kept) d.aP x.saved,x.saved,x.kept⟩
structure zE(d:bQ)(x:cO):Prop where
 now:x.now.length=d.aP.length
 saved:x.saved.length=d.aP.length
 u:(∀v∈x.now,0≤v∧v < 4294967296)∧∀v∈x.saved,0≤v∧v < 4294967296
structure dL where
 at_:Int
 denied:Int
def Qd:dL:=⟨0,0⟩
def qJ(a:Int):Int:=if a=0 then 114 else if a=1 then 97 else if a=2 then 115 else 100
def sE(x:dL):Int×dL:=if x.at_≠0 then(6,x) else(0,⟨1,x.denied⟩)
def nU(x:dL):Int×dL:=if x.at_≠2∧x.at_≠3 then(6,x) else(0,⟨0,x.denied⟩)
def uH(x:dL)(Ob dF:Bool):dL:=if x.at_≠1 then x else if dF then⟨3,IntKind.i64.wrap (x.denied+1)⟩ else if Ob then x else⟨2,0⟩
def Bw(x:dL):Prop:=0≤x.at_∧x.at_≤3
end
section
def Tz(n:Nat)(xs:List Value)(v:Value)(hs:List HP)(_:Piece):Prop:=∃A c,v=.slice A n c∧hs=[HP.own 48 2 (.slice A n c) n xs]
theorem Za(A:Option Addr)(n c:Nat)(xs:List Value)(w:World)(hs:aI (all w) 2 A n xs)(h1:∀u∈xs,u.oneCell'=true)(hn:n≤1000000):
  Cz 146 #[.slice A n c] w (fun y w'=>(∃v hs q,y=.returned v∧q.w=w'∧Tz n xs v hs q∧kC w hs q)∧Below w.heap.size w w'):=by
 refine aN func146 ntmps146 ?_;refine aA ?_;refine aAv (el:=48) (by kernel_rfl) rfl (by decide) ?_;refine dO ?_;refine qB rfl (fun hA=>?_) (fun hA=>?_)
 ·refine aA ?_
  have hn0:n=0:=by
   rcases Nat.eq_zero_or_pos n with h | h
   ·exact h
   ·obtain⟨b,off,rfl,_⟩:=hs.2 h;cases hA
  subst hn0
  have hx:xs=[]:=List.eq_nil_of_length_eq_zero (by simpa using hs.1)
  subst hx;refine iR 48 2 ?_;refine dP [] [] [0] (by simp) rfl (by decide) (by decide) fun q _ _ hfr=>?_;exact aT (h:=fun w1 st=>⟨_,_,⟨w1,q.Z⟩,rfl,rfl,⟨_,_,rfl,rfl⟩,st.newR (by simp) (by simp) (hfr (by simp) (by simp))⟩)
 ·refine aA ?_;refine Ec (el:=48) (sz:=2) (by kernel_rfl) (by kernel_rfl) (by decide) fun g=>?_;refine Bq 0 2 0 rfl rfl (by omega) ?_;dsimp only[List.set];refine aA ?_;refine gM 0 2 8 n (n':=n) (el:=48) (by kernel_rfl) (by kernel_rfl) (by decide) rfl rfl rfl (qZ (by simp) hs) h1 (by omega) (by omega) (by omega) (by decide) fun A' k'=>?_;dsimp only[List.set,List.nil_append];refine aA ?_;refine dP [] [] [0] (by simp) rfl (by decide) (by decide) fun q _ _ hfr=>?_;exact aT (h:=fun w1 st=>⟨_,_,⟨w1,q.Z⟩,rfl,rfl,⟨_,_,rfl,rfl⟩,st.newR (by simp) (by simp) (hfr (by simp) (by simp))⟩)
def aFy(n:Nat)(xs:List Value)(v:Value)(hs:List HP)(_:Piece):Prop:=∃A c,v=.slice A n c∧hs=[HP.own 23 1 (.slice A n c) n xs]
theorem aJl(A:Option Addr)(n c:Nat)(xs:List Value)(w:World)(hs:aI (all w) 1 A n xs)(h1:∀u∈xs,u.oneCell'=true)(hn:n≤1000000):
  Cz 164 #[.slice A n c] w (fun y w'=>(∃v hs q,y=.returned v∧q.w=w'∧aFy n xs v hs q∧kC w hs q)∧Below w.heap.size w w'):=by
 refine aN func164 ntmps164 ?_;refine aA ?_;refine aAv (el:=23) (by kernel_rfl) rfl (by decide) ?_;refine dO ?_;refine qB rfl (fun hA=>?_) (fun hA=>?_)
 ·refine aA ?_
  have hn0:n=0:=by
   rcases Nat.eq_zero_or_pos n with h | h
   ·exact h
   ·obtain⟨b,off,rfl,_⟩:=hs.2 h;cases hA
  subst hn0
  have hx:xs=[]:=List.eq_nil_of_length_eq_zero (by simpa using hs.1)
  subst hx;refine iR 23 1 ?_;refine dP [] [] [0] (by simp) rfl (by decide) (by decide) fun q _ _ hfr=>?_;exact aT (h:=fun w1 st=>⟨_,_,⟨w1,q.Z⟩,rfl,rfl,⟨_,_,rfl,rfl⟩,st.newR (by simp) (by simp) (hfr (by simp) (by simp))⟩)
 ·refine aA ?_;refine Ec (el:=23) (sz:=1) (by kernel_rfl) (by kernel_rfl) (by decide) fun g=>?_;refine Bq 0 1 0 rfl rfl (by omega) ?_;dsimp only[List.set];refine aA ?_;refine gM 0 1 4 n (n':=n) (el:=23) (by kernel_rfl) (by kernel_rfl) (by decide) rfl rfl rfl (qZ (by simp) hs) h1 (by omega) (by omega) (by omega) (by decide) fun A' k'=>?_;dsimp only[List.set,List.nil_append];refine aA ?_;refine dP [] [] [0] (by simp) rfl (by decide) (by decide) fun q _ _ hfr=>?_;exact aT (h:=fun w1 st=>⟨_,_,⟨w1,q.Z⟩,rfl,rfl,⟨_,_,rfl,rfl⟩,st.newR (by simp) (by simp) (hfr (by simp) (by simp))⟩)
end
section
def nR(l:List Int):List Value:=l.map (Value.int .u32)
theorem aA4(l:List Int):(nR l).length=l.length:=by simp[nR]
theorem aCF{l:List Int}{i:Nat}{v:Int}(h:l[i]? =some v):(nR l)[i]? =some (.int .u32 v):=by simp[nR,h]
theorem aCE(l:List Int)(i:Nat)(v:Int):(nR l).set i (.int .u32 v)=nR (l.set i v):=by simp[nR,List.map_set]
structure FL where
 f:Nat
 gn:Nat
 gs:Nat
 A:Option Addr
 c:Nat
def tX(d:bQ)(A:Option Addr)(p:Piece):Prop:=aI p 2 A d.aP.length (d.aP.flatMap Rg.cells)
theorem tX.le{d:bQ}{A:Option Addr}(p q:Piece)(hl:p.Le q)(h:tX d A p):tX d A q:=aI.le h hl
def Ks(L:FL)(d:bQ)(k:Bool):List Value:=[.slice L.A d.aP.length L.c,.slice (some ⟨L.gn,0,none⟩) d.aP.length d.aP.length,.slice (some ⟨L.gs,0,none⟩) d.aP.length d.aP.length,.bool k]
def iJ(L:FL)(d:bQ)(x:cO):HP:=HP.many [HP.aE L.f 298 (Ks L d x.kept),HP.aE L.gn 23 (nR x.now),HP.aE L.gs 23 (nR x.saved),HP.cE (tX d L.A) (tX.le (d:=d) (A:=L.A))]
structure Dz(w:World)(L:FL)(d:bQ)(x:cO):Prop where
 r0:eE w L.f 0 (Ks L d x.kept)
 now:eE w L.gn 0 (nR x.now)
 saved:eE w L.gs 0 (nR x.saved)
 made:aI (all w) 2 L.A d.aP.length (d.aP.flatMap Rg.cells)
theorem Dz.below{w w':World}{L:FL}{d:bQ}{x:cO}(h:Dz w L d x)(hb:Below w.heap.size w w'):Dz w' L d x:=⟨h.r0.below hb,h.now.below hb,h.saved.below hb,h.made.le (jW hb)⟩
theorem uW{w:World}{g:Nat}{t:TypeId}{cs:List Value}(h:vH w g t cs.toArray):eE w g 0 cs:=⟨h.lt,fun j v hv=>by rw[h.cell,Nat.zero_add];simpa using hv⟩
theorem aAl{L:FL}{d:bQ}{x:cO}{F:Nat→Prop}{w:World}(h:(iJ L d x).sat F w)(hF:∀b,F b→b < w.heap.size):Dz w L d x:=by
 obtain⟨G,g1,g2,_⟩:=h;exact⟨uW (g1 0 _ rfl).2,uW (g1 1 _ rfl).2,uW (g1 2 _ rfl).2,aI.le (g1 3 _ rfl) (fun b hb=>⟨hF b (g2 3 b hb),rfl⟩)⟩
section
variable{N:cH}{w0 w:World}{e:Env}{R:List Piece}{H:List HP}{K:Act→World→Prop}{L:FL}{d:bQ}{x:cO}
theorem St.aEo(t:St w0 R H w)(i:Nat)(hi:H[i]? =some (iJ L d x)):Dz w L d x:=by
 obtain⟨F,h1,h2,_⟩:=t.chunk hi;exact aAl h1 h2
theorem Zw(i:Nat)(hi:H[i]? =some (iJ L d x))(h:XK N w0 K e R (HP.aE L.gs 23 (nR x.saved)::HP.aE L.gn 23 (nR x.now)::HP.aE L.f 298 (Ks L d x.kept)::H.set i (HP.many [cM,cM,cM,HP.cE (tX d L.A) (tX.le (d:=d) (A:=L.A))]))):XK N w0 K e R H:=by
 have hlt:=Aq hi
 refine oO i 0 hi rfl ?_;refine oO (i+1) 1 (by rw[List.getElem?_cons_succ,List.getElem?_set_self hlt]) rfl ?_;refine oO (i+2) 2 (by simp[hlt];rfl) rfl ?_
 simpa[List.set_cons_succ,List.set_set] using h
theorem aAc(i:Nat)(hi:H[i]? =some (HP.many [cM,cM,cM,HP.cE (tX d L.A) (tX.le (d:=d) (A:=L.A))]))(h:XK N w0 K e R (H.set i (iJ L d x))):XK N w0 K e R (HP.aE L.gs 23 (nR x.saved)::HP.aE L.gn 23 (nR x.now)::HP.aE L.f 298 (Ks L d x.kept)::H):=by
 have hlt:=Aq hi
 refine sX (i+2) 2 (by simpa using hi) rfl ?_;dsimp only[List.set];refine sX (i+1) 1 (by simp[hlt];rfl) rfl ?_;dsimp only[List.set];refine sX i 0 (by simp[hlt];rfl) rfl ?_
 simpa[List.set_set,iJ] using h
end
theorem Vf(L:FL)(d:bQ)(x:cO)(w:World)(hR:Dz w L d x):
  Cz 72 #[.pointer (some ⟨L.f,0,none⟩)] w (Rt (iv d.aP.length) w):=by
 have h0:=hR.r0.at_ (j:=0) rfl
 refine aN func72 ntmps72 ?_;refine aA ?_;exact cZ
theorem aGP(p:Piece)(S:Nat→HP)(L:FL)(d:bQ)(hrl:d.aP.length≤100)(f:FuncId)(hf:fI Tryz.prog f=true)(ca:List Value)
  (hread:∀i,i≤d.aP.length→∀w F,(S i).sat F w→(∀b,F b→b < w.heap.size)→∃x,Dz w L d x)
  (hstep:∀i r,d.aP[i]? =some r→∀w F,(S i).sat F w→(∀b,F b→b < w.heap.size)→p.Le ⟨w,fun b=>b < w.heap.size∧¬F b⟩→
   Cz f (([iv (i:Int),.agg r.cells.toArray]:List Value)++ca).toArray w (Wr (.tuple #[]) (S (i+1)) w F))
  (w:World) (F:Nat→Prop) (hp:(S 0).sat F w) (hF:∀b,F b→b < w.heap.size) (Ho:p.Le ⟨w,fun b=>b < w.heap.size∧¬F b⟩):
  Cz 188 #[.pointer (some ⟨L.f,0,none⟩),.func (.func f) #[] ca.toArray] w (Wr (.tuple #[]) (S d.aP.length) w F):=by
 have hfr:∀{i:Nat} {R:List Piece} {H:List HP} {w1:World},i≤d.aP.length→St w R (S i::H) w1→∃x,Dz w1 L d x:=fun hi t=>by
  obtain⟨G,g1,g2,_⟩:=t.chunk (i:=0) rfl;exact hread _ hi _ G g1 g2
 refine dB func188 ntmps188 hp hF ?_;refine aA ?_
 refine aU (v:=iv d.aP.length) (fun w1 t=>by
  obtain⟨x,hx⟩:=hfr (Nat.zero_le _) t
  exact Vf L d x w1 hx) ?_
 refine aA ?_;refine bL [(7,iv 0),(6,iv d.aP.length),(1,.func (.func f) #[] ca.toArray),(0,.pointer (some ⟨L.f,0,none⟩))] ?_;refine eJ (fun m e R H=>∃i:Nat,i≤d.aP.length∧m=d.aP.length - i∧e=[(7,iv i),(6,iv d.aP.length),(1,.func (.func f) #[] ca.toArray),(0,.pointer (some ⟨L.f,0,none⟩))]∧R=[⟨w,fun b=>b < w.heap.size∧¬F b⟩]∧H=[S i]) d.aP.length ⟨0,by omega,rfl,rfl,rfl,rfl⟩ fun m e R H hI=>?_;obtain⟨i,hi,rfl,rfl,rfl,rfl⟩:=hI;refine aA ?_;refine aG rfl (fun hlt=>?_) (fun hge=>?_)
 ·have hlt:i < d.aP.length:=by omega
  obtain⟨r,hr⟩:=get_some hlt
  have hb0:∃b off,L.A=some ⟨b,off,none⟩:=by
   obtain⟨x,hx⟩:=hread 0 (Nat.zero_le _) w F hp hF;obtain⟨b,off,h,_⟩:=hx.made.2 (by omega);exact⟨b,off,h⟩
  obtain⟨b,off,hA⟩:=hb0
  have aDI:Rd w [⟨w,fun b=>b < w.heap.size∧¬F b⟩] [S i] L.f 0 (.slice (some ⟨b,off,none⟩) d.aP.length L.c):=fun w1 t=>by
   obtain⟨x,hx⟩:=hfr hi t;rw[←hA];exact(hx.r0.at_ (j:=0) rfl).2
  have aUF:aQ w [⟨w,fun b=>b < w.heap.size∧¬F b⟩] [S i] b (off+i*2) r.cells:=fun w1 t=>by
   obtain⟨x,hx⟩:=hfr hi t;obtain⟨b',off',pW,hro⟩:=aI.row (rows:=d.aP.map Rg.cells) (by rw[←List.flatMap_def];exact hx.made) (fun r hr=>by obtain⟨q,_,rfl⟩:=List.mem_map.1 hr;rfl) (by rw[List.getElem?_map,hr];rfl) hlt;rw[hA] at pW;cases pW;exact hro.2
  refine aA ?_;refine kd (dat i (off+i*2)) ?_;refine aA ?_
  refine aFG 0 (fi:=[]) (ca:=ca) (vs:=[iv (i:Int),.agg r.cells.toArray]) (p:=S i) (S (i+1)) hf rfl rfl rfl ⟨(by decide),rfl⟩ (fun w1 G t hG yI hle=>by
   have hpl:=Piece.Le.trans Ho (hle _ (by simp))
   simpa using hstep i r hr w1 G hG yI hpl) ?_
  dsimp only[List.set];refine aA ?_;exact dX (d.aP.length - (i+1)) ⟨i+1,hlt,rfl,rfl,rfl,rfl⟩
 ·obtain rfl:i=d.aP.length:=by omega
  refine aA ?_;exact jE 0 hF
end
section
def lE(vs old:List Int)(i:Nat):List Int:=vs.take i++old.drop i
theorem Vu(vs old:List Int):lE vs old 0=old:=by simp[lE]
theorem Vx{vs old:List Int}{n:Nat}(h1:vs.length=n)(h2:old.length=n):lE vs old n=vs:=by
 rw[lE,List.drop_eq_nil_of_le (by omega),List.append_nil,List.take_of_length_le (by omega)]
theorem Vw{vs old:List Int}{i n:Nat}(h1:vs.length=n)(h2:old.length=n)(hi:i≤n):(lE vs old i).length=n:=by simp[lE];omega
theorem Vv{vs old:List Int}{i:Nat}{v:Int}(h1:vs.length=old.length)(hv:vs[i]? =some v):(lE vs old i).set i v=lE vs old (i+1):=by
 have hi:=(List.getElem?_eq_some_iff.1 hv).1
 refine List.ext_getElem? fun j=>?_;rw[List.getElem?_set];unfold lE
 by_cases he:i=j
 ·subst he;rw[if_pos rfl,if_pos (by simp;omega),List.getElem?_append_left (by simp;omega),List.getElem?_take_of_lt (by omega),hv]
 ·rw[if_neg he];rcases Nat.lt_or_ge j i with hj | hj
  ·rw[List.getElem?_append_left (by simp;omega),List.getElem?_append_left (by simp;omega),List.getElem?_take_of_lt hj,List.getElem?_take_of_lt (by omega)]
  ·rw[List.getElem?_append_right (by simp;omega),List.getElem?_append_right (by simp;omega),List.getElem?_drop,List.getElem?_drop]
   congr 1
   simp;omega
theorem aO3{vs old:List Int}{i:Nat}{v:Int}(h1:vs.length=old.length)(hi:i < old.length)(hv:old[i]? =some v):(lE vs old i)[i]? =some v:=by
 rw[lE,List.getElem?_append_right (by simp;omega),List.getElem?_drop];simp only[List.length_take];rw[show i+(i - min i vs.length)=i by omega];exact hv
theorem aMW(p:Piece)(L:FL)(d:bQ)(x:cO)(f:FuncId)(hf:fI Tryz.prog f=true)(ca:List Value)(g2 g3 i:Nat)(r:Rg)(v:Int)(hr:d.aP[i]? =some r)(Fe:x.now.length=d.aP.length)
  (h2:p.Z g2∧p.w.cell? ⟨g2,0,none⟩=some (.pointer (some ⟨L.f,0,none⟩))) (h3:p.Z g3∧p.w.cell? ⟨g3,0,none⟩=some (.func (.func f) #[] ca.toArray))
  (hw:∀w F,(iJ L d x).sat F w→(∀b,F b→b < w.heap.size)→p.Le (all w)→Cz f (([iv (i:Int),.agg r.cells.toArray]:List Value)++ca).toArray w (Rt (.int .u32 v) w))
  (w:World) (F:Nat→Prop) (hp:(iJ L d x).sat F w) (hF:∀b,F b→b < w.heap.size) (Ho:p.Le ⟨w,fun b=>b < w.heap.size∧¬F b⟩):
  Cz 233 #[iv (i:Int),.agg r.cells.toArray,pt g3,pt g2] w (Wr (.tuple #[]) (iJ L d ⟨x.now.set i v,x.saved,x.kept⟩) w F):=by
 have hlt:=(List.getElem?_eq_some_iff.1 hr).1
 obtain⟨c2,e2⟩:=Ho g2 h2.1;obtain⟨c3,e3⟩:=Ho g3 h3.1
 have k2:w.cell? ⟨g2,0,none⟩=some (.pointer (some ⟨L.f,0,none⟩)):=(World.cell?_of_block (w:=p.w) e2).trans h2.2
 have k3:w.cell? ⟨g3,0,none⟩=some (.func (.func f) #[] ca.toArray):=(World.cell?_of_block (w:=p.w) e3).trans h3.2
 refine dB func233 ntmps233 hp hF ?_;refine aA ?_;refine bF fun g1=>?_;refine aA ?_
 have r2:Rd w [⟨w,fun b=>b < w.heap.size∧¬F b⟩] [HP.aE g1 48 r.cells,iJ L d x] g2 0 (.pointer (some ⟨L.f,0,none⟩)):=Rd.ro (List.mem_singleton.2 rfl) c2 k2
 have r3:Rd w [⟨w,fun b=>b < w.heap.size∧¬F b⟩] [HP.aE g1 48 r.cells,iJ L d x] g3 0 (.func (.func f) #[] ca.toArray):=Rd.ro (List.mem_singleton.2 rfl) c3 k3
 have r4:Rd w [⟨w,fun b=>b < w.heap.size∧¬F b⟩] [HP.aE g1 48 r.cells,iJ L d x] L.f 1 (.slice (some ⟨L.gn,0,none⟩) d.aP.length d.aP.length):=fun w1 t=>((t.aEo 1 rfl).r0.at_ (j:=1) rfl).2
 refine rI 9 (by kernel_rfl) (by kernel_rfl) ?_;refine bJ 0 ?_;refine bJ 1 ?_;refine bJ 2 ?_;refine bJ 3 ?_;refine bJ 4 ?_;refine bJ 5 ?_;refine bJ 6 ?_;refine bJ 7 ?_;refine cJ 8 ?_
 refine aBd (fi:=[]) (ca:=ca) (vs:=[iv (i:Int),.agg r.cells.toArray]) (v:=.int .u32 v) (hf:=hf) (fun w1 t=>by
  obtain⟨G,g1',g2',g3',_⟩:=t.chunk (i:=1) rfl
  have hle:p.Le (all w1):=fun b hb=>by
   obtain⟨a1,a2⟩:=(Piece.Le.trans Ho (g3' _ (List.mem_singleton.2 rfl))) b hb;exact⟨a1.1,a2⟩
  simpa using hw w1 G g1' g2' hle) ?_
 refine oA ?_;refine cJ 9 ?_;refine kd (dat i i) ?_;refine eZ ?_;refine cJ 10 ?_;refine Zw 1 rfl ?_;dsimp only[List.set]
 have Rb:=aA4 x.now
 refine fF rfl rfl ?_;dsimp only[List.set];rw[aCE];refine aAc (x:=⟨x.now.set i v,x.saved,x.kept⟩) 1 rfl ?_;refine eZ ?_;refine kH ?_;refine aA ?_;exact jE 1 hF
theorem aGQ(L:FL)(d:bQ)(x:cO)(hrl:d.aP.length≤100)(f:FuncId)(hf:fI Tryz.prog f=true)(ca:List Value)(p:Piece)(vs:List Int)(hvl:vs.length=d.aP.length)(Fe:x.now.length=d.aP.length)
  (hw:∀(i:Nat) (r:Rg) (v:Int),d.aP[i]? =some r→vs[i]? =some v→∀(now:List Int) w F,(iJ L d ⟨now,x.saved,x.kept⟩).sat F w→(∀b,F b→b < w.heap.size)→p.Le (all w)→Cz f (([iv (i:Int),.agg r.cells.toArray]:List Value)++ca).toArray w (Rt (.int .u32 v) w))
  (w:World) (F:Nat→Prop) (hp:(iJ L d x).sat F w) (hF:∀b,F b→b < w.heap.size) (Ho:p.Le ⟨w,fun b=>b < w.heap.size∧¬F b⟩):
  Cz 190 #[.pointer (some ⟨L.f,0,none⟩),.func (.func f) #[] ca.toArray] w (Wr (.tuple #[]) (iJ L d ⟨vs,x.saved,x.kept⟩) w F):=by
 refine dB func190 ntmps190 hp hF ?_;refine aA ?_;refine bF fun g2=>?_;refine bF fun g3=>?_;refine aA ?_;refine kS (vf:=[]) (vc:=[pt g3,pt g2]) rfl rfl (by decide) ?_;refine dP [⟨w,fun b=>b < w.heap.size∧¬F b⟩] [0,1] [2] (by simp) rfl (by decide) (by decide) fun q hq hLe _=>?_;obtain⟨F3,s3,z3⟩:=hq 0 _ (by simp) rfl;obtain⟨F2,s2,z2⟩:=hq 1 _ (by simp) rfl
 have hpq:p.Le q:=Piece.Le.trans Ho (hLe _ (by simp))
 refine eC 0 (iJ L d ⟨vs,x.saved,x.kept⟩) (fun w1 G t hG yI hle=>by
  have key:=aGP q (fun i=>iJ L d ⟨lE vs x.now i,x.saved,x.kept⟩) L d hrl 233 (by kernel_rfl) [pt g3,pt g2]
   (fun i _ w F h1 h2=>⟨_,aAl h1 h2⟩) (fun i r hr w2 F2' h1 h2 h3=>by
    have hlt:=(List.getElem?_eq_some_iff.1 hr).1
    obtain⟨v,hv⟩:=get_some (l:=vs) (i:=i) (by omega)
    have:=aMW q L d ⟨lE vs x.now i,x.saved,x.kept⟩ f hf ca g2 g3 i r v hr (Vw hvl Fe (by omega))
     ⟨z2 _ s2.1,by rw[s2.2.cell];rfl⟩ ⟨z3 _ s3.1,by rw[s3.2.cell];rfl⟩ (fun w3 F3 a1 a2 a3=>hw i r v hr hv _ w3 F3 a1 a2 (Piece.Le.trans hpq a3)) w2 F2' h1 h2 h3
    try dsimp only at this
    rw[Vv (by omega) hv] at this
    exact this) w1 G (by show(iJ L d ⟨lE vs x.now 0,x.saved,x.kept⟩).sat G w1;rw[Vu];exact hG) yI (hle q (by simp))
  try dsimp only at key
  rw[Vx hvl Fe] at key
  exact key) ?_
 refine aA ?_;exact jE 0 hF
end
section
structure GL where
 t:Nat
 A:Option Addr
 c:Nat
def pY(c:Dom)(x:fH):List Value:=[iv c.above,iv c.delay,.bool c.ret,.int .u8 x.phase,iv x.left,.bool x.kept,.bool x.keep]
def rG(s:aC)(st:List fH):List (List Value):=List.zipWith pY s.domains st
abbrev wM(L:GL)(s:aC)(st:List fH):HP:=Ow 273 231 7 L.t L.A s.domains.length L.c (rG s st)
abbrev aK6(w:World)(L:GL)(s:aC)(st:List fH):Prop:=Dt w 7 L.t L.A s.domains.length L.c (rG s st)
section
variable{s:aC}{st:List fH}
theorem aBB(hok:vG s st):(rG s st).length=s.domains.length∧∀r∈rG s st,r.length=7:=by
 have:=hok.len
 refine⟨by simp[rG];omega,fun r hr=>?_⟩;obtain⟨j,hj⟩:=List.getElem?_of_mem hr;rw[rG,List.getElem?_zipWith] at hj;split at hj<;>cases hj
 rfl
theorem Kw{i:Nat}{c:Dom}{x:fH}(hc:s.domains[i]? =some c)(hx:st[i]? =some x):(rG s st)[i]? =some (pY c x):=by
 rw[rG,List.getElem?_zipWith,hc,hx]
theorem aEu{i:Nat}{c:Dom}{x:fH}(hc:s.domains[i]? =some c)(hi:i < st.length):(rG s st).set i (pY c x)=rG s (st.set i x):=by
 refine List.ext_getElem? fun j=>?_;rw[List.getElem?_set]
 by_cases he:i=j
 ·subst he;rw[if_pos rfl,Kw hc (x:=x) (by rw[List.getElem?_set_self hi])];rw[if_pos]
  have h1:=(List.getElem?_eq_some_iff.1 hc).1
  simp[rG];omega
 ·rw[if_neg he,rG,rG,List.getElem?_zipWith,List.getElem?_zipWith,List.getElem?_set_ne he]
end
theorem aDf(t n c b off i:Nat)(w:World)(h0:fO w t 0 (.slice (some ⟨b,off,none⟩) n c))(hi:i < n):
  Cz 91 #[pt t,iv (i:Int)] w (Rt (.pointer (some ⟨b,off+i*7,none⟩)) w):=by
 refine aN func91 ntmps91 ?_;refine aA ?_;refine bU (t:=11) rfl (fun h=>absurd h (by omega)) (fun _=>?_);refine aA ?_;refine aG rfl (fun h=>absurd h (by omega)) (fun _=>?_);refine aA ?_;refine kd (dat i (off+i*7)) ?_;refine aA ?_;exact cZ
theorem aDe(t n c:Nat)(A:Option Addr)(i:Int)(w:World)(h0:fO w t 0 (.slice A n c))(hi:bN n i=false):
  Cz 91 #[pt t,iv i] w (Rt (.pointer none) w):=by
 have hi:=of_decide_eq_false hi
 refine aN func91 ntmps91 ?_;refine aA ?_;refine bU (t:=11) rfl (fun h=>?_) (fun h=>?_)
 ·refine aA ?_;exact cZ
 ·refine aA ?_;refine aG rfl (fun h=>?_) (fun h=>absurd hi (by omega));refine aA ?_;exact cZ
theorem aHe(g o:Nat)(p:Int)(w:World)(h3:fO w g (o+3) (.int .u8 p)):
  Cz 239 #[.pointer (some ⟨g,o,none⟩)] w (Rt (.bool (decide (p=48∨p=116))) w):=by
 refine aN func239 ntmps239 ?_;refine aA ?_;refine bU (t:=8) rfl (fun h=>?_) (fun h=>?_)
 ·refine aA ?_;refine kA (by simp) ?_;simp[h]
 ·refine aA ?_;refine kA (by simp) ?_;simp[h]
theorem aHd(L:GL)(s:aC)(st:List fH)(hok:vG s st)(d:Int)(w:World)(hR:aK6 w L s st):
  Cz 42 #[.pointer (some ⟨L.t,0,none⟩),iv d] w (Rt (.int .u8 (rW st d)) w):=by
 have hl:=hok.len
 cases hi:bN s.domains.length d
 ·refine aN func42 ntmps42 ?_;refine aA ?_;refine aU (fun w1 t=>aDe L.t s.domains.length L.c L.A d w1 ((hR.below (t.below (by simp))).r0) hi) ?_;refine aA ?_;refine kA (by simp) ?_;simp[rW,hl,hi]
 ·obtain⟨n,rfl⟩:∃n:Nat,d=n:=⟨d.toNat,by have:=of_decide_eq_true hi;omega⟩
  have hlt:n < s.domains.length:=by have:=of_decide_eq_true hi;omega
  obtain⟨c,hc⟩:=get_some hlt;obtain⟨x,hx⟩:=get_some (l:=st) (i:=n) (by omega);obtain⟨b,off,hA,hro⟩:=hR.at_ (aBB hok).2 (Kw hc hx) hlt
  have h3:=hro.at_ (j:=3) rfl
  refine aN func42 ntmps42 ?_;refine aA ?_;refine aU (fun w1 t=>aDf L.t s.domains.length L.c b off n w1 (by rw[←hA];exact(hR.below (t.below (by simp))).r0) hlt) ?_;refine aA ?_;refine kA (by simp) ?_;simp[rW,hl,hi,hx]
theorem aN9(L:GL)(s:aC)(st:List fH)(hH:s.cX)(hok:vG s st)(d:Int)(w:World)(F:Nat→Prop)(hp:(wM L s st).sat F w)(hF:∀b,F b→b < w.heap.size):
  Cz 223 #[.pointer (some ⟨L.t,0,none⟩),iv d] w (Wr (iv (uF s st d).1) (wM L s (uF s st d).2) w F):=by
 have hl:=hok.len
 cases hi:bN s.domains.length d
 ·have hr:uF s st d=(4,st):=by simp[uF,hl,hi]
  rw[hr];refine dB func223 ntmps223 hp hF ?_;refine aA ?_;refine aU (fun w1 t=>aDe L.t s.domains.length L.c L.A d w1 ((t.aCV 0 rfl).r0) hi) ?_;refine aA ?_;exact cI 0 hF
 ·obtain⟨n,rfl⟩:∃n:Nat,d=n:=⟨d.toNat,by have:=of_decide_eq_true hi;omega⟩
  have hlt:n < s.domains.length:=by have:=of_decide_eq_true hi;omega
  obtain⟨c,hc⟩:=get_some hlt;obtain⟨x,hx⟩:=get_some (l:=st) (i:=n) (by omega);obtain⟨iM,iL⟩:=aBB hok
  have mX:uF s st (n:Int)=if Kv x=false∨Oc st c.above=false then(6,st) else(0,st.set n ⟨114,c.delay,decide (x.phase=116),x.keep⟩):=by
   simp[uF,hl,hi,hc,hx]
  obtain⟨hfa,_,_⟩:=hH.domains n c hc;refine dB func223 ntmps223 hp hF ?_;refine aES 0 rfl (by omega) fun g cs hA h1 h2 h3 h4=>?_;dsimp only[List.set]
  have hs:=Ib h2 iM iL (Kw hc hx)
  have hlen:n*7+7≤cs.length:=by omega
  have hs1:=hs.set 5 (.bool (decide (x.phase=116))) (by simp[pY]) (by omega)
  have gB:=hs1.set 3 (.int .u8 114) (by simp[pY]) (by simp;omega)
  have rZ:=gB.set 4 (iv c.delay) (by simp[pY]) (by simp;omega)
  have hu3:=(((wG.refl cs (n*7) 7).set 5 (.bool (decide (x.phase=116))) (by decide)).set 3 (.int .u8 114) (by decide)).set 4 (iv c.delay) (by decide)
  have hf:=Ft (r':=pY c ⟨114,c.delay,decide (x.phase=116),x.keep⟩) h2 iM iL hlt (by omega) rfl rZ hu3
  rw[aEu hc (by omega)] at hf;refine aA ?_;refine aU (fun w1 t=>aDf L.t s.domains.length L.c g 0 n w1 ((t.box (i:=1) rfl).at_ (j:=0) rfl) hlt) ?_;rw[Nat.zero_add];refine aA ?_;refine mM ?_;refine jC ?_;refine tT (fun w1 t=>aHe g (n*7) x.phase w1 ⟨(t.aE (i:=0) rfl).lt,Rd.sub 0 3 rfl hs rfl rfl w1 t⟩) ?_;refine jC ?_;refine Od 14 rfl (fun hd=>?_) (fun hd=>?_)
  ·rw[mX,if_pos (.inl (decide_eq_false hd))];refine jD ?_;refine aA ?_;refine Iv 0 hA h1 h2 h3 h4 rfl ?_;exact cI 0 hF
  ·have hdn:Kv x=true:=decide_eq_true (Classical.not_not.1 hd)
   refine jC ?_;refine Od 21 rfl (fun ha=>?_) (fun ha=>?_)
   ·obtain⟨a,vZ,vX⟩:∃a:Nat,c.above=a∧a < n:=⟨c.above.toNat,by omega,by omega⟩
    obtain⟨ca,hca⟩:=get_some (l:=s.domains) (i:=a) (by omega);obtain⟨xa,hxa⟩:=get_some (l:=st) (i:=a) (by omega)
    have hsa:=Ib h2 iM iL (Kw hca hxa)
    refine jC ?_;refine xF (dat a (a*7)) ?_;refine jD ?_
    have hal:Oc st c.above=decide (xa.phase=49):=by
     unfold Oc;rw[vZ,Int.toNat_natCast,hxa]
     first | (simp;done) | (simp;omega)
    refine aG rfl (fun h=>?_) (fun h=>?_)
    ·rw[mX,if_pos (.inr (by rw[hal];exact decide_eq_false h))];refine aA ?_;refine Iv 0 hA h1 h2 h3 h4 rfl ?_;exact cI 0 hF
    ·rw[mX,if_neg (by rw[hal,hdn];simp;exact Classical.not_not.1 h)];refine aA ?_;refine Iv 0 hA (by simpa using h1) hf h3 h4 rfl ?_;exact cI 0 hF
   ·have ha:=Classical.not_not.1 ha
    rw[mX,if_neg (by rw[hdn];simp[Oc,ha])];refine jD ?_;refine aA ?_;refine Iv 0 hA (by simpa using h1) hf h3 h4 rfl ?_;exact cI 0 hF
end
section
theorem aQk{s:aC}{st:List fH}{d:Int}(h:∀(j:Nat) (c:Dom) (x:fH),s.domains[j]? =some c→st[j]? =some x→Hw d c x=false):Fm s st d=false:=by
 unfold Fm;rw[List.any_eq_false];intro b hb;obtain⟨j,hj⟩:=List.getElem?_of_mem hb;rw[List.getElem?_zipWith] at hj;cases hc:s.domains[j]? with
 | none=>rw[hc] at hj;cases hj
 | some c =>
  cases hx:st[j]? with
  | none=>rw[hc,hx] at hj;cases hj
  | some x=>
   rw[hc,hx] at hj;cases hj;rw[h j c x hc hx];decide
theorem aQj{s:aC}{st:List fH}{d:Int}{j:Nat}{c:Dom}{x:fH}(hc:s.domains[j]? =some c)(hx:st[j]? =some x)(h:Hw d c x=true):Fm s st d=true:=by
 unfold Fm;rw[List.any_eq_true];exact⟨Hw d c x,List.mem_of_getElem? (i:=j) (by rw[List.getElem?_zipWith,hc,hx]),h⟩
theorem aNE(L:GL)(s:aC)(st:List fH)(hok:vG s st)(hnd:s.domains.length≤1000)(d:Int)(keep:Bool)(w:World)(F:Nat→Prop)(hp:(wM L s st).sat F w)(hF:∀b,F b→b < w.heap.size):
  Cz 227 #[.pointer (some ⟨L.t,0,none⟩),iv d,.bool keep] w (Wr (iv (wB s st d keep).1) (wM L s (wB s st d keep).2) w F):=by
 have hl:=hok.len
 cases hi:bN s.domains.length d
 ·have hr:wB s st d keep=(4,st):=by simp[wB,hl,hi]
  rw[hr];refine dB func227 ntmps227 hp hF ?_;refine aB ?_;refine aU (fun w1 t=>aDe L.t s.domains.length L.c L.A d w1 ((t.aCV 0 rfl).r0) hi) ?_;refine aB ?_;exact cI 0 hF
 ·obtain⟨n,rfl⟩:∃n:Nat,d=n:=⟨d.toNat,by have:=of_decide_eq_true hi;omega⟩
  have hlt:n < s.domains.length:=by have:=of_decide_eq_true hi;omega
  obtain⟨c,hc⟩:=get_some hlt;obtain⟨x,hx⟩:=get_some (l:=st) (i:=n) (by omega);obtain⟨iM,iL⟩:=aBB hok
  have hdn:wB s st (n:Int) keep=if x.phase≠49 then(6,st) else if keep=true∧c.ret=false then(1,st) else if Fm s st n then(7,st) else(0,st.set n ⟨99,x.left,x.kept,keep⟩):=by
   simp[wB,hl,hi,hc,hx]
  refine dB func227 ntmps227 hp hF ?_;refine aES 0 rfl (by omega) fun g cs hA h1 h2 h3 h4=>?_;dsimp only[List.set]
  have hs:=Ib h2 iM iL (Kw hc hx)
  have hlen:n*7+7≤cs.length:=by omega
  have hs1:=hs.set 3 (.int .u8 99) (by simp[pY]) (by omega)
  have gB:=hs1.set 6 (.bool keep) (by simp[pY]) (by simp;omega)
  have hu2:=((wG.refl cs (n*7) 7).set 3 (.int .u8 99) (by decide)).set 6 (.bool keep) (by decide)
  have hf:=Ft (r':=pY c ⟨99,x.left,x.kept,keep⟩) h2 iM iL hlt (by omega) rfl gB hu2
  rw[aEu hc (by omega)] at hf;refine aB ?_;refine aU (fun w1 t=>aDf L.t s.domains.length L.c g 0 n w1 ((t.box (i:=1) rfl).at_ (j:=0) rfl) hlt) ?_;rw[Nat.zero_add];refine aB ?_;refine aG rfl (fun mJ=>?_) (fun mJ=>?_)
  ·rw[hdn,if_pos mJ];refine aB ?_;refine Iv 0 hA h1 h2 h3 h4 rfl ?_;exact cI 0 hF
  rw[if_neg mJ] at hdn;refine lY ?_;refine dN ?_;refine cQ ?_;refine aAb 27 (keep=true∧c.ret=false) ?_ ?_
  ·cases keep
   ·refine aA ?_;exact Tf
   ·refine aA ?_;cases hrt:c.ret<;>exact Tf
  refine aG rfl (fun hk=>?_) (fun hk=>?_)
  ·rw[hdn,if_pos hk];refine aB ?_;refine Iv 0 hA h1 h2 h3 h4 rfl ?_;exact cI 0 hF
  rw[if_neg hk] at hdn;refine aB ?_;refine bL [(33,iv 0),(32,iv s.domains.length),(7,.pointer (some ⟨g,n*7,none⟩)),(2,.bool keep),(1,iv n),(0,.pointer (some ⟨L.t,0,none⟩))] ?_;refine eJ (fun m e R H=>∃i:Nat,i≤s.domains.length∧(∀(j:Nat) (c:Dom) (x:fH),j < i→s.domains[j]? =some c→st[j]? =some x→Hw n c x=false)∧m=s.domains.length - i∧e=[(33,iv i),(32,iv s.domains.length),(7,.pointer (some ⟨g,n*7,none⟩)),(2,.bool keep),(1,iv n),(0,.pointer (some ⟨L.t,0,none⟩))]∧R=[⟨w,fun b=>b < w.heap.size∧¬F b⟩]∧H=[HP.aE g 231 cs,HP.aE L.t 273 [.slice (some ⟨g,0,none⟩) s.domains.length L.c],HP.many [cM,cM]]) s.domains.length ⟨0,by omega,fun j _ _ hj=>by omega,rfl,rfl,rfl,rfl⟩ fun m e R H hI=>?_;obtain⟨i,hi2,hno,rfl,rfl,rfl,rfl⟩:=hI;refine aB ?_;refine aG rfl (fun vX=>?_) (fun hge=>?_)
  ·have vX:i < s.domains.length:=by omega
   obtain⟨ci,sA⟩:=get_some vX;obtain⟨xi,hxi⟩:=get_some (l:=st) (i:=i) (by omega)
   have hsi:=Ib h2 iM iL (Kw sA hxi)
   clear hs1 gB;refine aA ?_;refine kd (dat i (i*7)) ?_;refine aB ?_;refine bU (t:=47) rfl (fun ha=>?_) (fun ha=>?_)
   ·refine aA ?_;refine kd (dat i (i*7)) ?_;refine aB ?_;refine aU (fun w1 t=>aHe g (i*7) xi.phase w1 ⟨(t.aE (i:=0) rfl).lt,Rd.sub 0 3 rfl hsi rfl rfl w1 t⟩) ?_;refine aB ?_;refine aG rfl (fun hd=>?_) (fun hd=>?_)
    ·have hh:Fm s st n=true:=aQj sA hxi (by simp[Hw,ha,Kv];simpa using hd)
     rw[hdn,if_pos hh];refine aB ?_;refine Iv 0 hA h1 h2 h3 h4 rfl ?_;exact cI 0 hF
    ·refine aB ?_;refine bL [(33,iv (i+1:Nat)),(32,iv s.domains.length),(7,.pointer (some ⟨g,n*7,none⟩)),(2,.bool keep),(1,iv n),(0,.pointer (some ⟨L.t,0,none⟩))] ?_;refine iF (s.domains.length - (i+1)) (by omega) ⟨i+1,vX,fun j c x hj Fj yF=>?_,rfl,rfl,rfl,rfl⟩;rcases Nat.lt_or_ge j i with h | h
     ·exact hno j c x h Fj yF
     ·obtain rfl:j=i:=by omega
      rw[sA] at Fj;rw[hxi] at yF;cases Fj;cases yF
      have hd:=Classical.not_not.1 hd
      simp[Hw,Kv,hd]
   ·refine aB ?_;refine bL [(33,iv (i+1:Nat)),(32,iv s.domains.length),(7,.pointer (some ⟨g,n*7,none⟩)),(2,.bool keep),(1,iv n),(0,.pointer (some ⟨L.t,0,none⟩))] ?_;refine iF (s.domains.length - (i+1)) (by omega) ⟨i+1,vX,fun j c x hj Fj yF=>?_,rfl,rfl,rfl,rfl⟩;rcases Nat.lt_or_ge j i with h | h
    ·exact hno j c x h Fj yF
    ·obtain rfl:j=i:=by omega
     rw[sA] at Fj;rw[hxi] at yF;cases Fj;cases yF;simp[Hw,ha]
  ·obtain rfl:i=s.domains.length:=by omega
   have hh:Fm s st n=false:=aQk fun j c x Fj yF=>hno j c x (List.getElem?_eq_some_iff.1 Fj).1 Fj yF
   rw[hdn,if_neg (by rw[hh];decide)];refine aB ?_;refine Iv 0 hA (by simpa using h1) hf h3 h4 rfl ?_;exact cI 0 hF
def oB(cs:List Value)(o:Nat)(x:fH):List Value:=
 if x.phase=114 then(if 0 < x.left then cs.set (o+4) (iv (x.left - 1)) else cs.set (o+3) (.int .u8 104))
 else if x.phase=104 then cs.set (o+3) (.int .u8 49)
 else if x.phase=99 then cs.set (o+3) (.int .u8 (if x.keep then 116 else 48)) else cs
theorem aL6{cs:List Value}{o:Nat}{c:Dom}{x:fH}(h:Sub cs o (pY c x))(hl:o+7≤cs.length):Sub (oB cs o x) o (pY c (gA x).2)∧wG cs (oB cs o x) o 7:=by
 have hu:=wG.refl cs o 7
 obtain⟨ph,left,kept,keep⟩:=x
 by_cases h1:ph=114
 ·subst h1
  by_cases h2:0 < left
  ·simp only[oB,gA,if_pos h2,if_true];exact⟨h.set 4 (iv (left - 1)) (by simp[pY]) (by omega),hu.set 4 _ (by decide)⟩
  ·simp only[oB,gA,if_neg h2,if_true];exact⟨h.set 3 (.int .u8 104) (by simp[pY]) (by omega),hu.set 3 _ (by decide)⟩
 ·by_cases h2:ph=104
  ·simp only[oB,gA,if_neg h1,if_pos h2];exact⟨h.set 3 (.int .u8 49) (by simp[pY]) (by omega),hu.set 3 _ (by decide)⟩
  ·by_cases h3:ph=99
   ·simp only[oB,gA,if_neg h1,if_neg h2,if_pos h3];cases keep
    ·exact⟨h.set 3 (.int .u8 48) (by simp[pY]) (by omega),hu.set 3 _ (by decide)⟩
    ·exact⟨h.set 3 (.int .u8 116) (by simp[pY]) (by omega),hu.set 3 _ (by decide)⟩
   ·simp only[oB,gA,if_neg h1,if_neg h2,if_neg h3];exact⟨h,hu⟩
theorem aNB(g o:Nat)(cs:List Value)(c:Dom)(x:fH)(hs:Sub cs o (pY c x))(hlen:o+7≤cs.length)(hx:0≤x.left∧x.left≤3)(w:World)(F:Nat→Prop)(hp:(HP.aE g 231 cs).sat F w)(hF:∀b,F b→b < w.heap.size):
  Cz 112 #[.pointer (some ⟨g,o,none⟩)] w (Wr (.int .u8 (gA x).1) (HP.aE g 231 (oB cs o x)) w F):=by
 refine dB func112 ntmps112 hp hF ?_;obtain⟨ph,left,kept,keep⟩:=x;dsimp only at hx;dsimp only[pY] at hs;refine aA ?_;refine aG rfl (fun h=>?_) (fun h=>?_)
 ·subst h;refine aA ?_;refine aG rfl (fun hp=>?_) (fun hp=>?_)
  ·refine aA ?_;refine nA rfl rfl fun w1 t=>⟨by simp[gA,oB,hp,if_true],?_⟩
   simp only[gA,oB,if_pos hp,if_true];exact t.turns hF (by simp) (i:=0) rfl
  ·have hs1:=hs.set 3 (.int .u8 104) (by simp) (by omega)
   refine aA ?_;refine qB rfl (fun hk=>?_) (fun hk=>?_)
   ·refine aA ?_;refine nA rfl rfl fun w1 t=>⟨by simp[gA,oB,hp,if_true,hk],?_⟩
    simp only[gA,oB,if_neg hp,if_true,hk];exact t.turns hF (by simp) (i:=0) rfl
   ·refine aA ?_;refine nA rfl rfl fun w1 t=>⟨by simp[gA,oB,hp,if_true,hk],?_⟩
    simp only[gA,oB,if_neg hp,if_true,hk];exact t.turns hF (by simp) (i:=0) rfl
 ·refine aA ?_;refine aG rfl (fun h2=>?_) (fun h2=>?_)
  ·refine aA ?_;refine nA rfl rfl fun w1 t=>⟨by simp[gA,oB,h,h2],?_⟩
   simp only[gA,oB,if_neg h,if_pos h2];exact t.turns hF (by simp) (i:=0) rfl
  ·refine aA ?_;refine aG rfl (fun h3=>?_) (fun h3=>?_)
   ·refine aA ?_;refine qB rfl (fun hk=>?_) (fun hk=>?_)
    ·refine aA ?_;refine nA rfl rfl fun w1 t=>⟨by simp[gA,oB,h,h2,h3,hk,if_true],?_⟩
     simp only[gA,oB,if_neg h,if_neg h2,if_pos h3,hk,if_true];exact t.turns hF (by simp) (i:=0) rfl
    ·refine aA ?_;refine nA rfl rfl fun w1 t=>⟨by simp[gA,oB,h,h2,h3,hk],?_⟩
     simp only[gA,oB,if_neg h,if_neg h2,if_pos h3,hk];exact t.turns hF (by simp) (i:=0) rfl
   ·refine aA ?_;refine nA rfl rfl fun w1 t=>⟨by simp[gA,oB,h,h2,h3],?_⟩
    simp only[gA,oB,if_neg h,if_neg h2,if_neg h3];exact t.turns hF (by simp) (i:=0) rfl
theorem aGp{α:Type}{l:List α}{i:Nat}{x:α}(h:l[i]? =some x):l.set i x=l:=by
 refine List.ext_getElem? fun j=>?_;rw[List.getElem?_set]
 by_cases he:i=j
 ·subst he;rw[if_pos rfl,if_pos (List.getElem?_eq_some_iff.1 h).1,h]
 ·rw[if_neg he]
def Gy(st:List fH)(i:Nat):List fH:=(oU st).take i++st.drop i
theorem aDq{α:Type}(f:α→α)(st:List α){i:Nat}(hi:i < st.length):((st.map f).take i++st.drop i)[i]? =st[i]? :=by
 have:((st.map f).take i).length=i:=by simp;omega
 rw[List.getElem?_append_right (by omega),this,Nat.sub_self,List.getElem?_drop,Nat.add_zero]
theorem aDp{α:Type}(f:α→α)(st:List α){i:Nat}{x:α}(hx:st[i]? =some x):((st.map f).take i++st.drop i).set i (f x)=(st.map f).take (i+1)++st.drop (i+1):=by
 have hi:=(List.getElem?_eq_some_iff.1 hx).1
 refine List.ext_getElem? fun j=>?_;rw[List.getElem?_set]
 by_cases he:i=j
 ·subst he;rw[if_pos rfl,if_pos (by simp;omega),List.getElem?_append_left (by simp;omega),List.getElem?_take_of_lt (by omega),List.getElem?_map,hx];rfl
 ·rw[if_neg he];rcases Nat.lt_or_ge j i with hj | hj
  ·rw[List.getElem?_append_left (by simp;omega),List.getElem?_append_left (by simp;omega),List.getElem?_take_of_lt hj,List.getElem?_take_of_lt (by omega)]
  ·rw[List.getElem?_append_right (by simp;omega),List.getElem?_append_right (by simp;omega),List.getElem?_drop,List.getElem?_drop]
   congr 1
   simp;omega
theorem aGb{x:fH}(hl:0≤x.left∧x.left≤3)(hp:0≤x.phase∧x.phase < 256):(0≤(gA x).2.left∧(gA x).2.left≤3)∧(0≤(gA x).2.phase∧(gA x).2.phase < 256):=by
 unfold gA
 repeat' split
 all_goals(dsimp only;constructor<;>omega)
theorem aCI{s:aC}{st:List fH}(hok:vG s st):vG s (oU st):=by
 have hl:=hok.len
 refine⟨by simp[oU];omega,fun x hx=>?_,fun x hx=>?_⟩
 ·obtain⟨y,hy,rfl⟩:=List.mem_map.1 hx;exact(aGb (hok.left y hy) (hok.phase y hy)).1
 ·obtain⟨y,hy,rfl⟩:=List.mem_map.1 hx;exact(aGb (hok.left y hy) (hok.phase y hy)).2
theorem aO5{s:aC}{st:List fH}(hok:vG s st){i:Nat}(hi:i≤s.domains.length):vG s (Gy st i):=by
 have hl:=hok.len
 have ht:=aCI hok
 refine⟨by simp[Gy,oU];omega,fun x hx=>?_,fun x hx=>?_⟩
 ·rcases List.mem_append.1 hx with h | h
  ·exact ht.left x (List.mem_of_mem_take h)
  ·exact hok.left x (List.mem_of_mem_drop h)
 ·rcases List.mem_append.1 hx with h | h
  ·exact ht.phase x (List.mem_of_mem_take h)
  ·exact hok.phase x (List.mem_of_mem_drop h)
def Fv(p:Int×Nat):List Value:=[.int .u8 p.1,iv (p.2:Int)]
theorem aIL(st:List fH)(n:Nat):(lW st n).length≤n:=by
 unfold lW;exact Nat.le_trans (List.length_filterMap_le _ _) (by simp)
theorem aRm{st:List fH}{i:Nat}{x:fH}(hx:st[i]? =some x):lW st (i+1)=lW st i++(if(gA x).1=0 then[] else[((gA x).1,i)]):=by
 unfold lW;rw[List.range_succ,List.filterMap_append];simp only[List.filterMap_cons,List.filterMap_nil,hx,Option.bind_some]
 by_cases h:(gA x).1=0<;>simp[h]
theorem aNA(L:GL)(s:aC)(st:List fH)(hok:vG s st)(hnd:s.domains.length≤1000)(w:World)(F:Nat→Prop)(hp:(wM L s st).sat F w)(hF:∀b,F b→b < w.heap.size):
  Cz 59 #[.pointer (some ⟨L.t,0,none⟩)] w (fun y w'=>∃a:Option Addr×Nat,y=.returned (.slice a.1 (lW st s.domains.length).length a.2)∧True∧∃F',(HP.many [wM L s (oU st),HP.own 151 2 (.slice a.1 (lW st s.domains.length).length a.2) (lW st s.domains.length).length ((lW st s.domains.length).flatMap Fv)]).sat F' w'∧iH w w' F F'):=by
 have hl:=hok.len
 refine dB func59 ntmps59 hp hF ?_
 have aDI:Rd w [⟨w,fun b=>b < w.heap.size∧¬F b⟩] [wM L s st] L.t 0 (.slice L.A s.domains.length L.c):=Rd.row 0 rfl
 refine aA ?_;refine iR 151 2 ?_;refine bL [(13,iv 0),(12,iv s.domains.length),(3,sn),(0,.pointer (some ⟨L.t,0,none⟩))] ?_;refine eJ (fun m e R H=>∃(i:Nat) (A:Option Addr) (k:Nat),i≤s.domains.length∧m=s.domains.length - i∧e=[(13,iv i),(12,iv s.domains.length),(3,.slice A (lW st i).length k),(0,.pointer (some ⟨L.t,0,none⟩))]∧R=[⟨w,fun b=>b < w.heap.size∧¬F b⟩]∧H=[HP.own 151 2 (.slice A (lW st i).length k) (lW st i).length ((lW st i).flatMap Fv),wM L s (Gy st i)]) s.domains.length ⟨0,none,0,by omega,rfl,rfl,rfl,by simp[Gy,lW]⟩ fun m e R H hI=>?_;obtain⟨i,A,k,hi,rfl,rfl,rfl,rfl⟩:=hI;refine aA ?_;refine aG rfl (fun hlt=>?_) (fun hge=>?_)
 ·have hlt:i < s.domains.length:=by omega
  obtain⟨c,hc⟩:=get_some hlt;obtain⟨x,hx⟩:=get_some (l:=st) (i:=i) (by omega)
  have My:(Gy st i)[i]? =some x:=by rw[Gy,oU,aDq _ st (by omega)];exact hx
  have Hp:=aO5 hok hi
  obtain⟨iM,iL⟩:=aBB Hp
  have hel:=aIL st i
  refine aES 1 rfl (by omega) fun g cs hA h1 h2 h3 h4=>?_;dsimp only[List.set]
  have hs:=Ib h2 iM iL (Kw hc My)
  obtain⟨hs1,vU⟩:=aL6 hs (by omega)
  have hf:=Ft (r':=pY c (gA x).2) h2 iM iL hlt (by omega) rfl hs1 vU
  rw[aEu hc (by have:=Hp.len;omega),Gy,oU,aDp (fun x=>(gA x).2) st hx] at hf;refine aA ?_;refine kd (dat i (i*7)) ?_;refine Uf 0 (fi:=[]) (ca:=[]) (p:=HP.aE g 231 cs) (HP.aE g 231 (oB cs (i*7) x)) (by kernel_rfl) rfl rfl rfl ⟨(by decide),rfl⟩ (fun w1 G t hG yI=>aNB g (i*7) cs c x hs (by omega) (hok.left x (List.mem_of_getElem? hx)) w1 G hG yI) ?_;dsimp only[List.set]
  have nV:(oB cs (i*7) x).length=L.c*7:=by rw[vU.1,h1]
  refine Iv 1 hA nV hf h3 h4 rfl ?_;dsimp only[List.set]
  have dU:=aRm hx
  refine aA ?_;refine aG rfl (fun hz=>?_) (fun hz=>?_)
  ·rw[if_neg hz] at dU;refine aB ?_;refine eK fun g2=>?_;refine gM 1 2 16 1 (el:=151) (by kernel_rfl) (by kernel_rfl) (by decide) rfl rfl rfl (nS 0 rfl rfl) (by simp[Value.oneCell']) rfl (by omega) (by omega) (by decide) fun A' k'=>?_;dsimp only[List.set];refine aA ?_
   have e1:(lW st (i+1)).length=(lW st i).length+1:=by rw[dU];simp
   have e2:(lW st (i+1)).flatMap Fv=(lW st i).flatMap Fv++[.int .u8 (gA x).1,iv (i:Int)]:=by rw[dU,List.flatMap_append];rfl
   refine aY [1,2] rfl (by decide) (fun _ h=>h) ?_;refine bL [(13,iv (i+1:Nat)),(12,iv s.domains.length),(3,.slice A' ((lW st i).length+1) k'),(0,.pointer (some ⟨L.t,0,none⟩))] ?_;exact iF (s.domains.length - (i+1)) (by omega) ⟨i+1,A',k',hlt,rfl,by rw[e1],rfl,by rw[e1,e2];rfl⟩
  ·have hz:=Classical.not_not.1 hz
   rw[if_pos hz,List.append_nil] at dU;refine aA ?_;refine bL [(13,iv (i+1:Nat)),(12,iv s.domains.length),(3,.slice A (lW st i).length k),(0,.pointer (some ⟨L.t,0,none⟩))] ?_;refine iF (s.domains.length - (i+1)) (by omega) ⟨i+1,A,k,hlt,rfl,by rw[dU],rfl,by rw[dU];rfl⟩
 ·obtain rfl:i=s.domains.length:=by omega
  have wZ:Gy st s.domains.length=oU st:=by
   rw[Gy,List.drop_eq_nil_of_le (by omega),List.append_nil,List.take_of_length_le (by simp[oU];omega)]
  rw[wZ];refine aA ?_;refine aY [1,0] rfl (by decide) (fun _ h=>h) ?_;refine nB ?_;exact nA rfl rfl fun w1 t=>⟨(A,k),rfl,trivial,t.turns hF (by simp) (i:=0) rfl⟩
end
section
theorem aRq(w:World)(q:Piece):(⟨w,fun _=>False⟩:Piece).Le q:=fun _ h=>h.elim
theorem aSC(i:Nat)(r:Rg)(w:World):
  Cz 192 #[iv (i:Int),.agg r.cells.toArray] w (Rt (.int .u32 r.reset) w):=by
 refine aN func192 ntmps192 ?_;refine aA ?_;refine bF fun g1=>?_;dsimp only[Value.cells,Rg.cells];refine aA ?_;exact cZ
theorem aAJ(L:FL)(d:bQ)(x:cO)(hrl:d.aP.length≤100)(hok:zE d x)(w:World)(F:Nat→Prop)(hp:(iJ L d x).sat F w)(hF:∀b,F b→b < w.heap.size):
  Cz 115 #[.pointer (some ⟨L.f,0,none⟩)] w (Wr (.tuple #[]) (iJ L d (Ga d x)) w F):=by
 refine dB func115 ntmps115 hp hF ?_;refine aA ?_
 refine eC 0 (iJ L d ⟨d.aP.map (·.reset),x.saved,x.kept⟩) (fun w1 G t hG yI hle=>by
  have:=aGQ L d x hrl 192 (by kernel_rfl) [] ⟨w1,fun _=>False⟩ (d.aP.map (·.reset)) (by simp) hok.now (fun i r v hr hv now w2 F2 _ _ _=>by
   rw[List.getElem?_map,hr] at hv;cases hv
   exact aSC i r w2) w1 G hG yI (aRq _ _)
  exact this) ?_
 refine Zw 0 rfl ?_;dsimp only[List.set,Ks];refine aA ?_;refine aAc (x:=Ga d x) 0 rfl ?_;exact jE 0 hF
theorem aMO(L:FL)(d:bQ)(x:cO)(g1 i:Nat)(r:Rg)(v:Int)(hr:d.aP[i]? =some r)(hv:x.saved[i]? =some v)(w:World)(hR:Dz w L d x)(h1:fO w g1 0 (.pointer (some ⟨L.f,0,none⟩))):
  Cz 191 #[iv (i:Int),.agg r.cells.toArray,pt g1] w (Rt (.int .u32 (aAH x.kept r v)) w):=by
 have hlt:=(List.getElem?_eq_some_iff.1 hr).1
 have k3:=hR.r0.at_ (j:=3) rfl
 have k2:=hR.r0.at_ (j:=2) rfl
 have kv:=hR.saved.at_ (aCF hv)
 rw[Nat.zero_add] at kv;obtain⟨rs,kp⟩:=r;cases hk:x.kept
 ·rw[hk] at k3;refine aN func191 ntmps191 ?_;refine aA ?_;refine bF fun g2=>?_;dsimp only[Value.cells,Rg.cells];refine aA ?_;exact cZ
 ·rw[hk] at k3;cases kp
  ·refine aN func191 ntmps191 ?_;refine aA ?_;refine bF fun g2=>?_;dsimp only[Value.cells,Rg.cells];refine aA ?_;exact cZ
  ·refine aN func191 ntmps191 ?_;refine aA ?_;refine bF fun g2=>?_;dsimp only[Value.cells,Rg.cells];refine aB ?_;exact cZ
theorem aMT(L:FL)(d:bQ)(x:cO)(hrl:d.aP.length≤100)(hok:zE d x)(w:World)(F:Nat→Prop)(hp:(iJ L d x).sat F w)(hF:∀b,F b→b < w.heap.size):
  Cz 114 #[.pointer (some ⟨L.f,0,none⟩)] w (Wr (.tuple #[]) (iJ L d (Jn d x)) w F):=by
 have qM:=hok.saved
 refine dB func114 ntmps114 hp hF ?_;refine aA ?_;refine bF fun g1=>?_;refine aA ?_;refine kS (vf:=[]) (vc:=[pt g1]) rfl rfl (by decide) ?_;refine dP [⟨w,fun b=>b < w.heap.size∧¬F b⟩] [0] [1] (by simp) rfl (by decide) (by decide) fun q hq hLe _=>?_;obtain⟨F1,s1,z1⟩:=hq 0 _ (by simp) rfl
 refine eC 0 (iJ L d (Jn d x)) (fun w1 G t hG yI hle=>by
  have:=aGQ L d x hrl 191 (by kernel_rfl) [pt g1] q (Jn d x).now (by simp[Jn];omega) hok.now (fun i r v hr hv now w2 F2 a1 a2 a3=>by
   have hlt:=(List.getElem?_eq_some_iff.1 hr).1
   obtain⟨u,hu⟩:=get_some (l:=x.saved) (i:=i) (by omega)
   have he:v=aAH x.kept r u:=by
    rw[Jn,List.getElem?_zipWith,hr,hu] at hv;cases hv;rfl
   subst he;obtain⟨b1,b2⟩:=a3 g1 (z1 _ s1.1)
   exact aMO L d ⟨now,x.saved,x.kept⟩ g1 i r u hr hu w2 (aAl a1 a2) ⟨b1,(World.cell?_of_block (w:=q.w) b2).trans (by rw[s1.2.cell];rfl)⟩) w1 G hG yI (hle q (by simp))
  exact this) ?_
 refine aA ?_;exact jE 0 hF
theorem aMb(p:Piece)(L:FL)(d:bQ)(x:cO)(g1 i:Nat)(r:Rg)(v u:Int)(hr:d.aP[i]? =some r)(hv:x.now[i]? =some v)(hu:x.saved[i]? =some u)(Fe:x.saved.length=d.aP.length)
  (h1:p.Z g1∧p.w.cell? ⟨g1,0,none⟩=some (.pointer (some ⟨L.f,0,none⟩))) (w:World) (F:Nat→Prop) (hp:(iJ L d x).sat F w) (hF:∀b,F b→b < w.heap.size) (Ho:p.Le ⟨w,fun b=>b < w.heap.size∧¬F b⟩):
  Cz 189 #[iv (i:Int),.agg r.cells.toArray,pt g1] w (Wr (.tuple #[]) (iJ L d ⟨x.now,x.saved.set i (Mc r (v,u)),x.kept⟩) w F):=by
 have hlt:=(List.getElem?_eq_some_iff.1 hr).1
 obtain⟨c1,e1⟩:=Ho g1 h1.1
 have k1:w.cell? ⟨g1,0,none⟩=some (.pointer (some ⟨L.f,0,none⟩)):=(World.cell?_of_block (w:=p.w) e1).trans h1.2
 obtain⟨rs,kp⟩:=r;cases kp
 ·have hsame:x.saved.set i (Mc ⟨rs,false⟩ (v,u))=x.saved:=aGp hu
  rw[hsame];refine dB func189 ntmps189 hp hF ?_;refine aA ?_;refine bF fun g2=>?_;dsimp only[Value.cells,Rg.cells];refine aA ?_;exact jE 1 hF
 ·refine dB func189 ntmps189 hp hF ?_;refine aA ?_;refine bF fun g2=>?_;dsimp only[Value.cells,Rg.cells];refine aA ?_;refine Zw 1 rfl ?_;dsimp only[List.set,Ks]
  have Rb:=aA4 x.now
  have qM:=aA4 x.saved
  have r1:Rd w [⟨w,fun b=>b < w.heap.size∧¬F b⟩] [HP.aE L.gs 23 (nR x.saved),HP.aE L.gn 23 (nR x.now),HP.aE L.f 298 [.slice L.A d.aP.length L.c,.slice (some ⟨L.gn,0,none⟩) d.aP.length d.aP.length,.slice (some ⟨L.gs,0,none⟩) d.aP.length d.aP.length,.bool x.kept],HP.aE g2 48 [.int .u32 rs,.bool true],HP.many [cM,cM,cM,HP.cE (tX d L.A) (tX.le (d:=d) (A:=L.A))]] g1 0 (.pointer (some ⟨L.f,0,none⟩)):=Rd.ro (List.mem_singleton.2 rfl) c1 k1
  have r2:Rd w [⟨w,fun b=>b < w.heap.size∧¬F b⟩] [HP.aE L.gs 23 (nR x.saved),HP.aE L.gn 23 (nR x.now),HP.aE L.f 298 [.slice L.A d.aP.length L.c,.slice (some ⟨L.gn,0,none⟩) d.aP.length d.aP.length,.slice (some ⟨L.gs,0,none⟩) d.aP.length d.aP.length,.bool x.kept],HP.aE g2 48 [.int .u32 rs,.bool true],HP.many [cM,cM,cM,HP.cE (tX d L.A) (tX.le (d:=d) (A:=L.A))]] L.gn i (.int .u32 v):=Rd.aE 1 rfl (aCF hv)
  refine rI 12 (by kernel_rfl) (by kernel_rfl) ?_;refine bJ 0 ?_;refine bJ 1 ?_;refine bJ 2 ?_;refine bJ 3 ?_;refine bJ 4 ?_;refine bJ 5 ?_;refine bJ 6 ?_;refine bJ 7 ?_;refine bJ 8 ?_;refine bJ 9 ?_;refine bJ 10 ?_ (dD:=dat (sz:=1) i i);refine bJ 11 ?_;refine cJ 12 ?_;refine kd (dat i i) ?_;refine eZ ?_;refine cJ 13 ?_;refine fF rfl rfl ?_;dsimp only[List.set];rw[aCE];refine eZ ?_;refine kH ?_;refine aA ?_;refine aY [0,1,2,4] rfl (by decide) (fun _ h=>h) ?_;refine aAc (x:=⟨x.now,x.saved.set i v,x.kept⟩) 0 rfl ?_;exact jE 0 hF
theorem aMS(L:FL)(d:bQ)(x:cO)(hrl:d.aP.length≤100)(hok:zE d x)(w:World)(F:Nat→Prop)(hp:(iJ L d x).sat F w)(hF:∀b,F b→b < w.heap.size):
  Cz 113 #[.pointer (some ⟨L.f,0,none⟩)] w (Wr (.tuple #[]) (iJ L d (wT d x)) w F):=by
 have qM:=hok.saved
 have iM:=hok.now
 have hvl:(wT d x).saved.length=d.aP.length:=by simp[wT];omega
 refine dB func113 ntmps113 hp hF ?_;refine aA ?_;refine bF fun g1=>?_;refine aA ?_;refine kS (vf:=[]) (vc:=[pt g1]) rfl rfl (by decide) ?_;refine dP [⟨w,fun b=>b < w.heap.size∧¬F b⟩] [0] [1] (by simp) rfl (by decide) (by decide) fun q hq hLe _=>?_;obtain⟨F1,s1,z1⟩:=hq 0 _ (by simp) rfl
 refine eC 0 (iJ L d ⟨x.now,(wT d x).saved,x.kept⟩) (fun w1 G t hG yI hle=>by
  have key:=aGP q (fun i=>iJ L d ⟨x.now,lE (wT d x).saved x.saved i,x.kept⟩) L d hrl 189 (by kernel_rfl) [pt g1]
   (fun i _ w F h1 h2=>⟨_,aAl h1 h2⟩) (fun i r hr w2 F2' h1 h2 h3=>by
    have hlt:=(List.getElem?_eq_some_iff.1 hr).1
    obtain⟨v,hv⟩:=get_some (l:=x.now) (i:=i) (by omega);obtain⟨u,hu⟩:=get_some (l:=x.saved) (i:=i) (by omega)
    have hs:(wT d x).saved[i]? =some (Mc r (v,u)):=by
     rw[wT,List.getElem?_zipWith,hr,(List.getElem?_zip_eq_some (z:=(v,u))).2 ⟨hv,hu⟩]
    have:=aMb q L d ⟨x.now,lE (wT d x).saved x.saved i,x.kept⟩ g1 i r v u hr hv (aO3 (by omega) (by omega) hu) (Vw hvl qM (by omega))
     ⟨z1 _ s1.1,by rw[s1.2.cell];rfl⟩ w2 F2' h1 h2 h3
    try dsimp only at this
    rw[Vv (by omega) hs] at this
    exact this) w1 G (by show(iJ L d ⟨x.now,lE (wT d x).saved x.saved 0,x.kept⟩).sat G w1;rw[Vu];exact hG) yI (hle q (by simp))
  try dsimp only at key
  rw[Vx hvl qM] at key
  exact key) ?_
 refine Zw 0 rfl ?_;dsimp only[List.set,Ks]
 have r1:∀H,Rd w [q,⟨w,fun b=>b < w.heap.size∧¬F b⟩] H g1 0 (.pointer (some ⟨L.f,0,none⟩)):=fun H=>Rd.ro (by simp:q∈_) (z1 _ s1.1) (by rw[s1.2.cell];rfl)
 have r1:=r1 [HP.aE L.gs 23 (nR (wT d x).saved),HP.aE L.gn 23 (nR x.now),HP.aE L.f 298 [.slice L.A d.aP.length L.c,.slice (some ⟨L.gn,0,none⟩) d.aP.length d.aP.length,.slice (some ⟨L.gs,0,none⟩) d.aP.length d.aP.length,.bool x.kept],HP.many [cM,cM,cM,HP.cE (tX d L.A) (tX.le (d:=d) (A:=L.A))]]
 refine aA ?_;refine aAc (x:=wT d x) 0 rfl ?_;exact jE 0 hF
theorem aMU(L:FL)(d:bQ)(x:cO)(i:Nat)(v:Int)(Fe:x.now.length=d.aP.length)(hv:x.now[i]? =some v)(w:World)(hR:Dz w L d x):
  Cz 109 #[.pointer (some ⟨L.f,0,none⟩),iv (i:Int)] w (Rt (.tuple #[.int .u32 v,iv 0]) w):=by
 have hlt:i < d.aP.length:=by have:=(List.getElem?_eq_some_iff.1 hv).1;omega
 have k1:=hR.r0.at_ (j:=1) rfl
 have kv:=hR.now.at_ (aCF hv)
 rw[Nat.zero_add] at kv;refine aN func109 ntmps109 ?_;refine aA ?_;refine bU (t:=8) rfl (fun h=>absurd h (by omega)) (fun _=>?_);refine aA ?_;refine aU (fun w1 t=>Vf L d x w1 (hR.below (t.below (by simp)))) ?_;refine aA ?_;refine aG rfl (fun h=>absurd h (by omega)) (fun _=>?_);refine aB ?_;exact eL rfl rfl rfl fun w1 t=>⟨rfl,t.below (by simp)⟩
theorem aMR(L:FL)(d:bQ)(x:cO)(i:Nat)(v:Int)(Fe:x.now.length=d.aP.length)(hlt:i < d.aP.length)(w:World)(F:Nat→Prop)(hp:(iJ L d x).sat F w)(hF:∀b,F b→b < w.heap.size):
  Cz 110 #[.pointer (some ⟨L.f,0,none⟩),iv (i:Int),.int .u32 v] w (Wr (iv 0) (iJ L d ⟨x.now.set i v,x.saved,x.kept⟩) w F):=by
 refine dB func110 ntmps110 hp hF ?_;refine aA ?_;refine bU (t:=9) rfl (fun h=>absurd h (by omega)) (fun _=>?_);refine aA ?_;refine aU (fun w1 t=>Vf L d x w1 (t.aEo 0 rfl)) ?_;refine aA ?_;refine aG rfl (fun h=>absurd h (by omega)) (fun _=>?_);refine Zw 0 rfl ?_;dsimp only[List.set,Ks]
 have Rb:=aA4 x.now
 refine aB ?_;rw[aCE];refine aA ?_;refine aAc (x:=⟨x.now.set i v,x.saved,x.kept⟩) 0 rfl ?_;exact cI 0 hF
end
section
def aKv(n:Nat)(xs:List Value)(v:Value)(hs:List HP)(_:Piece):Prop:=∃A c,v=.slice A n c∧hs=[HP.own 86 6 (.slice A n c) n xs]
theorem aNQ(A:Option Addr)(n c:Nat)(xs:List Value)(w:World)(hs:aI (all w) 6 A n xs)(h1:∀u∈xs,u.oneCell'=true)(hn:n≤1000000):
  Cz 147 #[.slice A n c] w (fun y w'=>(∃v hs q,y=.returned v∧q.w=w'∧aKv n xs v hs q∧kC w hs q)∧Below w.heap.size w w'):=by
 refine aN func147 ntmps147 ?_;refine aA ?_;refine iR 86 6 ?_;refine gM 0 6 64 n (n':=n) (v:=sn) (el:=86) (by kernel_rfl) (by kernel_rfl) (by decide) rfl rfl rfl (qZ (by simp) hs) h1 (by omega) (by omega) (by omega) (by decide) fun A' k'=>?_;dsimp only[List.set,List.nil_append];refine aA ?_;refine dP [] [] [0] (by simp) rfl (by decide) (by decide) fun q _ _ hfr=>?_;exact aT (h:=fun w1 st=>⟨_,_,⟨w1,q.Z⟩,rfl,rfl,⟨_,_,rfl,rfl⟩,st.newR (by simp) (by simp) (hfr (by simp) (by simp))⟩)
def aKt(n:Nat)(xs:List Value)(v:Value)(hs:List HP)(_:Piece):Prop:=∃A c,v=.slice A n c∧hs=[HP.own 50 3 (.slice A n c) n xs]
theorem aNO(A:Option Addr)(n c:Nat)(xs:List Value)(w:World)(hs:aI (all w) 3 A n xs)(h1:∀u∈xs,u.oneCell'=true)(hn:n≤1000000):
  Cz 148 #[.slice A n c] w (fun y w'=>(∃v hs q,y=.returned v∧q.w=w'∧aKt n xs v hs q∧kC w hs q)∧Below w.heap.size w w'):=by
 refine aN func148 ntmps148 ?_;refine aA ?_;refine iR 50 3 ?_;refine gM 0 3 24 n (n':=n) (v:=sn) (el:=50) (by kernel_rfl) (by kernel_rfl) (by decide) rfl rfl rfl (qZ (by simp) hs) h1 (by omega) (by omega) (by omega) (by decide) fun A' k'=>?_;dsimp only[List.set,List.nil_append];refine aA ?_;refine dP [] [] [0] (by simp) rfl (by decide) (by decide) fun q _ _ hfr=>?_;exact aT (h:=fun w1 st=>⟨_,_,⟨w1,q.Z⟩,rfl,rfl,⟨_,_,rfl,rfl⟩,st.newR (by simp) (by simp) (hfr (by simp) (by simp))⟩)
def aKr(n:Nat)(xs:List Value)(v:Value)(hs:List HP)(_:Piece):Prop:=∃A c,v=.slice A n c∧hs=[HP.own 88 1 (.slice A n c) n xs]
theorem aNM(A:Option Addr)(n c:Nat)(xs:List Value)(w:World)(hs:aI (all w) 1 A n xs)(h1:∀u∈xs,u.oneCell'=true)(hn:n≤1000000):
  Cz 149 #[.slice A n c] w (fun y w'=>(∃v hs q,y=.returned v∧q.w=w'∧aKr n xs v hs q∧kC w hs q)∧Below w.heap.size w w'):=by
 refine aN func149 ntmps149 ?_;refine aA ?_;refine iR 88 1 ?_;refine gM 0 1 8 n (n':=n) (v:=sn) (el:=88) (by kernel_rfl) (by kernel_rfl) (by decide) rfl rfl rfl (qZ (by simp) hs) h1 (by omega) (by omega) (by omega) (by decide) fun A' k'=>?_;dsimp only[List.set,List.nil_append];refine aA ?_;refine dP [] [] [0] (by simp) rfl (by decide) (by decide) fun q _ _ hfr=>?_;exact aT (h:=fun w1 st=>⟨_,_,⟨w1,q.Z⟩,rfl,rfl,⟨_,_,rfl,rfl⟩,st.newR (by simp) (by simp) (hfr (by simp) (by simp))⟩)
def aKu(n:Nat)(xs:List Value)(v:Value)(hs:List HP)(_:Piece):Prop:=∃A c,v=.slice A n c∧hs=[HP.own 38 6 (.slice A n c) n xs]
theorem aNP(A:Option Addr)(n c:Nat)(xs:List Value)(w:World)(hs:aI (all w) 6 A n xs)(h1:∀u∈xs,u.oneCell'=true)(hn:n≤1000000):
  Cz 150 #[.slice A n c] w (fun y w'=>(∃v hs q,y=.returned v∧q.w=w'∧aKu n xs v hs q∧kC w hs q)∧Below w.heap.size w w'):=by
 refine aN func150 ntmps150 ?_;refine aA ?_;refine iR 38 6 ?_;refine gM 0 6 80 n (n':=n) (v:=sn) (el:=38) (by kernel_rfl) (by kernel_rfl) (by decide) rfl rfl rfl (qZ (by simp) hs) h1 (by omega) (by omega) (by omega) (by decide) fun A' k'=>?_;dsimp only[List.set,List.nil_append];refine aA ?_;refine dP [] [] [0] (by simp) rfl (by decide) (by decide) fun q _ _ hfr=>?_;exact aT (h:=fun w1 st=>⟨_,_,⟨w1,q.Z⟩,rfl,rfl,⟨_,_,rfl,rfl⟩,st.newR (by simp) (by simp) (hfr (by simp) (by simp))⟩)
def aFo(n:Nat)(xs:List Value)(v:Value)(hs:List HP)(_:Piece):Prop:=∃A c,v=.slice A n c∧hs=[HP.own 3 1 (.slice A n c) n xs]
theorem aHj(A:Option Addr)(n c:Nat)(xs:List Value)(w:World)(hs:aI (all w) 1 A n xs)(h1:∀u∈xs,u.oneCell'=true)(hn:n≤1000000):
  Cz 140 #[.slice A n c] w (fun y w'=>(∃v hs q,y=.returned v∧q.w=w'∧aFo n xs v hs q∧kC w hs q)∧Below w.heap.size w w'):=by
 refine aN func140 ntmps140 ?_;refine aA ?_;refine iR 3 1 ?_;refine gM 0 1 8 n (n':=n) (v:=sn) (el:=3) (by kernel_rfl) (by kernel_rfl) (by decide) rfl rfl rfl (qZ (by simp) hs) h1 (by omega) (by omega) (by omega) (by decide) fun A' k'=>?_;dsimp only[List.set,List.nil_append];refine aA ?_;refine dP [] [] [0] (by simp) rfl (by decide) (by decide) fun q _ _ hfr=>?_;exact aT (h:=fun w1 st=>⟨_,_,⟨w1,q.Z⟩,rfl,rfl,⟨_,_,rfl,rfl⟩,st.newR (by simp) (by simp) (hfr (by simp) (by simp))⟩)
def aKs(n:Nat)(xs:List Value)(v:Value)(hs:List HP)(_:Piece):Prop:=∃A c,v=.slice A n c∧hs=[HP.own 48 2 (.slice A n c) n xs]
theorem aNN(A:Option Addr)(n c:Nat)(xs:List Value)(w:World)(hs:aI (all w) 2 A n xs)(h1:∀u∈xs,u.oneCell'=true)(hn:n≤1000000):
  Cz 151 #[.slice A n c] w (fun y w'=>(∃v hs q,y=.returned v∧q.w=w'∧aKs n xs v hs q∧kC w hs q)∧Below w.heap.size w w'):=by
 refine aN func151 ntmps151 ?_;refine aA ?_;refine iR 48 2 ?_;refine gM 0 2 8 n (n':=n) (v:=sn) (el:=48) (by kernel_rfl) (by kernel_rfl) (by decide) rfl rfl rfl (qZ (by simp) hs) h1 (by omega) (by omega) (by omega) (by decide) fun A' k'=>?_;dsimp only[List.set,List.nil_append];refine aA ?_;refine dP [] [] [0] (by simp) rfl (by decide) (by decide) fun q _ _ hfr=>?_;exact aT (h:=fun w1 st=>⟨_,_,⟨w1,q.Z⟩,rfl,rfl,⟨_,_,rfl,rfl⟩,st.newR (by simp) (by simp) (hfr (by simp) (by simp))⟩)
end
section
structure aUt(p:Piece)(s:aC)(A1:Option Addr)(n1:Nat)(A2:Option Addr)(n2:Nat)(A3:Option Addr)(n3:Nat)(A4:Option Addr)(n4:Nat):Prop where
 jO:jQ (fQ p) (uC (fQ p)) 86 6 A1 n1 s.aF
 dom:jQ (fQ p) uB 50 3 A2 n2 s.domains
 Co:jQ (fQ p) xM 88 1 A3 n3 s.aR
 dev:jQ (fQ p) (tA (fQ p)) 38 6 A4 n4 s.aD
section
variable{p q:Piece}{w:World}{s:aC}{A1 A2 A3 A4:Option Addr}{n1 n2 n3 n4:Nat}
theorem Dr.Q{cs:Array Value}(h:Dr (fQ p) s cs):∃A1 n1 k1 A2 n2 k2 A3 n3 k3 A4 n4 k4,cs=#[.slice A1 n1 k1,.slice A2 n2 k2,.slice A3 n3 k3,.slice A4 n4 k4]∧aUt p s A1 n1 A2 n2 A3 n3 A4 n4:=by
 obtain⟨A1,n1,k1,A2,n2,k2,A3,n3,k3,A4,n4,k4,h0,h1,h2,h3,h4⟩:=h;exact⟨A1,n1,k1,A2,n2,k2,A3,n3,k3,A4,n4,k4,h0,h1,h2,h3,h4⟩
end
theorem jQ.aGG{α:Type}{p:Piece}{R:α→List Value→Prop}{t:TypeId}{sz n:Nat}{A:Option Addr}{es:List α}(h:jQ (fQ p) R t sz A n es){k:Nat}{e:α}(hk:es[k]? =some e):
  ∃b off r,A=some ⟨b,off,none⟩∧p.Z b∧r.length=sz∧R e r∧∀f u,r[f]? =some u→p.w.cell? ⟨b,off+k*sz+f,none⟩=some u:=by
 obtain⟨rows,h1,h2,h3⟩:=h
 have hlt:k < n:=by
  rw[h2];rcases Nat.lt_or_ge k es.length with h | h
  ·exact h
  ·rw[List.getElem?_eq_none h] at hk;cases hk
 obtain⟨b,off,hA,hb,hc⟩:=aI.at_ h3 hlt;obtain⟨r,h4,h5,h6⟩:=h1.get hk;refine⟨b,off,r,hA,hb,h4,h5,fun f u hu=>hc f u ?_⟩
 have hf:f < sz:=by
  rw[←h4];rcases Nat.lt_or_ge f r.length with h | h
  ·exact h
  ·rw[List.getElem?_eq_none h] at hu;cases hu
 rw[h6 f hf,hu]
end
section
theorem Dq{N:cH}{w0:World}{e:Env}{R:List Piece}{H:List HP}{K:Act→World→Prop}{p:HP}(hp:∀w,p.sat (fun _=>False) w)(h:XK N w0 K e R (p::H)):XK N w0 K e R H:=fun a w hr st=>
 h a w hr (st.new (w':=w) (Below.refl _ _) (by
  rw[show(fresh w w).Z=fun _=>False from by funext b;simp only[fresh,eq_iff_iff,iff_false];omega]
  exact hp w))
abbrev AC:=Option Addr×Nat
def Bi(c:eG)(a:AC):List Value:=[.int .u8 c.kind,.slice a.1 c.src.length a.2,.int .u64 c.rate,iv c.mul,iv c.div,iv c.lock]
def Bh(d:bQ)(p:AC×AC):List Value:=[iv d.clock,iv d.domain,iv d.reset,.int .u32 d.iV,.slice p.1.1 d.aP.length p.1.2,.slice p.2.1 d.iZ.length p.2.2]
def Ss(s:aC)(fa:List AC):List (List Value):=List.zipWith Bi s.aF fa
def Sn(s:aC)(da:List (AC×AC)):List (List Value):=List.zipWith Bh s.aD da
section
variable{α β:Type}{f:α→β→List Value}{sz:Nat}
theorem aAn{es:List α}{bs:List β}(hl:bs.length=es.length)(hf:∀e a,(f e a).length=sz):(List.zipWith f es bs).length=es.length∧∀r∈List.zipWith f es bs,r.length=sz:=by
 refine⟨by simp;omega,fun r hr=>?_⟩;obtain⟨j,hj⟩:=List.getElem?_of_mem hr;rw[List.getElem?_zipWith] at hj;split at hj<;>cases hj
 exact hf _ _
theorem Ub{es:List α}{bs:List β}{i:Nat}{e:α}{a:β}(he:es[i]? =some e)(ha:bs[i]? =some a):(List.zipWith f es bs)[i]? =some (f e a):=by rw[List.getElem?_zipWith,he,ha]
theorem aF2{es:List α}{bs:List β}{i:Nat}{e:α}{a:β}(he:es[i]? =some e)(hi:i < bs.length):(List.zipWith f es bs).set i (f e a)=List.zipWith f es (bs.set i a):=by
 refine List.ext_getElem? fun j=>?_;rw[List.getElem?_set]
 by_cases hj:i=j
 ·subst hj
  have h1:=(List.getElem?_eq_some_iff.1 he).1
  rw[if_pos rfl,Ub he (List.getElem?_set_self hi),if_pos (by simp;omega)]
 ·rw[if_neg hj,List.getElem?_zipWith,List.getElem?_zipWith,List.getElem?_set_ne hj]
theorem aF3{es:List α}{bs:List β}(hf:∀e a,∀u∈f e a,u.oneCell'=true):∀u∈(List.zipWith f es bs).flatten,u.oneCell'=true:=fun u hu=>by
 obtain⟨r,hr,hu⟩:=List.mem_flatten.1 hu;obtain⟨j,hj⟩:=List.getElem?_of_mem hr;rw[List.getElem?_zipWith] at hj;split at hj<;>cases hj
 exact hf _ _ u hu
end
theorem aSA(c:eG)(a:AC):∀u∈Bi c a,u.oneCell'=true:=by simp[Bi,Value.oneCell']
theorem aSd(d:bQ)(p:AC×AC):∀u∈Bh d p,u.oneCell'=true:=by simp[Bh,Value.oneCell']
theorem aE7{S:xJ}:∀{cl:List eG} {rs:List (List Value)},Rows (uC S) 6 cl rs→∃fa:List AC,fa.length=cl.length∧rs=List.zipWith Bi cl fa∧∀(i:Nat) (c:eG) (a:AC),cl[i]? =some c→fa[i]? =some a→S 3 1 a.1 c.src.length (aL c.src)
 | [],[],_=>⟨[],rfl,rfl,fun i c a h=>by simp at h⟩
 | e::es,r::rs,h=>by
  obtain⟨_,⟨A,n,k,hr,hn,hS⟩,h3⟩:=h;obtain⟨fa,h4,h5,h6⟩:=aE7 h3;subst hn;refine⟨(A,k)::fa,by simp[h4],by rw[hr,h5];rfl,fun i c a hc ha=>?_⟩;cases i with
  | zero=>simp at hc ha;subst hc;subst ha;exact hS
  | succ i=>exact h6 i c a (by simpa using hc) (by simpa using ha)
theorem aGD{S:xJ}:∀{cl:List eG} {fa:List AC},fa.length=cl.length→(∀(i:Nat) (c:eG) (a:AC),cl[i]? =some c→fa[i]? =some a→S 3 1 a.1 c.src.length (aL c.src))→Rows (uC S) 6 cl (List.zipWith Bi cl fa)
 | [],[],_,_=>trivial
 | c::cl,a::fa,hl,h=>⟨rfl,⟨a.1,_,a.2,rfl,rfl,h 0 c a rfl rfl⟩,aGD (by simpa using hl) fun i c' a' hc ha=>h (i+1) c' a' (by simpa using hc) (by simpa using ha)⟩
theorem aEy{S:xJ}:∀{cl:List bQ} {rs:List (List Value)},Rows (tA S) 6 cl rs→∃da:List (AC×AC),da.length=cl.length∧rs=List.zipWith Bh cl da∧∀(i:Nat) (d:bQ) (p:AC×AC),cl[i]? =some d→da[i]? =some p→S 48 2 p.1.1 d.aP.length (d.aP.flatMap Rg.cells)∧S 3 1 p.2.1 d.iZ.length (aL d.iZ)
 | [],[],_=>⟨[],rfl,rfl,fun i c a h=>by simp at h⟩
 | e::es,r::rs,h=>by
  obtain⟨_,⟨A,n,k,A',n',k',hr,hn,hn',hS,hS'⟩,h3⟩:=h;obtain⟨da,h4,h5,h6⟩:=aEy h3;subst hn;subst hn';refine⟨((A,k),(A',k'))::da,by simp[h4],by rw[hr,h5];rfl,fun i d p hc ha=>?_⟩;cases i with
  | zero=>simp at hc ha;subst hc;subst ha;exact⟨hS,hS'⟩
  | succ i=>exact h6 i d p (by simpa using hc) (by simpa using ha)
theorem aGC{S:xJ}:∀{cl:List bQ} {da:List (AC×AC)},da.length=cl.length→(∀(i:Nat) (d:bQ) (p:AC×AC),cl[i]? =some d→da[i]? =some p→S 48 2 p.1.1 d.aP.length (d.aP.flatMap Rg.cells)∧S 3 1 p.2.1 d.iZ.length (aL d.iZ))→Rows (tA S) 6 cl (List.zipWith Bh cl da)
 | [],[],_,_=>trivial
 | c::cl,a::da,hl,h=>⟨rfl,⟨a.1.1,_,a.1.2,a.2.1,_,a.2.2,rfl,rfl,rfl,(h 0 c a rfl rfl).1,(h 0 c a rfl rfl).2⟩,aGC (by simpa using hl) fun i c' a' hc ha=>h (i+1) c' a' (by simpa using hc) (by simpa using ha)⟩
theorem aRI{es:List Dom}{rs:List (List Value)}(h:Rows uB 3 es rs):∀u∈rs.flatten,u.oneCell'=true:=fun u hu=>by
 obtain⟨r,hr,hu⟩:=List.mem_flatten.1 hu;obtain⟨j,hj⟩:=List.getElem?_of_mem hr;obtain⟨e,_,_,hR⟩:=h.at_ hj;unfold uB at hR;subst hR;simp only[List.mem_cons,List.not_mem_nil,or_false] at hu;rcases hu with rfl | rfl | rfl<;>rfl
theorem aMv{es:List Int}{rs:List (List Value)}(h:Rows xM 1 es rs):∀u∈rs.flatten,u.oneCell'=true:=fun u hu=>by
 obtain⟨r,hr,hu⟩:=List.mem_flatten.1 hu;obtain⟨j,hj⟩:=List.getElem?_of_mem hr;obtain⟨e,_,_,hR⟩:=h.at_ hj;unfold xM at hR;subst hR;simp only[List.mem_cons,List.not_mem_nil,or_false] at hu;subst hu;rfl
def zG(s:aC)(fa:List AC)(i:Nat)(p:Piece):Prop:=∀(j:Nat) (c:eG) (a:AC),j < i→s.aF[j]? =some c→fa[j]? =some a→aI p 1 a.1 c.src.length (aL c.src)
theorem zG.le{s:aC}{fa:List AC}{i:Nat}(p q:Piece)(hl:p.Le q)(h:zG s fa i p):zG s fa i q:=fun j c a hj hc ha=>(h j c a hj hc ha).le hl
def Ea(s:aC)(da:List (AC×AC))(i:Nat)(p:Piece):Prop:=∀(j:Nat) (d:bQ) (a:AC×AC),j < i→s.aD[j]? =some d→da[j]? =some a→aI p 2 a.1.1 d.aP.length (d.aP.flatMap Rg.cells)∧aI p 1 a.2.1 d.iZ.length (aL d.iZ)
theorem Ea.le{s:aC}{da:List (AC×AC)}{i:Nat}(p q:Piece)(hl:p.Le q)(h:Ea s da i p):Ea s da i q:=fun j c a hj hc ha=>⟨(h j c a hj hc ha).1.le hl,(h j c a hj hc ha).2.le hl⟩
end
end Go.Proofs.YtdcdccmpcmjmhaaGreatDoor
