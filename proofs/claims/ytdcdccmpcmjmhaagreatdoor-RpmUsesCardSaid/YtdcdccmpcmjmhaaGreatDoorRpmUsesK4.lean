/- package table: the messages that there are. -/
import Derived.KernelRfl
import Derived.Test.YtdcdccmpcmjmhaaGreatDoorProg
import Derived.Test.YtdcdccmpcmjmhaaGreatDoorRpmUsesK3
namespace Go.Proofs.YtdcdccmpcmjmhaaGreatDoor
set_option linter.all false
set_option maxHeartbeats 4000000
set_option maxRecDepth 20000
open Go.RowKit Go.Proofs.Tryz
section
theorem aIV(L:List (Nat×Nat))(place:Nat→Option (Nat×Nat))(hp:∀i x,L[i]? =some x→place i=some x):∀(ps:List (Nat×Value)) (cs cs':List Value),fJ L cs ps=some cs'→Instr.fill place cs.toArray ps=some cs'.toArray
 | [],cs,cs',h=>by cases h;rfl
 | (i, v) :: rest, cs, cs', h => by
  unfold fJ at h;unfold Instr.fill;split at h
  ·rename_i off sz hL
   rw[hp _ _ hL];split at h
   ·rename_i hc
    have e1:(decide (v.cells.size≠sz)||decide (off+v.cells.size>cs.toArray.size))=false:=by simp;omega
    simp only[e1,Bool.false_eq_true,if_false]
    have:=aCS v.cells.toList cs off 0
    rw[show v.cells.zipIdx.foldl (fun cs (c,j)=>cs.setIfInBounds (off+j) c) cs.toArray=(gK cs off v.cells.toList).toArray by
     rw[←Array.foldl_toList,Array.toList_zipIdx];exact this]
    exact aIV L place hp rest _ cs' h
   ·cases h
  ·cases h
section
variable{P:Program}{N:cE}{w0:World}{e:Env}{R:List Piece}{H:List HP}{d:Nat}{ty:TypeId}{pos:String}{aH:Array Edge}
theorem aE6{t el:TypeId}{n sz:Nat}{ps:List (Nat×Operand)}{vs:List (Nat×Value)}{zs cs:List Value}(hz:Ej P t zs)(ht:P.underlying t=some (.array n el))(hsz:(P.info? el).map (·.size)=some sz)(hp:e.parts ps=some vs)(hf:fJ ((List.range n).map fun i=>(i*sz,sz)) zs vs=some cs):bU P N w0 e R H ⟨some d,.build t ps.toArray,ty,pos,aH,none⟩ (.agg cs.toArray):=
 iM (fun a w hr => by
  have:=hr.parts hp
  obtain⟨i,z,hi,Fk,rfl⟩:=hz;obtain⟨j,hj,rfl⟩:=Option.map_eq_some_iff.1 hsz
  have hfl:=aIV _ (fun i=>some (i*j.size,j.size)) (fun i x hx=>by
   rw[List.getElem?_map] at hx;obtain⟨q,hq,rfl⟩:=Option.map_eq_some_iff.1 hx
   have hlt:i < n:=by
    rcases Nat.lt_or_ge i n with h | h
    ·exact h
    ·rw[List.getElem?_eq_none (by simpa using h)] at hq;cases hq
   rw[List.getElem?_range hlt] at hq;cases hq
   rfl) vs z.cells.toList cs hf
  simp at hfl;simp only[execOp,List.map_toArray,this]
  simp[Instr.build,zeroValue,typeInfo,sizeOf,hi,hj,Fk,run_underlying ht,hfl])
end
def sZ(n m a b c:Int):Value:=.agg #[iv n,iv m,.int .u8 a,.int .u8 b,.int .u8 c]
theorem aAT:Ec Tryz.prog 371:=Ec.of Tryz.underlying371 Tryz.underlying3 Tryz.underlying3 rfl rfl (fun _ _ _ _=>by kernel_rfl)
def Bh:Nat→(Int×Int)×Value
 | 3=>((16,0),sZ 0 0 0 0 0) | 6=>((17,0),sZ 0 0 0 0 0) | 9=>((20,0),sZ 0 0 0 0 0) | 12=>((22,0),sZ 0 0 0 0 0) | 15=>((16,1),sZ 0 0 0 0 0)
 | 19=>((17,4),sZ 2 3 100 117 107) | 22=>((17,5),sZ 1 0 0 0 0) | 25=>((20,6),sZ 1 0 0 0 0) | 29=>((20,7),sZ 2 2 111 99 0) | _=>((22,4),sZ 2 2 114 97 0)
def Nw:List Nat:=[3,6,9,12,15,19,22,25,29,33]
def aEr:List ((Int×Int)×Value):=Nw.map Bh
def aF3(v:Value)(hs:List HP)(_:Piece):Prop:=∃(g:Nat) (sub:List Nat),v=.map (some g)∧sub.Perm Nw∧hs=[HP.vQ g (sub.reverse.map Bh)]
theorem aIJ(w:World):Cz 219 #[] w (fun y w'=>(∃v hs q,y=.returned v∧q.w=w'∧aF3 v hs q∧jD w hs q)∧Below w.heap.size w w'):=by
 refine aM func219 ntmps219 ?_;refine cP ?_;refine eC ?_;refine fP rfl (by decide) ?_;refine dO ?_;refine cP ?_;refine rL 34 (by kernel_rfl) (by kernel_rfl) ?_;refine fM 1 rfl rfl rfl (by decide) (lZ (zs:=[iv 0,iv 0]) (L:=[(0,1),(1,1)]) (iG (by kernel_rfl)) (by kernel_rfl) rfl (by simp[fJ,gK,Value.cells];rfl)) (by kernel_rfl) (fun _ _ _ h=>h) (fun _ h=>h) ?_;refine fM 2 rfl rfl rfl (by decide) (lZ (zs:=[iv 0,iv 0,.int .u8 0,.int .u8 0,.int .u8 0]) (L:=[(0,1),(1,1),(2,3)]) (iG (by kernel_rfl)) (by kernel_rfl) rfl (by simp[fJ,gK,Value.cells];rfl)) (by kernel_rfl) (fun _ _ _ h=>h) (fun _ h=>h) ?_;refine fM 4 rfl rfl rfl (by decide) (lZ (zs:=[iv 0,iv 0]) (L:=[(0,1),(1,1)]) (iG (by kernel_rfl)) (by kernel_rfl) rfl (by simp[fJ,gK,Value.cells];rfl)) (by kernel_rfl) (fun _ _ _ h=>h) (fun _ h=>h) ?_;refine fM 5 rfl rfl rfl (by decide) (lZ (zs:=[iv 0,iv 0,.int .u8 0,.int .u8 0,.int .u8 0]) (L:=[(0,1),(1,1),(2,3)]) (iG (by kernel_rfl)) (by kernel_rfl) rfl (by simp[fJ,gK,Value.cells];rfl)) (by kernel_rfl) (fun _ _ _ h=>h) (fun _ h=>h) ?_;refine fM 7 rfl rfl rfl (by decide) (lZ (zs:=[iv 0,iv 0]) (L:=[(0,1),(1,1)]) (iG (by kernel_rfl)) (by kernel_rfl) rfl (by simp[fJ,gK,Value.cells];rfl)) (by kernel_rfl) (fun _ _ _ h=>h) (fun _ h=>h) ?_;refine fM 8 rfl rfl rfl (by decide) (lZ (zs:=[iv 0,iv 0,.int .u8 0,.int .u8 0,.int .u8 0]) (L:=[(0,1),(1,1),(2,3)]) (iG (by kernel_rfl)) (by kernel_rfl) rfl (by simp[fJ,gK,Value.cells];rfl)) (by kernel_rfl) (fun _ _ _ h=>h) (fun _ h=>h) ?_;refine fM 10 rfl rfl rfl (by decide) (lZ (zs:=[iv 0,iv 0]) (L:=[(0,1),(1,1)]) (iG (by kernel_rfl)) (by kernel_rfl) rfl (by simp[fJ,gK,Value.cells];rfl)) (by kernel_rfl) (fun _ _ _ h=>h) (fun _ h=>h) ?_;refine fM 11 rfl rfl rfl (by decide) (lZ (zs:=[iv 0,iv 0,.int .u8 0,.int .u8 0,.int .u8 0]) (L:=[(0,1),(1,1),(2,3)]) (iG (by kernel_rfl)) (by kernel_rfl) rfl (by simp[fJ,gK,Value.cells];rfl)) (by kernel_rfl) (fun _ _ _ h=>h) (fun _ h=>h) ?_;refine fM 13 rfl rfl rfl (by decide) (lZ (zs:=[iv 0,iv 0]) (L:=[(0,1),(1,1)]) (iG (by kernel_rfl)) (by kernel_rfl) rfl (by simp[fJ,gK,Value.cells];rfl)) (by kernel_rfl) (fun _ _ _ h=>h) (fun _ h=>h) ?_;refine fM 14 rfl rfl rfl (by decide) (lZ (zs:=[iv 0,iv 0,.int .u8 0,.int .u8 0,.int .u8 0]) (L:=[(0,1),(1,1),(2,3)]) (iG (by kernel_rfl)) (by kernel_rfl) rfl (by simp[fJ,gK,Value.cells];rfl)) (by kernel_rfl) (fun _ _ _ h=>h) (fun _ h=>h) ?_;refine fM 16 rfl rfl rfl (by decide) (lZ (zs:=[iv 0,iv 0]) (L:=[(0,1),(1,1)]) (iG (by kernel_rfl)) (by kernel_rfl) rfl (by simp[fJ,gK,Value.cells];rfl)) (by kernel_rfl) (fun _ _ _ h=>h) (fun _ h=>h) ?_;refine fM 17 rfl rfl rfl (by decide) (aE6 (n:=3) (sz:=1) (el:=5) (zs:=[.int .u8 0,.int .u8 0,.int .u8 0]) (iG (by kernel_rfl)) (by kernel_rfl) (by kernel_rfl) rfl (by simp[fJ,gK,Value.cells,List.range_succ,List.set];rfl)) (by kernel_rfl) (fun _ _ _ h=>h) (fun _ h=>h) ?_;refine fM 18 rfl rfl rfl (by decide) (lZ (zs:=[iv 0,iv 0,.int .u8 0,.int .u8 0,.int .u8 0]) (L:=[(0,1),(1,1),(2,3)]) (iG (by kernel_rfl)) (by kernel_rfl) rfl (by simp[fJ,gK,Value.cells];rfl)) (by kernel_rfl) (fun _ _ _ h=>h) (fun _ h=>h) ?_;refine fM 20 rfl rfl rfl (by decide) (lZ (zs:=[iv 0,iv 0]) (L:=[(0,1),(1,1)]) (iG (by kernel_rfl)) (by kernel_rfl) rfl (by simp[fJ,gK,Value.cells];rfl)) (by kernel_rfl) (fun _ _ _ h=>h) (fun _ h=>h) ?_;refine fM 21 rfl rfl rfl (by decide) (lZ (zs:=[iv 0,iv 0,.int .u8 0,.int .u8 0,.int .u8 0]) (L:=[(0,1),(1,1),(2,3)]) (iG (by kernel_rfl)) (by kernel_rfl) rfl (by simp[fJ,gK,Value.cells];rfl)) (by kernel_rfl) (fun _ _ _ h=>h) (fun _ h=>h) ?_;refine fM 23 rfl rfl rfl (by decide) (lZ (zs:=[iv 0,iv 0]) (L:=[(0,1),(1,1)]) (iG (by kernel_rfl)) (by kernel_rfl) rfl (by simp[fJ,gK,Value.cells];rfl)) (by kernel_rfl) (fun _ _ _ h=>h) (fun _ h=>h) ?_;refine fM 24 rfl rfl rfl (by decide) (lZ (zs:=[iv 0,iv 0,.int .u8 0,.int .u8 0,.int .u8 0]) (L:=[(0,1),(1,1),(2,3)]) (iG (by kernel_rfl)) (by kernel_rfl) rfl (by simp[fJ,gK,Value.cells];rfl)) (by kernel_rfl) (fun _ _ _ h=>h) (fun _ h=>h) ?_;refine fM 26 rfl rfl rfl (by decide) (lZ (zs:=[iv 0,iv 0]) (L:=[(0,1),(1,1)]) (iG (by kernel_rfl)) (by kernel_rfl) rfl (by simp[fJ,gK,Value.cells];rfl)) (by kernel_rfl) (fun _ _ _ h=>h) (fun _ h=>h) ?_;refine fM 27 rfl rfl rfl (by decide) (aE6 (n:=3) (sz:=1) (el:=5) (zs:=[.int .u8 0,.int .u8 0,.int .u8 0]) (iG (by kernel_rfl)) (by kernel_rfl) (by kernel_rfl) rfl (by simp[fJ,gK,Value.cells,List.range_succ,List.set];rfl)) (by kernel_rfl) (fun _ _ _ h=>h) (fun _ h=>h) ?_;refine fM 28 rfl rfl rfl (by decide) (lZ (zs:=[iv 0,iv 0,.int .u8 0,.int .u8 0,.int .u8 0]) (L:=[(0,1),(1,1),(2,3)]) (iG (by kernel_rfl)) (by kernel_rfl) rfl (by simp[fJ,gK,Value.cells];rfl)) (by kernel_rfl) (fun _ _ _ h=>h) (fun _ h=>h) ?_;refine fM 30 rfl rfl rfl (by decide) (lZ (zs:=[iv 0,iv 0]) (L:=[(0,1),(1,1)]) (iG (by kernel_rfl)) (by kernel_rfl) rfl (by simp[fJ,gK,Value.cells];rfl)) (by kernel_rfl) (fun _ _ _ h=>h) (fun _ h=>h) ?_;refine fM 31 rfl rfl rfl (by decide) (aE6 (n:=3) (sz:=1) (el:=5) (zs:=[.int .u8 0,.int .u8 0,.int .u8 0]) (iG (by kernel_rfl)) (by kernel_rfl) (by kernel_rfl) rfl (by simp[fJ,gK,Value.cells,List.range_succ,List.set];rfl)) (by kernel_rfl) (fun _ _ _ h=>h) (fun _ h=>h) ?_;refine fM 32 rfl rfl rfl (by decide) (lZ (zs:=[iv 0,iv 0,.int .u8 0,.int .u8 0,.int .u8 0]) (L:=[(0,1),(1,1),(2,3)]) (iG (by kernel_rfl)) (by kernel_rfl) rfl (by simp[fJ,gK,Value.cells];rfl)) (by kernel_rfl) (fun _ _ _ h=>h) (fun _ h=>h) ?_;refine cH 0 ?_;refine aLj (by decide) fun g1=>?_;refine nY ?_;refine aU9 (fuel:=2) Nw Bh g1 (by decide) (fun i hi=>?_) (by decide) (by kernel_rfl) (fun l w1 h=>h.tail) (fun sub hsub=>?_)
 ·simp only[Nw,List.mem_cons,List.not_mem_nil,or_false] at hi;rcases hi with rfl | rfl | rfl | rfl | rfl | rfl | rfl | rfl | rfl | rfl
  all_goals exact⟨_,_,_,_,_,_,_,_,_,rfl,Tryz.underlying368,aAT,rfl,rfl,rfl⟩
 rw[aBa hsub];refine cH 34 ?_;refine cQ rfl (by decide) ?_;refine eZ ?_;refine cH 35 ?_;refine fP rfl (by decide) ?_;refine eZ ?_;refine kH ?_;refine dS ?_;refine Lp ?_;refine dS ?_;refine dP [] [] [0] (by simp) rfl (by decide) (by decide) fun q _ _ hfr=>?_;exact aT (h:=fun w1 st=>⟨_,_,⟨w1,q.Z⟩,rfl,rfl,⟨g1,sub,rfl,hsub,rfl⟩,st.newR (by simp) (by simp) (hfr (by simp) (by simp))⟩)
end
section
def aBU(a b:Int):Int:=IntKind.u32.wrap (BitVec.ofInt 32 a&&& BitVec.ofInt 32 b).toNat
def Zl(a b:Int):Int:=IntKind.u32.wrap (BitVec.ofInt 32 a&&& ~~~ BitVec.ofInt 32 b).toNat
def aAS(a b:Int):Int:=IntKind.u32.wrap (BitVec.ofInt 32 a||| BitVec.ofInt 32 b).toNat
theorem Pz(a:Int):0≤IntKind.u32.wrap a∧IntKind.u32.wrap a < 4294967296:=by
 unfold IntKind.wrap;simp only[IntKind.signed,IntKind.bits,Bool.false_and,Bool.false_eq_true,if_false];exact⟨Int.emod_nonneg _ (by decide),Int.emod_lt_of_pos _ (by decide)⟩
def Kb(many at':Int):Int:=IntKind.u32.wrap (IntKind.u64.wrap (IntKind.u64.wrap (IntKind.u64.wrap (1*2 ^ min many.toNat 64) - 1)*2 ^ min at'.toNat 64))
def cN(w low many:Int):Int:=aBU (w.fdiv (2 ^ min low.toNat 32)) (Kb many 0)
def zU(w low many v:Int):Int×Int:=if Zl v (Kb many 0)≠0 then(0,1) else(aAS (Zl w (Kb many low)) (IntKind.u32.wrap (v*2 ^ min low.toNat 32)),0)
def iW(w low many v:Int):Int×Int:=if v < 0∨IntKind.i64.wrap (1*2 ^ min many.toNat 64)≤v then(0,1) else if(zU w low many (IntKind.u32.wrap v)).2≠0 then(0,1) else((zU w low many (IntKind.u32.wrap v)).1,0)
def okF(low many:Int):Prop:=1≤many∧many≤32∧0≤low∧low≤32 - many
def aF4(many:Int)(v:Value)(w w':World):Prop:=∃g,v=.tuple #[.func (.func 247) #[] #[pt g],.bool true]∧RP (fresh w w') g 0 (iv many)
theorem aE0(a many:Int)(g:Nat)(w:World)(h:fQ w g 0 (iv many))(ha:0≤a)(hm:0≤many):
  Cz 247 #[iv a,pt g] w (Rt (.int .u32 (Kb many a)) w):=by
 refine aM func247 ntmps247 ?_;refine aB ?_;refine Pr rfl rfl (by omega) rfl (by decide) ?_;refine aAs rfl rfl rfl (by decide) ?_;refine cQ rfl (by decide) ?_;refine Pr rfl rfl (by omega) rfl (by decide) ?_;refine En (kd:=.u32) (ds:=.int .u64) (by kernel_rfl) (by kernel_rfl) rfl rfl (by decide) ?_;refine aB ?_;exact aT (h:=fun _ _=>rfl)
theorem aIW(low many:Int)(w:World)(hok:okF low many):Cz 245 #[iv low,iv many] w (fun y w'=>(∃x,y=.returned x∧aF4 many x w w')∧Below w.heap.size w w'):=by
 refine aM func245 ntmps245 ?_;refine aA ?_;refine bA fun g1=>?_;refine aA ?_
 (first | refine bQ (t:=8) rfl (fun hg=>?_) (fun hg=>?_) | refine sM (t:=8) rfl (fun hg=>?_) (fun hg=>?_))
 ·
  refine aA ?_;exact absurd hok (by unfold okF;omega)
 ·
  refine aA ?_
  (first | refine bQ (t:=12) rfl (fun hg=>?_) (fun hg=>?_) | refine sM (t:=12) rfl (fun hg=>?_) (fun hg=>?_))
  ·
   refine aA ?_;exact absurd hok (by unfold okF;omega)
  ·
   refine aA ?_
   (first | refine bQ (t:=16) rfl (fun hg=>?_) (fun hg=>?_) | refine sM (t:=16) rfl (fun hg=>?_) (fun hg=>?_))
   ·
    refine aA ?_;exact absurd hok (by unfold okF;omega)
   ·
    refine aA ?_;refine aG rfl (fun h=>?_) (fun h=>?_)
    ·
     refine aA ?_;exact absurd hok (by unfold okF;omega)
    ·
     refine aA ?_;refine kS (vf:=[]) (vc:=[pt g1]) rfl rfl (by decide) ?_;refine aA ?_;refine dP [] [0] [] (by simp) rfl (by decide) (by decide) fun q hq _ hfr=>?_;refine eL rfl rfl rfl fun w1 st=>⟨⟨_,rfl,g1,rfl,(tY (o:=0) (v:=iv many) (hq 0 _ (by simp) rfl) rfl).le (st.mK (by simp) (hfr (by simp) (by simp)))⟩,st.below (by simp)⟩
theorem aIF(w0 low many:Int)(w:World)(hok:okF low many):
  Cz 241 #[.int .u32 w0,iv low,iv many] w (Rt (.tuple #[.int .u32 (cN w0 low many),iv 0]) w):=by
 refine aM func241 ntmps241 ?_;refine aB ?_;refine jR [] (aF4 many) (fun w1 st=>aIW low many w1 hok) ?_;rintro _ w1 q1 ⟨g,rfl,cX⟩ hf _ _
 have cX:=cX.le hf
 clear hf;refine cQ rfl (by decide) ?_;refine aAx rfl rfl (by decide) ?_;refine aAx rfl rfl (by decide) ?_;refine fP rfl (by decide) ?_;refine fP rfl (by decide) ?_;refine dO ?_;refine cP ?_;refine cP ?_;refine eC ?_;refine cQ rfl (by decide) ?_
 (first | refine Md rfl (by decide) ?_ | refine zL rfl (by decide) ?_)
 refine dO ?_;refine qD rfl (fun h=>?_) (fun h=>?_)
 ·
  refine aB ?_;exact absurd h (by simp)
 ·
  refine mA ?_;refine dS ?_;refine cP ?_;refine rL 5 (by kernel_rfl) (by kernel_rfl) ?_;refine gF 0 rfl rfl rfl (mY rfl) ?_;refine gF 1 rfl rfl rfl (mY rfl) ?_;refine gF 2 rfl rfl rfl (aJl rfl rfl (by unfold okF at hok;omega) rfl) ?_;refine gF 3 rfl rfl rfl (mY rfl) ?_;refine cH 4 ?_;refine zN (f:=247) (fi:=[]) (ca:=[pt g]) (by kernel_rfl) rfl rfl (by decide) (fun w1 st=>aE0 0 many g w1 (cX.le (st.le (by simp))) (by unfold okF at hok;omega) (by unfold okF at hok;omega)) ?_;refine nY ?_;refine cH 5 ?_;refine aC6 (c:=cN w0 low many) rfl rfl (fun _=>rfl) (by simp) (by decide) ?_;refine eZ ?_;refine cH 6 ?_;refine fP rfl (by decide) ?_;refine eZ ?_;refine cH 7 ?_;refine fP rfl (by decide) ?_;refine eZ ?_;refine kH ?_;refine dS ?_;refine Lp ?_;refine dS ?_;exact eL rfl rfl rfl fun w1 st=>⟨rfl,st.below (by simp)⟩
theorem aDg(w0 low many v:Int)(w:World)(hok:okF low many):
  Cz 244 #[.int .u32 w0,iv low,iv many,.int .u32 v] w (Rt (.tuple #[.int .u32 (zU w0 low many v).1,iv (zU w0 low many v).2]) w):=by
 refine aM func244 ntmps244 ?_;refine aB ?_;refine jR [] (aF4 many) (fun w1 st=>aIW low many w1 hok) ?_;rintro _ w1 q1 ⟨g,rfl,cX⟩ hf _ _
 have cX:=cX.le hf
 clear hf;refine cQ rfl (by decide) ?_;refine aAx rfl rfl (by decide) ?_;refine aAx rfl rfl (by decide) ?_;refine fP rfl (by decide) ?_;refine fP rfl (by decide) ?_;refine dO ?_;refine cP ?_;refine cP ?_;refine eC ?_;refine cQ rfl (by decide) ?_
 (first | refine Md rfl (by decide) ?_ | refine zL rfl (by decide) ?_)
 refine dO ?_;refine qD rfl (fun h=>?_) (fun h=>?_)
 ·
  refine aB ?_;exact absurd h (by simp)
 ·
  refine aB ?_;refine zN (f:=247) (fi:=[]) (ca:=[pt g]) (by kernel_rfl) rfl rfl (by decide) (fun w1 st=>aE0 0 many g w1 (cX.le (st.le (by simp))) (by unfold okF at hok;omega) (by unfold okF at hok;omega)) ?_;refine aC6 (c:=Zl v (Kb many 0)) rfl rfl (fun _=>rfl) (by simp) (by decide) ?_;refine aB ?_;refine aG rfl (fun h=>?_) (fun h=>?_)
  ·
   refine aB ?_;refine eL rfl rfl rfl fun w1 st=>⟨by rw[zU,if_pos h],st.below (by simp)⟩
  ·
   refine mA ?_;refine dS ?_;refine cP ?_;refine rL 8 (by kernel_rfl) (by kernel_rfl) ?_;refine gF 0 rfl rfl rfl (mY rfl) ?_;refine gF 1 rfl rfl rfl (mY rfl) ?_;refine gF 2 rfl rfl rfl (mY rfl) ?_;refine gF 5 rfl rfl rfl (mY rfl) ?_;refine gF 6 rfl rfl rfl (mY rfl) ?_;refine gF 7 rfl rfl rfl (aSi rfl rfl (by unfold okF at hok;omega) rfl) ?_;refine cH 3 ?_;refine zN (f:=247) (fi:=[]) (ca:=[pt g]) (by kernel_rfl) rfl rfl (by decide) (fun w1 st=>aE0 low many g w1 (cX.le (st.le (by simp))) (by unfold okF at hok;omega) (by unfold okF at hok;omega)) ?_;refine nY ?_;refine gF 4 rfl rfl rfl (aJs (c:=Zl w0 (Kb many low)) rfl rfl (fun _=>rfl) (by simp)) ?_;refine cH 8 ?_;refine aC6 (c:=aAS (Zl w0 (Kb many low)) (IntKind.u32.wrap (v*2 ^ min low.toNat 32))) rfl rfl (fun _=>rfl) (by simp) (by decide) ?_;refine eZ ?_;refine cH 9 ?_;refine fP rfl (by decide) ?_;refine eZ ?_;refine cH 10 ?_;refine fP rfl (by decide) ?_;refine eZ ?_;refine kH ?_;refine dS ?_;refine Lp ?_;refine dS ?_;refine eL rfl rfl rfl fun w1 st=>⟨by rw[zU,if_neg h],st.below (by simp)⟩
theorem Vw(w0 low many:Int)(w:World)(hok:okF low many):
  Cz 231 #[.int .u32 w0,iv low,iv many] w (Rt (iv (cN w0 low many)) w):=by
 refine aM func231 ntmps231 ?_;refine aA ?_;refine dG (fun w1 st=>aIF w0 low many w1 hok) ?_;refine aA ?_;refine En (ds:=.int .u32) (by kernel_rfl) (by kernel_rfl) rfl (iR (by have:=Pz (BitVec.ofInt 32 (w0.fdiv (2 ^ min low.toNat 32))&&& BitVec.ofInt 32 (Kb many 0)).toNat;unfold cN aBU;omega)) (by decide) ?_;refine aA ?_;exact aT (h:=fun _ _=>rfl)
theorem aAO(w0 low many v:Int)(w:World)(hok:okF low many):
  Cz 237 #[.int .u32 w0,iv low,iv many,iv v] w (Rt (.tuple #[.int .u32 (iW w0 low many v).1,iv (iW w0 low many v).2]) w):=by
 refine aM func237 ntmps237 ?_;refine aB ?_
 (first | refine bQ (t:=13) rfl (fun hg=>?_) (fun hg=>?_) | refine sM (t:=13) rfl (fun hg=>?_) (fun hg=>?_))
 ·
  refine aB ?_;refine eL rfl rfl rfl fun w1 st=>⟨by rw[iW,if_pos (.inl hg)],st.below (by simp)⟩
 ·
  refine fG rfl rfl ?_;refine cQ rfl (by decide) ?_;refine fG rfl rfl ?_;refine cQ rfl (by decide) ?_;refine fG rfl rfl ?_;refine Pr rfl rfl (by unfold okF at hok;omega) rfl (by decide) ?_;refine aB ?_;refine aG rfl (fun h=>?_) (fun h=>?_)
  ·
   refine aB ?_;refine eL rfl rfl rfl fun w1 st=>⟨by rw[iW,if_pos (.inr h)],st.below (by simp)⟩
  ·
   refine mA ?_
   have hno:¬(v < 0∨IntKind.i64.wrap (1*2 ^ min many.toNat 64)≤v):=fun h2=>h2.elim hg h
   refine dS ?_;refine cP ?_;refine eC ?_;refine cQ rfl (by decide) ?_;refine cQ rfl (by decide) ?_;refine cQ rfl (by decide) ?_;refine cQ rfl (by decide) ?_;refine En (kd:=.u32) (ds:=.int .i64) (by kernel_rfl) (by kernel_rfl) rfl rfl (by decide) ?_;refine dG (fun w1 st=>aDg w0 low many (IntKind.u32.wrap v) w1 hok) ?_;refine aB ?_;refine aG rfl (fun h2=>?_) (fun h2=>?_)
   ·
    refine aB ?_;refine eL rfl rfl rfl fun w1 st=>⟨by rw[iW,if_neg hno,if_pos h2],st.below (by simp)⟩
   ·
    refine aB ?_;refine eL rfl rfl rfl fun w1 st=>⟨by rw[iW,if_neg hno,if_neg h2];rfl,st.below (by simp)⟩
end
section
def eB(m t p k:Int):Int×Int:=
 if(iW 0 0 8 m).2≠0 then(0,(iW 0 0 8 m).2)
 else if(iW (iW 0 0 8 m).1 8 2 t).2≠0 then(0,(iW (iW 0 0 8 m).1 8 2 t).2)
 else if(iW (iW (iW 0 0 8 m).1 8 2 t).1 10 8 p).2≠0 then(0,(iW (iW (iW 0 0 8 m).1 8 2 t).1 10 8 p).2)
 else if(iW (iW (iW (iW 0 0 8 m).1 8 2 t).1 10 8 p).1 18 10 k).2≠0 then(0,(iW (iW (iW (iW 0 0 8 m).1 8 2 t).1 10 8 p).1 18 10 k).2)
 else((iW (iW (iW (iW 0 0 8 m).1 8 2 t).1 10 8 p).1 18 10 k).1,0)
def Hz(m t p k:Int):List Value:=[iv m,iv t,iv p,iv k]
def Gu(w:Int):List Value:=if cN w 28 4≠0 then Hz 0 0 0 0 else Hz (cN w 0 8) (cN w 8 2) (cN w 10 8) (cN w 18 10)
def uF(w:Int):Int:=if cN w 28 4≠0 then 2 else 0
theorem Ur(l:List Int):∀u∈rA l,u.oneCell'=true:=by
 intro u hu;simp only[rA,List.mem_map] at hu;obtain⟨_,_,rfl⟩:=hu;rfl
def aCr(l:List Int)(v:Value)(w w':World):Prop:=∃A c,v=.slice A l.length c∧aI (fresh w w') 1 A l.length (rA l)
theorem aOi(m t p k:Int)(w:World):
  Cz 218 #[.agg #[iv m,iv t,iv p,iv k]] w (Rt (.tuple #[.int .u32 (eB m t p k).1,iv (eB m t p k).2]) w):=by
 refine aM func218 ntmps218 ?_;refine aB ?_;refine bA fun g1=>?_;refine aB ?_;refine dG (fun w1 st=>aAO 0 0 8 m w1 (by unfold okF;omega)) ?_;refine aB ?_;refine aG rfl (fun h1=>?_) (fun h1=>?_)
 ·
  refine aB ?_;refine eL rfl rfl rfl fun w1 st=>⟨by rw[eB,if_pos h1];rfl,st.below (by simp)⟩
 ·
  refine aB ?_;refine dG (fun w1 st=>aAO (iW 0 0 8 m).1 8 2 t w1 (by unfold okF;omega)) ?_;refine aB ?_;refine aG rfl (fun h2=>?_) (fun h2=>?_)
  ·
   refine aB ?_;refine eL rfl rfl rfl fun w1 st=>⟨by rw[eB,if_neg h1,if_pos h2];rfl,st.below (by simp)⟩
  ·
   refine aB ?_;refine dG (fun w1 st=>aAO (iW (iW 0 0 8 m).1 8 2 t).1 10 8 p w1 (by unfold okF;omega)) ?_;refine aB ?_;refine aG rfl (fun h3=>?_) (fun h3=>?_)
   ·
    refine aB ?_;refine eL rfl rfl rfl fun w1 st=>⟨by rw[eB,if_neg h1,if_neg h2,if_pos h3];rfl,st.below (by simp)⟩
   ·
    refine aB ?_;refine dG (fun w1 st=>aAO (iW (iW (iW 0 0 8 m).1 8 2 t).1 10 8 p).1 18 10 k w1 (by unfold okF;omega)) ?_;refine aB ?_;refine aG rfl (fun h4=>?_) (fun h4=>?_)
    ·
     refine aB ?_;refine eL rfl rfl rfl fun w1 st=>⟨by rw[eB,if_neg h1,if_neg h2,if_neg h3,if_pos h4];rfl,st.below (by simp)⟩
    ·
     refine aB ?_;refine eL rfl rfl rfl fun w1 st=>⟨by rw[eB,if_neg h1,if_neg h2,if_neg h3,if_neg h4];rfl,st.below (by simp)⟩
theorem aGi(w0:Int)(w:World):
  Cz 184 #[.int .u32 w0] w (Rt (.tuple #[.agg (Gu w0).toArray,iv (uF w0)]) w):=by
 refine aM func184 ntmps184 ?_;refine aA ?_;refine bX fun g1=>?_;refine aA ?_;refine dG (fun w1 st=>Vw w0 28 4 w1 (by unfold okF;omega)) ?_;refine aA ?_;refine aG rfl (fun h=>?_) (fun h=>?_)
 ·
  refine aA ?_;refine kd (fY rfl) ?_;refine uD rfl rfl ?_;simp only[iH,Value.cells,List.set,List.take,List.drop,List.nil_append,List.append_nil,List.length_cons,List.length_nil,List.cons_append,Nat.reduceAdd];refine aA ?_;refine xJ rfl (n:=4) (vs:=Hz 0 0 0 0) (by kernel_rfl) rfl rfl (aQ.whole 0 rfl) rfl fun w1 st=>⟨by rw[Gu,uF,if_pos h,if_pos h],st.below (by simp)⟩
 ·
  refine aA ?_;refine dG (fun w1 st=>Vw w0 0 8 w1 (by unfold okF;omega)) ?_;refine aA ?_;refine dG (fun w1 st=>Vw w0 8 2 w1 (by unfold okF;omega)) ?_;refine aA ?_;refine dG (fun w1 st=>Vw w0 10 8 w1 (by unfold okF;omega)) ?_;refine aA ?_;refine dG (fun w1 st=>Vw w0 18 10 w1 (by unfold okF;omega)) ?_;refine kd (fY rfl) ?_;refine uD rfl rfl ?_;simp only[iH,Value.cells,List.set,List.take,List.drop,List.nil_append,List.append_nil,List.length_cons,List.length_nil,List.cons_append,Nat.reduceAdd];refine aA ?_;refine xJ rfl (n:=4) (vs:=Hz (cN w0 0 8) (cN w0 8 2) (cN w0 10 8) (cN w0 18 10)) (by kernel_rfl) rfl rfl (aQ.whole 0 rfl) rfl fun w1 st=>⟨by rw[Gu,uF,if_neg h,if_neg h],st.below (by simp)⟩
theorem aNi(w0:Int)(A:Option Addr)(n c:Nat)(zs:List Int)(w:World)(hs:aI (all w) 1 A n (rA zs))(hn:n=zs.length)(hn2:n≤1000000):Cz 187 #[.int .u32 w0,.slice A n c] w (fun y w'=>(∃x,y=.returned x∧aCr (w0::zs) x w w')∧Below w.heap.size w w'):=by
 refine aM func187 ntmps187 ?_;refine aB ?_;refine aFK 1 4 (el:=23) (c:=n+1) (k0:=1) (uQ:=.i64) (by kernel_rfl) (by kernel_rfl) rfl (by rw[Int.natCast_add];rfl) (by omega) (by omega) (by decide) fun g1=>?_;refine aB ?_;refine eK fun g2=>?_;refine gJ 1 1 4 1 (n':=1) (el:=23) (by kernel_rfl) (by kernel_rfl) (by decide) rfl rfl rfl (nS 0 rfl rfl) (by simp[Value.oneCell']) rfl (by omega) (by omega) (by decide) fun A1 c1=>?_;dsimp only[List.set];refine aB ?_;refine gJ 1 1 4 n (n':=n+1) (el:=23) (by kernel_rfl) (by kernel_rfl) (by decide) rfl rfl rfl (rE (by simp) hs) (Ur _) (by omega) (by omega) (by omega) (by decide) fun A2 c2=>?_;dsimp only[List.set];refine aB ?_;refine dP [] [1] [] (by simp) rfl (by decide) (by decide) fun q hq _ hfr=>?_;obtain⟨F2,Cq,Ch⟩:=hq 1 _ (by simp) rfl;obtain⟨Am,cm,hBm,cR⟩:=vA (Y:=q.Z) Cq Ch;cases hBm;subst hn;refine mZ rfl rfl fun w1 st=>⟨⟨_,rfl,A2,c2,rfl,?_⟩,st.below (by simp)⟩
 exact aI.le cR (st.mK (by simp) (hfr (by simp) (by simp)))
def aCz(l:List Int)(v:Value)(w w':World):Prop:=∃A c,v=.tuple #[.slice A l.length c,iv 0]∧aI (fresh w w') 1 A l.length (rA l)
theorem aSA(m t p k:Int)(A:Option Addr)(n c:Nat)(zs:List Int)(w:World)(hs:aI (all w) 1 A n (rA zs))(hn:n=zs.length)(hn2:n≤1000000)(hok:(eB m t p k).2=0):Cz 162 #[.agg #[iv m,iv t,iv p,iv k],.slice A n c] w (fun y w'=>(∃x,y=.returned x∧aCz ((eB m t p k).1::zs) x w w')∧Below w.heap.size w w'):=by
 refine aM func162 ntmps162 ?_;refine aB ?_;refine bA fun g1=>?_;refine aB ?_;refine dG (fun w1 st=>aOi m t p k w1) ?_;refine aB ?_;refine aG rfl (fun h=>?_) (fun h=>?_)
 ·
  refine aB ?_;exact absurd hok h
 ·
  refine aB ?_;refine jR [] (aCr ((eB m t p k).1::zs)) (fun w1 st=>aNi (eB m t p k).1 A n c zs w1 (hs.le (st.le (by simp))) hn hn2) ?_;rintro _ w1 q1 ⟨A1,c1,rfl,h1⟩ hf _ qP
  have qP:=qP (by simp)
  have h1:=h1.le hf
  clear hf;refine aB ?_;refine eL rfl rfl rfl fun w1 st=>⟨⟨_,rfl,A1,c1,rfl,aI.le h1 (st.mK (by simp) qP)⟩,st.below (by simp)⟩
theorem aLy(pr m id v k:Int)(w:World)(hok:(eB m 0 pr k).2=0):Cz 93 #[.agg #[iv pr,iv m,.int .u32 id,.int .u32 v],iv k] w (fun y w'=>(∃x,y=.returned x∧aCz [(eB m 0 pr k).1,id,v] x w w')∧Below w.heap.size w w'):=by
 refine aM func93 ntmps93 ?_;refine aB ?_;refine bA fun g1=>?_;refine aB ?_;refine eK fun g2=>?_;refine jR [] (aCz ((eB m 0 pr k).1::[id,v])) (fun w1 st=>aSA m 0 pr k (some ⟨g2,0,none⟩) 2 2 [id,v] w1 (st.rU (i:=0) rfl rfl) rfl (by omega) hok) ?_;rintro _ w1 q1 ⟨A1,c1,rfl,h1⟩ hf _ qP
 have qP:=qP (by simp)
 have h1:=h1.le hf
 clear hf;refine aB ?_;refine eL rfl rfl rfl fun w1 st=>⟨⟨_,rfl,A1,c1,rfl,aI.le h1 (st.mK (by simp) qP)⟩,st.below (by simp)⟩
end
section
def eM(w:Int):Int:=if cN w 28 4≠0 then 0 else cN w 0 8
def Fz(w:Int):Int:=if cN w 28 4≠0 then 0 else cN w 8 2
def eE(w:Int):Int:=if cN w 28 4≠0 then 0 else cN w 10 8
def aB1(w:Int):Int:=if cN w 28 4≠0 then 0 else cN w 18 10
theorem aGj(w:Int):Gu w=Hz (eM w) (Fz w) (eE w) (aB1 w):=by
 unfold Gu eM Fz eE aB1;split<;>rfl
structure lN where
 n:Int
 m:Int
 a:Int
 b:Int
 c:Int
def lN.v(f:lN):Value:=sZ f.n f.m f.a f.b f.c
def lN.act(f:lN)(v:Int):Int:=if v=0 then f.a else if v=1 then f.b else f.c
def qQ(p m:Int):Option lN:=
 if m=0 then(if p=16∨p=17∨p=20∨p=22 then some ⟨0,0,0,0,0⟩ else none)
 else if m=1 then(if p=16 then some ⟨0,0,0,0,0⟩ else none)
 else if m=4 then(if p=17 then some ⟨2,3,100,117,107⟩ else if p=22 then some ⟨2,2,114,97,0⟩ else none)
 else if m=5 then(if p=17 then some ⟨1,0,0,0,0⟩ else none)
 else if m=6 then(if p=20 then some ⟨1,0,0,0,0⟩ else none)
 else if m=7 then(if p=20 then some ⟨2,2,111,99,0⟩ else none)
 else none
theorem aRg(p m:Int):lT aEr (p,m)=(qQ p m).map lN.v:=by
 unfold aEr Nw qQ;simp only[List.map_cons,List.map_nil,Bh,Mq,Prod.mk.injEq]
 by_cases h0:m=0
 ·subst h0
  by_cases xC:p=16
  ·subst xC;simp[lN.v]
  ·by_cases Dm:p=17
   ·subst Dm;simp[lN.v]
   ·by_cases yT:p=20
    ·subst yT;simp[lN.v]
    ·by_cases Nu:p=22
     ·subst Nu;simp[lN.v]
     ·simp[xC,Dm,yT,Nu,lT,Ne.symm xC,Ne.symm Dm,Ne.symm yT,Ne.symm Nu]
 ·by_cases h1:m=1
  ·subst h1
   by_cases xC:p=16
   ·subst xC;simp[lN.v]
   ·simp[xC,Ne.symm xC,lT]
  ·by_cases h4:m=4
   ·subst h4
    by_cases Dm:p=17
    ·subst Dm;simp[lN.v]
    ·by_cases Nu:p=22
     ·subst Nu;simp[lN.v]
     ·simp[Dm,Nu,Ne.symm Dm,Ne.symm Nu,lT]
   ·by_cases h5:m=5
    ·subst h5
     by_cases Dm:p=17
     ·subst Dm;simp[lN.v]
     ·simp[Dm,Ne.symm Dm,lT]
    ·by_cases h6:m=6
     ·subst h6
      by_cases yT:p=20
      ·subst yT;simp[lN.v]
      ·simp[yT,Ne.symm yT,lT]
     ·by_cases h7:m=7
      ·subst h7
       by_cases yT:p=20
       ·subst yT;simp[lN.v]
       ·simp[yT,Ne.symm yT,lT]
      ·simp[h0,h1,h4,h5,h6,h7,Ne.symm h0,Ne.symm h1,Ne.symm h4,Ne.symm h5,Ne.symm h6,Ne.symm h7,lT]
def eG(p m:Int):lN:=(qQ p m).getD ⟨0,0,0,0,0⟩
theorem aRf{sub:List Nat}(h:sub.Perm Nw)(p m:Int):lT (sub.reverse.map Bh) (p,m)=(qQ p m).map lN.v:=by
 rw[←aRg]
 have hp:(sub.reverse.map Bh).Perm aEr:=((List.reverse_perm sub).trans h).map Bh
 refine aPb hp ?_ _;exact((hp.map (·.1)).nodup_iff).2 (by decide)
theorem Sg{sub:List Nat}(h:sub.Perm Nw)(p m:Int):(lT (sub.reverse.map Bh) (p,m)).getD (sZ 0 0 0 0 0)=(eG p m).v∧(lT (sub.reverse.map Bh) (p,m)).isSome=(qQ p m).isSome:=by
 rw[aRf h];unfold eG;cases qQ p m<;>exact⟨rfl,rfl⟩
theorem aIH(p m : Int) : ((eG p m).n = 0 ∨ (eG p m).n = 1 ∨ (eG p m).n = 2) ∧ 0 ≤ (eG p m).m ∧ (eG p m).m ≤ 3 ∧ (∀ v, 0 ≤ v → v < (eG p m).m → (eG p m).act v = 107 → p = 17) ∧
  ((eG p m).m≠0→p=17∨p=20∨p=22):=by
 unfold eG qQ
 by_cases h0:m=0
 ·by_cases h:p=16∨p=17∨p=20∨p=22<;>simp[h0,h]<;>omega
 ·by_cases h1:m=1
  ·by_cases h:p=16<;>simp[h1,h]<;>omega
  ·by_cases h4:m=4
   ·by_cases h:p=17
    ·simp[h4,h]
    ·by_cases h':p=22
     ·subst h4 h';simp only[lN.act];refine⟨by simp,by simp,by simp,fun v h1 h2 h3=>?_,by simp⟩;simp at h2 h3;split at h3
      ·omega
      ·split at h3<;>omega
     ·simp[h4,h,h'];omega
   ·by_cases h5:m=5
    ·by_cases h:p=17<;>simp[h5,h]<;>omega
    ·by_cases h6:m=6
     ·by_cases h:p=20<;>simp[h6,h]<;>omega
     ·by_cases h7:m=7
      ·by_cases h:p=20
       ·subst h7 h;simp only[lN.act];refine⟨by simp,by simp,by simp,fun v h1 h2 h3=>?_,by simp⟩;simp at h2 h3;split at h3
        ·omega
        ·split at h3<;>omega
       ·simp[h7,h];omega
      ·simp[h0,h1,h4,h5,h6,h7];omega
def Mn(s:aD)(k:Nat):Bool:=(s.domains[k]?).any (·.ret)
def kindOf(s:aD)(k:Nat):Int:=((s.aF[k]?).map (·.kind)).getD 0
def rB(s:aD)(k:Nat):Prop:=kindOf s k=112∨kindOf s k=103
instance(s:aD)(k:Nat):Decidable (rB s k):=inferInstanceAs (Decidable (_∨_))
def zW(s:aD)(p k:Int)(id:Nat):Prop:=(k=107∧Mn s id=false)∨(p=20∧¬rB s id)
instance(s:aD)(p k:Int)(id:Nat):Decidable (zW s p k id):=inferInstanceAs (Decidable (_∨_))
def wC(s:aD)(p:Int)(f:lN)(id v:Int):Int×Int×Int:=
 if(tJ s p:Int)≤id then(-4,0,0) else if f.m=0 then(0,0,0) else if f.m≤v then(-2,0,0) else if zW s p (f.act v) id.toNat then(-2,0,0) else(0,f.act v,id)
def eA(s:aD)(l:List Int):Int×Int×Int:=
 match l with
 | []=>(-10,0,0)
 | w::r=>
  if uF w≠0∨Fz w≠0 then(-10,0,0)
  else if(qQ (eE w) (eM w)).isSome=false then(-1,0,0)
  else if(r.length:Int)≠(eG (eE w) (eM w)).n then(-10,0,0)
  else if(eG (eE w) (eM w)).n=0 then(0,0,0)
  else wC s (eE w) (eG (eE w) (eM w)) (r.getD 0 0) (r.getD ((eG (eE w) (eM w)).n.toNat - 1) 0)
def aEX(a:Int×Int×Int):Value:=.tuple #[.int .i32 a.1,.agg #[.int .u8 a.2.1,iv a.2.2]]
def wG(l:List Int):Prop:=∀x∈l,0≤x∧x < 4294967296
theorem aI.u32{w:World}{A:Option Addr}{n:Nat}{l:List Int}(h:aI (all w) 1 A n (rA l))(hn:0 < n):∃b off,A=some ⟨b,off,none⟩∧∀(i:Nat) (x:Int),l[i]? =some x→fQ w b (off+i) (.int .u32 x):=by
 obtain⟨b,off,hA,hb,hc⟩:=h.2 hn;refine⟨b,off,hA,fun i x hx=>⟨hb,hc i _ ?_⟩⟩;simp only[rA,List.getElem?_map,hx,Option.map_some]
section
variable{P:Program}{N:lN}{w0:World}{e:Env}{R:List Piece}{H:List HP}
theorem aUc{nn:Nat}{fn:Func}{Post:Ending→World→Prop}{t u n b:Nat}{s:TypeId}{vs:List Value}{v':Value}(hr:fn.results=#[.tmp u,.cell t s])(hs:Ez P s n=true)(hn:vs.length=n)(ht:e.get t=some (pt b))(hrd:aQ w0 R H b 0 vs)(hu:e.get u=some v')(h:∀w,St w0 R H w→Post (.returned (.tuple #[v',.agg vs.toArray])) w):XK ⟨nn,[]⟩ w0 (bodyPost P fn Post .ret) e R H:=fun a w cX st=>by
 have hl:=Vg (P:=P) hs hn (hrd w st)
 refine bodyPost_ret (v:=.tuple #[v',.agg vs.toArray]) ?_ cX.defers (h w st)
 have ha:=cX.get t _ ht
 have hb:=cX.get u _ hu
 simp only[Instr.loadAt,Instr.sureAddr,Sem.run_bind,Sem.run_pure,Result.andThen_ok] at hl;simp only[results,hr];simp[ha,hb,asAddr,hl]
end
end
section
theorem aOI(s:aD)(A1 A2 A3 A4:Option Addr)(n1 k1 n2 k2 n3 k3 n4 k4:Nat)(p:Int){w0:World}(w:World)(hS:fL w0 s A1 n1 A2 n2 A3 n3 A4 n4):Cz 220 #[.agg #[.slice A1 n1 k1,.slice A2 n2 k2,.slice A3 n3 k3,.slice A4 n4 k4],iv p] w (Rt (iv (tJ s p)) w):=by
 obtain⟨h1,h2,h3,h4⟩:=And.intro hS.nH (And.intro hS.nT (And.intro hS.pU hS.oK));subst h1 h2 h3 h4;exact aOH s A1 A2 A3 A4 k1 k2 k3 k4 p w
theorem qA{nn:Nat}{w:World}{e:Env}{R:List Piece}{H:List HP}{fn:Func}{t u n b:Nat}{s:TypeId}{vs:List Value}{v v':Value}(hv:v=.tuple #[v',.agg vs.toArray])(hr:fn.results=#[.tmp u,.cell t s]:=by rfl)(hs:Ez Tryz.prog s n=true:=by kernel_rfl)(ht:e.get t=some (pt b):=by rfl)(hrd:aQ w R H b 0 vs:=by first | exact aQ.whole 0 rfl | exact aQ.whole 1 rfl | exact aQ.whole 2 rfl | exact aQ.whole 3 rfl)(hn:vs.length=n:=by rfl)(hu:e.get u=some v':=by rfl)(hR:all w∈R:=by simp):XK ⟨nn,[]⟩ w (bodyPost Tryz.prog fn (Rt v w) .ret) e R H:=
 aUc hr hs hn ht hrd hu fun w9 st=>⟨by rw[hv],st.below hR⟩
theorem aNL(s:aD)(A1 A2 A3 A4:Option Addr)(n1 k1 n2 k2 n3 k3 n4 k4:Nat)(A:Option Addr)(n c:Nat)(l:List Int)(w:World)(hS:fL w s A1 n1 A2 n2 A3 n3 A4 n4)(hl:aI (all w) 1 A n (rA l))(hn:n=l.length)(hn2:n≤1000000)(hu:wG l):
  Cz 165 #[.agg #[.slice A1 n1 k1,.slice A2 n2 k2,.slice A3 n3 k3,.slice A4 n4 k4],.slice A n c] w (Rt (aEX (eA s l)) w):=by
 refine aM func165 ntmps165 ?_;refine aB ?_;refine bA fun g1=>?_;refine aB ?_;refine bX fun g2=>?_;refine aB ?_;refine aG rfl (fun h=>?_) (fun h=>?_)
 ·obtain rfl:l=[]:=List.eq_nil_of_length_eq_zero (by omega);refine aB ?_
  (refine qA ?_;rfl)
 obtain⟨b,off,rfl,hcell⟩:=hl.u32 (by omega)
 obtain⟨w1,r,rfl⟩:∃x r,l=x::r:=by
  cases l with
  | nil=>exact absurd (by simpa using hn) (show ¬n=0 by omega)
  | cons x r=>exact⟨x,r,rfl⟩
 have hw1:=hcell 0 w1 rfl
 have hlen:n=r.length+1:=by simpa using hn
 refine aB ?_;refine aU (v:=.tuple #[.agg #[iv (eM w1),iv (Fz w1),iv (eE w1),iv (aB1 w1)],iv (uF w1)]) (fun w2 st=>(aGi w1 w2).mono fun x w3 hx=>aFs hx (by rw[aGj];rfl)) ?_;refine aB ?_;refine bX fun g3=>?_;refine aB ?_;refine bQ (t:=26) rfl (fun hg=>?_) (fun hg=>?_)
 ·refine aB ?_
  (refine qA ?_;rw[eA,if_pos (.inl hg)];rfl)
 refine aB ?_;refine aG rfl (fun h4=>?_) (fun h5=>?_)
 ·refine aB ?_
  (refine qA ?_;rw[eA,if_pos (.inr h4)];rfl)
 have h4:¬(uF w1≠0∨Fz w1≠0):=fun hh=>hh.elim hg h5
 refine mA ?_;refine dS ?_;refine Tr (α:=Nat) (fun g4=>[(9,.bool (qQ (eE w1) (eM w1)).isSome),(8,pt g4),(7,iv (uF w1)),(6,pt g3),(5,pt g2),(2,pt g1),(1,.slice (some ⟨b,off,none⟩) n c)]) (fun g4=>[HP.aE g4 366 [iv (eG (eE w1) (eM w1)).n,iv (eG (eE w1) (eM w1)).m,.int .u8 (eG (eE w1) (eM w1)).a,.int .u8 (eG (eE w1) (eM w1)).b,.int .u8 (eG (eE w1) (eM w1)).c],HP.aE g3 334 [iv (eM w1),iv (Fz w1),iv (eE w1),iv (aB1 w1)],HP.aE g2 136 [.int .u8 0,iv 0],HP.aE g1 30 [.slice A1 n1 k1,.slice A2 n2 k2,.slice A3 n3 k3,.slice A4 n4 k4]]) (fun _=>True) ?_ fun g4 _=>?_
 ·skip
  refine rL 12 (by kernel_rfl) (by kernel_rfl) ?_;refine gF 1 rfl rfl rfl (Gh (off:=2) (by kernel_rfl) rfl) ?_;refine gF 2 rfl rfl rfl (Lf rfl) ?_;refine gF 3 rfl rfl rfl (Gh (off:=0) (by kernel_rfl) rfl) ?_;refine gF 4 rfl rfl rfl (Lf rfl) ?_;refine gF 5 rfl rfl rfl (lZ (zs:=[iv 0,iv 0]) (L:=[(0,1),(1,1)]) (iG (by kernel_rfl)) (by kernel_rfl) rfl (by simp[fJ,gK,Value.cells];rfl)) ?_;refine Lv 0 10 rfl rfl (by kernel_rfl) ?_ ?_
  ·refine iA aF3 (fun w2 _=>aIJ w2) ?_;rintro _ _ q1 ⟨gm,sub,rfl,hsub,rfl⟩ _;simp only[List.cons_append,List.nil_append];refine iE ?_;refine gT ?_;refine lB (fun _ h=>h.aZ.tail) ?_;refine Lv 6 10 rfl rfl (by kernel_rfl) ?_ ?_
   ·refine aC5 (v:=.agg #[iv (eG (eE w1) (eM w1)).n,iv (eG (eE w1) (eM w1)).m,.int .u8 (eG (eE w1) (eM w1)).a,.int .u8 (eG (eE w1) (eM w1)).b,.int .u8 (eG (eE w1) (eM w1)).c]) (et:=366) (l:=sub.reverse.map Bh) Tryz.underlying368 aAT (z:=sZ 0 0 0 0 0) (by kernel_rfl) rfl (k:=(eE w1,eM w1)) rfl (fun w2 st=>st.vQ (i:=0) rfl) (Sg hsub _ _).1 (Sg hsub _ _).2 (by decide) ?_;refine iE ?_;refine gT ?_;refine lB (fun _ h=>h.aZ.tail) ?_;refine fM 7 rfl rfl rfl (by decide) (mY rfl) (by kernel_rfl) (fun _ _ _ h=>h) (fun _ h=>h.aZ.tail) ?_;refine fM 8 rfl rfl rfl (by decide) (Du rfl rfl) (by kernel_rfl) (fun _ _ _ h=>h) (fun _ h=>h.aZ.tail) ?_;refine fM 9 rfl rfl rfl (by decide) (Du rfl rfl) (by kernel_rfl) (fun _ _ _ h=>h) (fun _ h=>h.aZ.tail) ?_;refine cH 10 ?_;refine bX fun g4=>?_;refine iE ?_;refine gT ?_;refine lB (fun _ h=>h.aZ.tail.tail) ?_;refine cH 11 ?_;refine uD rfl rfl ?_;simp only[iH,Value.cells,List.set,List.take,List.drop,List.nil_append,List.append_nil,List.length_cons,List.length_nil,List.cons_append,Nat.reduceAdd];refine iE ?_;refine gT ?_;refine lB (fun _ h=>h.aZ.tail.tail) ?_;refine cH 12 ?_;refine fP rfl (by decide) ?_;refine eZ ?_;refine kH ?_;refine dS ?_;exact eI g4
   ·refine bX fun g4=>?_;refine iE ?_;refine gT ?_;refine lB (fun _ h=>h.aZ.tail.tail) ?_;refine cH 6 ?_;refine aC5 (v:=.agg #[iv (eG (eE w1) (eM w1)).n,iv (eG (eE w1) (eM w1)).m,.int .u8 (eG (eE w1) (eM w1)).a,.int .u8 (eG (eE w1) (eM w1)).b,.int .u8 (eG (eE w1) (eM w1)).c]) (et:=366) (l:=sub.reverse.map Bh) Tryz.underlying368 aAT (z:=sZ 0 0 0 0 0) (by kernel_rfl) rfl (k:=(eE w1,eM w1)) rfl (fun w2 st=>st.vQ (i:=1) rfl) (Sg hsub _ _).1 (Sg hsub _ _).2 (by decide) ?_;refine iE ?_;refine gT ?_;refine lB (fun _ h=>h.aZ.tail.tail) ?_;refine fM 7 rfl rfl rfl (by decide) (mY rfl) (by kernel_rfl) (fun _ _ _ h=>h) (fun _ h=>h.aZ.tail.tail) ?_;refine fM 8 rfl rfl rfl (by decide) (Du rfl rfl) (by kernel_rfl) (fun _ _ _ h=>h) (fun _ h=>h.aZ.tail.tail) ?_;refine fM 9 rfl rfl rfl (by decide) (Du rfl rfl) (by kernel_rfl) (fun _ _ _ h=>h) (fun _ h=>h.aZ.tail.tail) ?_;refine cH 11 ?_;refine uD rfl rfl ?_;simp only[iH,Value.cells,List.set,List.take,List.drop,List.nil_append,List.append_nil,List.length_cons,List.length_nil,List.cons_append,Nat.reduceAdd];refine iE ?_;refine gT ?_;refine lB (fun _ h=>h.aZ.tail.tail) ?_;refine cH 12 ?_;refine fP rfl (by decide) ?_;refine eZ ?_;refine kH ?_;refine dS ?_;exact eI g4
  ·refine bX fun g4=>?_;refine iE ?_;refine gT ?_;refine lB (fun _ h=>h.tail) ?_;refine cH 0 ?_;refine iA aF3 (fun w2 _=>aIJ w2) ?_;rintro _ _ q1 ⟨gm,sub,rfl,hsub,rfl⟩ _;simp only[List.cons_append,List.nil_append];refine iE ?_;refine gT ?_;refine lB (fun _ h=>h.aZ.tail.tail) ?_;refine cH 6 ?_;refine aC5 (v:=.agg #[iv (eG (eE w1) (eM w1)).n,iv (eG (eE w1) (eM w1)).m,.int .u8 (eG (eE w1) (eM w1)).a,.int .u8 (eG (eE w1) (eM w1)).b,.int .u8 (eG (eE w1) (eM w1)).c]) (et:=366) (l:=sub.reverse.map Bh) Tryz.underlying368 aAT (z:=sZ 0 0 0 0 0) (by kernel_rfl) rfl (k:=(eE w1,eM w1)) rfl (fun w2 st=>st.vQ (i:=0) rfl) (Sg hsub _ _).1 (Sg hsub _ _).2 (by decide) ?_;refine iE ?_;refine gT ?_;refine lB (fun _ h=>h.aZ.tail.tail) ?_;refine fM 7 rfl rfl rfl (by decide) (mY rfl) (by kernel_rfl) (fun _ _ _ h=>h) (fun _ h=>h.aZ.tail.tail) ?_;refine fM 8 rfl rfl rfl (by decide) (Du rfl rfl) (by kernel_rfl) (fun _ _ _ h=>h) (fun _ h=>h.aZ.tail.tail) ?_;refine fM 9 rfl rfl rfl (by decide) (Du rfl rfl) (by kernel_rfl) (fun _ _ _ h=>h) (fun _ h=>h.aZ.tail.tail) ?_;refine cH 11 ?_;refine uD rfl rfl ?_;simp only[iH,Value.cells,List.set,List.take,List.drop,List.nil_append,List.append_nil,List.length_cons,List.length_nil,List.cons_append,Nat.reduceAdd];refine iE ?_;refine gT ?_;refine lB (fun _ h=>h.aZ.tail.tail) ?_;refine cH 12 ?_;refine fP rfl (by decide) ?_;refine eZ ?_;refine kH ?_;refine dS ?_;exact eI g4
 obtain⟨qP,Kv,hF3,hF4,hF5⟩:=aIH (eE w1) (eM w1);refine aB ?_;cases h7:(qQ (eE w1) (eM w1)).isSome
 ·refine aB ?_
  (refine qA ?_;rw[eA,if_neg h4,if_pos h7];rfl)
 have h7':¬(qQ (eE w1) (eM w1)).isSome=false:=by rw[h7];simp
 refine aB ?_;refine aG rfl (fun h9=>?_) (fun h9=>?_)
 ·refine aB ?_
  (refine qA ?_;rw[eA,if_neg h4,if_neg h7',if_pos (by omega)];rfl)
 have h9':¬(r.length:Int)≠(eG (eE w1) (eM w1)).n:=by omega
 refine aB ?_;refine aG rfl (fun h11=>?_) (fun h11=>?_)
 ·refine aB ?_
  (refine qA ?_;rw[eA,if_neg h4,if_neg h7',if_neg h9',if_pos h11];rfl)
 obtain⟨id,hid⟩:∃x,r[0]? =some x:=⟨r[0]'(by omega),List.getElem?_eq_getElem _⟩
 obtain⟨v,hv⟩:∃x,r[(eG (eE w1) (eM w1)).n.toNat - 1]? =some x:=⟨r[(eG (eE w1) (eM w1)).n.toNat - 1]'(by omega),List.getElem?_eq_getElem _⟩
 have aQc:r.getD 0 0=id:=by rw[List.getD_eq_getElem?_getD,hid];rfl
 have hv':r.getD ((eG (eE w1) (eM w1)).n.toNat - 1) 0=v:=by rw[List.getD_eq_getElem?_getD,hv];rfl
 have aVl:=hu id (List.mem_cons_of_mem _ (List.mem_of_getElem? hid))
 have Xt:=hu v (List.mem_cons_of_mem _ (List.mem_of_getElem? hv))
 have aVk:=hcell 1 id (by simpa using hid)
 have Xq:=hcell (eG (eE w1) (eM w1)).n.toNat v (by
  obtain⟨t,ht⟩:∃t,(eG (eE w1) (eM w1)).n.toNat=t+1:=⟨(eG (eE w1) (eM w1)).n.toNat - 1,by omega⟩
  rw[ht] at hv⊢;simpa using hv)
 have hread:eA s (w1::r)=wC s (eE w1) (eG (eE w1) (eM w1)) id v:=by rw[eA,if_neg h4,if_neg h7',if_neg h9',if_neg h11,aQc,hv']
 refine aB ?_;refine aU (fun w2 st=>aOI s A1 A2 A3 A4 n1 k1 n2 k2 n3 k3 n4 k4 (eE w1) w2 hS) ?_;refine aB ?_;refine aG rfl (fun Bg=>?_) (fun Bg=>?_)
 ·refine aB ?_
  (refine qA ?_;rw[hread,wC,if_pos Bg];rfl)
 refine aB ?_;refine aG rfl (fun xC=>?_) (fun xC=>?_)
 ·refine aB ?_
  (refine qA ?_;rw[hread,wC,if_neg Bg,if_pos xC];rfl)
 refine aB ?_;refine aG rfl (fun Yc=>?_) (fun Yc=>?_)
 ·refine aB ?_
  (refine qA ?_;rw[hread,wC,if_neg Bg,if_neg xC,if_pos Yc];rfl)
 have hact:([iv (eG (eE w1) (eM w1)).n,iv (eG (eE w1) (eM w1)).m,.int .u8 (eG (eE w1) (eM w1)).a,.int .u8 (eG (eE w1) (eM w1)).b,.int .u8 (eG (eE w1) (eM w1)).c]:List Value)[2+v.toNat]? =some (.int .u8 ((eG (eE w1) (eM w1)).act v)):=by
  unfold lN.act;rcases(by omega:v=0∨v=1∨v=2) with rfl | rfl | rfl<;>rfl
 have aPV:=hF4 v Xt.1 (by omega)
 generalize hk:(eG (eE w1) (eM w1)).act v=k at *;refine aB ?_;refine kd (bN rfl (Rd.aE 0 rfl hact)) ?_;refine aB ?_;refine bX fun g5=>?_;refine oL 0 rfl ?_;dsimp only[List.set];refine dO ?_;refine Tr (α:=Unit) (fun _=>[(12,pt g5),(5,pt g2)]) (fun _=>[HP.aE g5 136 [.int .u8 k,iv id],HP.aE g2 136 [.int .u8 0,iv 0]]) (fun _=>¬zW s (eE w1) k id.toNat) ?_ fun _ mJ=>?_
 ·refine aB ?_;refine bQ (t:=91) rfl (fun hg=>?_) (fun hg=>?_)
  ·have hp:=aPV hg
   obtain⟨dm,tP⟩:∃d,s.domains[id.toNat]? =some d:=⟨s.domains[id.toNat]'(by rw[hp] at Bg;simp only[tJ,if_true] at Bg;omega),List.getElem?_eq_getElem _⟩
   obtain⟨bD,oD,rD,rfl,_,rfl,hRD⟩:=hS.dom.row tP
   have Kh:Mn s id.toNat=dm.ret:=by rw[Mn,tP];rfl
   have hlD:=hS.nT
   have aUZ:=(List.getElem?_eq_some_iff.1 tP).1
   have Np:=hRD.at_ (j:=2) rfl
   cases hr:dm.ret
   all_goals
    rw[hr] at Np Kh;refine aB ?_
   ·(refine qA ?_;rw[hread,wC,if_neg Bg,if_neg xC,if_neg Yc,hk,if_pos (.inl ⟨hg,Kh⟩)];rfl)
   ·refine bQ (t:=104) rfl (fun yT=>by omega) (fun yT=>?_);refine aB ?_;exact eI () (hg:=fun h=>by simp_all [zW])
  ·refine aB ?_;refine bQ (t:=104) rfl (fun hp=>?_) (fun hp=>?_)
   ·obtain⟨ck,yP⟩:∃d,s.aF[id.toNat]? =some d:=⟨s.aF[id.toNat]'(by rw[hp] at Bg;simp only[tJ,if_true] at Bg;simp at Bg;omega),List.getElem?_eq_getElem _⟩
    obtain⟨bC,oC,rC,rfl,_,⟨cA,cn,aVr,rfl,_⟩,hC⟩:=hS.jM.row yP
    have aBs:kindOf s id.toNat=ck.kind:=by rw[kindOf,yP];rfl
    have hlC:=hS.nH
    have aVa:=(List.getElem?_eq_some_iff.1 yP).1
    refine aB ?_;refine aU (fun w2 st=>aMb ck.kind _ _ _ _ _ _ _ w2) ?_
    by_cases lU:ck.kind=112∨ck.kind=103
    ·rw[decide_eq_true lU];refine aB ?_;exact eI () (hg:=fun h=>by simp_all [zW,rB])
    ·rw[decide_eq_false lU];refine aB ?_
     (refine qA ?_;rw[hread,wC,if_neg Bg,if_neg xC,if_neg Yc,hk,if_pos (.inr ⟨hp,fun hc=>lU (by rw[←aBs];exact hc)⟩)];rfl)
   ·refine aB ?_;exact eI () (hg:=fun h=>by simp_all [zW])
 refine aB ?_;refine aAe [2] ?_;refine aB ?_
 (refine qA ?_;rw[hread,wC,if_neg Bg,if_neg xC,if_neg Yc,hk,if_neg mJ];rfl)
end
section
def Jk(l:List Nat)(v:Value)(w w':World):Prop:=∃A c,v=.slice A l.length c∧aI (fresh w w') 1 A l.length (aK (dM l))
theorem aON{l:List Nat}{k i:Nat}(h:l[k]? =some i):(aK (dM l))[k]? =some (iv (i:Int)):=by simp[aK,dM,h]
theorem aBF(q : Piece)(s : aD)(A1 A2 A3 A4 : Option Addr)(n1 k1 n2 k2 n3 k3 n4 k4 : Nat)(c : Nat)(w : World)(oN : sL q s A1 n1 A2 n2 A3 n3 A4 n4)(hm : s.wX)(hq : q.Le (all w))(hc : c < s.aF.length) :
    Cz 153 #[.agg #[.slice A1 n1 k1,.slice A2 n2 k2,.slice A3 n3 k3,.slice A4 n4 k4],iv (c:Int)] w (Ty (Jk (fU s c)) w):=by
  obtain⟨rfl,rfl,rfl,rfl⟩:=oN.len;refine aM func153 ntmps153 ?_;refine Bq q (by simp) hq ?_;refine aB ?_;refine bA fun g1=>?_;refine aB ?_;refine iN 3 1 ?_;refine bL [(1,iv (c:Int)),(5,sn),(2,pt g1)] ?_;refine aB ?_;refine eJ (fun m e R H=>∃(cur:Nat) (l:List Nat) (A:Option Addr) (k:Nat),cur < s.aF.length∧l.length≤s.aF.length∧m=s.aF.length - l.length∧fU s c=l++lK s (s.aF.length - l.length) cur∧e=[(1,iv (cur:Int)),(5,.slice A l.length k),(2,pt g1)]∧R=[q,all w]∧H=[HP.own 3 1 (.slice A l.length k) l.length (aK (dM l)),HP.aE g1 30 [.slice A1 s.aF.length k1,.slice A2 s.domains.length k2,.slice A3 s.aR.length k3,.slice A4 s.aC.length k4]]) s.aF.length ⟨c,[],none,0,hc,by simp,rfl,rfl,rfl,rfl,rfl⟩ fun m e R H hI=>?_;obtain⟨cur,l,A,k,Bd,pW,rfl,jT,rfl,rfl,rfl⟩:=hI;refine cP ?_;refine aAf 22 (l.length < s.aF.length) ?_ ?_
  · skip
    refine eC ?_;refine cQ rfl (by decide) ?_;refine aFP rfl rfl (by decide) ?_;refine cQ rfl (by decide) ?_;refine bQ (t:=8) rfl (fun hg=>?_) (fun hg=>?_)
    ·
      refine fG rfl rfl ?_;refine cQ rfl (by decide) ?_;refine fG rfl rfl ?_;refine qG (off:=0) (by kernel_rfl) rfl (by decide) ?_;refine fG rfl rfl ?_;refine Em rfl ?_;refine fG rfl rfl ?_;refine El (el:=86) (by kernel_rfl) rfl (by decide) ?_;refine fG rfl rfl ?_;refine Pt rfl rfl (by decide) ?_
      (first | refine qE rfl rfl (by decide) ?_ | refine qF rfl rfl (by decide) ?_)
      refine cQ rfl (by decide) ?_;refine bQ (t:=15) rfl (fun hg=>?_) (fun hg=>?_)
      ·
        refine fG rfl rfl ?_;refine cQ rfl (by decide) ?_;refine fG rfl rfl ?_;refine El (el:=3) (by kernel_rfl) rfl (by decide) ?_;refine fG rfl rfl ?_;refine qG (off:=0) (by kernel_rfl) rfl (by decide) ?_;refine fG rfl rfl ?_;refine Em rfl ?_;refine fG rfl rfl ?_;refine El (el:=86) (by kernel_rfl) rfl (by decide) ?_;refine fG rfl rfl ?_;refine Pt rfl rfl (by decide) ?_
        (first | refine qE rfl rfl (by decide) ?_ | refine qF rfl rfl (by decide) ?_)
        refine dO ?_;exact Tm (by repeat (first | exact trivial | refine⟨rfl,?_⟩)) (Sf rfl (by omega))
      ·
        refine fR rfl rfl rfl (by decide) ?_;refine fR rfl rfl rfl (by decide) ?_;refine fR rfl rfl rfl (by decide) ?_;refine fR rfl rfl rfl (by decide) ?_;refine fR rfl rfl rfl (by decide) ?_;refine fR rfl rfl rfl (by decide) ?_
        (first | refine qE rfl rfl (by decide) ?_ | refine qF rfl rfl (by decide) ?_)
        refine dO ?_;exact Tm (by repeat (first | exact trivial | refine⟨rfl,?_⟩)) (Ye rfl (by omega))
    ·
      refine fR rfl rfl rfl (by decide) ?_;refine fR rfl rfl rfl (by decide) ?_;refine fR rfl rfl rfl (by decide) ?_;refine fR rfl rfl rfl (by decide) ?_;refine fR rfl rfl rfl (by decide) ?_
      (first | refine qE rfl rfl (by decide) ?_ | refine qF rfl rfl (by decide) ?_)
      refine cQ rfl (by decide) ?_;refine fR rfl rfl rfl (by decide) ?_;refine fR rfl rfl rfl (by decide) ?_;refine fR rfl rfl rfl (by decide) ?_;refine fR rfl rfl rfl (by decide) ?_;refine fR rfl rfl rfl (by decide) ?_;refine fR rfl rfl rfl (by decide) ?_
      (first | refine qE rfl rfl (by decide) ?_ | refine qF rfl rfl (by decide) ?_)
      refine dO ?_;exact Tm (by repeat (first | exact trivial | refine⟨rfl,?_⟩)) (Ye rfl (by omega))
  refine aG rfl (fun h=>?_) (fun h=>?_)
  ·
    refine aB ?_
    have hlt:l.length < s.aF.length:=h
    obtain⟨x,hx⟩:∃x,s.aF[cur]? =some x:=⟨_,List.getElem?_eq_getElem Bd⟩
    obtain⟨k0,Kn⟩:∃k0,s.aF.length - l.length=k0+1:=⟨s.aF.length - l.length - 1,by omega⟩
    rw[Kn,aJF hx] at jT
    have hn9:=hm.nc
    have hfit:=(hm.aF cur x hx).1
    refine aB ?_;refine eK fun g2=>?_;refine gJ 1 1 8 1 (n':=l.length+1) (el:=3) (by kernel_rfl) (by kernel_rfl) (by decide) rfl rfl rfl (nS 0 rfl rfl) (by simp[Value.oneCell']) rfl (by omega) (by omega) (by decide) fun A' k'=>?_;dsimp only[List.set];rw[show aK (dM l)++[Value.int .i64 (cur:Int)]=aK (dM (l++[cur])) by simp[aK,dM]];refine aY [1,2] rfl (by decide) (R':=[q,all w]) (by simp) ?_;refine fP rfl (by decide) ?_;refine dO ?_;refine cP ?_;refine cP ?_;obtain⟨bC,oC,rC,rfl,hzC,_,hR,hcC⟩:=oN.jM.zT hx;obtain⟨As,ns,ks,rfl,rfl,Kg⟩:=hR;refine eC ?_;refine qG (off:=0) (by kernel_rfl) rfl (by decide) ?_;refine Em rfl ?_;refine cQ rfl (by decide) ?_;refine kd (dat (cur) (oC+cur*6)) ?_;refine qG (off:=1) (by kernel_rfl) rfl (by decide) ?_;refine jE (by kernel_rfl) rfl (Rd.ro (p:=q) (by simp) hzC (hcC 1 _ rfl)) (by decide) ?_;refine El (el:=3) (by kernel_rfl) rfl (by decide) ?_;refine aFQ rfl rfl (by decide) ?_;refine dO ?_;refine aG rfl (fun h0=>?_) (fun h0=>?_)
    ·
      refine aB ?_
      have hs0:x.src=[]:=List.eq_nil_of_length_eq_zero (by have:((x.src.length:Nat):Int)=0:=h0;omega)
      rw[hs0] at jT
      have xA:(l++[cur])=fU s c:=jT.symm
      refine dP [] [0] [] (by simp) rfl (by decide) (by decide) fun qf Wt _ hfr=>?_;obtain⟨Ff,sf,zf⟩:=Wt 0 _ (by simp) rfl;obtain⟨Av,cv,hv,vT⟩:=vA (Y:=qf.Z) sf zf
      exact mZ rfl rfl fun w1 st=>⟨⟨_,rfl,by
        rw[←xA];unfold Jk;rw[hv]
        exact⟨Av,cv,by simp,by simpa using aI.le vT (st.mK (by simp) (hfr (by simp) (by simp)))⟩⟩,st.below (by simp)⟩
    ·
      refine mA ?_;refine dS ?_
      obtain⟨f,fs,hs0⟩:∃f fs,x.src=f::fs:=by
        cases hs0:x.src with
        | nil=>exact absurd (by rw[hs0];rfl) h0
        | cons f fs=>exact⟨f,fs,rfl⟩
      have hf:=hfit f (by rw[hs0];simp)
      obtain⟨f',rfl⟩:∃f':Nat,f=(f':Int):=⟨f.toNat,by omega⟩
      rw[hs0] at jT;obtain⟨bS,oS,rfl,hzS,hcS⟩:=Kg.2 (by rw[hs0];simp);refine eC ?_;refine qG (off:=0) (by kernel_rfl) rfl (by decide) ?_;refine Em rfl ?_;refine cQ rfl (by decide) ?_;refine kd (dat (cur) (oC+cur*6)) ?_;refine qG (off:=1) (by kernel_rfl) rfl (by decide) ?_;refine jE (by kernel_rfl) rfl (Rd.ro (p:=q) (by simp) hzC (hcC 1 _ rfl)) (by decide) ?_;refine aLs 0 oS (el:=3) (sz:=1) (by kernel_rfl) (by kernel_rfl) rfl rfl rfl (by rw[hs0];simp) (by omega) (by decide) ?_;refine jE (by kernel_rfl) rfl (Rd.ro (p:=q) (by simp) hzS (hcS 0 _ (by rw[hs0];rfl))) (by decide) ?_;refine aB ?_;exact bL [(1,iv (f':Int)),(5,.slice A' (l.length+1) k'),(2,pt g1)] (iD (s.aF.length - (l.length+1)) (by omega) ⟨f',l++[cur],A',k',by omega,by simp;omega,by simp,by rw[jT];simp[show s.aF.length - (l.length+1)=k0 by omega],by simp,rfl,by simp⟩)
  ·
    refine aB ?_
    have hge:¬l.length < s.aF.length:=h
    rw[show s.aF.length - l.length=0 by omega] at jT
    have xA:l=fU s c:=by rw[jT];simp[lK]
    refine dP [] [0] [] (by simp) rfl (by decide) (by decide) fun qf Wt _ hfr=>?_;obtain⟨Ff,sf,zf⟩:=Wt 0 _ (by simp) rfl;obtain⟨Av,cv,hv,vT⟩:=vA (Y:=qf.Z) sf zf
    exact mZ rfl rfl fun w1 st=>⟨⟨_,rfl,by
      rw[←xA];unfold Jk;rw[hv]
      exact⟨Av,cv,rfl,aI.le vT (st.mK (by simp) (hfr (by simp) (by simp)))⟩⟩,st.below (by simp)⟩
 in
end
section
def Mv(l:List Int)(x:Int):Int:=if x∈l then(l.idxOf x:Int) else -1
theorem aPG{l:List Int}{x:Int}{i:Nat}(hno:∀j y,j < i→l[j]? =some y→y≠x)(h:l[i]? =some x):Mv l x=i:=by
 have hm:x∈l:=List.mem_of_getElem? h
 rw[Mv,if_pos hm]
 have h2:l.idxOf x=i:=by
  induction l generalizing i with
  | nil=>simp at h
  | cons a r ih =>
   cases i with
   | zero=>simp at h;subst h;simp
   | succ i=>
    have ha:a≠x:=hno 0 a (by omega) rfl
    simp at h
    have hmr:x∈r:=List.mem_of_getElem? h
    have hi:=ih (fun j y hj hy=>hno (j+1) y (by omega) (by simpa using hy)) h hmr
    have hb:(a==x)=false:=by simpa using ha
    rw[List.idxOf_cons,hb];simp[hi]
 rw[h2]
theorem aPE{l:List Int}{x:Int}(hno:∀(j:Nat) (y:Int),l[j]? =some y→y≠x):Mv l x= -1:=by
 rw[Mv,if_neg];intro hm;obtain⟨j,hj⟩:=List.getElem?_of_mem hm;exact hno j x hj rfl
theorem aPF(l:List Int)(x:Int):decide (0≤Mv l x)=decide (x∈l):=by
 unfold Mv
 by_cases h:x∈l<;>simp[h]
def zA(s:aD)(c id:Int):Bool:=decide (id∈dM (fU s c.toNat))
def Dd(s:aD)(k id:Int)(d:bO):Bool:=
 if k=100∨k=107 then decide (d.domain=id) else if k=111 then zA s d.clock id else if k=97 then decide (d.reset=id) else false
def Dv(s:aD)(wt:List Int)(k id:Int)(i:Nat):Bool:=decide (0 < (wt[i]?).getD 0)&&((s.aC[i]?).any fun d=>Dd s k id d)
def Iz(s:aD)(wt:List Int)(k id:Int):Bool:=(List.range s.aC.length).any (Dv s wt k id)
theorem aBN{s:aD}{wt:List Int}{k id:Int}{i:Nat}(hi:i < s.aC.length)(h:Dv s wt k id i=true):Iz s wt k id=true:=by
 rw[Iz,List.any_eq_true];exact⟨i,List.mem_range.2 hi,h⟩
theorem aEO{s:aD}{wt:List Int}{k id:Int}(h:∀i,i < s.aC.length→Dv s wt k id i=false):Iz s wt k id=false:=by
 rw[Iz,List.any_eq_false];intro i hi;simp[h i (List.mem_range.1 hi)]
def yR(s:aD)(x y:bM)(k id:Int)(i:Nat):Bool:=
 if k=100∨k=107 then((s.domains[i]?).any fun d=>decide (d.above=id))&&sN x y k i
 else decide ((i:Int)≠id)&&(sN x y k i&&zA s i id)
def Kt(s:aD)(k:Int):Nat:=if k=100∨k=107 then s.domains.length else if k=111 then s.aF.length else 0
def Ku(s:aD)(x y:bM)(k id:Int):Bool:=(List.range (Kt s k)).any (yR s x y k id)
theorem aIC{s:aD}{x y:bM}{k id:Int}{i:Nat}(hi:i < Kt s k)(h:yR s x y k id i=true):Ku s x y k id=true:=by
 rw[Ku,List.any_eq_true];exact⟨i,List.mem_range.2 hi,h⟩
theorem Xw{s:aD}{x y:bM}{k id:Int}(h:∀i,i < Kt s k→yR s x y k id i=false):Ku s x y k id=false:=by
 rw[Ku,List.any_eq_false];intro i hi;simp[h i (List.mem_range.1 hi)]
def It(s:aD)(x y:bM)(ag:Nat)(k id:Int):Bool:=pR (if ag=0 then y else x) k id||Ku s x y k id
def jI(s:aD)(x y:bM)(wt:List Int)(ag:Nat)(l:List Int):Int×Int×Int:=
 if(eA s l).1≠0∨(eA s l).2.1=0∨pR (if ag=0 then x else y) (eA s l).2.1 (eA s l).2.2=decide (rY (eA s l).2.1) then((eA s l).1,0,0)
 else if rY (eA s l).2.1 then
  (if(eA s l).2.1=117∧(s.domains[(eA s l).2.2.toNat]?).any (fun d=>decide (d.above≠ -1)&& !sN x y 117 d.above)=true then(-3,0,0) else(0,(eA s l).2))
 else if It s x y ag (eA s l).2.1 (eA s l).2.2 then(-3,0,0)
 else if Iz s wt (eA s l).2.1 (eA s l).2.2 then(-6,0,0)
 else(0,(eA s l).2)
def Rc(k:Int):Int:=if k=117∨k=100∨k=107 then 17 else if k=99∨k=111 then 20 else 22
def Wf(k:Int):Prop:=k=117∨k=100∨k=107∨k=99∨k=111∨k=114∨k=97
theorem aRh(p m:Int)(v:Int)(h0:0≤v)(hv:v < (eG p m).m):Rc ((eG p m).act v)=p∧Wf ((eG p m).act v):=by
 have h1:∀f:lN,qQ p m=some f→v < f.m→Rc (f.act v)=p∧Wf (f.act v):=by
  intro f hf hv;unfold qQ at hf
  have hv3:f.m≤3:=by
   have:=(aIH p m).2.2.1
   unfold eG qQ at this;rw[hf] at this;exact this
  rcases(by omega:v=0∨v=1∨v=2) with rfl | rfl | rfl<;>
  ·repeat' split at hf
   all_goals first
    | (cases hf;done)
    | (cases hf;simp at hv;done)
    | (cases hf;simp_all [Rc,Wf,lN.act])
 unfold eG at hv⊢;cases h:qQ p m with
 | none=>rw[h] at hv;simp at hv;omega
 | some f=>rw[h] at hv;exact h1 f h hv
theorem aHf{s : aD}{l : List Int}(hu : wG l) : ((eA s l).2.1 = 0 ∧ (eA s l).2.2 = 0) ∨ ((eA s l).1 = 0 ∧ Wf (eA s l).2.1 ∧ 0 ≤ (eA s l).2.2 ∧ (eA s l).2.2 < (tJ s (Rc (eA s l).2.1) : Int) ∧
  ((eA s l).2.1=107→Mn s (eA s l).2.2.toNat=true)∧(Rc (eA s l).2.1=20→rB s (eA s l).2.2.toNat)):=by
 unfold eA;split
 ·exact .inl ⟨rfl,rfl⟩
 ·rename_i w r
  split
  ·exact .inl ⟨rfl,rfl⟩
  ·split
   ·exact .inl ⟨rfl,rfl⟩
   ·split
    ·exact .inl ⟨rfl,rfl⟩
    ·split
     ·exact .inl ⟨rfl,rfl⟩
     ·have hd : ∀ i, 0 ≤ r.getD i 0 := fun i => by
       rw[List.getD_eq_getElem?_getD];cases hi:r[i]? with
       | none=>exact Int.le_refl _
       | some x=>exact(hu x (List.mem_cons_of_mem _ (List.mem_of_getElem? hi))).1
      have hid:=hd 0
      have hv:=hd ((eG (eE w) (eM w)).n.toNat - 1)
      generalize r.getD 0 0=id at *;generalize r.getD ((eG (eE w) (eM w)).n.toNat - 1) 0=v at *;unfold wC;split
      ·exact .inl ⟨rfl,rfl⟩
      ·split
       ·exact .inl ⟨rfl,rfl⟩
       ·split
        ·exact .inl ⟨rfl,rfl⟩
        ·split
         ·exact .inl ⟨rfl,rfl⟩
         ·rename_i h1 h2 h3 h4
          obtain⟨a1,a2⟩:=aRh (eE w) (eM w) v hv (by omega);refine .inr ⟨rfl,a2,hid,by dsimp only;rw[a1];omega,fun h5=>?_,fun h5=>?_⟩
          ·dsimp only at h5⊢;cases hr:Mn s id.toNat with
           | true=>rfl
           | false=>exact absurd (.inl ⟨h5,hr⟩) h4
          ·dsimp only at h5⊢;rw[a1] at h5;exact Decidable.byContradiction fun hs=>h4 (.inr ⟨h5,hs⟩)
theorem aI.int{w:World}{A:Option Addr}{n:Nat}{l:List Int}(h:aI (all w) 1 A n (aK l))(hn:0 < n):∃b off,A=some ⟨b,off,none⟩∧∀(i:Nat) (x:Int),l[i]? =some x→fQ w b (off+i) (iv x):=by
 obtain⟨b,off,hA,hb,hc⟩:=h.2 hn;refine⟨b,off,hA,fun i x hx=>⟨hb,hc i _ ?_⟩⟩;simp only[aK,List.getElem?_map,hx,Option.map_some]
end
section
section
variable{N:cE}{w0:World}{e e':Env}{R R' R0:List Piece}{H H' H0:List HP}{fuel:Nat}{listed:Array Bool}{Q:Exit→Act→World→Prop}
def zMv(ops:Array Oper):List Nat:=(List.range ops.size).filter fun i=>match ops[i]? with
 | some o=>aAN o.op||(o.guard.isSome&&aGx o.op)
 | none=>false
theorem aFe{id:Nat}{l:List Oper}(k:XB Tryz.prog N w0 l.toArray Q R H (zMv l.toArray) fuel listed e' R' H')(hk:XB Tryz.prog N w0 l.toArray Q R H (zMv l.toArray) fuel listed e' R' H'→XL 0 N w0 l.toArray Q R H (zMv l.toArray) l.length (Array.replicate l.length false) e R H:=by
  intro h
  repeat (first | refine Zu ?_ | refine Zt ?_ | refine Zr ?_ | refine Zs ?_ | refine aBX ?_ | refine Zq ?_ | refine Zv ?_)
  exact h)(hm:Tryz.prog.follows .mixedOrders=true:=by kernel_rfl)(hs:Region.noSelect l.toArray=true:=by kernel_rfl):XK N w0 ((Code.region id l.toArray true).wp Tryz.prog Q) e R H:=jO (zMv l.toArray) (hk k) hm hs
theorem aCm{ops:Array Oper}{Z:List Nat}{p:Prop}[Decidable p](t:Nat)(ht:e.get t=some (.bool (decide p)))(h1:p→XB Tryz.prog N w0 ops Q R0 H0 Z fuel listed ((t,.bool true)::e) R H)(h2:¬p→XB Tryz.prog N w0 ops Q R0 H0 Z fuel listed ((t,.bool false)::e) R H):XB Tryz.prog N w0 ops Q R0 H0 Z fuel listed e R H:=by
 intro up a w hr st
 by_cases hp:p
 ·rw[decide_eq_true hp] at ht;exact h1 hp up a w (hr.as ht) st
 ·rw[decide_eq_false hp] at ht;exact h2 hp up a w (hr.as ht) st
theorem Jh{ops:Array Oper}{Z:List Nat}{d j t:Nat}{op:Op}{ty:TypeId}{pos:String}{aH:Array Edge}{want b:Bool}(i:Nat)(k:XB Tryz.prog N w0 ops Q R0 H0 Z fuel (listed.setIfInBounds i true) ((d,undef)::e) R H)(hr:Region.ready .any ops listed=[i]:=by decide+kernel)(hi:ops[i]? =some ⟨some d,op,ty,pos,aH,some (j,want)⟩:=by rfl)(hj:(ops[j]?).bind (·.dst)=some t:=by rfl)(ht:e.get t=some (.bool b):=by rfl)(hb:b= !want:=by rfl)(hd:d < N.n:=by decide)(hS:∀w,St w0 R H w→St w0 R0 H0 w:=by exact fun _ h=>h):XB Tryz.prog N w0 ops Q R0 H0 Z (fuel+1) listed e R H:=
 aL i (fR hj ht hb hd (bH k hS)) hr hi
theorem Ot{P:Program}{c:Code}(E:Nat→Env)(n:Nat)(hr:∀i,i≤n→XK N w0 (c.wp P (Exit.then (LpK (α:=Unit) N w0 n (fun i _=>E i) R (fun _ _=>H) (fun _ _=>True) i) Q)) (E i) R H)(hE:(E 0).Sub e:=by repeat (first | exact trivial | refine⟨rfl,?_⟩))(hC:mE [] H H:=by exact Tx):XK N w0 ((Code.loop c).wp P Q) e R H:=
 qB (α:=Unit) (fun i _=>E i) (fun _ _=>H) (fun _ _=>True) n () trivial (fun i _ hi _=>hr i hi) hE hC
end
end
section
theorem aPD(A:Option Addr)(n c:Nat)(l:List Int)(x:Int)(w:World)(hs:aI (all w) 1 A n (aK l))(hn:n=l.length)(hn2:n≤1000000):
  Cz 238 #[.slice A n c,iv x] w (Rt (iv (Mv l x)) w):=by
 refine aM func238 ntmps238 ?_;refine aB ?_;refine bL [(8,iv 0),(7,iv n),(1,iv x),(0,.slice A n c)] ?_;refine aB ?_;refine eJ (fun m e R H=>∃(i:Nat),i≤n∧m=n - i∧(∀(j:Nat) (y:Int),j < i→l[j]? =some y→y≠x)∧e=[(8,iv i),(7,iv n),(1,iv x),(0,.slice A n c)]∧R=[all w]∧H=[]) n ⟨0,by omega,rfl,(fun j y hj=>absurd hj (Nat.not_lt_zero j)),rfl,rfl,rfl⟩ fun m e R H hI=>?_;obtain⟨i,hi,rfl,hno,rfl,rfl,rfl⟩:=hI;refine aB ?_;refine aG rfl (fun h=>?_) (fun h=>?_)
 ·
  refine aB ?_
  have hil:i < n:=by have h':(i:Int) < (n:Int):=h;omega
  obtain⟨y,hy⟩:∃y,l[i]? =some y:=⟨l[i]'(by omega),List.getElem?_eq_getElem _⟩
  obtain⟨b,off,rfl,hc⟩:=hs.int (by omega)
  have Kr:=hc i y hy
  refine aB ?_;refine aG rfl (fun h2=>?_) (fun h2=>?_)
  ·
   refine aB ?_;exact aT (h:=fun _ _=>by rw[aPG (i:=i) hno (h2▸hy)])
  ·
   refine aB ?_
   exact dZ (n - (i+1)) ⟨i+1,by omega,rfl,(fun j y' hj hy'=>by
    rcases Nat.lt_or_ge j i with h1 | h1
    ·exact hno j y' h1 hy'
    ·have hji:j=i:=by omega
     subst hji;rw[hy] at hy';cases hy'
     exact fun h=>h2 h.symm),rfl,rfl,rfl⟩
 ·
  refine aB ?_
  have hin:i=n:=by have h':¬(i:Int) < (n:Int):=h;omega
  subst hin;exact aT (h:=fun _ _=>by rw[aPE (fun j y hy=>hno j y (by have:=(List.getElem?_eq_some_iff.1 hy).1;omega) hy)])
theorem aJv(A:Option Addr)(n c:Nat)(l:List Int)(x:Int)(w:World)(hs:aI (all w) 1 A n (aK l))(hn:n=l.length)(hn2:n≤1000000):
  Cz 222 #[.slice A n c,iv x] w (Rt (.bool (decide (x∈l))) w):=by
 refine aM func222 ntmps222 ?_;refine aB ?_;refine dG (fun w1 st=>aPD A n c l x w1 (hs.le (st.le (by simp))) hn hn2) ?_;refine aB ?_;exact aT (h:=fun _ _=>by rw[←aPF])
theorem aTt(q:Piece)(s:aD)(A1 A2 A3 A4:Option Addr)(n1 k1 n2 k2 n3 k3 n4 k4:Nat)(Aw:Option Addr)(nw cw:Nat)(wt:List Int)(k id:Int)(w:World)(oN:sL q s A1 n1 A2 n2 A3 n3 A4 n4)(hm:s.wX)(hq:q.Le (all w))(hw:aI (all w) 1 Aw nw (aK wt))(hnw:nw=wt.length):
  Cz 170 #[.agg #[.slice A1 n1 k1,.slice A2 n2 k2,.slice A3 n3 k3,.slice A4 n4 k4],.slice Aw nw cw,.agg #[.int .u8 k,iv id]] w (Rt (.bool (Iz s wt k id)) w):=by
 obtain⟨rfl,rfl,rfl,rfl⟩:=oN.len;refine aM func170 ntmps170 ?_;refine Bq q (by simp) hq ?_;refine aB ?_;refine bA fun g1=>?_;refine aB ?_;refine bA fun g2=>?_;refine aB ?_;refine Dz (α:=Unit) (fun _=>[]) (fun _=>[]) (fun _=>∀j,j < s.aC.length→Dv s wt k id j=false) ?_ fun _ hno=>?_
 ·refine qB (α:=Unit) (fun i _=>[(12,iv i),(11,iv s.aC.length),(10,.slice A4 s.aC.length k4),(5,pt g2),(3,pt g1),(1,.slice Aw nw cw)]) (fun _ _=>[HP.aE g2 136 [.int .u8 k,iv id],HP.aE g1 30 [.slice A1 s.aF.length k1,.slice A2 s.domains.length k2,.slice A3 s.aR.length k3,.slice A4 s.aC.length k4]]) (fun i _=>∀j,j < i→Dv s wt k id j=false) s.aC.length () (fun j hj=>absurd hj (Nat.not_lt_zero j)) fun i _ hi hno=>?_
  have vX:Dv s wt k id i=false→∀j,j < i+1→Dv s wt k id j=false:=fun h j hj=>by
   rcases(by omega:j < i∨j=i) with hj | rfl
   ·exact hno j hj
   ·exact h
  have hnc:=hm.nc
  have hnd:=hm.nd
  have lX:=hm.nv
  refine aB ?_;refine aG rfl (fun h=>?_) (fun h=>?_)
  ·have hil:i < s.aC.length:=by omega
   obtain⟨d,hd⟩:=get_some hil;obtain⟨hx1,yI,hx3,hx4,hx5,hx6,_⟩:=hm.aC i d hd;obtain⟨bV,oV,rV,rfl,hzV,_,hR,Xr⟩:=oN.dev.zT hd;obtain⟨Ar,nr,kr,An,nn,kn,rfl,_⟩:=hR;obtain⟨xc,hxc⟩:∃xc:Nat,d.clock=(xc:Int):=⟨d.clock.toNat,by omega⟩
   rw[hxc] at Xr
   have hk:=eD.le hzV Xr hq
   have yQ:Dv s wt k id i=(decide (0 < (wt[i]?).getD 0)&&Dd s k id d):=by rw[Dv,hd];rfl
   refine aB ?_;refine bX fun g3=>?_;refine aB ?_;refine bQ (t:=21) rfl (fun h2=>?_) (fun h2=>?_)
   ·refine aB ?_;exact jJ () (hg:=vX (by rw[yQ,List.getElem?_eq_none (by omega)];rfl))
   obtain⟨y,hy⟩:=get_some (l:=wt) (i:=i) (by omega);obtain⟨bW,oW,rfl,hcW⟩:=hw.int (by omega)
   have Kr:=hcW i y hy
   rw[hy] at yQ;refine aB ?_;refine aG rfl (fun h3=>?_) (fun h3=>?_)
   ·refine aB ?_;exact jJ () (hg:=vX (by rw[yQ,decide_eq_false (by simpa using h3)];rfl))
   rw[decide_eq_true (show 0 < (some y).getD 0 by simpa using h3)] at yQ;refine aB ?_;refine bQ (t:=30) rfl (fun hA=>?_) (fun hA=>?_)
   ·refine aB ?_;refine aG rfl (fun h4=>?_) (fun h4=>?_)
    ·refine aB ?_;exact cY (by rw[aBN hil (by rw[yQ];unfold Dd zA;simp_all)])
    ·refine aB ?_;exact jJ () (hg:=vX (by rw[yQ];unfold Dd zA;simp_all))
   refine aB ?_;refine bQ (t:=30) rfl (fun hB=>?_) (fun hB=>?_)
   ·refine aB ?_;refine aG rfl (fun h4=>?_) (fun h4=>?_)
    ·refine aB ?_;exact cY (by rw[aBN hil (by rw[yQ];unfold Dd zA;simp_all)])
    ·refine aB ?_;exact jJ () (hg:=vX (by rw[yQ];unfold Dd zA;simp_all))
   refine aB ?_;refine bQ (t:=38) rfl (fun hC=>?_) (fun hC=>?_)
   ·refine aB ?_;refine qC ?_;refine aL 3 ?_;refine jR [q] (Jk (fU s xc)) (fun w2 st=>aBF q s _ _ _ _ _ k1 _ k2 _ k3 _ k4 xc w2 oN hm (st.le (by simp)) (by omega)) ?_;rintro _ w2 q1 ⟨Ac,cc,rfl,jT⟩ hf hle _
    have jT:=jT.le hf
    have aQ4:=aBG s s.aF.length xc
    refine bH ?_ (hS:=fun _ h=>h.aZ);refine aL 6 ?_;refine aU (fun w3 st=>aJv Ac _ cc (dM (fU s xc)) id w3 (jT.le (st.le (by simp))) (by simp[dM]) (by unfold fU;omega)) ?_;refine cT ?_;refine fE ?_;refine aB ?_;refine aG rfl (fun h4=>?_) (fun h4=>?_)
    ·refine aB ?_;exact cY (by rw[aBN hil (by rw[yQ];unfold Dd zA;simp_all)])
    ·refine aB ?_;exact jJ () (hg:=vX (by rw[yQ];unfold Dd zA;simp_all))
   refine aB ?_;refine bQ (t:=47) rfl (fun hD=>?_) (fun hD=>?_)
   ·refine aB ?_;refine aG rfl (fun h4=>?_) (fun h4=>?_)
    ·refine aB ?_;exact cY (by rw[aBN hil (by rw[yQ];unfold Dd zA;simp_all)])
    ·refine aB ?_;exact jJ () (hg:=vX (by rw[yQ];unfold Dd zA;simp_all))
   refine aB ?_;exact jJ () (hg:=vX (by rw[yQ];unfold Dd zA;simp_all))
  ·refine aB ?_;exact eI () (hg:=fun j hj=>hno j (by omega))
 ·refine aB ?_;exact cY (by rw[aEO hno])
theorem uZ.box{q:Piece}{x y:bM}{A1 A2 A3 B1 B2 B3:Option Addr}{n1 k1 n2 k2 n3 k3 m1 l1 m2 l2 m3 l3:Nat}{w:World}{g:Nat}
  (hx:uZ q x y (.agg #[.slice A1 n1 k1,.slice A2 n2 k2,.slice A3 n3 k3,.slice B1 m1 l1,.slice B2 m2 l2,.slice B3 m3 l3])) (hq:q.Le (all w)) (hg:eD w g 0 [.slice A1 n1 k1,.slice A2 n2 k2,.slice A3 n3 k3,.slice B1 m1 l1,.slice B2 m2 l2,.slice B3 m3 l3]):StM w g x y:=by
 obtain⟨C1,j1,C2,j2,C3,j3,D1,i1,D2,i2,D3,i3,he,s1,s2,s3,s4,s5,s6⟩:=hx;simp only[Value.agg.injEq,Array.mk.injEq,List.cons.injEq,Value.slice.injEq] at he;obtain⟨⟨rfl,rfl,rfl⟩,⟨rfl,rfl,rfl⟩,⟨rfl,rfl,rfl⟩,⟨rfl,rfl,rfl⟩,⟨rfl,rfl,rfl⟩,⟨rfl,rfl,rfl⟩,_⟩:=he;intro i hi;rcases(by omega:i=0∨i=1) with rfl | rfl
 ·exact⟨A1,k1,A2,k2,A3,k3,by simpa using hg.at_ (j:=0) rfl,by simpa using hg.at_ (j:=1) rfl,by simpa using hg.at_ (j:=2) rfl,s1.le hq,s2.le hq,s3.le hq⟩
 ·exact⟨B1,l1,B2,l2,B3,l3,by simpa using hg.at_ (j:=3) rfl,by simpa using hg.at_ (j:=4) rfl,by simpa using hg.at_ (j:=5) rfl,s4.le hq,s5.le hq,s6.le hq⟩
theorem aS2(q qx:Piece)(s:aD)(A1 A2 A3 A4:Option Addr)(n1 k1 n2 k2 n3 k3 n4 k4:Nat)(X1 X2 X3 Y1 Y2 Y3:Option Addr)(Co xV Cm xU Cl xS Ck xQ Cj xP Ci xO:Nat)(x y:bM)(ag:Nat)(k id:Int)(w:World)(oN:sL q s A1 n1 A2 n2 A3 n3 A4 n4)(hm:s.wX)(hq:q.Le (all w))(Nt:uZ qx x y (.agg #[.slice X1 Co xV,.slice X2 Cm xU,.slice X3 Cl xS,.slice Y1 Ck xQ,.slice Y2 Cj xP,.slice Y3 Ci xO]))(Ht:qx.Le (all w))(hag:ag < 2):
  Cz 169 #[.agg #[.slice A1 n1 k1,.slice A2 n2 k2,.slice A3 n3 k3,.slice A4 n4 k4],.agg #[.slice X1 Co xV,.slice X2 Cm xU,.slice X3 Cl xS,.slice Y1 Ck xQ,.slice Y2 Cj xP,.slice Y3 Ci xO],iv (ag:Int),.agg #[.int .u8 k,iv id]] w (Rt (.bool (It s x y ag k id)) w):=by
 obtain⟨rfl,rfl,rfl,rfl⟩:=oN.len
 have hnc:=hm.nc
 have hnd:=hm.nd
 have nx:∀{i:Nat} {p:Nat→Prop},(∀j,j < i→p j)→p i→∀j,j < i+1→p j:=fun {i p} h1 h2 j hj=>by
  rcases(by omega:j < i∨j=i) with hj | rfl
  ·exact h1 j hj
  ·exact h2
 refine aM func169 ntmps169 ?_;refine Bq qx (by simp) Ht ?_;refine Bq q (by simp) hq ?_;refine aB ?_;refine bA fun g1=>?_;refine aB ?_;refine bA fun g2=>?_;refine aB ?_;refine bA fun g3=>?_;refine aB ?_;refine Dz (α:=Unit) (fun _=>[(7,pt g3),(5,pt g2),(4,pt g1)]) (fun _=>[HP.aE g3 136 [.int .u8 k,iv id],HP.aE g2 130 [.slice X1 Co xV,.slice X2 Cm xU,.slice X3 Cl xS,.slice Y1 Ck xQ,.slice Y2 Cj xP,.slice Y3 Ci xO],HP.aE g1 30 [.slice A1 s.aF.length k1,.slice A2 s.domains.length k2,.slice A3 s.aR.length k3,.slice A4 s.aC.length k4]]) (fun _=>pR (if ag=0 then y else x) k id=false) ?_ fun _ aDR=>?_
 ·refine qB (α:=Unit) (fun i _=>[(13,iv i),(7,pt g3),(5,pt g2),(4,pt g1),(2,iv (ag:Int))]) (fun _ _=>[HP.aE g3 136 [.int .u8 k,iv id],HP.aE g2 130 [.slice X1 Co xV,.slice X2 Cm xU,.slice X3 Cl xS,.slice Y1 Ck xQ,.slice Y2 Cj xP,.slice Y3 Ci xO],HP.aE g1 30 [.slice A1 s.aF.length k1,.slice A2 s.domains.length k2,.slice A3 s.aR.length k3,.slice A4 s.aC.length k4]]) (fun i _=>∀j:Nat,j < i→¬(j:Int)=ag→pR (if j=0 then x else y) k id=false) 2 () (fun j hj=>absurd hj (Nat.not_lt_zero j)) fun i _ hi hno=>?_;refine aB ?_;refine aG rfl (fun h=>?_) (fun h=>?_)
  ·have hi2:i < 2:=by omega
   refine aB ?_;refine bQ (t:=19) rfl (fun h1=>?_) (fun h1=>?_)
   ·refine aB ?_;refine aU (fun w1 st=>aCD g2 i (if i=0 then x else y) k id w1 hi2 (uZ.box Nt (st.le (by simp)) (st.box (i:=1) rfl) i hi2)) ?_;cases hb:pR (if i=0 then x else y) k id
    ·refine aB ?_;exact jJ () (hg:=nx hno fun _=>hb)
    ·refine aB ?_;refine kB (by simp) ?_
     have aDR:pR (if ag=0 then y else x) k id=true:=by
      rcases(by omega:(i=0∧ag=1)∨(i=1∧ag=0)) with⟨rfl,rfl⟩ | ⟨rfl,rfl⟩<;>simpa using hb
     rw[It,aDR];rfl
   ·refine aB ?_;exact jJ () (hg:=nx hno fun hc=>absurd hc h1)
  ·obtain rfl:i=2:=by omega
   refine aB ?_;refine eI () (hg:=?_);rcases(by omega:ag=0∨ag=1) with rfl | rfl
   ·simpa using hno 1 (by omega) (by omega)
   ·simpa using hno 0 (by omega) (by omega)
 have Xo:It s x y ag k id=Ku s x y k id:=by rw[It,aDR,Bool.false_or]
 refine cP ?_;refine cP ?_;refine eC ?_;refine bK ?_;refine bK ?_;refine dO ?_;refine sJ ?_;refine Tr (α:=Bool) (fun b=>[(30,.bool b),(29,.int .u8 k),(7,pt g3),(5,pt g2),(4,pt g1)]) (fun _=>[HP.aE g3 136 [.int .u8 k,iv id],HP.aE g2 130 [.slice X1 Co xV,.slice X2 Cm xU,.slice X3 Cl xS,.slice Y1 Ck xQ,.slice Y2 Cj xP,.slice Y3 Ci xO],HP.aE g1 30 [.slice A1 s.aF.length k1,.slice A2 s.domains.length k2,.slice A3 s.aR.length k3,.slice A4 s.aC.length k4]]) (fun b=>b=true↔k=100∨k=107) ?_ fun b hb=>?_
 ·refine aB ?_;refine bQ (t:=30) rfl (fun hA=>?_) (fun hA=>?_)
  ·refine aB ?_;exact eI true (hg:=by simp[hA])
  ·refine aB ?_;refine bQ (t:=30) rfl (fun hB=>?_) (fun hB=>?_)
   ·exact eI true (hg:=by simp[hB])
   ·exact eI false (hg:=by simp[hA,hB])
 cases b
 ·have Rs:¬(k=100∨k=107):=fun hh=>by simpa using hb.2 hh
  refine aB ?_;refine bQ (t:=53) rfl (fun hC=>?_) (fun hC=>?_)
  ·have Xe:Kt s k=s.aF.length:=by rw[Kt,if_neg Rs,if_pos hC]
   refine aB ?_;refine qB (α:=Unit) (fun i _=>[(58,iv i),(57,iv s.aF.length),(7,pt g3),(5,pt g2),(4,pt g1)]) (fun _ _=>[HP.aE g3 136 [.int .u8 k,iv id],HP.aE g2 130 [.slice X1 Co xV,.slice X2 Cm xU,.slice X3 Cl xS,.slice Y1 Ck xQ,.slice Y2 Cj xP,.slice Y3 Ci xO],HP.aE g1 30 [.slice A1 s.aF.length k1,.slice A2 s.domains.length k2,.slice A3 s.aR.length k3,.slice A4 s.aC.length k4]]) (fun i _=>∀j,j < i→yR s x y k id j=false) s.aF.length () (fun j hj=>absurd hj (Nat.not_lt_zero j)) fun i _ hi hno=>?_;refine aB ?_;refine aG rfl (fun h=>?_) (fun h=>?_)
   ·have hil:i < s.aF.length:=by omega
    have fK:yR s x y k id i=(decide ((i:Int)≠id)&&(sN x y k i&&decide (id∈dM (fU s i)))):=by rw[yR,if_neg Rs,zA,Int.toNat_natCast]
    refine aB ?_;refine aFe ?_;refine aCm 65 rfl (fun h1=>?_) (fun h1=>?_)
    ·rw[decide_eq_true h1] at fK;refine nB 5 ?_;refine aL 8 ?_;refine aB ?_;refine aU (fun w1 st=>aCF g2 x y k i w1 (uZ.box Nt (st.le (by simp)) (st.box (i:=1) rfl))) ?_;cases hw:sN x y k i
     all_goals
      rw[hw] at fK;refine bH ?_;refine nB 9 ?_
     ·refine Jh 13 ?_;refine nB 14 ?_;refine Jh 16 ?_;refine nB 17 ?_;refine fE ?_;refine aB ?_;exact jJ () (hg:=nx hno (by rw[fK];rfl))
     ·refine aL 13 ?_;refine aB ?_;refine jR [q] (Jk (fU s i)) (fun w2 st=>aBF q s _ _ _ _ _ k1 _ k2 _ k3 _ k4 i w2 oN hm (st.le (by simp)) (by omega)) ?_;rintro _ w2 q1 ⟨Ac,cc,rfl,jT⟩ hf hle _
      have jT:=jT.le hf
      have aQ4:=aBG s s.aF.length i
      refine bH ?_ (hS:=fun _ h=>h.aZ);refine aL 16 ?_;refine aB ?_;refine aU (fun w3 st=>aJv Ac _ cc (dM (fU s i)) id w3 (jT.le (st.le (by simp))) (by simp[dM]) (by unfold fU;omega)) ?_;refine bH ?_ (hS:=fun _ h=>h.aZ);refine Ox 17 ?_;refine fE ?_;refine aB ?_;refine aG rfl (fun h4=>?_) (fun h4=>?_)
      ·refine aB ?_;exact cY (by rw[Xo,aIC (by rw[Xe];exact hil) (by rw[fK,decide_eq_true h4];rfl)])
      ·refine aB ?_;exact jJ () (hg:=nx hno (by rw[fK,decide_eq_false h4];rfl))
    ·refine nB 5 ?_;refine Jh 8 ?_;refine nB 9 ?_;refine Jh 13 ?_;refine nB 14 ?_;refine Jh 16 ?_;refine nB 17 ?_;refine fE ?_;refine aB ?_;exact jJ () (hg:=nx hno (by rw[fK,decide_eq_false h1];rfl))
   ·refine aB ?_;exact cY (by rw[Xo,Xw (by rw[Xe];exact fun j hj=>hno j (by omega))])
  ·refine aB ?_;exact cY (by rw[Xo,Xw (by rw[Kt,if_neg Rs,if_neg hC];exact fun j hj=>absurd hj (Nat.not_lt_zero j))])
 ·have Rs:k=100∨k=107:=hb.1 rfl
  have Xe:Kt s k=s.domains.length:=by rw[Kt,if_pos Rs]
  refine aB ?_;refine qB (α:=Unit) (fun i _=>[(36,iv i),(35,iv s.domains.length),(34,.slice A2 s.domains.length k2),(7,pt g3),(5,pt g2),(4,pt g1)]) (fun _ _=>[HP.aE g3 136 [.int .u8 k,iv id],HP.aE g2 130 [.slice X1 Co xV,.slice X2 Cm xU,.slice X3 Cl xS,.slice Y1 Ck xQ,.slice Y2 Cj xP,.slice Y3 Ci xO],HP.aE g1 30 [.slice A1 s.aF.length k1,.slice A2 s.domains.length k2,.slice A3 s.aR.length k3,.slice A4 s.aC.length k4]]) (fun i _=>∀j,j < i→yR s x y k id j=false) s.domains.length () (fun j hj=>absurd hj (Nat.not_lt_zero j)) fun i _ hi hno=>?_;refine aB ?_;refine aG rfl (fun h=>?_) (fun h=>?_)
  ·have hil:i < s.domains.length:=by omega
   obtain⟨d,hd⟩:=get_some hil;obtain⟨bD,oD,rD,rfl,Wj,_,rfl,Np⟩:=oN.dom.zT hd
   have hk:=eD.le Wj Np hq
   have fK:yR s x y k id i=(decide (d.above=id)&&sN x y k i):=by rw[yR,if_pos Rs,hd];rfl
   refine aB ?_;refine bX fun g4=>?_;refine aB ?_;refine bQ (t:=46) rfl (fun h1=>?_) (fun h1=>?_)
   ·rw[decide_eq_true h1] at fK;refine aB ?_;refine aU (fun w1 st=>aCF g2 x y k i w1 (uZ.box Nt (st.le (by simp)) (st.box (i:=2) rfl))) ?_;cases hw:sN x y k i
    all_goals
     rw[hw] at fK;refine aB ?_
    ·exact jJ () (hg:=nx hno fK)
    ·exact cY (by rw[Xo,aIC (by rw[Xe];exact hil) fK])
   ·refine aB ?_;exact jJ () (hg:=nx hno (by rw[fK,decide_eq_false h1];rfl))
  ·refine aB ?_;exact cY (by rw[Xo,Xw (by rw[Xe];exact fun j hj=>hno j (by omega))])
end
section
theorem aS4(q qx:Piece)(s:aD)(A1 A2 A3 A4:Option Addr)(n1 k1 n2 k2 n3 k3 n4 k4:Nat)(X1 X2 X3 Y1 Y2 Y3:Option Addr)(Co xV Cm xU Cl xS Ck xQ Cj xP Ci xO:Nat)(x y:bM)(Aw:Option Addr)(nw cw:Nat)(wt:List Int)(ag:Nat)(Al:Option Addr)(nl cl:Nat)(l:List Int)(w:World)(oN:sL q s A1 n1 A2 n2 A3 n3 A4 n4)(hm:s.wX)(hq:q.Le (all w))(Nt:uZ qx x y (.agg #[.slice X1 Co xV,.slice X2 Cm xU,.slice X3 Cl xS,.slice Y1 Ck xQ,.slice Y2 Cj xP,.slice Y3 Ci xO]))(Ht:qx.Le (all w))(hw:aI (all w) 1 Aw nw (aK wt))(hnw:nw=wt.length)(hag:ag < 2)(hl:aI (all w) 1 Al nl (rA l))(gB:nl=l.length)(aIq:nl≤1000000)(hu:wG l):
  Cz 98 #[.agg #[.slice A1 n1 k1,.slice A2 n2 k2,.slice A3 n3 k3,.slice A4 n4 k4],.agg #[.slice X1 Co xV,.slice X2 Cm xU,.slice X3 Cl xS,.slice Y1 Ck xQ,.slice Y2 Cj xP,.slice Y3 Ci xO],.slice Aw nw cw,iv (ag:Int),.slice Al nl cl] w (Rt (aEX (jI s x y wt ag l)) w):=by
 generalize hrd:eA s l=rd;obtain⟨st,k,id⟩:=rd;refine aM func98 ntmps98 ?_;refine Bq qx (by simp) Ht ?_;refine Bq q (by simp) hq ?_;refine aB ?_;refine bA fun g1=>?_;refine aB ?_;refine bA fun g2=>?_;refine aB ?_;refine bX fun g3=>?_;refine aB ?_;refine bQ (t:=17) rfl (fun h=>absurd h (by omega)) (fun _=>?_);refine aB ?_;refine bQ (t:=21) rfl (fun h=>absurd h (by omega)) (fun _=>?_);refine aB ?_;refine aU (v:=iv 0) (fun w1 st=>(aBD s A1 A2 A3 A4 n1 k1 n2 k2 n3 k3 n4 k4 w1 (oN.W (st.le (by simp)) hm.small)).mono fun _ _ h=>aFs h (by rw[hm.Ta])) ?_;refine aB ?_;refine aU (v:=.tuple #[.int .i32 st,.agg #[.int .u8 k,iv id]]) (fun w1 st=>(aNL s A1 A2 A3 A4 n1 k1 n2 k2 n3 k3 n4 k4 Al nl cl l w1 (oN.W (st.le (by simp)) hm.small) (hl.le (st.le (by simp))) gB aIq hu).mono fun _ _ h=>aFs h (by rw[hrd];rfl)) ?_;refine aB ?_;refine bX fun g4=>?_;refine aB ?_;refine aFe ?_;refine aCm 35 rfl (fun h1=>?_) (fun h1=>?_)
 ·refine nB 3 ?_;refine Jh 13 ?_;refine nB 14 ?_;refine Jh 16 ?_;refine nB 17 ?_;refine fE ?_;refine aB ?_
  (refine qA ?_;rw[jI,hrd];dsimp only;rw[if_pos (.inl h1)];rfl)
 refine nB 3 ?_;refine aCm 40 rfl (fun h2=>?_) (fun h2=>?_)
 ·refine nB 8 ?_;refine Jh 13 ?_;refine nB 14 ?_;refine Jh 16 ?_;refine nB 17 ?_;refine fE ?_;refine aB ?_
  (refine qA ?_;rw[jI,hrd];dsimp only;rw[if_pos (.inr (.inl h2))];rfl)
 refine nB 8 ?_;refine aL 13 ?_;refine aB ?_;refine aU (fun w1 st=>aCD g2 ag (if ag=0 then x else y) k id w1 hag (uZ.box Nt (st.le (by simp)) (st.box (i:=2) rfl) ag hag)) ?_;refine bH ?_;refine nB 14 ?_;refine aL 16 ?_;refine aB ?_;refine aU (fun w1 st=>aDq k w1) ?_;refine bH ?_;refine nB 17 ?_;refine fE ?_;refine aB ?_;refine qD rfl (fun h3=>?_) (fun h3=>?_)
 ·refine aB ?_
  (refine qA ?_;rw[jI,hrd];dsimp only;rw[if_pos (.inr (.inr (by simpa using h3)))];rfl)
 have Na:st=0:=by omega
 have h4:¬(st≠0∨k=0∨pR (if ag=0 then x else y) k id=decide (rY k)):=fun hh=>by
  rcases hh with hh | hh | hh
  ·exact hh Na
  ·exact h2 hh
  ·rw[hh] at h3;simp at h3
 refine aB ?_;refine aU (fun w1 st=>aDq k w1) ?_;refine aB ?_;refine aG rfl (fun h6=>?_) (fun h6=>?_)
 ·refine aB ?_;refine aG rfl (fun h7=>?_) (fun h7=>?_)
  ·subst h7
   have hok:=aHf (s:=s) hu
   rw[hrd] at hok
   have hid:=hok.resolve_left (fun hh=>by have:=hh.1;simp at this)
   have aVc:0≤id:=hid.2.2.1
   have aVb:id < (s.domains.length:Int):=hid.2.2.2.1
   obtain⟨d,hd⟩:=get_some (l:=s.domains) (i:=id.toNat) (by omega);obtain⟨rfl,rfl,rfl,rfl⟩:=oN.len;obtain⟨bD,oD,rD,rfl,Wj,_,rfl,Np⟩:=oN.dom.zT hd
   have hk:=eD.le Wj Np hq
   have ha:=hk.at_ (j:=0) rfl
   have hab:(s.domains[id.toNat]?).any (fun d=>decide (d.above≠ -1)&& !sN x y 117 d.above)=(decide (d.above≠ -1)&& !sN x y 117 d.above):=by rw[hd];rfl
   refine aB ?_;refine bQ (t:=69) rfl (fun h8=>?_) (fun h8=>?_)
   ·rw[decide_eq_true h8] at hab;refine aB ?_;refine aU (fun w1 st=>aCF g2 x y 117 d.above w1 (uZ.box Nt (st.le (by simp)) (st.box (i:=2) rfl))) ?_;cases hw9:sN x y 117 d.above
    all_goals
     rw[hw9] at hab;refine aB ?_
    ·(refine qA ?_;rw[jI,hrd];dsimp only;rw[if_neg h4,if_pos h6,if_pos ⟨rfl,hab⟩];rfl)
    ·refine aAe [2] ?_;refine aB ?_
     (refine qA ?_;rw[jI,hrd];dsimp only;rw[if_neg h4,if_pos h6,if_neg (fun hh=>by have h':=hh.2;rw[hab] at h';cases h')];rfl)
   ·rw[decide_eq_false h8] at hab;refine aB ?_;refine aAe [2] ?_;refine aB ?_
    (refine qA ?_;rw[jI,hrd];dsimp only;rw[if_neg h4,if_pos h6,if_neg (fun hh=>by have h':=hh.2;rw[hab] at h';cases h')];rfl)
  ·refine aB ?_;refine aAe [2] ?_;refine aB ?_
   (refine qA ?_;rw[jI,hrd];dsimp only;rw[if_neg h4,if_pos h6,if_neg (fun hh=>h7 hh.1)];rfl)
 ·refine aB ?_;refine aU (fun w1 st=>aS2 q qx s A1 A2 A3 A4 n1 k1 n2 k2 n3 k3 n4 k4 X1 X2 X3 Y1 Y2 Y3 Co xV Cm xU Cl xS Ck xQ Cj xP Ci xO x y ag k id w1 oN hm (st.le (by simp)) Nt (st.le (by simp)) hag) ?_;cases hde:It s x y ag k id
  ·refine aB ?_;refine aU (fun w1 st=>aTt q s A1 A2 A3 A4 n1 k1 n2 k2 n3 k3 n4 k4 Aw nw cw wt k id w1 oN hm (st.le (by simp)) (hw.le (st.le (by simp))) hnw) ?_;cases hbu:Iz s wt k id
   ·refine aB ?_;refine aAe [2] ?_;refine aB ?_
    (refine qA ?_;rw[jI,hrd];dsimp only;rw[if_neg h4,if_neg h6,hde,if_neg (by simp),hbu,if_neg (by simp)];rfl)
   ·refine aB ?_
    (refine qA ?_;rw[jI,hrd];dsimp only;rw[if_neg h4,if_neg h6,hde,if_neg (by simp),hbu,if_pos rfl];rfl)
  ·refine aB ?_
   (refine qA ?_;rw[jI,hrd];dsimp only;rw[if_neg h4,if_neg h6,hde,if_pos rfl];rfl)
end
section
def kV(l:List Bool)(id:Int)(b:Bool):List Bool:=if 0≤id∧id < (l.length:Int) then l.set id.toNat b else l
theorem aG6{l:List Bool}{id:Int}(b:Bool)(h:¬(0≤id∧id < (l.length:Int))):kV l id b=l:=if_neg h
theorem Cs(l:List Bool)(id:Int)(b:Bool):(kV l id b).length=l.length:=by unfold kV;split<;>simp
def kU(x:bM)(k id:Int):bM:=
 if k=117∨k=100∨k=107 then⟨kV x.d id (decide (rY k)),x.c,x.l⟩
 else if k=99∨k=111 then⟨x.d,kV x.c id (decide (rY k)),x.l⟩
 else if k=114∨k=97 then⟨x.d,x.c,kV x.l id (decide (rY k))⟩ else x
def jZ(x:bM)(ag:Nat)(k id:Int):bM:=if ag=0 then kU x k id else x
def mS(y:bM)(ag:Nat)(k id:Int):bM:=if ag=0 then y else kU y k id
theorem aT0{l:List Bool}{id:Int}(b:Bool)(h:0≤id∧id < (l.length:Int)):(bE l).set id.toNat (.bool b)=bE (kV l id b):=by
 rw[kV,if_pos h];simp[bE,List.map_set]
section
variable{N:cE}{w0 w:World}{e:Env}{R:List Piece}{H:List HP}{K:Act→World→Prop}
theorem St.aOl(st:St w0 R H w){i n c sz:Nat}{t:TypeId}{A:Option Addr}{xs:List Value}(hi:H[i]? =some (HP.own t sz (.slice A n c) n xs))(hn:0 < n):∃g,A=some ⟨g,0,none⟩:=by
 obtain⟨_,h2⟩:=st.own hi;rcases h2 with⟨h2,h3⟩ | ⟨g',cap,cur,hv,_⟩
 ·omega
 ·injection hv with h4 h5 h6
  exact⟨g',h4⟩
theorem aKr(i:Nat){n c sz:Nat}{t:TypeId}{A:Option Addr}{xs:List Value}(hi:H[i]? =some (HP.own t sz (.slice A n c) n xs))(hn:0 < n)(h:(∃g,A=some ⟨g,0,none⟩)→XK N w0 K e R H):XK N w0 K e R H:=fun a w hr st=>h (st.aOl hi hn) a w hr st
end
end
section
def aAm(P:Program)(c:Code)(Q:Exit→Act→World→Prop):Nat→Act→World→Prop
 | 0=>fun _ _=>False
 | n+1=>c.wp P (Exit.then (aAm P c Q n) Q)
section
variable{P:Program}{N:cE}{w0:World}{e:Env}{R:List Piece}{H:List HP}{Q:Exit→Act→World→Prop}{c:Code}{n:Nat}
theorem aUa(n:Nat)(h:XK N w0 (aAm P c Q n) e R H):XK N w0 ((Code.loop c).wp P Q) e R H:=fun a w hr st=>by
 refine aC8 (aAm P c Q) n (h a w hr st) fun n a w hI=>?_;cases n with
 | zero=>exact absurd hI (fun h=>h)
 | succ n=>
  refine wp_mono hI fun x a' w' hq=>?_;cases x with
  | normal=>exact⟨n,Nat.lt_succ_self n,hq⟩
  | _=>exact hq
theorem aCj{y:Code}{x:Code}(M:Env→List Piece→List HP→Prop)(h:XK N w0 (x.wp P (Exit.then (fun a' w'=>∃e' R' H',M e' R' H'∧eO N e' a'∧St w0 R' H' w') Q)) e R H)
  (hy:∀e' R' H',M e' R' H'→XK N w0 (y.wp P Q) e' R' H'):XK N w0 (x.wp P (Exit.then (y.wp P Q) Q)) e R H:=fun a w hr st=>
 wp_mono (h a w hr st) fun x a' w' hq=>by
  cases x with
  | normal=>
   obtain⟨e',R',H',hm,hr',st'⟩:=hq;exact hy e' R' H' hm a' w' hr' st'
  | _=>exact hq
theorem aFb(h:XK N w0 (c.wp P (Exit.then (aAm P c Q n) Q)) e R H):XK N w0 (aAm P c Q (n+1)) e R H:=h
end
theorem aRW(x y:bM)(ag:Nat)(k id:Int):(jZ x ag k id).d.length=x.d.length∧(jZ x ag k id).c.length=x.c.length∧(jZ x ag k id).l.length=x.l.length∧(mS y ag k id).d.length=y.d.length∧(mS y ag k id).c.length=y.c.length∧(mS y ag k id).l.length=y.l.length:=by
 have h:∀z:bM,(kU z k id).d.length=z.d.length∧(kU z k id).c.length=z.c.length∧(kU z k id).l.length=z.l.length:=fun z=>by
  unfold kU;split
  ·exact⟨Cs _ _ _,rfl,rfl⟩
  ·split
   ·exact⟨rfl,Cs _ _ _,rfl⟩
   ·split
    ·exact⟨rfl,rfl,Cs _ _ _⟩
    ·exact⟨rfl,rfl,rfl⟩
 unfold jZ mS;split
 ·exact⟨(h x).1,(h x).2.1,(h x).2.2,rfl,rfl,rfl⟩
 ·exact⟨rfl,rfl,rfl,(h y).1,(h y).2.1,(h y).2.2⟩
theorem aG5(k id:Int)(z:bM):((∀a b c,gL k a b c=sn)∧kU z k id=z)∨((∀a b c,gL k a b c=a)∧kU z k id=⟨kV z.d id (decide (rY k)),z.c,z.l⟩)∨((∀a b c,gL k a b c=b)∧kU z k id=⟨z.d,kV z.c id (decide (rY k)),z.l⟩)∨((∀a b c,gL k a b c=c)∧kU z k id=⟨z.d,z.c,kV z.l id (decide (rY k))⟩):=by
 by_cases k0:k=117∨k=100∨k=107
 ·exact .inr (.inl ⟨fun a b c=>by rw[gL,if_pos k0],by rw[kU,if_pos k0]⟩)
 by_cases k1:k=99∨k=111
 ·exact .inr (.inr (.inl ⟨fun a b c=>by rw[gL,if_neg k0,if_pos k1],by rw[kU,if_neg k0,if_pos k1]⟩))
 by_cases k2:k=114∨k=97
 ·exact .inr (.inr (.inr ⟨fun a b c=>by rw[gL,if_neg k0,if_neg k1,if_pos k2],by rw[kU,if_neg k0,if_neg k1,if_pos k2]⟩))
 exact .inl ⟨fun a b c=>by rw[gL,if_neg k0,if_neg k1,if_neg k2],by rw[kU,if_neg k0,if_neg k1,if_neg k2]⟩
theorem aOk{l:List Bool}{id:Int}{n:Nat}{cs:List Value}{b:Bool}(h:cs.take n=bE l)(hi:0≤id∧id < (l.length:Int)):(cs.set id.toNat (.bool b)).take (n*1)=bE (kV l id b):=by
 rw[Nat.mul_one,←aT0 _ hi,←h,List.take_set]
theorem To{N:cE}{w0:World}{e:Env}{R:List Piece}{H H':List HP}{K:Act→World→Prop}{t:TypeId}{A:Option Addr}{n c:Nat}{xs:List Value}(i:Nat)(he:e.get 10=some (.slice A n c))(hH:Ct (i::(List.range 9).filter (· !=i)) H=some (HP.own t 1 (.slice A n c) n xs::H'))(hn:(i::(List.range 9).filter (· !=i)).Nodup)(h:XK N w0 K e R (HP.own t 1 (.slice A n c) n xs::H')):XK N w0 K e R H:=aY _ hH hn (fun _ h=>h) h
theorem aRX(qx:Piece)(X1 X2 X3 Y1 Y2 Y3:Option Addr)(xV xU xS xQ xP xO:Nat)(x y:bM)(ag:Nat)(k id:Int)(w:World)(Ht:qx.Le (all w))(hag:ag < 2)(hbx:x.sm)(hby:y.sm)(s0:aI qx 1 X1 x.d.length (bE x.d))(s1:aI qx 1 X2 x.c.length (bE x.c))(s2:aI qx 1 X3 x.l.length (bE x.l))(s3:aI qx 1 Y1 y.d.length (bE y.d))(s4:aI qx 1 Y2 y.c.length (bE y.c))(s5:aI qx 1 Y3 y.l.length (bE y.l)):
  Cz 99 #[.agg #[.slice X1 x.d.length xV,.slice X2 x.c.length xU,.slice X3 x.l.length xS,.slice Y1 y.d.length xQ,.slice Y2 y.c.length xP,.slice Y3 y.l.length xO],iv (ag:Int),.agg #[.int .u8 k,iv id]] w (Ty (fun v w w'=>uZ (fresh w w') (jZ x ag k id) (mS y ag k id) v) w):=by
 obtain⟨h0,h1,h2⟩:=hbx;obtain⟨h3,h4,h5⟩:=hby;refine aM func99 ntmps99 ?_;refine Bq qx (by simp) Ht ?_;refine aA ?_;refine bA fun g1=>?_;refine bA fun g2=>?_;refine bX fun g3=>?_;refine aA ?_;refine bX fun g4=>?_;refine aA ?_;refine aUa 3 ?_;refine aFb ?_;refine aA ?_;refine aFN 0 (len:=2) (n:=3) (by kernel_rfl) rfl rfl rfl (by decide) rfl (by decide) ?_;refine bX fun g5=>?_;refine aA ?_;refine jO [1,2,4,5,7,8,11] ?_;refine bT 0 ?_;refine aJ 1 ?_;refine aJ 2 ?_;refine aJ 4 ?_;refine aJ 5 ?_;refine aJ 7 ?_;refine aJ 8 ?_;refine aJ 11 ?_;refine aL 3 ?_;refine iA (Pn x.d.length (bE x.d)) (fun w1 st=>Sx _ _ _ _ w1 (s0.le (st.le (by simp))) (Te _) (by have:=h0;omega)) ?_;rintro _ _ q0 ⟨B0,c0,rfl,rfl⟩ _;dsimp only[List.cons_append,List.nil_append];refine bH ?_ (hS:=fun _ h=>h.aZ.tail);refine aL 6 ?_;refine iA (Pn x.c.length (bE x.c)) (fun w1 st=>Sx _ _ _ _ w1 (s1.le (st.le (by simp))) (Te _) (by have:=h1;omega)) ?_;rintro _ _ q1 ⟨B1,c1,rfl,rfl⟩ _;dsimp only[List.cons_append,List.nil_append];refine bH ?_ (hS:=fun _ h=>h.aZ.aZ.tail.tail);refine aL 9 ?_;refine iA (Pn x.l.length (bE x.l)) (fun w1 st=>Sx _ _ _ _ w1 (s2.le (st.le (by simp))) (Te _) (by have:=h2;omega)) ?_;rintro _ _ q2 ⟨B2,c2,rfl,rfl⟩ _;dsimp only[List.cons_append,List.nil_append];refine bH ?_ (hS:=fun _ h=>h.aZ.aZ.aZ.tail.tail.tail);refine aL 10 ?_;refine kd (fY rfl) ?_;refine bH ?_ (hS:=fun _ h=>h.aZ.aZ.aZ.tail.tail.tail);refine aL 12 ?_;refine kd (fZ (sz:=3) 0 0) ?_;refine cT ?_;refine aL 13 ?_;refine uD rfl rfl ?_;simp only[iH,Value.cells,List.set,List.take,List.drop,List.nil_append,List.append_nil,List.length_cons,List.length_nil,List.cons_append,Nat.reduceAdd];refine cT ?_;refine fE ?_;refine aA ?_;refine aY [2,1,0,4,5,6,7] rfl (by decide) (R':=[qx,all w]) (by simp) ?_;refine aFb ?_;refine aA ?_;refine aFN 1 (len:=2) (n:=3) (by kernel_rfl) rfl rfl rfl (by decide) rfl (by decide) ?_;refine bX fun g6=>?_;refine aA ?_;refine jO [1,2,4,5,7,8,11] ?_;refine bT 0 ?_;refine aJ 1 ?_;refine aJ 2 ?_;refine aJ 4 ?_;refine aJ 5 ?_;refine aJ 7 ?_;refine aJ 8 ?_;refine aJ 11 ?_;refine aL 3 ?_;refine iA (Pn y.d.length (bE y.d)) (fun w1 st=>Sx _ _ _ _ w1 (s3.le (st.le (by simp))) (Te _) (by have:=h3;omega)) ?_;rintro _ _ q3 ⟨B3,c3,rfl,rfl⟩ _;dsimp only[List.cons_append,List.nil_append];refine bH ?_ (hS:=fun _ h=>h.aZ.tail);refine aL 6 ?_;refine iA (Pn y.c.length (bE y.c)) (fun w1 st=>Sx _ _ _ _ w1 (s4.le (st.le (by simp))) (Te _) (by have:=h4;omega)) ?_;rintro _ _ q4 ⟨B4,c4,rfl,rfl⟩ _;dsimp only[List.cons_append,List.nil_append];refine bH ?_ (hS:=fun _ h=>h.aZ.aZ.tail.tail);refine aL 9 ?_;refine iA (Pn y.l.length (bE y.l)) (fun w1 st=>Sx _ _ _ _ w1 (s5.le (st.le (by simp))) (Te _) (by have:=h5;omega)) ?_;rintro _ _ q5 ⟨B5,c5,rfl,rfl⟩ _;dsimp only[List.cons_append,List.nil_append];refine bH ?_ (hS:=fun _ h=>h.aZ.aZ.aZ.tail.tail.tail);refine aL 10 ?_;refine kd (fY rfl) ?_;refine bH ?_ (hS:=fun _ h=>h.aZ.aZ.aZ.tail.tail.tail);refine aL 12 ?_;refine kd (fZ (sz:=3) 1 3) ?_;refine cT ?_;refine aL 13 ?_;refine uD rfl rfl ?_;simp only[iH,Value.cells,List.set,List.take,List.drop,List.nil_append,List.append_nil,List.length_cons,List.length_nil,List.cons_append,Nat.reduceAdd];refine cT ?_;refine fE ?_;refine aA ?_;refine aY [4,5,6,2,1,0,9,7,8] rfl (by decide) (R':=[qx,all w]) (by simp) ?_;refine aFb ?_;refine aA ?_;refine bQ (t:=33) rfl (fun h=>absurd h (by omega)) (fun _=>?_);refine aA ?_;refine aG rfl (fun h=>absurd h (by omega)) (fun _=>?_);refine aA ?_;obtain⟨X,hX⟩:∃z,z=jZ x ag k id:=⟨_,rfl⟩
 obtain⟨Y,hY⟩:∃z,z=mS y ag k id:=⟨_,rfl⟩
 have hl:=aRW x y ag k id
 rw[←hX,←hY] at hl⊢;obtain rfl | rfl:ag=0∨ag=1:=by omega
 have hc:=aG5 k id x
 refine jO [1,2,3,4] ?_;refine bT 0 ?_;refine aJ 1 ?_;refine aJ 2 ?_ (dH:=fZ (sz:=3) 0 0);refine aJ 3 ?_;refine aJ 4 ?_;refine aL 5 ?_;refine aU (fun w1 t=>aD5 g4 0 k (.slice B0 x.d.length c0) (.slice B1 x.c.length c1) (.slice B2 x.l.length c2) w1 (by simpa using(t.box (i:=7) rfl).at_ (j:=0) rfl) (by simpa using(t.box (i:=7) rfl).at_ (j:=1) rfl) (by simpa using(t.box (i:=7) rfl).at_ (j:=2) rfl)) ?_
 rotate_left
 have hc:=aG5 k id y
 refine jO [1,2,3,4] ?_;refine bT 0 ?_;refine aJ 1 ?_;refine aJ 2 ?_ (dH:=fZ (sz:=3) 1 3);refine aJ 3 ?_;refine aJ 4 ?_;refine aL 5 ?_;refine aU (fun w1 t=>aD5 g4 3 k (.slice B3 y.d.length c3) (.slice B4 y.c.length c4) (.slice B5 y.l.length c5) w1 (by simpa using(t.box (i:=7) rfl).at_ (j:=3) rfl) (by simpa using(t.box (i:=7) rfl).at_ (j:=4) rfl) (by simpa using(t.box (i:=7) rfl).at_ (j:=5) rfl)) ?_
 all_goals
  refine cT ?_;refine aL 6 ?_;refine bK ?_;refine cT ?_;refine fE ?_;refine dS ?_;refine aY [0,1,2,3,4,5,6,7,8] rfl (by decide) (fun _ h=>h) ?_;refine bL [(10,_),(7,pt g4),(6,pt g3),(5,pt g2)] ?_;refine aCj (fun e R H=>e=[(7,pt g4),(6,pt g3)]∧R=[qx,all w]∧H=[HP.own 4 1 (.slice B0 x.d.length c0) x.d.length (bE X.d),HP.own 4 1 (.slice B1 x.c.length c1) x.c.length (bE X.c),HP.own 4 1 (.slice B2 x.l.length c2) x.l.length (bE X.l),HP.own 4 1 (.slice B3 y.d.length c3) y.d.length (bE Y.d),HP.own 4 1 (.slice B4 y.c.length c4) y.c.length (bE Y.c),HP.own 4 1 (.slice B5 y.l.length c5) y.l.length (bE Y.l),HP.aE g2 136 [.int .u8 k,iv id],HP.aE g4 130 [.slice B0 x.d.length c0,.slice B1 x.c.length c1,.slice B2 x.l.length c2,.slice B3 y.d.length c3,.slice B4 y.c.length c4,.slice B5 y.l.length c5],HP.aE g3 130 [sn,sn,sn,sn,sn,sn]]) ?_ ?_
  ·clear hl;simp only[jZ,mS,if_true,if_false,Nat.one_ne_zero] at hX hY;subst hX hY;obtain⟨h,h2⟩ | hc:=hc
   ·rw[h,h2];refine aA ?_;refine bQ (t:=47) rfl (fun hid=>?_) (fun hid=>?_)
    ·refine aA ?_;refine aG rfl (fun h=>absurd h (by omega)) (fun _=>?_);refine aA ?_;exact pO ⟨rfl,rfl,rfl⟩
    ·refine aA ?_;exact pO ⟨rfl,rfl,rfl⟩
   rcases hc with⟨h,h2⟩ | ⟨h,h2⟩ | ⟨h,h2⟩
   all_goals
    rw[h,h2];dsimp only
    first | refine To 0 rfl rfl (by decide) ?_ | refine To 1 rfl rfl (by decide) ?_ | refine To 2 rfl rfl (by decide) ?_ | refine To 3 rfl rfl (by decide) ?_ | refine To 4 rfl rfl (by decide) ?_ | refine To 5 rfl rfl (by decide) ?_
    refine aA ?_;refine bQ (t:=47) rfl (fun hid=>?_) (fun hid=>?_)
    ·refine aA ?_;refine aG rfl (fun aDV=>?_) (fun aDV=>?_)
     ·have hin:=And.intro hid aDV
      refine aKr 0 rfl (by omega) ?_;rintro⟨gb,rfl⟩;refine Ti 0 rfl fun cs iB hct hnc hcm=>?_;simp only[Nat.mul_one] at iB hct;dsimp only[List.set];refine jO [1,2,3,4] ?_;refine bT 0 ?_;refine aJ 1 ?_;refine aJ 2 ?_;refine aJ 3 ?_;refine aJ 4 ?_;refine aL 5 ?_;refine aU (fun w1 t=>aDq k w1) ?_;refine bH ?_;refine aL 6 ?_;refine kd (dat id.toNat id.toNat) ?_;refine cT ?_;refine aL 7 ?_;refine fD rfl rfl ?_;dsimp only[List.set];refine cT ?_;refine fE ?_;refine aA ?_;refine Ov 0 (sz:=1) rfl (by simpa using iB) (aOk hct hin) hnc hcm ?_;dsimp only[List.set];exact pO ⟨rfl,rfl,rfl⟩
     ·rw[aG6 _ fun h=>aDV h.2];refine aA ?_;exact pO ⟨rfl,rfl,rfl⟩
    ·rw[aG6 _ fun h=>hid h.1];refine aA ?_;exact pO ⟨rfl,rfl,rfl⟩
  ·rintro _ _ _ ⟨rfl,rfl,rfl⟩;refine aY [7,8,0,1,2,3,4,5] rfl (by decide) (fun _ h=>h) ?_;refine aA ?_;refine dP [] [2,3,4,5,6,7] [0,1] (by simp) rfl (by decide) (by decide) fun q hq _ hfr=>?_;refine Lo rfl (n:=6) (vs:=[.slice B0 x.d.length c0,.slice B1 x.c.length c1,.slice B2 x.l.length c2,.slice B3 y.d.length c3,.slice B4 y.c.length c4,.slice B5 y.l.length c5]) (by kernel_rfl) rfl rfl (aQ.whole 1 rfl) fun w1 st=>⟨⟨_,rfl,?_⟩,st.below (by simp)⟩
   have hle:=st.mK (by simp) (hfr (by simp) (by simp))
   obtain⟨l1,l2,l3,l4,l5,l6⟩:=hl
   have hs:∀{A n c xs},(∃F,(HP.own 4 1 (.slice A n c) n xs).sat F q.w∧∀b,F b→q.Z b)→aI (fresh w w1) 1 A n xs:=fun h=>(aI.own h).le hle
   refine⟨B0,c0,B1,c1,B2,c2,B3,c3,B4,c4,B5,c5,?_,?_,?_,?_,?_,?_,?_⟩
   ·rw[l1,l2,l3,l4,l5,l6]
   ·rw[l1];exact hs (hq 2 _ (by simp) rfl)
   ·rw[l2];exact hs (hq 3 _ (by simp) rfl)
   ·rw[l3];exact hs (hq 4 _ (by simp) rfl)
   ·rw[l4];exact hs (hq 5 _ (by simp) rfl)
   ·rw[l5];exact hs (hq 6 _ (by simp) rfl)
   ·rw[l6];exact hs (hq 7 _ (by simp) rfl)
end
section
def aEb(m p k:Int):Bool:=decide ((eB m 0 p k).2=0∧cN (eB m 0 p k).1 28 4=0∧cN (eB m 0 p k).1 0 8=m∧cN (eB m 0 p k).1 8 2=0∧cN (eB m 0 p k).1 10 8=p∧cN (eB m 0 p k).1 18 10=k)
theorem aQm:([4,7]:List Int).all (fun m=>([17,20,22]:List Int).all fun p=>(List.range 64).all fun k=>aEb m p k)=true:=by decide+kernel
theorem aQn{m p:Int}{k:Nat}(hm:m=4∨m=7)(hp:p=17∨p=20∨p=22)(hk:k < 64):(eB m 0 p k).2=0∧uF (eB m 0 p k).1=0∧Gu (eB m 0 p k).1=Hz m 0 p k:=by
 have h:=aQm
 rw[List.all_eq_true] at h
 have h1:=h m (by rcases hm with rfl | rfl<;>simp)
 rw[List.all_eq_true] at h1
 have h2:=h1 p (by rcases hp with rfl | rfl | rfl<;>simp)
 rw[List.all_eq_true] at h2
 have h3:=of_decide_eq_true (h2 k (List.mem_range.2 hk))
 obtain⟨e1,e2,e3,e4,e5,e6⟩:=h3;refine⟨e1,?_,?_⟩
 ·rw[uF,if_neg (fun h=>h e2)]
 ·rw[Gu,if_neg (fun h=>h e2),e3,e4,e5,e6]
end
section
theorem aO2(a b:Int):0≤aAS a b∧aAS a b < 4294967296:=Pz _
theorem aHk(w low many v:Int):0≤(iW w low many v).1∧(iW w low many v).1 < 4294967296:=by
 unfold iW;split
 ·exact⟨by decide,by decide⟩
 ·split
  ·exact⟨by decide,by decide⟩
  ·unfold zU;split
   ·exact⟨by decide,by decide⟩
   ·exact aO2 _ _
theorem aOh(m t p k:Int):0≤(eB m t p k).1∧(eB m t p k).1 < 4294967296:=by
 unfold eB;split
 ·exact⟨by dsimp only;decide,by dsimp only;decide⟩
 ·split
  ·exact⟨by dsimp only;decide,by dsimp only;decide⟩
  ·split
   ·exact⟨by dsimp only;decide,by dsimp only;decide⟩
   ·split
    ·exact⟨by dsimp only;decide,by dsimp only;decide⟩
    ·exact aHk _ _ _ _
end
section
theorem aG4(x:bM)(k id:Int):(kU x k id).d.length=x.d.length∧(kU x k id).c.length=x.c.length∧(kU x k id).l.length=x.l.length:=by
 unfold kU;split
 ·exact⟨Cs _ _ _,rfl,rfl⟩
 ·split
  ·exact⟨rfl,Cs _ _ _,rfl⟩
  ·split
   ·exact⟨rfl,rfl,Cs _ _ _⟩
   ·exact⟨rfl,rfl,rfl⟩
theorem aG2{x:bM}(h:x.sm)(k id:Int):(kU x k id).sm:=by
 obtain⟨h1,h2,h3⟩:=aG4 x k id;exact⟨by rw[h1];exact h.d,by rw[h2];exact h.c,by rw[h3];exact h.l⟩
theorem aRZ{x:bM}(h:x.sm)(ag:Nat)(k id:Int):(jZ x ag k id).sm:=by
 unfold jZ;split
 ·exact aG2 h k id
 ·exact h
theorem aRY{x:bM}(h:x.sm)(ag:Nat)(k id:Int):(mS x ag k id).sm:=by
 unfold mS;split
 ·exact h
 ·exact aG2 h k id
end
section
theorem aIB(n:Nat)(i:Nat):hasB (List.replicate n false) i=false:=by
 unfold hasB;rw[List.getElem?_replicate];split<;>rfl
theorem aGa(s:aD)(k id:Int):pR (dQ s) k id=false:=by
 unfold pR Ak dQ
 have h:∀n i,hasB (List.replicate n false) i=false:=aIB
 split
 ·rw[h];simp
 ·split
  ·rw[h];simp
  ·split
   ·rw[h];simp
   ·simp[hasB]
section
variable{s:aD}{r:Nat}{p m on off kn kf n:Int}
theorem aEA{x y:bM}{wt:List Int}{ag:Nat}{l:List Int}{k id:Int}(hr:eA s l=(0,k,id))(hk:rY k)(Kn:k≠0)(hw:pR (if ag=0 then x else y) k id=false):
  jI s x y wt ag l=if k=117∧(s.domains[id.toNat]?).any (fun d=>decide (d.above≠ -1)&& !sN x y 117 d.above)=true then(-3,0,0) else(0,k,id):=by
 unfold jI;rw[hr];dsimp only;rw[hw,if_neg (by simp[Kn,hk]),if_pos hk]
theorem aEB{x y:bM}{wt:List Int}{ag:Nat}{l:List Int}{k id:Int}(hr:eA s l=(0,k,id))(hk:¬rY k)(Kn:k≠0)(hw:pR (if ag=0 then x else y) k id=true):
  jI s x y wt ag l=if It s x y ag k id=true then(-3,0,0) else if Iz s wt k id=true then(-6,0,0) else(0,k,id):=by
 unfold jI;rw[hr];dsimp only;rw[hw,if_neg (by simp[Kn,hk]),if_neg hk]
theorem aBM(s:aD)(k id:Int):Iz s [] k id=false:=aEO fun i hi=>by simp[Dv]
end
section
variable{s:aD}{r:Nat}{p m on off kn kf n:Int}{a b:Nat}
end
end
section
theorem aA4{s:aD}{act:List Bool}(i:Nat)(hi:i < s.domains.length):∀n,(iK s act n).d[i]?.getD false=true↔∃j,j < n∧hasB act j=true∧∃x,s.aC[j]? =some x∧i∈Es s x.domain.toNat
 | 0=>by simp[iK,dQ,hi]
 | n + 1 => by
  have ih:=aA4 (act:=act) i hi n
  have hl:=(Er s act n).d
  cases ha:hasB act n with
  | false =>
   rw[Pv ha,ih];constructor
   ·rintro⟨j,h1,h2⟩;exact⟨j,by omega,h2⟩
   ·rintro⟨j,h1,h2,h3⟩;rcases Nat.lt_or_ge j n with h | h
    ·exact⟨j,h,h2,h3⟩
    ·have:j=n:=by omega
     subst this;rw[ha] at h2;cases h2
  | true =>
   cases hx:s.aC[n]? with
   | none =>
    have e:iK s act (n+1)=iK s act n:=by
     show(if hasB act n then _ else _)=_
     rw[if_pos ha,hx]
    rw[e,ih];constructor
    ·rintro⟨j,h1,h2⟩;exact⟨j,by omega,h2⟩
    ·rintro⟨j,h1,h2,x,h3,h4⟩;rcases Nat.lt_or_ge j n with h | h
     ·exact⟨j,h,h2,x,h3,h4⟩
     ·have:j=n:=by omega
      subst this;rw[hx] at h3;cases h3
   | some x =>
    rw[Uo hx ha]
    show(sU (Es s x.domain.toNat) (iK s act n).d)[i]?.getD false=true↔_
    rw[aHm _ _ _ (by omega),Bool.or_eq_true,decide_eq_true_eq,ih];constructor
    ·rintro(h | ⟨j,h1,h2⟩)
     ·exact⟨n,by omega,ha,x,hx,h⟩
     ·exact⟨j,by omega,h2⟩
    ·rintro⟨j,h1,h2,y,h3,h4⟩;rcases Nat.lt_or_ge j n with h | h
     ·exact .inr ⟨j,h,h2,y,h3,h4⟩
     ·have:j=n:=by omega
      subst this;rw[hx] at h3;cases h3;exact .inl h4
theorem Pw{s:aD}{act:List Bool}(i:Nat)(hi:i < s.aF.length):∀n,(iK s act n).c[i]?.getD false=true↔∃j,j < n∧hasB act j=true∧∃x,s.aC[j]? =some x∧i∈(fU s x.clock.toNat).filter (mM s)
 | 0=>by simp[iK,dQ,hi]
 | n + 1 => by
  have ih:=Pw (act:=act) i hi n
  have hl:=(Er s act n).c
  cases ha:hasB act n with
  | false =>
   rw[Pv ha,ih];constructor
   ·rintro⟨j,h1,h2⟩;exact⟨j,by omega,h2⟩
   ·rintro⟨j,h1,h2,h3⟩;rcases Nat.lt_or_ge j n with h | h
    ·exact⟨j,h,h2,h3⟩
    ·have:j=n:=by omega
     subst this;rw[ha] at h2;cases h2
  | true =>
   cases hx:s.aC[n]? with
   | none =>
    have e:iK s act (n+1)=iK s act n:=by
     show(if hasB act n then _ else _)=_
     rw[if_pos ha,hx]
    rw[e,ih];constructor
    ·rintro⟨j,h1,h2⟩;exact⟨j,by omega,h2⟩
    ·rintro⟨j,h1,h2,x,h3,h4⟩;rcases Nat.lt_or_ge j n with h | h
     ·exact⟨j,h,h2,x,h3,h4⟩
     ·have:j=n:=by omega
      subst this;rw[hx] at h3;cases h3
   | some x =>
    rw[Uo hx ha]
    show(sU ((fU s x.clock.toNat).filter (mM s)) (iK s act n).c)[i]?.getD false=true↔_
    rw[aHm _ _ _ (by omega),Bool.or_eq_true,decide_eq_true_eq,ih];constructor
    ·rintro(h | ⟨j,h1,h2⟩)
     ·exact⟨n,by omega,ha,x,hx,h⟩
     ·exact⟨j,by omega,h2⟩
    ·rintro⟨j,h1,h2,y,h3,h4⟩;rcases Nat.lt_or_ge j n with h | h
     ·exact .inr ⟨j,h,h2,y,h3,h4⟩
     ·have:j=n:=by omega
      subst this;rw[hx] at h3;cases h3;exact .inl h4
theorem aGd{s:aD}{act:List Bool}(i:Nat){j:Nat}{x:bO}(hi:i < s.aR.length)(hx:s.aC[j]? =some x)(ha:hasB act j=true)(hr:x.reset=(i:Int)):∀n,j < n→(iK s act n).l[i]?.getD false=true
 | n + 1, hj => by
  have hl:=(Er s act n).l
  by_cases hjn:j=n
  ·subst hjn;rw[Uo hx ha]
   show(gZ (iK s act j).l x.reset true)[i]?.getD false=true
   rw[hr,aHl,if_pos rfl,List.getElem?_eq_getElem (by omega)];rfl
  ·have ih:=aGd i hi hx ha hr n (by omega)
   cases vY:hasB act n with
   | false=>rw[Pv vY];exact ih
   | true =>
    cases hy:s.aC[n]? with
    | none =>
     have e:iK s act (n+1)=iK s act n:=by
      show(if hasB act n then _ else _)=_
      rw[if_pos vY,hy]
     rw[e];exact ih
    | some y =>
     rw[Uo hy vY]
     show(gZ (iK s act n).l y.reset true)[i]?.getD false=true
     unfold gZ;rw[List.getElem?_set];split
     ·split<;>simp
      omega
     ·exact ih
theorem aL1{s:aD}(hm:s.made){a:List Bool}{j:Nat}{x:bO}(hx:s.aC[j]? =some x)(ha:hasB a j=true):
  (eT s a).d[x.domain.toNat]?.getD false=true∧(eT s a).l[x.reset.toNat]?.getD false=true∧∀c,s.aF[x.clock.toNat]? =some c→(c.kind=112∨c.kind=103)→(eT s a).c[x.clock.toNat]?.getD false=true:=by
 have hj:=(List.getElem?_eq_some_iff.1 hx).1
 obtain⟨c0,c1,d0,d1,r0,r1,_⟩:=hm.aC j x hx
 have hu:By s (x.domain.toNat:Int) (Es s x.domain.toNat):=aA5 hm (by omega)
 refine⟨(aA4 _ (by omega) _).2 ⟨j,hj,ha,x,hx,hu.head⟩,aGd _ (by omega) hx ha (by omega) _ hj,fun c hc hk=>(Pw _ (List.getElem?_eq_some_iff.1 hc).1 _).2 ⟨j,hj,ha,x,hx,List.mem_filter.2 ⟨?_,?_⟩⟩⟩
 ·unfold fU;obtain⟨n,hn⟩:∃n,s.aF.length=n+1:=⟨s.aF.length - 1,by have:=hm.nc;omega⟩
  rw[hn,aJF hc];simp
 ·unfold mM;rw[hc];exact decide_eq_true hk
theorem aL0(s:aD):eT s []=dQ s:=by
 have:∀n,iK s [] n=dQ s:=fun n=>by
  induction n with
  | zero=>rfl
  | succ n ih=>rw[Pv (by simp[hasB]),ih]
 exact this _
end
section
section
variable{s:aD}
theorem aEK(hm:s.made):∀(k c:Nat),∀i∈lK s k c,i≤c
 | 0,c,i,h=>by simp[lK] at h
 | k + 1, c, i, h => by
  unfold lK at h;cases hc:s.aF[c]? with
  | none=>rw[hc] at h;simp at h
  | some x =>
   rw[hc] at h;dsimp only at h;cases hs:x.src with
   | nil=>rw[hs] at h;simp at h;omega
   | cons f fs =>
    rw[hs] at h;rcases List.mem_cons.1 h with rfl | h
    ·exact Nat.le_refl _
    ·have:=aEK hm k _ i h
     have hf:=((hm.aF c x hc).1) f (by rw[hs];simp)
     omega
theorem aJD(hm:s.made):∀(k k' c:Nat),c < k→c < k'→lK s k c=lK s k' c
 | 0,_,c,h,_=>by omega
 | _,0,c,_,h=>by omega
 | k + 1, k' + 1, c, h, h' => by
  unfold lK;cases hc:s.aF[c]? with
  | none=>rfl
  | some x =>
   dsimp only;cases hs:x.src with
   | nil=>rfl
   | cons f fs=>
    dsimp only
    have hf:=((hm.aF c x hc).1) f (by rw[hs];simp)
    rw[aJD hm k k' f.toNat (by omega) (by omega)]
theorem aJC(hm:s.made):∀(k c:Nat),c < k→∀i∈lK s k c,∀j∈lK s k i,j∈lK s k c
 | 0,c,h,_,_,_,_=>by omega
 | k + 1, c, hk, i, hi, j, hj => by
  have hi':=hi
  unfold lK at hi;cases hc:s.aF[c]? with
  | none=>rw[hc] at hi;simp at hi
  | some x =>
   rw[hc] at hi;dsimp only at hi;cases hs:x.src with
   | nil=>rw[hs] at hi;simp at hi;subst hi;exact hj
   | cons f fs =>
    rw[hs] at hi;rcases List.mem_cons.1 hi with rfl | hi
    ·exact hj
    ·have hf:=((hm.aF c x hc).1) f (by rw[hs];simp)
     have hle:=aEK hm k _ i hi
     have hj2:j∈lK s k i:=by rw[aJD hm k (k+1) i (by omega) (by omega)];exact hj
     have:=aJC hm k f.toNat (by omega) i hi j hj2
     unfold lK;rw[hc];dsimp only;rw[hs];exact List.mem_cons_of_mem _ this
theorem aTl(hm:s.made){c i j:Nat}(hc:c < s.aF.length)(hi:i∈fU s c)(hj:j∈fU s i):j∈fU s c:=aJC hm _ c hc i hi j hj
theorem aBI(hm:s.made){c i:Nat}(hi:i∈fU s c):i≤c:=aEK hm _ c i hi
end
theorem Dk(l:List Bool)(i:Nat):hasB l i=l[i]?.getD false:=rfl
structure bM.cl(x:bM)(s:aD):Prop where
 of:x.of s
 up:∀(i:Nat) d,hasB x.d i=true→s.domains[i]? =some d→0≤d.above→hasB x.d d.above.toNat=true
 ch:∀i j:Nat,hasB x.c i=true→j∈fU s i→mM s j=true→hasB x.c j=true
 sw:∀i:Nat,hasB x.c i=true→mM s i=true
theorem Sb{l:List Bool}{i:Nat}(h:hasB l i=true):i < l.length:=by
 rw[Dk] at h;rcases Nat.lt_or_ge i l.length with h1 | h1
 ·exact h1
 ·rw[List.getElem?_eq_none h1] at h;cases h
theorem aGc{s:aD}(hm:s.made)(act:List Bool)(n:Nat):(iK s act n).cl s:=by
 have jS:=Er s act n
 refine⟨jS,fun i d hi hd h0=>?_,fun i j hi hj hs=>?_,fun i hi=>?_⟩
 ·have hlt:=Sb hi
  rw[jS.d] at hlt;obtain⟨k,h1,h2,x,h3,h4⟩:=(aA4 i hlt n).1 hi
  have hx:=hm.aC k x h3
  have iY:x.domain.toNat < s.domains.length:=by obtain⟨_,yI,_⟩:=hx;omega
  have mX:=(aA5 hm iY).up i h4 d hd h0
  exact(aA4 _ ((aA5 hm iY).in_ _ mX) n).2 ⟨k,h1,h2,x,h3,mX⟩
 ·have hlt:=Sb hi
  rw[jS.c] at hlt;obtain⟨k,h1,h2,x,h3,h4⟩:=(Pw i hlt n).1 hi
  have hx:=hm.aC k x h3
  have iB:x.clock.toNat < s.aF.length:=by obtain⟨hx1,_⟩:=hx;omega
  rw[List.mem_filter] at h4
  have Ru:=aTl hm iB h4.1 hj
  exact(Pw j (aEL s _ _ j Ru) n).2 ⟨k,h1,h2,x,h3,List.mem_filter.2 ⟨Ru,hs⟩⟩
 ·have hlt:=Sb hi
  rw[jS.c] at hlt;obtain⟨k,h1,h2,x,h3,h4⟩:=(Pw i hlt n).1 hi;exact(List.mem_filter.1 h4).2
theorem aA9{l:List Nat}(hp:l.Pairwise (· < ·)){t i:Nat}(hi:l[t]? =some i)(j:Nat):j∈l.take t↔j∈l∧j < i:=by
 induction l generalizing t with
 | nil=>simp at hi
 | cons a r ih =>
  rw[List.pairwise_cons] at hp;cases t with
  | zero=>
   simp at hi;subst hi;simp only[List.take_zero,List.not_mem_nil,false_iff,not_and,List.mem_cons];rintro(rfl | h) h2
   ·omega
   ·have:=hp.1 j h;omega
  | succ t =>
   simp at hi
   have hir:=hp.1 i (List.mem_of_getElem? hi)
   rw[List.take_succ_cons,List.mem_cons,List.mem_cons,ih hp.2 hi];constructor
   ·rintro(rfl | h)
    ·exact⟨.inl rfl,hir⟩
    ·exact⟨.inr h.1,h.2⟩
   ·rintro⟨rfl | h,h2⟩
    ·exact .inl rfl
    ·exact .inr ⟨h,h2⟩
theorem aGq{l:List Nat}(hp:l.Pairwise (· > ·)){t i:Nat}(hi:l[t]? =some i)(j:Nat):j∈l.take t↔j∈l∧i < j:=by
 induction l generalizing t with
 | nil=>simp at hi
 | cons a r ih =>
  rw[List.pairwise_cons] at hp;cases t with
  | zero=>
   simp at hi;subst hi;simp only[List.take_zero,List.not_mem_nil,false_iff,not_and,List.mem_cons];rintro(rfl | h) h2
   ·omega
   ·have:=hp.1 j h;omega
  | succ t =>
   simp at hi
   have hir:=hp.1 i (List.mem_of_getElem? hi)
   rw[List.take_succ_cons,List.mem_cons,List.mem_cons,ih hp.2 hi];constructor
   ·rintro(rfl | h)
    ·exact⟨.inl rfl,hir⟩
    ·exact⟨.inr h.1,h.2⟩
   ·rintro⟨rfl | h,h2⟩
    ·exact .inl rfl
    ·exact .inr ⟨h,h2⟩
theorem aHg(n:Nat):(List.range n).Pairwise (· < ·):=List.pairwise_lt_range
theorem aAU(n:Nat)(a b:List Bool):(eV (List.range n) a b).Pairwise (· < ·):=(aHg n).filter _
theorem aHA(n:Nat)(a b:List Bool):(eV (List.range n).reverse a b).Pairwise (· > ·):=by
 unfold eV;refine List.Pairwise.filter _ ?_;rw[List.pairwise_reverse];exact aHg n
theorem has_fold(b:Bool)(ids:List Nat)(l:List Bool)(j:Nat)(hj:j < l.length):hasB (ids.foldl (fun d (i:Nat)=>gZ d (i:Int) b) l) j=if j∈ids then b else hasB l j:=by
 unfold hasB;rw[Vt];split
 ·rw[List.getElem?_eq_getElem hj];rfl
 ·rfl
theorem Zk{α:Type}{A B:List α}{k:Nat}{p:α}(h:(A++B)[k]? =some p):(A[k]? =some p∧(A++B).take k=A.take k)∨∃t,B[t]? =some p∧(A++B).take k=A++B.take t:=by
 rcases Nat.lt_or_ge k A.length with hk | hk
 ·left;rw[List.getElem?_append_left hk] at h;exact⟨h,List.take_append_of_le_length (by omega)⟩
 ·right;rw[List.getElem?_append_right hk] at h;exact⟨k - A.length,h,by rw[List.take_append,List.take_of_length_le hk]⟩
theorem Qd{pr msg:Int}{val:Nat→Int}{ids:List Nat}{t:Nat}{p:dB}(h:(jW pr msg val ids)[t]? =some p):∃i,ids[t]? =some i∧p=⟨pr,msg,i,val i⟩∧(jW pr msg val ids).take t=jW pr msg val (ids.take t):=by
 unfold jW at h⊢;rw[List.getElem?_map] at h;obtain⟨i,hi,rfl⟩:=Option.map_eq_some_iff.1 h;exact⟨i,hi,rfl,by rw[List.map_take]⟩
def uP(p:dB):Int:=if p.pr=17 then(if p.v=1 then 117 else if p.v=0 then 100 else 107) else if p.pr=20 then(if p.v=1 then 99 else 111) else(if p.v=0 then 114 else 97)
structure Ud(s:aD)(x:bM)(p:dB)(k:Nat):Prop where
 pack:(eB p.msg 0 p.pr k).2=0
 dec:jI s x (dQ s) [] 0 [(eB p.msg 0 p.pr k).1,p.id,p.v]=(0,uP p,p.id)
 kind:uP p≠0
 done:jZ x 0 (uP p) p.id=gQ x p
 id:0≤p.id∧p.id < 4294967296
 v:0≤p.v∧p.v < 4294967296
theorem Xl{m p:Int}{k:Nat}(hm:m=4∨m=7)(hp:p=17∨p=20∨p=22)(hk:k < 64):(eB m 0 p k).2=0∧uF (eB m 0 p k).1=0∧Fz (eB m 0 p k).1=0∧eE (eB m 0 p k).1=p∧eM (eB m 0 p k).1=m:=by
 obtain⟨h1,h2,h3⟩:=aQn hm hp hk;rw[aGj] at h3;simp only[Hz,List.cons.injEq,Value.int.injEq,true_and,and_true] at h3;exact⟨h1,h2,h3.2.1,h3.2.2.1,h3.1⟩
theorem Qg{l:List Bool}{i:Nat}(hi:i < l.length)(b:Bool):kV l (i:Int) b=gZ l (i:Int) b:=by
 rw[kV,if_pos ⟨by omega,by omega⟩];rfl
theorem Gs(x:bM)(k:Int)(i:Nat):pR x k (i:Int)=hasB (Ak k x) i:=by
 unfold pR;simp
theorem aCE(s:aD)(x:bM)(k i:Int):sN x (dQ s) k i=pR x k i:=by
 rw[sN,aGa,Bool.or_false]
section
variable{s:aD}{x:bM}{k i:Nat}
theorem aQR(hm:s.made)(jS:x.of s)(hk:k < 64)(hi:i < s.domains.length)(hno:hasB x.d i=false)(mX:∀d,s.domains[i]? =some d→0≤d.above→hasB x.d d.above.toNat=true):Ud s x ⟨17,4,i,1⟩ k:=by
 obtain⟨e0,e1,e2,e3,e4⟩:=Xl (m:=4) (p:=17) (.inl rfl) (.inl rfl) hk
 have hr:eA s [(eB 4 0 17 k).1,(i:Int),1]=(0,117,(i:Int)):=by
  unfold eA;dsimp only;rw[e1,e2,e3,e4,if_neg (by simp),show qQ 17 4=some ⟨2,3,100,117,107⟩ from rfl,show eG 17 4=⟨2,3,100,117,107⟩ from rfl];simp[wC,tJ,lN.act,zW,hi]
 have hd:s.domains[i]? =some s.domains[i]:=List.getElem?_eq_getElem hi
 have hfit:=(hm.domains i _ hd).1
 refine⟨e0,?_,(by show(117:Int)≠0;decide),?_,⟨by simp,by have:=hm.nd;simp;omega⟩,⟨by simp,by simp⟩⟩
 ·show jI s x (dQ s) [] 0 [(eB 4 0 17 k).1,(i:Int),1]=(0,117,(i:Int))
  rw[aEA hr (.inl rfl) (by decide) (by rw[if_pos rfl,Gs];exact hno),if_neg];rintro⟨_,h2⟩;rw[Int.toNat_natCast,hd] at h2;simp only[Option.any_some,Bool.and_eq_true,decide_eq_true_eq,Bool.not_eq_true'] at h2
  have h0:0≤(s.domains[i]).above:=by omega
  have h3:=mX _ hd h0
  rw[aCE,show(s.domains[i]).above=(((s.domains[i]).above.toNat:Nat):Int) by omega,Gs] at h2;rw[show Ak 117 x=x.d from rfl,h3] at h2;cases h2.2
 ·show(if(0:Nat)=0 then kU x 117 i else x)=_
  rw[if_pos rfl];unfold kU gQ;dsimp only;rw[if_pos (.inl rfl),if_pos ⟨rfl,rfl,by decide⟩,Qg (by rw[jS.d];exact hi)];rfl
theorem aQP(hm:s.made)(jS:x.of s)(hk:k < 64)(hi:i < s.aF.length)(lU:mM s i=true)(hno:hasB x.c i=false):Ud s x ⟨20,7,i,1⟩ k:=by
 obtain⟨e0,e1,e2,e3,e4⟩:=Xl (m:=7) (p:=20) (.inr rfl) (.inr (.inl rfl)) hk
 have aDG:rB s i:=by
  have hc:s.aF[i]? =some s.aF[i]:=List.getElem?_eq_getElem hi
  unfold mM at lU;unfold rB kindOf;rw[hc] at lU⊢;exact of_decide_eq_true lU
 have hr:eA s [(eB 7 0 20 k).1,(i:Int),1]=(0,99,(i:Int)):=by
  unfold eA;dsimp only;rw[e1,e2,e3,e4,if_neg (by simp),show qQ 20 7=some ⟨2,2,111,99,0⟩ from rfl,show eG 20 7=⟨2,2,111,99,0⟩ from rfl];simp[wC,tJ,lN.act,zW,hi,aDG]
 refine⟨e0,?_,(by show(99:Int)≠0;decide),?_,⟨by simp,by have:=hm.nc;simp;omega⟩,⟨by simp,by simp⟩⟩
 ·show jI s x (dQ s) [] 0 [(eB 7 0 20 k).1,(i:Int),1]=(0,99,(i:Int))
  rw[aEA hr (.inr (.inl rfl)) (by decide) (by rw[if_pos rfl,Gs];exact hno),if_neg];rintro⟨h2,_⟩;cases h2
 ·show(if(0:Nat)=0 then kU x 99 i else x)=_
  rw[if_pos rfl];unfold kU gQ;dsimp only;rw[if_neg (by decide),if_pos (.inl rfl),if_neg (by decide),if_pos ⟨rfl,rfl,by decide⟩,Qg (by rw[jS.c];exact hi)];rfl
theorem aQO(hm:s.made)(jS:x.of s)(hk:k < 64)(hi:i < s.aR.length)(hno:hasB x.l i=false):Ud s x ⟨22,4,i,0⟩ k:=by
 obtain⟨e0,e1,e2,e3,e4⟩:=Xl (m:=4) (p:=22) (.inl rfl) (.inr (.inr rfl)) hk
 have hr:eA s [(eB 4 0 22 k).1,(i:Int),0]=(0,114,(i:Int)):=by
  unfold eA;dsimp only;rw[e1,e2,e3,e4,if_neg (by simp),show qQ 22 4=some ⟨2,2,114,97,0⟩ from rfl,show eG 22 4=⟨2,2,114,97,0⟩ from rfl];simp[wC,tJ,lN.act,zW,hi]
 refine⟨e0,?_,(by show(114:Int)≠0;decide),?_,⟨by simp,by have:=hm.nr;simp;omega⟩,⟨by simp,by simp⟩⟩
 ·show jI s x (dQ s) [] 0 [(eB 4 0 22 k).1,(i:Int),0]=(0,114,(i:Int))
  rw[aEA hr (.inr (.inr rfl)) (by decide) (by rw[if_pos rfl,Gs];exact hno),if_neg];rintro⟨h2,_⟩;cases h2
 ·show(if(0:Nat)=0 then kU x 114 i else x)=_
  rw[if_pos rfl];unfold kU gQ;dsimp only;rw[if_neg (by decide),if_neg (by decide),if_pos (.inl rfl),if_neg (by decide),if_neg (by decide),if_pos ⟨rfl,rfl,by decide⟩,Qg (by rw[jS.l];exact hi)];rfl
theorem aE9(a:bM)(kd id:Int)(h:Ku s a (dQ s) kd id=false):It s a (dQ s) 0 kd id=false:=by
 rw[It,if_pos rfl,aGa,h];rfl
theorem aQQ(hm:s.made)(jS:x.of s)(hk:k < 64)(hi:i < s.aF.length)(lU:mM s i=true)(hyes:hasB x.c i=true)(hno:∀j:Nat,j≠i→hasB x.c j=true→i∉fU s j):Ud s x ⟨20,7,i,0⟩ k:=by
 obtain⟨e0,e1,e2,e3,e4⟩:=Xl (m:=7) (p:=20) (.inr rfl) (.inr (.inl rfl)) hk
 have aDG:rB s i:=by
  have hc:s.aF[i]? =some s.aF[i]:=List.getElem?_eq_getElem hi
  unfold mM at lU;unfold rB kindOf;rw[hc] at lU⊢;exact of_decide_eq_true lU
 have hr:eA s [(eB 7 0 20 k).1,(i:Int),0]=(0,111,(i:Int)):=by
  unfold eA;dsimp only;rw[e1,e2,e3,e4,if_neg (by simp),show qQ 20 7=some ⟨2,2,111,99,0⟩ from rfl,show eG 20 7=⟨2,2,111,99,0⟩ from rfl];simp[wC,tJ,lN.act,zW,hi,aDG]
 refine⟨e0,?_,(by show(111:Int)≠0;decide),?_,⟨by simp,by have:=hm.nc;simp;omega⟩,⟨by simp,by simp⟩⟩
 ·show jI s x (dQ s) [] 0 [(eB 7 0 20 k).1,(i:Int),0]=(0,111,(i:Int))
  rw[aEB hr (by decide) (by decide) (by rw[if_pos rfl,Gs];exact hyes),aE9,aBM]
  ·rfl
  ·refine Xw fun j hj=>?_;cases ht:yR s x (dQ s) 111 i j with
   | false=>rfl
   | true=>
    exfalso;unfold yR at ht;rw[if_neg (by decide)] at ht;simp only[Bool.and_eq_true,decide_eq_true_eq,aCE,Gs] at ht
    have hc:=ht.2.2
    unfold zA at hc
    have hmem:=of_decide_eq_true hc
    rw[Int.toNat_natCast] at hmem;refine hno j (fun e=>ht.1 (by rw[e])) ht.2.1 ?_;simp only[dM,List.mem_map] at hmem;obtain⟨q,h1,h2⟩:=hmem
    have h3:(q:Int)=(i:Int):=h2
    have:q=i:=by omega
    rwa [←this]
 ·show(if(0:Nat)=0 then kU x 111 i else x)=_
  rw[if_pos rfl];unfold kU gQ;dsimp only;rw[if_neg (by decide),if_pos (.inr rfl),if_neg (by decide),if_pos ⟨rfl,rfl,by decide⟩,Qg (by rw[jS.c];exact hi)];rfl
theorem aQS(hm:s.made)(jS:x.of s)(hk:k < 64)(hi:i < s.domains.length)(hyes:hasB x.d i=true)(hno:∀(j:Nat) d,s.domains[j]? =some d→d.above=(i:Int)→hasB x.d j=false):Ud s x ⟨17,4,i,mO s i⟩ k:=by
 obtain⟨e0,e1,e2,e3,e4⟩:=Xl (m:=4) (p:=17) (.inl rfl) (.inl rfl) hk
 have hd:s.domains[i]? =some s.domains[i]:=List.getElem?_eq_getElem hi
 have aIw:∀kd:Int,(kd=100∨kd=107)→Ku s x (dQ s) kd i=false:=by
  intro kd Rr;refine Xw fun j hj=>?_;cases ht:yR s x (dQ s) kd i j with
  | false=>rfl
  | true =>
   exfalso;unfold yR at ht;rw[if_pos Rr,Bool.and_eq_true,aCE,Gs] at ht;cases hdj:s.domains[j]? with
   | none=>rw[hdj] at ht;simp at ht
   | some d=>
    rw[hdj] at ht
    have ha:d.above=(i:Int):=by simpa using ht.1
    have:=hno j d hdj ha
    have hl:Ak kd x=x.d:=by rcases Rr with rfl | rfl<;>rfl
    rw[hl,this] at ht;cases ht.2
 cases Kh:(s.domains[i]).ret with
 | false =>
  have e:mO s i=0:=by unfold mO;rw[hd];simp[Kh]
  rw[e]
  have hr:eA s [(eB 4 0 17 k).1,(i:Int),0]=(0,100,(i:Int)):=by
   unfold eA;dsimp only;rw[e1,e2,e3,e4,if_neg (by simp),show qQ 17 4=some ⟨2,3,100,117,107⟩ from rfl,show eG 17 4=⟨2,3,100,117,107⟩ from rfl];simp[wC,tJ,lN.act,zW,hi]
  refine⟨e0,?_,(by show(100:Int)≠0;decide),?_,⟨by simp,by have:=hm.nd;simp;omega⟩,⟨by simp,by simp⟩⟩
  ·show jI s x (dQ s) [] 0 [(eB 4 0 17 k).1,(i:Int),0]=(0,100,(i:Int))
   rw[aEB hr (by decide) (by decide) (by rw[if_pos rfl,Gs];exact hyes),aE9 _ _ _ (aIw 100 (.inl rfl)),aBM];rfl
  ·show(if(0:Nat)=0 then kU x 100 i else x)=_
   rw[if_pos rfl];unfold kU gQ;dsimp only;rw[if_pos (.inr (.inl rfl)),if_pos ⟨rfl,rfl,by decide⟩,Qg (by rw[jS.d];exact hi)];rfl
 | true =>
  have e:mO s i=2:=by unfold mO;rw[hd];simp[Kh]
  rw[e]
  have hr:eA s [(eB 4 0 17 k).1,(i:Int),2]=(0,107,(i:Int)):=by
   have hro:Mn s i=true:=by unfold Mn;rw[hd];simp[Kh]
   unfold eA;dsimp only;rw[e1,e2,e3,e4,if_neg (by simp),show qQ 17 4=some ⟨2,3,100,117,107⟩ from rfl,show eG 17 4=⟨2,3,100,117,107⟩ from rfl];simp[wC,tJ,lN.act,zW,hi,hro]
  refine⟨e0,?_,(by show(107:Int)≠0;decide),?_,⟨by simp,by have:=hm.nd;simp;omega⟩,⟨by simp,by simp⟩⟩
  ·show jI s x (dQ s) [] 0 [(eB 4 0 17 k).1,(i:Int),2]=(0,107,(i:Int))
   rw[aEB hr (by decide) (by decide) (by rw[if_pos rfl,Gs];exact hyes),aE9 _ _ _ (aIw 107 (.inr rfl)),aBM];rfl
  ·show(if(0:Nat)=0 then kU x 107 i else x)=_
   rw[if_pos rfl];unfold kU gQ;dsimp only;rw[if_pos (.inr (.inr rfl)),if_pos ⟨rfl,rfl,by decide⟩,Qg (by rw[jS.d];exact hi)];rfl
end
theorem aRi{s:aD}{L:List dB}{x:bM}(h:x.of s):(L.foldl gQ x).of s:=by
 induction L generalizing x with
 | nil=>exact h
 | cons p L ih=>
  obtain⟨h1,h2,h3⟩:=aT6 x p;exact ih ⟨by rw[h1];exact h.d,by rw[h2];exact h.c,by rw[h3];exact h.l⟩
section
variable{s:aD}{x y:bM}
theorem zQ{a b:List Bool}{i:Nat}:sO a b i=true↔hasB b i=true∧hasB a i=false:=by
 unfold sO;rw[Bool.and_eq_true,Bool.not_eq_true']
theorem Si(L:List Nat)(z:bM):(jW 17 4 (fun _=>1) L).foldl gQ z=⟨L.foldl (fun d (i:Nat)=>gZ d (i:Int) true) z.d,z.c,z.l⟩:=Yh (val:=fun _=>1) (b:=true) (fun _=>⟨by decide,rfl⟩) L z
theorem Ym(L:List Nat)(z:bM):(jW 20 7 (fun _=>1) L).foldl gQ z=⟨z.d,L.foldl (fun d (i:Nat)=>gZ d (i:Int) true) z.c,z.l⟩:=Yi (val:=fun _=>1) (b:=true) (fun _=>⟨by decide,rfl⟩) L z
theorem aB5(L:List Nat)(z:bM):(jW 22 4 (fun _=>0) L).foldl gQ z=⟨z.d,z.c,L.foldl (fun d (i:Nat)=>gZ d (i:Int) true) z.l⟩:=Yg (val:=fun _=>0) (b:=true) (fun _=>⟨by decide,rfl⟩) L z
theorem aEw(L:List Nat)(z:bM):(jW 22 4 (fun _=>1) L).foldl gQ z=⟨z.d,z.c,L.foldl (fun d (i:Nat)=>gZ d (i:Int) false) z.l⟩:=Yg (val:=fun _=>1) (b:=false) (fun _=>⟨by decide,rfl⟩) L z
theorem aIX(L:List Nat)(z:bM):(jW 20 7 (fun _=>0) L).foldl gQ z=⟨z.d,L.foldl (fun d (i:Nat)=>gZ d (i:Int) false) z.c,z.l⟩:=Yi (val:=fun _=>0) (b:=false) (fun _=>⟨by decide,rfl⟩) L z
theorem aR3(s:aD)(L:List Nat)(z:bM):(jW 17 4 (mO s) L).foldl gQ z=⟨L.foldl (fun d (i:Nat)=>gZ d (i:Int) false) z.d,z.c,z.l⟩:=Yh (val:=mO s) (b:=false) (fun k=>by have:=aDc s k;exact⟨by omega,decide_eq_false (by omega)⟩) L z
theorem aAP(b:Bool)(ids:List Nat)(l:List Bool):(ids.foldl (fun d (i:Nat)=>gZ d (i:Int) b) l).length=l.length:=by
 induction ids generalizing l with
 | nil=>rfl
 | cons i ids ih=>rw[List.foldl_cons,ih,Mp]
end
section
variable{w0:World}{R:List Piece}{H:List HP}
end
end
section
structure aD.dI(s:aD):Prop where
 t:s.wX
 domains:Fits Dom.fit s.domains
 aR:∀r∈s.aR,0≤r∧r≤3
theorem aD.made.dI{s:aD}(h:s.made):s.dI:=⟨h.wX,h.domains,h.aR⟩
structure eP where
 on:Bool
 left:Int
def yZ(c:eF):eP:=⟨false,if c.kind=112 then c.lock else 0⟩
def byF(c:eF):Int:=if c.kind=100 then c.div else 0
def rT(c:eF)(x:eP):Bool:=if c.kind=112 then x.on&&decide (x.left=0) else if c.kind=103 then x.on else true
def Py(s:aD)(st:List eP)(i:Nat):Bool:=match s.aF[i]?,st[i]? with
 | some c,some x=>rT c x
 | _,_=>false
def runs(s:aD)(st:List eP)(i:Nat):Bool:=(fU s i).all (Py s st)
theorem aEM{s:aD}(hf:Fits eF.fit s.aF):∀(c k:Nat),c < k→lK s k c=lK s (c+1) c:=by
 intro c
 induction c using Nat.strongRecOn with
 | _ c ih =>
  intro k hk;obtain⟨k,rfl⟩:=Nat.exists_eq_add_of_lt hk;rw[show c+k+1=(c+k)+1 from rfl];unfold lK;cases hc:s.aF[c]? with
  | none=>rfl
  | some x =>
   dsimp only;cases hs:x.src with
   | nil=>rfl
   | cons f fs=>
    have hfit:=(hf c x hc).1 f (by rw[hs];simp)
    have h1:f.toNat < c:=by omega
    dsimp only;rw[ih f.toNat h1 (c+k) (by omega),ih f.toNat h1 c h1]
theorem Zh{s:aD}(hf:Fits eF.fit s.aF){i:Nat}{c:eF}(hc:s.aF[i]? =some c):fU s i=i::(match c.src with
  | []=>[]
  | f::_=>fU s f.toNat):=by
 have hlt:i < s.aF.length:=(List.getElem?_eq_some_iff.1 hc).1
 unfold fU;rw[aEM hf i _ hlt];rw[lK,hc];dsimp only;cases hs:c.src with
 | nil=>rfl
 | cons f fs=>
  have hfit:=(hf i c hc).1 f (by rw[hs];simp)
  dsimp only;rw[aEM hf f.toNat i (by omega),aEM hf f.toNat s.aF.length (by omega)]
theorem aG9{s:aD}(hf:Fits eF.fit s.aF){st:List eP}{i:Nat}{c:eF}{x:eP}(hc:s.aF[i]? =some c)(hx:st[i]? =some x):runs s st i=(rT c x&&(match c.src with
  | []=>true
  | f::_=>runs s st f.toNat)):=by
 unfold runs;rw[Zh hf hc,List.all_cons]
 have:Py s st i=rT c x:=by unfold Py;rw[hc,hx]
 rw[this];cases c.src<;>rfl
def bB(n:Nat)(i:Int):Bool:=decide (0≤i∧i < (n:Int))
def qI(s:aD)(st:List eP)(i:Int):Bool:=bB s.aF.length i&&runs s st i.toNat
def Hg(c:eF)(x:eP)(b:Bool):eP:=⟨b,if c.kind=112∧b=false then c.lock else x.left⟩
def lE(s:aD)(st:List eP)(i:Int)(b:Bool):Int×List eP:=
 if bB s.aF.length i=false then(4,st) else match s.aF[i.toNat]?,st[i.toNat]? with
 | some c,some x=>if c.kind≠112∧c.kind≠103 then(1,st) else(0,st.set i.toNat (Hg c x b))
 | _,_=>(4,st)
def Qf(c:eF):Nat:=(c.src.headD 0).toNat
def vJ(s:aD)(st:List eP)(c:eF)(x:eP):eP:=
 if c.kind=112∧x.on=true then(if runs s st (Qf c)=false then⟨true,c.lock⟩ else if 0 < x.left then⟨true,x.left - 1⟩ else x) else x
def lS(s:aD)(st:List eP):List eP:=List.zipWith (vJ s st) s.aF st
structure qZ(s:aD)(st:List eP):Prop where
 len:st.length=s.aF.length
 left:∀x∈st,0≤x.left∧x.left≤3
structure fF where
 phase:Int
 left:Int
 kept:Bool
 keep:Bool
def yY:fF:=⟨48,0,false,false⟩
def Lb(x:fF):Bool:=decide (x.phase=48∨x.phase=116)
def rX(st:List fF)(d:Int):Int:=if bB st.length d then(st[d.toNat]?.map (·.phase)).getD 0 else 0
def On(st:List fF)(a:Int):Bool:=decide (a= -1)||decide ((st[a.toNat]?.map (·.phase)).getD 0=49)
def uE(s:aD)(st:List fF)(d:Int):Int×List fF:=
 if bB st.length d=false then(4,st) else match s.domains[d.toNat]?,st[d.toNat]? with
 | some c,some x=>if Lb x=false∨On st c.above=false then(6,st) else(0,st.set d.toNat ⟨114,c.delay,decide (x.phase=116),x.keep⟩)
 | _,_=>(4,st)
def Ic(d:Int)(c:Dom)(x:fF):Bool:=decide (c.above=d)&& !Lb x
def Fy(s:aD)(st:List fF)(d:Int):Bool:=(List.zipWith (Ic d) s.domains st).any id
def wA(s:aD)(st:List fF)(d:Int)(keep:Bool):Int×List fF:=
 if bB st.length d=false then(4,st) else match s.domains[d.toNat]?,st[d.toNat]? with
 | some c,some x=>if x.phase≠49 then(6,st) else if keep=true∧c.ret=false then(1,st) else if Fy s st d then(7,st) else(0,st.set d.toNat ⟨99,x.left,x.kept,keep⟩)
 | _,_=>(4,st)
def fV(x:fF):Int×fF:=
 if x.phase=114 then(if 0 < x.left then(0,⟨114,x.left - 1,x.kept,x.keep⟩) else(if x.kept then 114 else 110,⟨104,x.left,x.kept,x.keep⟩))
 else if x.phase=104 then(111,⟨49,x.left,x.kept,x.keep⟩)
 else if x.phase=99 then(if x.keep then(115,⟨116,x.left,x.kept,x.keep⟩) else(108,⟨48,x.left,x.kept,x.keep⟩))
 else(0,x)
def lY(st:List fF)(n:Nat):List (Int×Nat):=(List.range n).filterMap fun i=>(st[i]?).bind fun x=>if(fV x).1=0 then none else some ((fV x).1,i)
def oU(st:List fF):List fF:=st.map fun x=>(fV x).2
structure vE(s:aD)(st:List fF):Prop where
 len:st.length=s.domains.length
 left:∀x∈st,0≤x.left∧x.left≤3
 phase:∀x∈st,0≤x.phase∧x.phase < 256
structure kI where
 left:Int
 held:Bool
 wanted:Bool
def sX:kI:=⟨0,true,false⟩
def Ba(st:List kI)(i:Int):Bool:= !bB st.length i||(st[i.toNat]?.map (·.held)).getD true
def tS(s:aD)(st:List kI)(i:Int):Int×List kI:=
 if bB st.length i=false then(4,st) else(0,st.set i.toNat ⟨(s.aR[i.toNat]?).getD 0,true,false⟩)
def vL(st:List kI)(i:Int):Int×List kI:=
 if bB st.length i=false then(4,st) else match st[i.toNat]? with
 | some x=>if x.held=false then(6,st) else(0,st.set i.toNat ⟨x.left,x.held,true⟩)
 | none=>(4,st)
def lR(x:kI):kI:=if x.held=false then x else if 0 < x.left then⟨x.left - 1,x.held,x.wanted⟩ else if x.wanted then⟨x.left,false,false⟩ else x
def Et(st:List kI):List kI:=st.map lR
structure Gq(s:aD)(st:List kI):Prop where
 len:st.length=s.aR.length
 left:∀x∈st,0≤x.left∧x.left≤3
structure cO where
 now:List Int
 saved:List Int
 kept:Bool
def Gd(d:bO):cO:=⟨d.aO.map (·.reset),d.aO.map fun _=>0,false⟩
def Gk(d:bO)(x:cO):cO:=⟨d.aO.map (·.reset),x.saved,false⟩
def Ml(r:Rg)(p:Int×Int):Int:=if r.kept then p.1 else p.2
def wT(d:bO)(x:cO):cO:=⟨x.now,List.zipWith Ml d.aO (x.now.zip x.saved),true⟩
def aAK(k:Bool)(r:Rg)(v:Int):Int:=if k&&r.kept then v else r.reset
def Jt(d:bO)(x:cO):cO:=⟨List.zipWith (aAK x.kept) d.aO x.saved,x.saved,x.kept⟩
structure zG(d:bO)(x:cO):Prop where
 now:x.now.length=d.aO.length
 saved:x.saved.length=d.aO.length
 u:(∀v∈x.now,0≤v∧v < 4294967296)∧∀v∈x.saved,0≤v∧v < 4294967296
structure dL where
 at_:Int
 denied:Int
def Qj:dL:=⟨0,0⟩
def qL(a:Int):Int:=if a=0 then 114 else if a=1 then 97 else if a=2 then 115 else 100
def sI(x:dL):Int×dL:=if x.at_≠0 then(6,x) else(0,⟨1,x.denied⟩)
def nU(x:dL):Int×dL:=if x.at_≠2∧x.at_≠3 then(6,x) else(0,⟨0,x.denied⟩)
def uG(x:dL)(Om cZ:Bool):dL:=if x.at_≠1 then x else if cZ then⟨3,IntKind.i64.wrap (x.denied+1)⟩ else if Om then x else⟨2,0⟩
def Cb(x:dL):Prop:=0≤x.at_∧x.at_≤3
end
section
def Uf(n:Nat)(xs:List Value)(v:Value)(hs:List HP)(_:Piece):Prop:=∃A c,v=.slice A n c∧hs=[HP.own 48 2 (.slice A n c) n xs]
theorem Ze(A:Option Addr)(n c:Nat)(xs:List Value)(w:World)(hs:aI (all w) 2 A n xs)(h1:∀u∈xs,u.oneCell'=true)(hn:n≤1000000):
  Cz 146 #[.slice A n c] w (fun y w'=>(∃v hs q,y=.returned v∧q.w=w'∧Uf n xs v hs q∧jD w hs q)∧Below w.heap.size w w'):=by
 refine aM func146 ntmps146 ?_;refine aA ?_;refine aAy (el:=48) (by kernel_rfl) rfl (by decide) ?_;refine dO ?_;refine qD rfl (fun hA=>?_) (fun hA=>?_)
 ·refine aA ?_
  have hn0:n=0:=by
   rcases Nat.eq_zero_or_pos n with h | h
   ·exact h
   ·obtain⟨b,off,rfl,_⟩:=hs.2 h;cases hA
  subst hn0
  have hx:xs=[]:=List.eq_nil_of_length_eq_zero (by simpa using hs.1)
  subst hx;refine iN 48 2 ?_;refine dP [] [] [0] (by simp) rfl (by decide) (by decide) fun q _ _ hfr=>?_;exact aT (h:=fun w1 st=>⟨_,_,⟨w1,q.Z⟩,rfl,rfl,⟨_,_,rfl,rfl⟩,st.newR (by simp) (by simp) (hfr (by simp) (by simp))⟩)
 ·refine aA ?_;refine Ek (el:=48) (sz:=2) (by kernel_rfl) (by kernel_rfl) (by decide) fun g=>?_;refine Bv 0 2 0 rfl rfl (by omega) ?_;dsimp only[List.set];refine aA ?_;refine gJ 0 2 8 n (n':=n) (el:=48) (by kernel_rfl) (by kernel_rfl) (by decide) rfl rfl rfl (rE (by simp) hs) h1 (by omega) (by omega) (by omega) (by decide) fun A' k'=>?_;dsimp only[List.set,List.nil_append];refine aA ?_;refine dP [] [] [0] (by simp) rfl (by decide) (by decide) fun q _ _ hfr=>?_;exact aT (h:=fun w1 st=>⟨_,_,⟨w1,q.Z⟩,rfl,rfl,⟨_,_,rfl,rfl⟩,st.newR (by simp) (by simp) (hfr (by simp) (by simp))⟩)
def aF8(n:Nat)(xs:List Value)(v:Value)(hs:List HP)(_:Piece):Prop:=∃A c,v=.slice A n c∧hs=[HP.own 23 1 (.slice A n c) n xs]
theorem aJ6(A:Option Addr)(n c:Nat)(xs:List Value)(w:World)(hs:aI (all w) 1 A n xs)(h1:∀u∈xs,u.oneCell'=true)(hn:n≤1000000):
  Cz 164 #[.slice A n c] w (fun y w'=>(∃v hs q,y=.returned v∧q.w=w'∧aF8 n xs v hs q∧jD w hs q)∧Below w.heap.size w w'):=by
 refine aM func164 ntmps164 ?_;refine aA ?_;refine aAy (el:=23) (by kernel_rfl) rfl (by decide) ?_;refine dO ?_;refine qD rfl (fun hA=>?_) (fun hA=>?_)
 ·refine aA ?_
  have hn0:n=0:=by
   rcases Nat.eq_zero_or_pos n with h | h
   ·exact h
   ·obtain⟨b,off,rfl,_⟩:=hs.2 h;cases hA
  subst hn0
  have hx:xs=[]:=List.eq_nil_of_length_eq_zero (by simpa using hs.1)
  subst hx;refine iN 23 1 ?_;refine dP [] [] [0] (by simp) rfl (by decide) (by decide) fun q _ _ hfr=>?_;exact aT (h:=fun w1 st=>⟨_,_,⟨w1,q.Z⟩,rfl,rfl,⟨_,_,rfl,rfl⟩,st.newR (by simp) (by simp) (hfr (by simp) (by simp))⟩)
 ·refine aA ?_;refine Ek (el:=23) (sz:=1) (by kernel_rfl) (by kernel_rfl) (by decide) fun g=>?_;refine Bv 0 1 0 rfl rfl (by omega) ?_;dsimp only[List.set];refine aA ?_;refine gJ 0 1 4 n (n':=n) (el:=23) (by kernel_rfl) (by kernel_rfl) (by decide) rfl rfl rfl (rE (by simp) hs) h1 (by omega) (by omega) (by omega) (by decide) fun A' k'=>?_;dsimp only[List.set,List.nil_append];refine aA ?_;refine dP [] [] [0] (by simp) rfl (by decide) (by decide) fun q _ _ hfr=>?_;exact aT (h:=fun w1 st=>⟨_,_,⟨w1,q.Z⟩,rfl,rfl,⟨_,_,rfl,rfl⟩,st.newR (by simp) (by simp) (hfr (by simp) (by simp))⟩)
end
section
def nR(l:List Int):List Value:=l.map (Value.int .u32)
theorem aA7(l:List Int):(nR l).length=l.length:=by simp[nR]
theorem aCK{l:List Int}{i:Nat}{v:Int}(h:l[i]? =some v):(nR l)[i]? =some (.int .u32 v):=by simp[nR,h]
theorem aCJ(l:List Int)(i:Nat)(v:Int):(nR l).set i (.int .u32 v)=nR (l.set i v):=by simp[nR,List.map_set]
structure FL where
 f:Nat
 gn:Nat
 gs:Nat
 A:Option Addr
 c:Nat
def tX(d:bO)(A:Option Addr)(p:Piece):Prop:=aI p 2 A d.aO.length (d.aO.flatMap Rg.cells)
theorem tX.le{d:bO}{A:Option Addr}(p q:Piece)(hl:p.Le q)(h:tX d A p):tX d A q:=aI.le h hl
def Ky(L:FL)(d:bO)(k:Bool):List Value:=[.slice L.A d.aO.length L.c,.slice (some ⟨L.gn,0,none⟩) d.aO.length d.aO.length,.slice (some ⟨L.gs,0,none⟩) d.aO.length d.aO.length,.bool k]
def iF(L:FL)(d:bO)(x:cO):HP:=HP.many [HP.aE L.f 298 (Ky L d x.kept),HP.aE L.gn 23 (nR x.now),HP.aE L.gs 23 (nR x.saved),HP.bR (tX d L.A) (tX.le (d:=d) (A:=L.A))]
structure Eh(w:World)(L:FL)(d:bO)(x:cO):Prop where
 r0:eD w L.f 0 (Ky L d x.kept)
 now:eD w L.gn 0 (nR x.now)
 saved:eD w L.gs 0 (nR x.saved)
 made:aI (all w) 2 L.A d.aO.length (d.aO.flatMap Rg.cells)
theorem Eh.below{w w':World}{L:FL}{d:bO}{x:cO}(h:Eh w L d x)(hb:Below w.heap.size w w'):Eh w' L d x:=⟨h.r0.below hb,h.now.below hb,h.saved.below hb,h.made.le (jU hb)⟩
theorem uV{w:World}{g:Nat}{t:TypeId}{cs:List Value}(h:vF w g t cs.toArray):eD w g 0 cs:=⟨h.lt,fun j v hv=>by rw[h.cell,Nat.zero_add];simpa using hv⟩
theorem aAo{L:FL}{d:bO}{x:cO}{F:Nat→Prop}{w:World}(h:(iF L d x).sat F w)(hF:∀b,F b→b < w.heap.size):Eh w L d x:=by
 obtain⟨G,g1,g2,_⟩:=h;exact⟨uV (g1 0 _ rfl).2,uV (g1 1 _ rfl).2,uV (g1 2 _ rfl).2,aI.le (g1 3 _ rfl) (fun b hb=>⟨hF b (g2 3 b hb),rfl⟩)⟩
section
variable{N:cE}{w0 w:World}{e:Env}{R:List Piece}{H:List HP}{K:Act→World→Prop}{L:FL}{d:bO}{x:cO}
theorem St.aEz(t:St w0 R H w)(i:Nat)(hi:H[i]? =some (iF L d x)):Eh w L d x:=by
 obtain⟨F,h1,h2,_⟩:=t.chunk hi;exact aAo h1 h2
theorem Zz(i:Nat)(hi:H[i]? =some (iF L d x))(h:XK N w0 K e R (HP.aE L.gs 23 (nR x.saved)::HP.aE L.gn 23 (nR x.now)::HP.aE L.f 298 (Ky L d x.kept)::H.set i (HP.many [cJ,cJ,cJ,HP.bR (tX d L.A) (tX.le (d:=d) (A:=L.A))]))):XK N w0 K e R H:=by
 have hlt:=Az hi
 refine tC i 0 hi rfl ?_;refine tC (i+1) 1 (by rw[List.getElem?_cons_succ,List.getElem?_set_self hlt]) rfl ?_;refine tC (i+2) 2 (by simp[hlt];rfl) rfl ?_
 simpa[List.set_cons_succ,List.set_set] using h
theorem aAg(i:Nat)(hi:H[i]? =some (HP.many [cJ,cJ,cJ,HP.bR (tX d L.A) (tX.le (d:=d) (A:=L.A))]))(h:XK N w0 K e R (H.set i (iF L d x))):XK N w0 K e R (HP.aE L.gs 23 (nR x.saved)::HP.aE L.gn 23 (nR x.now)::HP.aE L.f 298 (Ky L d x.kept)::H):=by
 have hlt:=Az hi
 refine tD (i+2) 2 (by simpa using hi) rfl ?_;dsimp only[List.set];refine tD (i+1) 1 (by simp[hlt];rfl) rfl ?_;dsimp only[List.set];refine tD i 0 (by simp[hlt];rfl) rfl ?_
 simpa[List.set_set,iF] using h
end
theorem Vk(L:FL)(d:bO)(x:cO)(w:World)(hR:Eh w L d x):
  Cz 72 #[.pointer (some ⟨L.f,0,none⟩)] w (Rt (iv d.aO.length) w):=by
 have h0:=hR.r0.at_ (j:=0) rfl
 refine aM func72 ntmps72 ?_;refine aA ?_;exact cY
theorem aHa(p:Piece)(S:Nat→HP)(L:FL)(d:bO)(hrl:d.aO.length≤100)(f:FuncId)(hf:fI Tryz.prog f=true)(ca:List Value)
  (hread:∀i,i≤d.aO.length→∀w F,(S i).sat F w→(∀b,F b→b < w.heap.size)→∃x,Eh w L d x)
  (hstep:∀i r,d.aO[i]? =some r→∀w F,(S i).sat F w→(∀b,F b→b < w.heap.size)→p.Le ⟨w,fun b=>b < w.heap.size∧¬F b⟩→
   Cz f (([iv (i:Int),.agg r.cells.toArray]:List Value)++ca).toArray w (Wr (.tuple #[]) (S (i+1)) w F))
  (w:World) (F:Nat→Prop) (hp:(S 0).sat F w) (hF:∀b,F b→b < w.heap.size) (Hu:p.Le ⟨w,fun b=>b < w.heap.size∧¬F b⟩):
  Cz 188 #[.pointer (some ⟨L.f,0,none⟩),.func (.func f) #[] ca.toArray] w (Wr (.tuple #[]) (S d.aO.length) w F):=by
 have hfr:∀{i:Nat} {R:List Piece} {H:List HP} {w1:World},i≤d.aO.length→St w R (S i::H) w1→∃x,Eh w1 L d x:=fun hi t=>by
  obtain⟨G,g1,g2,_⟩:=t.chunk (i:=0) rfl;exact hread _ hi _ G g1 g2
 refine dJ func188 ntmps188 hp hF ?_;refine aA ?_
 refine aU (v:=iv d.aO.length) (fun w1 t=>by
  obtain⟨x,hx⟩:=hfr (Nat.zero_le _) t
  exact Vk L d x w1 hx) ?_
 refine aA ?_;refine bL [(7,iv 0),(6,iv d.aO.length),(1,.func (.func f) #[] ca.toArray),(0,.pointer (some ⟨L.f,0,none⟩))] ?_;refine eJ (fun m e R H=>∃i:Nat,i≤d.aO.length∧m=d.aO.length - i∧e=[(7,iv i),(6,iv d.aO.length),(1,.func (.func f) #[] ca.toArray),(0,.pointer (some ⟨L.f,0,none⟩))]∧R=[⟨w,fun b=>b < w.heap.size∧¬F b⟩]∧H=[S i]) d.aO.length ⟨0,by omega,rfl,rfl,rfl,rfl⟩ fun m e R H hI=>?_;obtain⟨i,hi,rfl,rfl,rfl,rfl⟩:=hI;refine aA ?_;refine aG rfl (fun hlt=>?_) (fun hge=>?_)
 ·have hlt:i < d.aO.length:=by omega
  obtain⟨r,hr⟩:=get_some hlt
  have hb0:∃b off,L.A=some ⟨b,off,none⟩:=by
   obtain⟨x,hx⟩:=hread 0 (Nat.zero_le _) w F hp hF;obtain⟨b,off,h,_⟩:=hx.made.2 (by omega);exact⟨b,off,h⟩
  obtain⟨b,off,hA⟩:=hb0
  have aDQ:Rd w [⟨w,fun b=>b < w.heap.size∧¬F b⟩] [S i] L.f 0 (.slice (some ⟨b,off,none⟩) d.aO.length L.c):=fun w1 t=>by
   obtain⟨x,hx⟩:=hfr hi t;rw[←hA];exact(hx.r0.at_ (j:=0) rfl).2
  have aUV:aQ w [⟨w,fun b=>b < w.heap.size∧¬F b⟩] [S i] b (off+i*2) r.cells:=fun w1 t=>by
   obtain⟨x,hx⟩:=hfr hi t;obtain⟨b',off',sC,hro⟩:=aI.row (rows:=d.aO.map Rg.cells) (by rw[←List.flatMap_def];exact hx.made) (fun r hr=>by obtain⟨q,_,rfl⟩:=List.mem_map.1 hr;rfl) (by rw[List.getElem?_map,hr];rfl) hlt;rw[hA] at sC;cases sC;exact hro.2
  refine aA ?_;refine kd (dat i (off+i*2)) ?_;refine aA ?_
  refine aFS 0 (fi:=[]) (ca:=ca) (vs:=[iv (i:Int),.agg r.cells.toArray]) (p:=S i) (S (i+1)) hf rfl rfl rfl ⟨(by decide),rfl⟩ (fun w1 G t hG yM hle=>by
   have hpl:=Piece.Le.trans Hu (hle _ (by simp))
   simpa using hstep i r hr w1 G hG yM hpl) ?_
  dsimp only[List.set];refine aA ?_;exact dZ (d.aO.length - (i+1)) ⟨i+1,hlt,rfl,rfl,rfl,rfl⟩
 ·obtain rfl:i=d.aO.length:=by omega
  refine aA ?_;exact kC 0 hF
end
section
def lF(vs old:List Int)(i:Nat):List Int:=vs.take i++old.drop i
theorem Vz(vs old:List Int):lF vs old 0=old:=by simp[lF]
theorem Wc{vs old:List Int}{n:Nat}(h1:vs.length=n)(h2:old.length=n):lF vs old n=vs:=by
 rw[lF,List.drop_eq_nil_of_le (by omega),List.append_nil,List.take_of_length_le (by omega)]
theorem Wb{vs old:List Int}{i n:Nat}(h1:vs.length=n)(h2:old.length=n)(hi:i≤n):(lF vs old i).length=n:=by simp[lF];omega
theorem Wa{vs old:List Int}{i:Nat}{v:Int}(h1:vs.length=old.length)(hv:vs[i]? =some v):(lF vs old i).set i v=lF vs old (i+1):=by
 have hi:=(List.getElem?_eq_some_iff.1 hv).1
 refine List.ext_getElem? fun j=>?_;rw[List.getElem?_set];unfold lF
 by_cases he:i=j
 ·subst he;rw[if_pos rfl,if_pos (by simp;omega),List.getElem?_append_left (by simp;omega),List.getElem?_take_of_lt (by omega),hv]
 ·rw[if_neg he];rcases Nat.lt_or_ge j i with hj | hj
  ·rw[List.getElem?_append_left (by simp;omega),List.getElem?_append_left (by simp;omega),List.getElem?_take_of_lt hj,List.getElem?_take_of_lt (by omega)]
  ·rw[List.getElem?_append_right (by simp;omega),List.getElem?_append_right (by simp;omega),List.getElem?_drop,List.getElem?_drop]
   congr 1
   simp;omega
theorem aOT{vs old:List Int}{i:Nat}{v:Int}(h1:vs.length=old.length)(hi:i < old.length)(hv:old[i]? =some v):(lF vs old i)[i]? =some v:=by
 rw[lF,List.getElem?_append_right (by simp;omega),List.getElem?_drop];simp only[List.length_take];rw[show i+(i - min i vs.length)=i by omega];exact hv
theorem aNw(p:Piece)(L:FL)(d:bO)(x:cO)(f:FuncId)(hf:fI Tryz.prog f=true)(ca:List Value)(g2 g3 i:Nat)(r:Rg)(v:Int)(hr:d.aO[i]? =some r)(Ft:x.now.length=d.aO.length)
  (h2:p.Z g2∧p.w.cell? ⟨g2,0,none⟩=some (.pointer (some ⟨L.f,0,none⟩))) (h3:p.Z g3∧p.w.cell? ⟨g3,0,none⟩=some (.func (.func f) #[] ca.toArray))
  (hw:∀w F,(iF L d x).sat F w→(∀b,F b→b < w.heap.size)→p.Le (all w)→Cz f (([iv (i:Int),.agg r.cells.toArray]:List Value)++ca).toArray w (Rt (.int .u32 v) w))
  (w:World) (F:Nat→Prop) (hp:(iF L d x).sat F w) (hF:∀b,F b→b < w.heap.size) (Hu:p.Le ⟨w,fun b=>b < w.heap.size∧¬F b⟩):
  Cz 233 #[iv (i:Int),.agg r.cells.toArray,pt g3,pt g2] w (Wr (.tuple #[]) (iF L d ⟨x.now.set i v,x.saved,x.kept⟩) w F):=by
 have hlt:=(List.getElem?_eq_some_iff.1 hr).1
 obtain⟨c2,e2⟩:=Hu g2 h2.1;obtain⟨c3,e3⟩:=Hu g3 h3.1
 have k2:w.cell? ⟨g2,0,none⟩=some (.pointer (some ⟨L.f,0,none⟩)):=(World.cell?_of_block (w:=p.w) e2).trans h2.2
 have k3:w.cell? ⟨g3,0,none⟩=some (.func (.func f) #[] ca.toArray):=(World.cell?_of_block (w:=p.w) e3).trans h3.2
 refine dJ func233 ntmps233 hp hF ?_;refine aA ?_;refine bA fun g1=>?_;refine aA ?_
 have r2:Rd w [⟨w,fun b=>b < w.heap.size∧¬F b⟩] [HP.aE g1 48 r.cells,iF L d x] g2 0 (.pointer (some ⟨L.f,0,none⟩)):=Rd.ro (List.mem_singleton.2 rfl) c2 k2
 have r3:Rd w [⟨w,fun b=>b < w.heap.size∧¬F b⟩] [HP.aE g1 48 r.cells,iF L d x] g3 0 (.func (.func f) #[] ca.toArray):=Rd.ro (List.mem_singleton.2 rfl) c3 k3
 have r4:Rd w [⟨w,fun b=>b < w.heap.size∧¬F b⟩] [HP.aE g1 48 r.cells,iF L d x] L.f 1 (.slice (some ⟨L.gn,0,none⟩) d.aO.length d.aO.length):=fun w1 t=>((t.aEz 1 rfl).r0.at_ (j:=1) rfl).2
 refine rL 9 (by kernel_rfl) (by kernel_rfl) ?_;refine bJ 0 ?_;refine bJ 1 ?_;refine bJ 2 ?_;refine bJ 3 ?_;refine bJ 4 ?_;refine bJ 5 ?_;refine bJ 6 ?_;refine bJ 7 ?_;refine cH 8 ?_
 refine aBg (fi:=[]) (ca:=ca) (vs:=[iv (i:Int),.agg r.cells.toArray]) (v:=.int .u32 v) (hf:=hf) (fun w1 t=>by
  obtain⟨G,g1',g2',g3',_⟩:=t.chunk (i:=1) rfl
  have hle:p.Le (all w1):=fun b hb=>by
   obtain⟨a1,a2⟩:=(Piece.Le.trans Hu (g3' _ (List.mem_singleton.2 rfl))) b hb;exact⟨a1.1,a2⟩
  simpa using hw w1 G g1' g2' hle) ?_
 refine nY ?_;refine cH 9 ?_;refine kd (dat i i) ?_;refine eZ ?_;refine cH 10 ?_;refine Zz 1 rfl ?_;dsimp only[List.set]
 have Ri:=aA7 x.now
 refine fD rfl rfl ?_;dsimp only[List.set];rw[aCJ];refine aAg (x:=⟨x.now.set i v,x.saved,x.kept⟩) 1 rfl ?_;refine eZ ?_;refine kH ?_;refine aA ?_;exact kC 1 hF
theorem aHb(L:FL)(d:bO)(x:cO)(hrl:d.aO.length≤100)(f:FuncId)(hf:fI Tryz.prog f=true)(ca:List Value)(p:Piece)(vs:List Int)(hvl:vs.length=d.aO.length)(Ft:x.now.length=d.aO.length)
  (hw:∀(i:Nat) (r:Rg) (v:Int),d.aO[i]? =some r→vs[i]? =some v→∀(now:List Int) w F,(iF L d ⟨now,x.saved,x.kept⟩).sat F w→(∀b,F b→b < w.heap.size)→p.Le (all w)→Cz f (([iv (i:Int),.agg r.cells.toArray]:List Value)++ca).toArray w (Rt (.int .u32 v) w))
  (w:World) (F:Nat→Prop) (hp:(iF L d x).sat F w) (hF:∀b,F b→b < w.heap.size) (Hu:p.Le ⟨w,fun b=>b < w.heap.size∧¬F b⟩):
  Cz 190 #[.pointer (some ⟨L.f,0,none⟩),.func (.func f) #[] ca.toArray] w (Wr (.tuple #[]) (iF L d ⟨vs,x.saved,x.kept⟩) w F):=by
 refine dJ func190 ntmps190 hp hF ?_;refine aA ?_;refine bA fun g2=>?_;refine bA fun g3=>?_;refine aA ?_;refine kS (vf:=[]) (vc:=[pt g3,pt g2]) rfl rfl (by decide) ?_;refine dP [⟨w,fun b=>b < w.heap.size∧¬F b⟩] [0,1] [2] (by simp) rfl (by decide) (by decide) fun q hq hLe _=>?_;obtain⟨F3,s3,z3⟩:=hq 0 _ (by simp) rfl;obtain⟨F2,s2,z2⟩:=hq 1 _ (by simp) rfl
 have hpq:p.Le q:=Piece.Le.trans Hu (hLe _ (by simp))
 refine dR 0 (iF L d ⟨vs,x.saved,x.kept⟩) (fun w1 G t hG yM hle=>by
  have key:=aHa q (fun i=>iF L d ⟨lF vs x.now i,x.saved,x.kept⟩) L d hrl 233 (by kernel_rfl) [pt g3,pt g2]
   (fun i _ w F h1 h2=>⟨_,aAo h1 h2⟩) (fun i r hr w2 F2' h1 h2 h3=>by
    have hlt:=(List.getElem?_eq_some_iff.1 hr).1
    obtain⟨v,hv⟩:=get_some (l:=vs) (i:=i) (by omega)
    have:=aNw q L d ⟨lF vs x.now i,x.saved,x.kept⟩ f hf ca g2 g3 i r v hr (Wb hvl Ft (by omega))
     ⟨z2 _ s2.1,by rw[s2.2.cell];rfl⟩ ⟨z3 _ s3.1,by rw[s3.2.cell];rfl⟩ (fun w3 F3 a1 a2 a3=>hw i r v hr hv _ w3 F3 a1 a2 (Piece.Le.trans hpq a3)) w2 F2' h1 h2 h3
    try dsimp only at this
    rw[Wa (by omega) hv] at this
    exact this) w1 G (by show(iF L d ⟨lF vs x.now 0,x.saved,x.kept⟩).sat G w1;rw[Vz];exact hG) yM (hle q (by simp))
  try dsimp only at key
  rw[Wc hvl Ft] at key
  exact key) ?_
 refine aA ?_;exact kC 0 hF
end
section
structure GL where
 t:Nat
 A:Option Addr
 c:Nat
def pZ(c:Dom)(x:fF):List Value:=[iv c.above,iv c.delay,.bool c.ret,.int .u8 x.phase,iv x.left,.bool x.kept,.bool x.keep]
def rK(s:aD)(st:List fF):List (List Value):=List.zipWith pZ s.domains st
abbrev wM(L:GL)(s:aD)(st:List fF):HP:=Pe 273 231 7 L.t L.A s.domains.length L.c (rK s st)
abbrev aKT(w:World)(L:GL)(s:aD)(st:List fF):Prop:=Eb w 7 L.t L.A s.domains.length L.c (rK s st)
section
variable{s:aD}{st:List fF}
theorem aBB(hok:vE s st):(rK s st).length=s.domains.length∧∀r∈rK s st,r.length=7:=by
 have:=hok.len
 refine⟨by simp[rK];omega,fun r hr=>?_⟩;obtain⟨j,hj⟩:=List.getElem?_of_mem hr;rw[rK,List.getElem?_zipWith] at hj;split at hj<;>cases hj
 rfl
theorem Lc{i:Nat}{c:Dom}{x:fF}(hc:s.domains[i]? =some c)(hx:st[i]? =some x):(rK s st)[i]? =some (pZ c x):=by
 rw[rK,List.getElem?_zipWith,hc,hx]
theorem aE4{i:Nat}{c:Dom}{x:fF}(hc:s.domains[i]? =some c)(hi:i < st.length):(rK s st).set i (pZ c x)=rK s (st.set i x):=by
 refine List.ext_getElem? fun j=>?_;rw[List.getElem?_set]
 by_cases he:i=j
 ·subst he;rw[if_pos rfl,Lc hc (x:=x) (by rw[List.getElem?_set_self hi])];rw[if_pos]
  have h1:=(List.getElem?_eq_some_iff.1 hc).1
  simp[rK];omega
 ·rw[if_neg he,rK,rK,List.getElem?_zipWith,List.getElem?_zipWith,List.getElem?_set_ne he]
end
theorem aDl(t n c b off i:Nat)(w:World)(h0:fQ w t 0 (.slice (some ⟨b,off,none⟩) n c))(hi:i < n):
  Cz 91 #[pt t,iv (i:Int)] w (Rt (.pointer (some ⟨b,off+i*7,none⟩)) w):=by
 refine aM func91 ntmps91 ?_;refine aA ?_;refine bQ (t:=11) rfl (fun h=>absurd h (by omega)) (fun _=>?_);refine aA ?_;refine aG rfl (fun h=>absurd h (by omega)) (fun _=>?_);refine aA ?_;refine kd (dat i (off+i*7)) ?_;refine aA ?_;exact cY
theorem aDk(t n c:Nat)(A:Option Addr)(i:Int)(w:World)(h0:fQ w t 0 (.slice A n c))(hi:bB n i=false):
  Cz 91 #[pt t,iv i] w (Rt (.pointer none) w):=by
 have hi:=of_decide_eq_false hi
 refine aM func91 ntmps91 ?_;refine aA ?_;refine bQ (t:=11) rfl (fun h=>?_) (fun h=>?_)
 ·refine aA ?_;exact cY
 ·refine aA ?_;refine aG rfl (fun h=>?_) (fun h=>absurd hi (by omega));refine aA ?_;exact cY
theorem aHp(g o:Nat)(p:Int)(w:World)(h3:fQ w g (o+3) (.int .u8 p)):
  Cz 239 #[.pointer (some ⟨g,o,none⟩)] w (Rt (.bool (decide (p=48∨p=116))) w):=by
 refine aM func239 ntmps239 ?_;refine aA ?_;refine bQ (t:=8) rfl (fun h=>?_) (fun h=>?_)
 ·refine aA ?_;refine kB (by simp) ?_;simp[h]
 ·refine aA ?_;refine kB (by simp) ?_;simp[h]
theorem aHo(L:GL)(s:aD)(st:List fF)(hok:vE s st)(d:Int)(w:World)(hR:aKT w L s st):
  Cz 42 #[.pointer (some ⟨L.t,0,none⟩),iv d] w (Rt (.int .u8 (rX st d)) w):=by
 have hl:=hok.len
 cases hi:bB s.domains.length d
 ·refine aM func42 ntmps42 ?_;refine aA ?_;refine aU (fun w1 t=>aDk L.t s.domains.length L.c L.A d w1 ((hR.below (t.below (by simp))).r0) hi) ?_;refine aA ?_;refine kB (by simp) ?_;simp[rX,hl,hi]
 ·obtain⟨n,rfl⟩:∃n:Nat,d=n:=⟨d.toNat,by have:=of_decide_eq_true hi;omega⟩
  have hlt:n < s.domains.length:=by have:=of_decide_eq_true hi;omega
  obtain⟨c,hc⟩:=get_some hlt;obtain⟨x,hx⟩:=get_some (l:=st) (i:=n) (by omega);obtain⟨b,off,hA,hro⟩:=hR.at_ (aBB hok).2 (Lc hc hx) hlt
  have h3:=hro.at_ (j:=3) rfl
  refine aM func42 ntmps42 ?_;refine aA ?_;refine aU (fun w1 t=>aDl L.t s.domains.length L.c b off n w1 (by rw[←hA];exact(hR.below (t.below (by simp))).r0) hlt) ?_;refine aA ?_;refine kB (by simp) ?_;simp[rX,hl,hi,hx]
theorem aNZ(L:GL)(s:aD)(st:List fF)(hH:s.dI)(hok:vE s st)(d:Int)(w:World)(F:Nat→Prop)(hp:(wM L s st).sat F w)(hF:∀b,F b→b < w.heap.size):
  Cz 223 #[.pointer (some ⟨L.t,0,none⟩),iv d] w (Wr (iv (uE s st d).1) (wM L s (uE s st d).2) w F):=by
 have hl:=hok.len
 cases hi:bB s.domains.length d
 ·have hr:uE s st d=(4,st):=by simp[uE,hl,hi]
  rw[hr];refine dJ func223 ntmps223 hp hF ?_;refine aA ?_;refine aU (fun w1 t=>aDk L.t s.domains.length L.c L.A d w1 ((t.aDa 0 rfl).r0) hi) ?_;refine aA ?_;exact cG 0 hF
 ·obtain⟨n,rfl⟩:∃n:Nat,d=n:=⟨d.toNat,by have:=of_decide_eq_true hi;omega⟩
  have hlt:n < s.domains.length:=by have:=of_decide_eq_true hi;omega
  obtain⟨c,hc⟩:=get_some hlt;obtain⟨x,hx⟩:=get_some (l:=st) (i:=n) (by omega);obtain⟨gB,iJ⟩:=aBB hok
  have mX:uE s st (n:Int)=if Lb x=false∨On st c.above=false then(6,st) else(0,st.set n ⟨114,c.delay,decide (x.phase=116),x.keep⟩):=by
   simp[uE,hl,hi,hc,hx]
  obtain⟨hfa,_,_⟩:=hH.domains n c hc;refine dJ func223 ntmps223 hp hF ?_;refine aFc 0 rfl (by omega) fun g cs hA h1 h2 h3 h4=>?_;dsimp only[List.set]
  have hs:=Ik h2 gB iJ (Lc hc hx)
  have hlen:n*7+7≤cs.length:=by omega
  have hs1:=hs.set 5 (.bool (decide (x.phase=116))) (by simp[pZ]) (by omega)
  have fW:=hs1.set 3 (.int .u8 114) (by simp[pZ]) (by simp;omega)
  have sA:=fW.set 4 (iv c.delay) (by simp[pZ]) (by simp;omega)
  have hu3:=(((wF.refl cs (n*7) 7).set 5 (.bool (decide (x.phase=116))) (by decide)).set 3 (.int .u8 114) (by decide)).set 4 (iv c.delay) (by decide)
  have hf:=Gc (r':=pZ c ⟨114,c.delay,decide (x.phase=116),x.keep⟩) h2 gB iJ hlt (by omega) rfl sA hu3
  rw[aE4 hc (by omega)] at hf;refine aA ?_;refine aU (fun w1 t=>aDl L.t s.domains.length L.c g 0 n w1 ((t.box (i:=1) rfl).at_ (j:=0) rfl) hlt) ?_;rw[Nat.zero_add];refine aA ?_;refine mL ?_;refine jA ?_;refine tT (fun w1 t=>aHp g (n*7) x.phase w1 ⟨(t.aE (i:=0) rfl).lt,Rd.sub 0 3 rfl hs rfl rfl w1 t⟩) ?_;refine jA ?_;refine Oo 14 rfl (fun hd=>?_) (fun hd=>?_)
  ·rw[mX,if_pos (.inl (decide_eq_false hd))];refine jB ?_;refine aA ?_;refine Je 0 hA h1 h2 h3 h4 rfl ?_;exact cG 0 hF
  ·have hdn:Lb x=true:=decide_eq_true (Classical.not_not.1 hd)
   refine jA ?_;refine Oo 21 rfl (fun ha=>?_) (fun ha=>?_)
   ·obtain⟨a,vY,vV⟩:∃a:Nat,c.above=a∧a < n:=⟨c.above.toNat,by omega,by omega⟩
    obtain⟨ca,hca⟩:=get_some (l:=s.domains) (i:=a) (by omega);obtain⟨xa,hxa⟩:=get_some (l:=st) (i:=a) (by omega)
    have hsa:=Ik h2 gB iJ (Lc hca hxa)
    refine jA ?_;refine xH (dat a (a*7)) ?_;refine jB ?_
    have hal:On st c.above=decide (xa.phase=49):=by
     unfold On;rw[vY,Int.toNat_natCast,hxa]
     first | (simp;done) | (simp;omega)
    refine aG rfl (fun h=>?_) (fun h=>?_)
    ·rw[mX,if_pos (.inr (by rw[hal];exact decide_eq_false h))];refine aA ?_;refine Je 0 hA h1 h2 h3 h4 rfl ?_;exact cG 0 hF
    ·rw[mX,if_neg (by rw[hal,hdn];simp;exact Classical.not_not.1 h)];refine aA ?_;refine Je 0 hA (by simpa using h1) hf h3 h4 rfl ?_;exact cG 0 hF
   ·have ha:=Classical.not_not.1 ha
    rw[mX,if_neg (by rw[hdn];simp[On,ha])];refine jB ?_;refine aA ?_;refine Je 0 hA (by simpa using h1) hf h3 h4 rfl ?_;exact cG 0 hF
end
section
theorem aQD{s:aD}{st:List fF}{d:Int}(h:∀(j:Nat) (c:Dom) (x:fF),s.domains[j]? =some c→st[j]? =some x→Ic d c x=false):Fy s st d=false:=by
 unfold Fy;rw[List.any_eq_false];intro b hb;obtain⟨j,hj⟩:=List.getElem?_of_mem hb;rw[List.getElem?_zipWith] at hj;cases hc:s.domains[j]? with
 | none=>rw[hc] at hj;cases hj
 | some c =>
  cases hx:st[j]? with
  | none=>rw[hc,hx] at hj;cases hj
  | some x=>
   rw[hc,hx] at hj;cases hj;rw[h j c x hc hx];decide
theorem aQC{s:aD}{st:List fF}{d:Int}{j:Nat}{c:Dom}{x:fF}(hc:s.domains[j]? =some c)(hx:st[j]? =some x)(h:Ic d c x=true):Fy s st d=true:=by
 unfold Fy;rw[List.any_eq_true];exact⟨Ic d c x,List.mem_of_getElem? (i:=j) (by rw[List.getElem?_zipWith,hc,hx]),h⟩
theorem aOe(L:GL)(s:aD)(st:List fF)(hok:vE s st)(hnd:s.domains.length≤1000)(d:Int)(keep:Bool)(w:World)(F:Nat→Prop)(hp:(wM L s st).sat F w)(hF:∀b,F b→b < w.heap.size):
  Cz 227 #[.pointer (some ⟨L.t,0,none⟩),iv d,.bool keep] w (Wr (iv (wA s st d keep).1) (wM L s (wA s st d keep).2) w F):=by
 have hl:=hok.len
 cases hi:bB s.domains.length d
 ·have hr:wA s st d keep=(4,st):=by simp[wA,hl,hi]
  rw[hr];refine dJ func227 ntmps227 hp hF ?_;refine aB ?_;refine aU (fun w1 t=>aDk L.t s.domains.length L.c L.A d w1 ((t.aDa 0 rfl).r0) hi) ?_;refine aB ?_;exact cG 0 hF
 ·obtain⟨n,rfl⟩:∃n:Nat,d=n:=⟨d.toNat,by have:=of_decide_eq_true hi;omega⟩
  have hlt:n < s.domains.length:=by have:=of_decide_eq_true hi;omega
  obtain⟨c,hc⟩:=get_some hlt;obtain⟨x,hx⟩:=get_some (l:=st) (i:=n) (by omega);obtain⟨gB,iJ⟩:=aBB hok
  have hdn:wA s st (n:Int) keep=if x.phase≠49 then(6,st) else if keep=true∧c.ret=false then(1,st) else if Fy s st n then(7,st) else(0,st.set n ⟨99,x.left,x.kept,keep⟩):=by
   simp[wA,hl,hi,hc,hx]
  refine dJ func227 ntmps227 hp hF ?_;refine aFc 0 rfl (by omega) fun g cs hA h1 h2 h3 h4=>?_;dsimp only[List.set]
  have hs:=Ik h2 gB iJ (Lc hc hx)
  have hlen:n*7+7≤cs.length:=by omega
  have hs1:=hs.set 3 (.int .u8 99) (by simp[pZ]) (by omega)
  have fW:=hs1.set 6 (.bool keep) (by simp[pZ]) (by simp;omega)
  have hu2:=((wF.refl cs (n*7) 7).set 3 (.int .u8 99) (by decide)).set 6 (.bool keep) (by decide)
  have hf:=Gc (r':=pZ c ⟨99,x.left,x.kept,keep⟩) h2 gB iJ hlt (by omega) rfl fW hu2
  rw[aE4 hc (by omega)] at hf;refine aB ?_;refine aU (fun w1 t=>aDl L.t s.domains.length L.c g 0 n w1 ((t.box (i:=1) rfl).at_ (j:=0) rfl) hlt) ?_;rw[Nat.zero_add];refine aB ?_;refine aG rfl (fun pH=>?_) (fun pH=>?_)
  ·rw[hdn,if_pos pH];refine aB ?_;refine Je 0 hA h1 h2 h3 h4 rfl ?_;exact cG 0 hF
  rw[if_neg pH] at hdn;refine mA ?_;refine dS ?_;refine cP ?_;refine aAf 27 (keep=true∧c.ret=false) ?_ ?_
  ·cases keep
   ·refine aA ?_;exact Tk
   ·refine aA ?_;cases hrt:c.ret<;>exact Tk
  refine aG rfl (fun hk=>?_) (fun hk=>?_)
  ·rw[hdn,if_pos hk];refine aB ?_;refine Je 0 hA h1 h2 h3 h4 rfl ?_;exact cG 0 hF
  rw[if_neg hk] at hdn;refine aB ?_;refine bL [(33,iv 0),(32,iv s.domains.length),(7,.pointer (some ⟨g,n*7,none⟩)),(2,.bool keep),(1,iv n),(0,.pointer (some ⟨L.t,0,none⟩))] ?_;refine eJ (fun m e R H=>∃i:Nat,i≤s.domains.length∧(∀(j:Nat) (c:Dom) (x:fF),j < i→s.domains[j]? =some c→st[j]? =some x→Ic n c x=false)∧m=s.domains.length - i∧e=[(33,iv i),(32,iv s.domains.length),(7,.pointer (some ⟨g,n*7,none⟩)),(2,.bool keep),(1,iv n),(0,.pointer (some ⟨L.t,0,none⟩))]∧R=[⟨w,fun b=>b < w.heap.size∧¬F b⟩]∧H=[HP.aE g 231 cs,HP.aE L.t 273 [.slice (some ⟨g,0,none⟩) s.domains.length L.c],HP.many [cJ,cJ]]) s.domains.length ⟨0,by omega,fun j _ _ hj=>by omega,rfl,rfl,rfl,rfl⟩ fun m e R H hI=>?_;obtain⟨i,hi2,hno,rfl,rfl,rfl,rfl⟩:=hI;refine aB ?_;refine aG rfl (fun vV=>?_) (fun hge=>?_)
  ·have vV:i < s.domains.length:=by omega
   obtain⟨ci,sB⟩:=get_some vV;obtain⟨xi,hxi⟩:=get_some (l:=st) (i:=i) (by omega)
   have hsi:=Ik h2 gB iJ (Lc sB hxi)
   clear hs1 fW;refine aA ?_;refine kd (dat i (i*7)) ?_;refine aB ?_;refine bQ (t:=47) rfl (fun ha=>?_) (fun ha=>?_)
   ·refine aA ?_;refine kd (dat i (i*7)) ?_;refine aB ?_;refine aU (fun w1 t=>aHp g (i*7) xi.phase w1 ⟨(t.aE (i:=0) rfl).lt,Rd.sub 0 3 rfl hsi rfl rfl w1 t⟩) ?_;refine aB ?_;refine aG rfl (fun hd=>?_) (fun hd=>?_)
    ·have hh:Fy s st n=true:=aQC sB hxi (by simp[Ic,ha,Lb];simpa using hd)
     rw[hdn,if_pos hh];refine aB ?_;refine Je 0 hA h1 h2 h3 h4 rfl ?_;exact cG 0 hF
    ·refine aB ?_;refine bL [(33,iv (i+1:Nat)),(32,iv s.domains.length),(7,.pointer (some ⟨g,n*7,none⟩)),(2,.bool keep),(1,iv n),(0,.pointer (some ⟨L.t,0,none⟩))] ?_;refine iD (s.domains.length - (i+1)) (by omega) ⟨i+1,vV,fun j c x hj Fw yH=>?_,rfl,rfl,rfl,rfl⟩;rcases Nat.lt_or_ge j i with h | h
     ·exact hno j c x h Fw yH
     ·obtain rfl:j=i:=by omega
      rw[sB] at Fw;rw[hxi] at yH;cases Fw;cases yH
      have hd:=Classical.not_not.1 hd
      simp[Ic,Lb,hd]
   ·refine aB ?_;refine bL [(33,iv (i+1:Nat)),(32,iv s.domains.length),(7,.pointer (some ⟨g,n*7,none⟩)),(2,.bool keep),(1,iv n),(0,.pointer (some ⟨L.t,0,none⟩))] ?_;refine iD (s.domains.length - (i+1)) (by omega) ⟨i+1,vV,fun j c x hj Fw yH=>?_,rfl,rfl,rfl,rfl⟩;rcases Nat.lt_or_ge j i with h | h
    ·exact hno j c x h Fw yH
    ·obtain rfl:j=i:=by omega
     rw[sB] at Fw;rw[hxi] at yH;cases Fw;cases yH;simp[Ic,ha]
  ·obtain rfl:i=s.domains.length:=by omega
   have hh:Fy s st n=false:=aQD fun j c x Fw yH=>hno j c x (List.getElem?_eq_some_iff.1 Fw).1 Fw yH
   rw[hdn,if_neg (by rw[hh];decide)];refine aB ?_;refine Je 0 hA (by simpa using h1) hf h3 h4 rfl ?_;exact cG 0 hF
def oA(cs:List Value)(o:Nat)(x:fF):List Value:=
 if x.phase=114 then(if 0 < x.left then cs.set (o+4) (iv (x.left - 1)) else cs.set (o+3) (.int .u8 104))
 else if x.phase=104 then cs.set (o+3) (.int .u8 49)
 else if x.phase=99 then cs.set (o+3) (.int .u8 (if x.keep then 116 else 48)) else cs
theorem aLU{cs:List Value}{o:Nat}{c:Dom}{x:fF}(h:Sub cs o (pZ c x))(hl:o+7≤cs.length):Sub (oA cs o x) o (pZ c (fV x).2)∧wF cs (oA cs o x) o 7:=by
 have hu:=wF.refl cs o 7
 obtain⟨ph,left,kept,keep⟩:=x
 by_cases h1:ph=114
 ·subst h1
  by_cases h2:0 < left
  ·simp only[oA,fV,if_pos h2,if_true];exact⟨h.set 4 (iv (left - 1)) (by simp[pZ]) (by omega),hu.set 4 _ (by decide)⟩
  ·simp only[oA,fV,if_neg h2,if_true];exact⟨h.set 3 (.int .u8 104) (by simp[pZ]) (by omega),hu.set 3 _ (by decide)⟩
 ·by_cases h2:ph=104
  ·simp only[oA,fV,if_neg h1,if_pos h2];exact⟨h.set 3 (.int .u8 49) (by simp[pZ]) (by omega),hu.set 3 _ (by decide)⟩
  ·by_cases h3:ph=99
   ·simp only[oA,fV,if_neg h1,if_neg h2,if_pos h3];cases keep
    ·exact⟨h.set 3 (.int .u8 48) (by simp[pZ]) (by omega),hu.set 3 _ (by decide)⟩
    ·exact⟨h.set 3 (.int .u8 116) (by simp[pZ]) (by omega),hu.set 3 _ (by decide)⟩
   ·simp only[oA,fV,if_neg h1,if_neg h2,if_neg h3];exact⟨h,hu⟩
theorem aOb(g o:Nat)(cs:List Value)(c:Dom)(x:fF)(hs:Sub cs o (pZ c x))(hlen:o+7≤cs.length)(hx:0≤x.left∧x.left≤3)(w:World)(F:Nat→Prop)(hp:(HP.aE g 231 cs).sat F w)(hF:∀b,F b→b < w.heap.size):
  Cz 112 #[.pointer (some ⟨g,o,none⟩)] w (Wr (.int .u8 (fV x).1) (HP.aE g 231 (oA cs o x)) w F):=by
 refine dJ func112 ntmps112 hp hF ?_;obtain⟨ph,left,kept,keep⟩:=x;dsimp only at hx;dsimp only[pZ] at hs;refine aA ?_;refine aG rfl (fun h=>?_) (fun h=>?_)
 ·subst h;refine aA ?_;refine aG rfl (fun hp=>?_) (fun hp=>?_)
  ·refine aA ?_;refine mZ rfl rfl fun w1 t=>⟨by simp[fV,oA,hp,if_true],?_⟩
   simp only[fV,oA,if_pos hp,if_true];exact t.turns hF (by simp) (i:=0) rfl
  ·have hs1:=hs.set 3 (.int .u8 104) (by simp) (by omega)
   refine aA ?_;refine qD rfl (fun hk=>?_) (fun hk=>?_)
   ·refine aA ?_;refine mZ rfl rfl fun w1 t=>⟨by simp[fV,oA,hp,if_true,hk],?_⟩
    simp only[fV,oA,if_neg hp,if_true,hk];exact t.turns hF (by simp) (i:=0) rfl
   ·refine aA ?_;refine mZ rfl rfl fun w1 t=>⟨by simp[fV,oA,hp,if_true,hk],?_⟩
    simp only[fV,oA,if_neg hp,if_true,hk];exact t.turns hF (by simp) (i:=0) rfl
 ·refine aA ?_;refine aG rfl (fun h2=>?_) (fun h2=>?_)
  ·refine aA ?_;refine mZ rfl rfl fun w1 t=>⟨by simp[fV,oA,h,h2],?_⟩
   simp only[fV,oA,if_neg h,if_pos h2];exact t.turns hF (by simp) (i:=0) rfl
  ·refine aA ?_;refine aG rfl (fun h3=>?_) (fun h3=>?_)
   ·refine aA ?_;refine qD rfl (fun hk=>?_) (fun hk=>?_)
    ·refine aA ?_;refine mZ rfl rfl fun w1 t=>⟨by simp[fV,oA,h,h2,h3,hk,if_true],?_⟩
     simp only[fV,oA,if_neg h,if_neg h2,if_pos h3,hk,if_true];exact t.turns hF (by simp) (i:=0) rfl
    ·refine aA ?_;refine mZ rfl rfl fun w1 t=>⟨by simp[fV,oA,h,h2,h3,hk],?_⟩
     simp only[fV,oA,if_neg h,if_neg h2,if_pos h3,hk];exact t.turns hF (by simp) (i:=0) rfl
   ·refine aA ?_;refine mZ rfl rfl fun w1 t=>⟨by simp[fV,oA,h,h2,h3],?_⟩
    simp only[fV,oA,if_neg h,if_neg h2,if_neg h3];exact t.turns hF (by simp) (i:=0) rfl
theorem aG1{α:Type}{l:List α}{i:Nat}{x:α}(h:l[i]? =some x):l.set i x=l:=by
 refine List.ext_getElem? fun j=>?_;rw[List.getElem?_set]
 by_cases he:i=j
 ·subst he;rw[if_pos rfl,if_pos (List.getElem?_eq_some_iff.1 h).1,h]
 ·rw[if_neg he]
def Hi(st:List fF)(i:Nat):List fF:=(oU st).take i++st.drop i
theorem aDx{α:Type}(f:α→α)(st:List α){i:Nat}(hi:i < st.length):((st.map f).take i++st.drop i)[i]? =st[i]? :=by
 have:((st.map f).take i).length=i:=by simp;omega
 rw[List.getElem?_append_right (by omega),this,Nat.sub_self,List.getElem?_drop,Nat.add_zero]
theorem aDw{α:Type}(f:α→α)(st:List α){i:Nat}{x:α}(hx:st[i]? =some x):((st.map f).take i++st.drop i).set i (f x)=(st.map f).take (i+1)++st.drop (i+1):=by
 have hi:=(List.getElem?_eq_some_iff.1 hx).1
 refine List.ext_getElem? fun j=>?_;rw[List.getElem?_set]
 by_cases he:i=j
 ·subst he;rw[if_pos rfl,if_pos (by simp;omega),List.getElem?_append_left (by simp;omega),List.getElem?_take_of_lt (by omega),List.getElem?_map,hx];rfl
 ·rw[if_neg he];rcases Nat.lt_or_ge j i with hj | hj
  ·rw[List.getElem?_append_left (by simp;omega),List.getElem?_append_left (by simp;omega),List.getElem?_take_of_lt hj,List.getElem?_take_of_lt (by omega)]
  ·rw[List.getElem?_append_right (by simp;omega),List.getElem?_append_right (by simp;omega),List.getElem?_drop,List.getElem?_drop]
   congr 1
   simp;omega
theorem aGn{x:fF}(hl:0≤x.left∧x.left≤3)(hp:0≤x.phase∧x.phase < 256):(0≤(fV x).2.left∧(fV x).2.left≤3)∧(0≤(fV x).2.phase∧(fV x).2.phase < 256):=by
 unfold fV
 repeat' split
 all_goals(dsimp only;constructor<;>omega)
theorem aCN{s:aD}{st:List fF}(hok:vE s st):vE s (oU st):=by
 have hl:=hok.len
 refine⟨by simp[oU];omega,fun x hx=>?_,fun x hx=>?_⟩
 ·obtain⟨y,hy,rfl⟩:=List.mem_map.1 hx;exact(aGn (hok.left y hy) (hok.phase y hy)).1
 ·obtain⟨y,hy,rfl⟩:=List.mem_map.1 hx;exact(aGn (hok.left y hy) (hok.phase y hy)).2
theorem aOV{s:aD}{st:List fF}(hok:vE s st){i:Nat}(hi:i≤s.domains.length):vE s (Hi st i):=by
 have hl:=hok.len
 have ht:=aCN hok
 refine⟨by simp[Hi,oU];omega,fun x hx=>?_,fun x hx=>?_⟩
 ·rcases List.mem_append.1 hx with h | h
  ·exact ht.left x (List.mem_of_mem_take h)
  ·exact hok.left x (List.mem_of_mem_drop h)
 ·rcases List.mem_append.1 hx with h | h
  ·exact ht.phase x (List.mem_of_mem_take h)
  ·exact hok.phase x (List.mem_of_mem_drop h)
def Gf(p:Int×Nat):List Value:=[.int .u8 p.1,iv (p.2:Int)]
theorem aJa(st:List fF)(n:Nat):(lY st n).length≤n:=by
 unfold lY;exact Nat.le_trans (List.length_filterMap_le _ _) (by simp)
theorem aRA{st:List fF}{i:Nat}{x:fF}(hx:st[i]? =some x):lY st (i+1)=lY st i++(if(fV x).1=0 then[] else[((fV x).1,i)]):=by
 unfold lY;rw[List.range_succ,List.filterMap_append];simp only[List.filterMap_cons,List.filterMap_nil,hx,Option.bind_some]
 by_cases h:(fV x).1=0<;>simp[h]
theorem aOa(L:GL)(s:aD)(st:List fF)(hok:vE s st)(hnd:s.domains.length≤1000)(w:World)(F:Nat→Prop)(hp:(wM L s st).sat F w)(hF:∀b,F b→b < w.heap.size):
  Cz 59 #[.pointer (some ⟨L.t,0,none⟩)] w (fun y w'=>∃a:Option Addr×Nat,y=.returned (.slice a.1 (lY st s.domains.length).length a.2)∧True∧∃F',(HP.many [wM L s (oU st),HP.own 151 2 (.slice a.1 (lY st s.domains.length).length a.2) (lY st s.domains.length).length ((lY st s.domains.length).flatMap Gf)]).sat F' w'∧gX w w' F F'):=by
 have hl:=hok.len
 refine dJ func59 ntmps59 hp hF ?_
 have aDQ:Rd w [⟨w,fun b=>b < w.heap.size∧¬F b⟩] [wM L s st] L.t 0 (.slice L.A s.domains.length L.c):=Rd.row 0 rfl
 refine aA ?_;refine iN 151 2 ?_;refine bL [(13,iv 0),(12,iv s.domains.length),(3,sn),(0,.pointer (some ⟨L.t,0,none⟩))] ?_;refine eJ (fun m e R H=>∃(i:Nat) (A:Option Addr) (k:Nat),i≤s.domains.length∧m=s.domains.length - i∧e=[(13,iv i),(12,iv s.domains.length),(3,.slice A (lY st i).length k),(0,.pointer (some ⟨L.t,0,none⟩))]∧R=[⟨w,fun b=>b < w.heap.size∧¬F b⟩]∧H=[HP.own 151 2 (.slice A (lY st i).length k) (lY st i).length ((lY st i).flatMap Gf),wM L s (Hi st i)]) s.domains.length ⟨0,none,0,by omega,rfl,rfl,rfl,by simp[Hi,lY]⟩ fun m e R H hI=>?_;obtain⟨i,A,k,hi,rfl,rfl,rfl,rfl⟩:=hI;refine aA ?_;refine aG rfl (fun hlt=>?_) (fun hge=>?_)
 ·have hlt:i < s.domains.length:=by omega
  obtain⟨c,hc⟩:=get_some hlt;obtain⟨x,hx⟩:=get_some (l:=st) (i:=i) (by omega)
  have Nj:(Hi st i)[i]? =some x:=by rw[Hi,oU,aDx _ st (by omega)];exact hx
  have Dc:=aOV hok hi
  obtain⟨gB,iJ⟩:=aBB Dc
  have hel:=aJa st i
  refine aFc 1 rfl (by omega) fun g cs hA h1 h2 h3 h4=>?_;dsimp only[List.set]
  have hs:=Ik h2 gB iJ (Lc hc Nj)
  obtain⟨hs1,vS⟩:=aLU hs (by omega)
  have hf:=Gc (r':=pZ c (fV x).2) h2 gB iJ hlt (by omega) rfl hs1 vS
  rw[aE4 hc (by have:=Dc.len;omega),Hi,oU,aDw (fun x=>(fV x).2) st hx] at hf;refine aA ?_;refine kd (dat i (i*7)) ?_;refine Ul 0 (fi:=[]) (ca:=[]) (p:=HP.aE g 231 cs) (HP.aE g 231 (oA cs (i*7) x)) (by kernel_rfl) rfl rfl rfl ⟨(by decide),rfl⟩ (fun w1 G t hG yM=>aOb g (i*7) cs c x hs (by omega) (hok.left x (List.mem_of_getElem? hx)) w1 G hG yM) ?_;dsimp only[List.set]
  have nV:(oA cs (i*7) x).length=L.c*7:=by rw[vS.1,h1]
  refine Je 1 hA nV hf h3 h4 rfl ?_;dsimp only[List.set]
  have dW:=aRA hx
  refine aA ?_;refine aG rfl (fun hz=>?_) (fun hz=>?_)
  ·rw[if_neg hz] at dW;refine aB ?_;refine eK fun g2=>?_;refine gJ 1 2 16 1 (el:=151) (by kernel_rfl) (by kernel_rfl) (by decide) rfl rfl rfl (nS 0 rfl rfl) (by simp[Value.oneCell']) rfl (by omega) (by omega) (by decide) fun A' k'=>?_;dsimp only[List.set];refine aA ?_
   have e1:(lY st (i+1)).length=(lY st i).length+1:=by rw[dW];simp
   have e2:(lY st (i+1)).flatMap Gf=(lY st i).flatMap Gf++[.int .u8 (fV x).1,iv (i:Int)]:=by rw[dW,List.flatMap_append];rfl
   refine aY [1,2] rfl (by decide) (fun _ h=>h) ?_;refine bL [(13,iv (i+1:Nat)),(12,iv s.domains.length),(3,.slice A' ((lY st i).length+1) k'),(0,.pointer (some ⟨L.t,0,none⟩))] ?_;exact iD (s.domains.length - (i+1)) (by omega) ⟨i+1,A',k',hlt,rfl,by rw[e1],rfl,by rw[e1,e2];rfl⟩
  ·have hz:=Classical.not_not.1 hz
   rw[if_pos hz,List.append_nil] at dW;refine aA ?_;refine bL [(13,iv (i+1:Nat)),(12,iv s.domains.length),(3,.slice A (lY st i).length k),(0,.pointer (some ⟨L.t,0,none⟩))] ?_;refine iD (s.domains.length - (i+1)) (by omega) ⟨i+1,A,k,hlt,rfl,by rw[dW],rfl,by rw[dW];rfl⟩
 ·obtain rfl:i=s.domains.length:=by omega
  have xA:Hi st s.domains.length=oU st:=by
   rw[Hi,List.drop_eq_nil_of_le (by omega),List.append_nil,List.take_of_length_le (by simp[oU];omega)]
  rw[xA];refine aA ?_;refine aY [1,0] rfl (by decide) (fun _ h=>h) ?_;refine nA ?_;exact mZ rfl rfl fun w1 t=>⟨(A,k),rfl,trivial,t.turns hF (by simp) (i:=0) rfl⟩
end
section
theorem aRE(w:World)(q:Piece):(⟨w,fun _=>False⟩:Piece).Le q:=fun _ h=>h.elim
theorem aSX(i:Nat)(r:Rg)(w:World):
  Cz 192 #[iv (i:Int),.agg r.cells.toArray] w (Rt (.int .u32 r.reset) w):=by
 refine aM func192 ntmps192 ?_;refine aA ?_;refine bA fun g1=>?_;dsimp only[Value.cells,Rg.cells];refine aA ?_;exact cY
theorem aAM(L:FL)(d:bO)(x:cO)(hrl:d.aO.length≤100)(hok:zG d x)(w:World)(F:Nat→Prop)(hp:(iF L d x).sat F w)(hF:∀b,F b→b < w.heap.size):
  Cz 115 #[.pointer (some ⟨L.f,0,none⟩)] w (Wr (.tuple #[]) (iF L d (Gk d x)) w F):=by
 refine dJ func115 ntmps115 hp hF ?_;refine aA ?_
 refine dR 0 (iF L d ⟨d.aO.map (·.reset),x.saved,x.kept⟩) (fun w1 G t hG yM hle=>by
  have:=aHb L d x hrl 192 (by kernel_rfl) [] ⟨w1,fun _=>False⟩ (d.aO.map (·.reset)) (by simp) hok.now (fun i r v hr hv now w2 F2 _ _ _=>by
   rw[List.getElem?_map,hr] at hv;cases hv
   exact aSX i r w2) w1 G hG yM (aRE _ _)
  exact this) ?_
 refine Zz 0 rfl ?_;dsimp only[List.set,Ky];refine aA ?_;refine aAg (x:=Gk d x) 0 rfl ?_;exact kC 0 hF
theorem aNo(L:FL)(d:bO)(x:cO)(g1 i:Nat)(r:Rg)(v:Int)(hr:d.aO[i]? =some r)(hv:x.saved[i]? =some v)(w:World)(hR:Eh w L d x)(h1:fQ w g1 0 (.pointer (some ⟨L.f,0,none⟩))):
  Cz 191 #[iv (i:Int),.agg r.cells.toArray,pt g1] w (Rt (.int .u32 (aAK x.kept r v)) w):=by
 have hlt:=(List.getElem?_eq_some_iff.1 hr).1
 have k3:=hR.r0.at_ (j:=3) rfl
 have k2:=hR.r0.at_ (j:=2) rfl
 have kv:=hR.saved.at_ (aCK hv)
 rw[Nat.zero_add] at kv;obtain⟨rs,kp⟩:=r;cases hk:x.kept
 ·rw[hk] at k3;refine aM func191 ntmps191 ?_;refine aA ?_;refine bA fun g2=>?_;dsimp only[Value.cells,Rg.cells];refine aA ?_;exact cY
 ·rw[hk] at k3;cases kp
  ·refine aM func191 ntmps191 ?_;refine aA ?_;refine bA fun g2=>?_;dsimp only[Value.cells,Rg.cells];refine aA ?_;exact cY
  ·refine aM func191 ntmps191 ?_;refine aA ?_;refine bA fun g2=>?_;dsimp only[Value.cells,Rg.cells];refine aB ?_;exact cY
theorem aNt(L:FL)(d:bO)(x:cO)(hrl:d.aO.length≤100)(hok:zG d x)(w:World)(F:Nat→Prop)(hp:(iF L d x).sat F w)(hF:∀b,F b→b < w.heap.size):
  Cz 114 #[.pointer (some ⟨L.f,0,none⟩)] w (Wr (.tuple #[]) (iF L d (Jt d x)) w F):=by
 have qN:=hok.saved
 refine dJ func114 ntmps114 hp hF ?_;refine aA ?_;refine bA fun g1=>?_;refine aA ?_;refine kS (vf:=[]) (vc:=[pt g1]) rfl rfl (by decide) ?_;refine dP [⟨w,fun b=>b < w.heap.size∧¬F b⟩] [0] [1] (by simp) rfl (by decide) (by decide) fun q hq hLe _=>?_;obtain⟨F1,s1,z1⟩:=hq 0 _ (by simp) rfl
 refine dR 0 (iF L d (Jt d x)) (fun w1 G t hG yM hle=>by
  have:=aHb L d x hrl 191 (by kernel_rfl) [pt g1] q (Jt d x).now (by simp[Jt];omega) hok.now (fun i r v hr hv now w2 F2 a1 a2 a3=>by
   have hlt:=(List.getElem?_eq_some_iff.1 hr).1
   obtain⟨u,hu⟩:=get_some (l:=x.saved) (i:=i) (by omega)
   have he:v=aAK x.kept r u:=by
    rw[Jt,List.getElem?_zipWith,hr,hu] at hv;cases hv;rfl
   subst he;obtain⟨b1,b2⟩:=a3 g1 (z1 _ s1.1)
   exact aNo L d ⟨now,x.saved,x.kept⟩ g1 i r u hr hu w2 (aAo a1 a2) ⟨b1,(World.cell?_of_block (w:=q.w) b2).trans (by rw[s1.2.cell];rfl)⟩) w1 G hG yM (hle q (by simp))
  exact this) ?_
 refine aA ?_;exact kC 0 hF
theorem aM0(p:Piece)(L:FL)(d:bO)(x:cO)(g1 i:Nat)(r:Rg)(v u:Int)(hr:d.aO[i]? =some r)(hv:x.now[i]? =some v)(hu:x.saved[i]? =some u)(Ft:x.saved.length=d.aO.length)
  (h1:p.Z g1∧p.w.cell? ⟨g1,0,none⟩=some (.pointer (some ⟨L.f,0,none⟩))) (w:World) (F:Nat→Prop) (hp:(iF L d x).sat F w) (hF:∀b,F b→b < w.heap.size) (Hu:p.Le ⟨w,fun b=>b < w.heap.size∧¬F b⟩):
  Cz 189 #[iv (i:Int),.agg r.cells.toArray,pt g1] w (Wr (.tuple #[]) (iF L d ⟨x.now,x.saved.set i (Ml r (v,u)),x.kept⟩) w F):=by
 have hlt:=(List.getElem?_eq_some_iff.1 hr).1
 obtain⟨c1,e1⟩:=Hu g1 h1.1
 have k1:w.cell? ⟨g1,0,none⟩=some (.pointer (some ⟨L.f,0,none⟩)):=(World.cell?_of_block (w:=p.w) e1).trans h1.2
 obtain⟨rs,kp⟩:=r;cases kp
 ·have hsame:x.saved.set i (Ml ⟨rs,false⟩ (v,u))=x.saved:=aG1 hu
  rw[hsame];refine dJ func189 ntmps189 hp hF ?_;refine aA ?_;refine bA fun g2=>?_;dsimp only[Value.cells,Rg.cells];refine aA ?_;exact kC 1 hF
 ·refine dJ func189 ntmps189 hp hF ?_;refine aA ?_;refine bA fun g2=>?_;dsimp only[Value.cells,Rg.cells];refine aA ?_;refine Zz 1 rfl ?_;dsimp only[List.set,Ky]
  have Ri:=aA7 x.now
  have qN:=aA7 x.saved
  have r1:Rd w [⟨w,fun b=>b < w.heap.size∧¬F b⟩] [HP.aE L.gs 23 (nR x.saved),HP.aE L.gn 23 (nR x.now),HP.aE L.f 298 [.slice L.A d.aO.length L.c,.slice (some ⟨L.gn,0,none⟩) d.aO.length d.aO.length,.slice (some ⟨L.gs,0,none⟩) d.aO.length d.aO.length,.bool x.kept],HP.aE g2 48 [.int .u32 rs,.bool true],HP.many [cJ,cJ,cJ,HP.bR (tX d L.A) (tX.le (d:=d) (A:=L.A))]] g1 0 (.pointer (some ⟨L.f,0,none⟩)):=Rd.ro (List.mem_singleton.2 rfl) c1 k1
  have r2:Rd w [⟨w,fun b=>b < w.heap.size∧¬F b⟩] [HP.aE L.gs 23 (nR x.saved),HP.aE L.gn 23 (nR x.now),HP.aE L.f 298 [.slice L.A d.aO.length L.c,.slice (some ⟨L.gn,0,none⟩) d.aO.length d.aO.length,.slice (some ⟨L.gs,0,none⟩) d.aO.length d.aO.length,.bool x.kept],HP.aE g2 48 [.int .u32 rs,.bool true],HP.many [cJ,cJ,cJ,HP.bR (tX d L.A) (tX.le (d:=d) (A:=L.A))]] L.gn i (.int .u32 v):=Rd.aE 1 rfl (aCK hv)
  refine rL 12 (by kernel_rfl) (by kernel_rfl) ?_;refine bJ 0 ?_;refine bJ 1 ?_;refine bJ 2 ?_;refine bJ 3 ?_;refine bJ 4 ?_;refine bJ 5 ?_;refine bJ 6 ?_;refine bJ 7 ?_;refine bJ 8 ?_;refine bJ 9 ?_;refine bJ 10 ?_ (dH:=dat (sz:=1) i i);refine bJ 11 ?_;refine cH 12 ?_;refine kd (dat i i) ?_;refine eZ ?_;refine cH 13 ?_;refine fD rfl rfl ?_;dsimp only[List.set];rw[aCJ];refine eZ ?_;refine kH ?_;refine aA ?_;refine aY [0,1,2,4] rfl (by decide) (fun _ h=>h) ?_;refine aAg (x:=⟨x.now,x.saved.set i v,x.kept⟩) 0 rfl ?_;exact kC 0 hF
theorem aNs(L:FL)(d:bO)(x:cO)(hrl:d.aO.length≤100)(hok:zG d x)(w:World)(F:Nat→Prop)(hp:(iF L d x).sat F w)(hF:∀b,F b→b < w.heap.size):
  Cz 113 #[.pointer (some ⟨L.f,0,none⟩)] w (Wr (.tuple #[]) (iF L d (wT d x)) w F):=by
 have qN:=hok.saved
 have gB:=hok.now
 have hvl:(wT d x).saved.length=d.aO.length:=by simp[wT];omega
 refine dJ func113 ntmps113 hp hF ?_;refine aA ?_;refine bA fun g1=>?_;refine aA ?_;refine kS (vf:=[]) (vc:=[pt g1]) rfl rfl (by decide) ?_;refine dP [⟨w,fun b=>b < w.heap.size∧¬F b⟩] [0] [1] (by simp) rfl (by decide) (by decide) fun q hq hLe _=>?_;obtain⟨F1,s1,z1⟩:=hq 0 _ (by simp) rfl
 refine dR 0 (iF L d ⟨x.now,(wT d x).saved,x.kept⟩) (fun w1 G t hG yM hle=>by
  have key:=aHa q (fun i=>iF L d ⟨x.now,lF (wT d x).saved x.saved i,x.kept⟩) L d hrl 189 (by kernel_rfl) [pt g1]
   (fun i _ w F h1 h2=>⟨_,aAo h1 h2⟩) (fun i r hr w2 F2' h1 h2 h3=>by
    have hlt:=(List.getElem?_eq_some_iff.1 hr).1
    obtain⟨v,hv⟩:=get_some (l:=x.now) (i:=i) (by omega);obtain⟨u,hu⟩:=get_some (l:=x.saved) (i:=i) (by omega)
    have hs:(wT d x).saved[i]? =some (Ml r (v,u)):=by
     rw[wT,List.getElem?_zipWith,hr,(List.getElem?_zip_eq_some (z:=(v,u))).2 ⟨hv,hu⟩]
    have:=aM0 q L d ⟨x.now,lF (wT d x).saved x.saved i,x.kept⟩ g1 i r v u hr hv (aOT (by omega) (by omega) hu) (Wb hvl qN (by omega))
     ⟨z1 _ s1.1,by rw[s1.2.cell];rfl⟩ w2 F2' h1 h2 h3
    try dsimp only at this
    rw[Wa (by omega) hs] at this
    exact this) w1 G (by show(iF L d ⟨x.now,lF (wT d x).saved x.saved 0,x.kept⟩).sat G w1;rw[Vz];exact hG) yM (hle q (by simp))
  try dsimp only at key
  rw[Wc hvl qN] at key
  exact key) ?_
 refine Zz 0 rfl ?_;dsimp only[List.set,Ky]
 have r1:∀H,Rd w [q,⟨w,fun b=>b < w.heap.size∧¬F b⟩] H g1 0 (.pointer (some ⟨L.f,0,none⟩)):=fun H=>Rd.ro (by simp:q∈_) (z1 _ s1.1) (by rw[s1.2.cell];rfl)
 have r1:=r1 [HP.aE L.gs 23 (nR (wT d x).saved),HP.aE L.gn 23 (nR x.now),HP.aE L.f 298 [.slice L.A d.aO.length L.c,.slice (some ⟨L.gn,0,none⟩) d.aO.length d.aO.length,.slice (some ⟨L.gs,0,none⟩) d.aO.length d.aO.length,.bool x.kept],HP.many [cJ,cJ,cJ,HP.bR (tX d L.A) (tX.le (d:=d) (A:=L.A))]]
 refine aA ?_;refine aAg (x:=wT d x) 0 rfl ?_;exact kC 0 hF
theorem aNu(L:FL)(d:bO)(x:cO)(i:Nat)(v:Int)(Ft:x.now.length=d.aO.length)(hv:x.now[i]? =some v)(w:World)(hR:Eh w L d x):
  Cz 109 #[.pointer (some ⟨L.f,0,none⟩),iv (i:Int)] w (Rt (.tuple #[.int .u32 v,iv 0]) w):=by
 have hlt:i < d.aO.length:=by have:=(List.getElem?_eq_some_iff.1 hv).1;omega
 have k1:=hR.r0.at_ (j:=1) rfl
 have kv:=hR.now.at_ (aCK hv)
 rw[Nat.zero_add] at kv;refine aM func109 ntmps109 ?_;refine aA ?_;refine bQ (t:=8) rfl (fun h=>absurd h (by omega)) (fun _=>?_);refine aA ?_;refine aU (fun w1 t=>Vk L d x w1 (hR.below (t.below (by simp)))) ?_;refine aA ?_;refine aG rfl (fun h=>absurd h (by omega)) (fun _=>?_);refine aB ?_;exact eL rfl rfl rfl fun w1 t=>⟨rfl,t.below (by simp)⟩
theorem aNr(L:FL)(d:bO)(x:cO)(i:Nat)(v:Int)(Ft:x.now.length=d.aO.length)(hlt:i < d.aO.length)(w:World)(F:Nat→Prop)(hp:(iF L d x).sat F w)(hF:∀b,F b→b < w.heap.size):
  Cz 110 #[.pointer (some ⟨L.f,0,none⟩),iv (i:Int),.int .u32 v] w (Wr (iv 0) (iF L d ⟨x.now.set i v,x.saved,x.kept⟩) w F):=by
 refine dJ func110 ntmps110 hp hF ?_;refine aA ?_;refine bQ (t:=9) rfl (fun h=>absurd h (by omega)) (fun _=>?_);refine aA ?_;refine aU (fun w1 t=>Vk L d x w1 (t.aEz 0 rfl)) ?_;refine aA ?_;refine aG rfl (fun h=>absurd h (by omega)) (fun _=>?_);refine Zz 0 rfl ?_;dsimp only[List.set,Ky]
 have Ri:=aA7 x.now
 refine aB ?_;rw[aCJ];refine aA ?_;refine aAg (x:=⟨x.now.set i v,x.saved,x.kept⟩) 0 rfl ?_;exact cG 0 hF
end
section
def aKH(n:Nat)(xs:List Value)(v:Value)(hs:List HP)(_:Piece):Prop:=∃A c,v=.slice A n c∧hs=[HP.own 86 6 (.slice A n c) n xs]
theorem aOq(A:Option Addr)(n c:Nat)(xs:List Value)(w:World)(hs:aI (all w) 6 A n xs)(h1:∀u∈xs,u.oneCell'=true)(hn:n≤1000000):
  Cz 147 #[.slice A n c] w (fun y w'=>(∃v hs q,y=.returned v∧q.w=w'∧aKH n xs v hs q∧jD w hs q)∧Below w.heap.size w w'):=by
 refine aM func147 ntmps147 ?_;refine aA ?_;refine iN 86 6 ?_;refine gJ 0 6 64 n (n':=n) (v:=sn) (el:=86) (by kernel_rfl) (by kernel_rfl) (by decide) rfl rfl rfl (rE (by simp) hs) h1 (by omega) (by omega) (by omega) (by decide) fun A' k'=>?_;dsimp only[List.set,List.nil_append];refine aA ?_;refine dP [] [] [0] (by simp) rfl (by decide) (by decide) fun q _ _ hfr=>?_;exact aT (h:=fun w1 st=>⟨_,_,⟨w1,q.Z⟩,rfl,rfl,⟨_,_,rfl,rfl⟩,st.newR (by simp) (by simp) (hfr (by simp) (by simp))⟩)
def aKF(n:Nat)(xs:List Value)(v:Value)(hs:List HP)(_:Piece):Prop:=∃A c,v=.slice A n c∧hs=[HP.own 50 3 (.slice A n c) n xs]
theorem aOo(A:Option Addr)(n c:Nat)(xs:List Value)(w:World)(hs:aI (all w) 3 A n xs)(h1:∀u∈xs,u.oneCell'=true)(hn:n≤1000000):
  Cz 148 #[.slice A n c] w (fun y w'=>(∃v hs q,y=.returned v∧q.w=w'∧aKF n xs v hs q∧jD w hs q)∧Below w.heap.size w w'):=by
 refine aM func148 ntmps148 ?_;refine aA ?_;refine iN 50 3 ?_;refine gJ 0 3 24 n (n':=n) (v:=sn) (el:=50) (by kernel_rfl) (by kernel_rfl) (by decide) rfl rfl rfl (rE (by simp) hs) h1 (by omega) (by omega) (by omega) (by decide) fun A' k'=>?_;dsimp only[List.set,List.nil_append];refine aA ?_;refine dP [] [] [0] (by simp) rfl (by decide) (by decide) fun q _ _ hfr=>?_;exact aT (h:=fun w1 st=>⟨_,_,⟨w1,q.Z⟩,rfl,rfl,⟨_,_,rfl,rfl⟩,st.newR (by simp) (by simp) (hfr (by simp) (by simp))⟩)
def aKD(n:Nat)(xs:List Value)(v:Value)(hs:List HP)(_:Piece):Prop:=∃A c,v=.slice A n c∧hs=[HP.own 88 1 (.slice A n c) n xs]
theorem aOm(A:Option Addr)(n c:Nat)(xs:List Value)(w:World)(hs:aI (all w) 1 A n xs)(h1:∀u∈xs,u.oneCell'=true)(hn:n≤1000000):
  Cz 149 #[.slice A n c] w (fun y w'=>(∃v hs q,y=.returned v∧q.w=w'∧aKD n xs v hs q∧jD w hs q)∧Below w.heap.size w w'):=by
 refine aM func149 ntmps149 ?_;refine aA ?_;refine iN 88 1 ?_;refine gJ 0 1 8 n (n':=n) (v:=sn) (el:=88) (by kernel_rfl) (by kernel_rfl) (by decide) rfl rfl rfl (rE (by simp) hs) h1 (by omega) (by omega) (by omega) (by decide) fun A' k'=>?_;dsimp only[List.set,List.nil_append];refine aA ?_;refine dP [] [] [0] (by simp) rfl (by decide) (by decide) fun q _ _ hfr=>?_;exact aT (h:=fun w1 st=>⟨_,_,⟨w1,q.Z⟩,rfl,rfl,⟨_,_,rfl,rfl⟩,st.newR (by simp) (by simp) (hfr (by simp) (by simp))⟩)
def aKG(n:Nat)(xs:List Value)(v:Value)(hs:List HP)(_:Piece):Prop:=∃A c,v=.slice A n c∧hs=[HP.own 38 6 (.slice A n c) n xs]
theorem aOp(A:Option Addr)(n c:Nat)(xs:List Value)(w:World)(hs:aI (all w) 6 A n xs)(h1:∀u∈xs,u.oneCell'=true)(hn:n≤1000000):
  Cz 150 #[.slice A n c] w (fun y w'=>(∃v hs q,y=.returned v∧q.w=w'∧aKG n xs v hs q∧jD w hs q)∧Below w.heap.size w w'):=by
 refine aM func150 ntmps150 ?_;refine aA ?_;refine iN 38 6 ?_;refine gJ 0 6 80 n (n':=n) (v:=sn) (el:=38) (by kernel_rfl) (by kernel_rfl) (by decide) rfl rfl rfl (rE (by simp) hs) h1 (by omega) (by omega) (by omega) (by decide) fun A' k'=>?_;dsimp only[List.set,List.nil_append];refine aA ?_;refine dP [] [] [0] (by simp) rfl (by decide) (by decide) fun q _ _ hfr=>?_;exact aT (h:=fun w1 st=>⟨_,_,⟨w1,q.Z⟩,rfl,rfl,⟨_,_,rfl,rfl⟩,st.newR (by simp) (by simp) (hfr (by simp) (by simp))⟩)
def aFy(n:Nat)(xs:List Value)(v:Value)(hs:List HP)(_:Piece):Prop:=∃A c,v=.slice A n c∧hs=[HP.own 3 1 (.slice A n c) n xs]
theorem aHu(A:Option Addr)(n c:Nat)(xs:List Value)(w:World)(hs:aI (all w) 1 A n xs)(h1:∀u∈xs,u.oneCell'=true)(hn:n≤1000000):
  Cz 140 #[.slice A n c] w (fun y w'=>(∃v hs q,y=.returned v∧q.w=w'∧aFy n xs v hs q∧jD w hs q)∧Below w.heap.size w w'):=by
 refine aM func140 ntmps140 ?_;refine aA ?_;refine iN 3 1 ?_;refine gJ 0 1 8 n (n':=n) (v:=sn) (el:=3) (by kernel_rfl) (by kernel_rfl) (by decide) rfl rfl rfl (rE (by simp) hs) h1 (by omega) (by omega) (by omega) (by decide) fun A' k'=>?_;dsimp only[List.set,List.nil_append];refine aA ?_;refine dP [] [] [0] (by simp) rfl (by decide) (by decide) fun q _ _ hfr=>?_;exact aT (h:=fun w1 st=>⟨_,_,⟨w1,q.Z⟩,rfl,rfl,⟨_,_,rfl,rfl⟩,st.newR (by simp) (by simp) (hfr (by simp) (by simp))⟩)
def aKE(n:Nat)(xs:List Value)(v:Value)(hs:List HP)(_:Piece):Prop:=∃A c,v=.slice A n c∧hs=[HP.own 48 2 (.slice A n c) n xs]
theorem aOn(A:Option Addr)(n c:Nat)(xs:List Value)(w:World)(hs:aI (all w) 2 A n xs)(h1:∀u∈xs,u.oneCell'=true)(hn:n≤1000000):
  Cz 151 #[.slice A n c] w (fun y w'=>(∃v hs q,y=.returned v∧q.w=w'∧aKE n xs v hs q∧jD w hs q)∧Below w.heap.size w w'):=by
 refine aM func151 ntmps151 ?_;refine aA ?_;refine iN 48 2 ?_;refine gJ 0 2 8 n (n':=n) (v:=sn) (el:=48) (by kernel_rfl) (by kernel_rfl) (by decide) rfl rfl rfl (rE (by simp) hs) h1 (by omega) (by omega) (by omega) (by decide) fun A' k'=>?_;dsimp only[List.set,List.nil_append];refine aA ?_;refine dP [] [] [0] (by simp) rfl (by decide) (by decide) fun q _ _ hfr=>?_;exact aT (h:=fun w1 st=>⟨_,_,⟨w1,q.Z⟩,rfl,rfl,⟨_,_,rfl,rfl⟩,st.newR (by simp) (by simp) (hfr (by simp) (by simp))⟩)
end
section
structure aUD(p:Piece)(s:aD)(A1:Option Addr)(n1:Nat)(A2:Option Addr)(n2:Nat)(A3:Option Addr)(n3:Nat)(A4:Option Addr)(n4:Nat):Prop where
 jM:jP (fH p) (uB (fH p)) 86 6 A1 n1 s.aF
 dom:jP (fH p) vD 50 3 A2 n2 s.domains
 Cu:jP (fH p) zC 88 1 A3 n3 s.aR
 dev:jP (fH p) (tG (fH p)) 38 6 A4 n4 s.aC
section
variable{p q:Piece}{w:World}{s:aD}{A1 A2 A3 A4:Option Addr}{n1 n2 n3 n4:Nat}
theorem wH.Q{cs:Array Value}(h:wH (fH p) s cs):∃A1 n1 k1 A2 n2 k2 A3 n3 k3 A4 n4 k4,cs=#[.slice A1 n1 k1,.slice A2 n2 k2,.slice A3 n3 k3,.slice A4 n4 k4]∧aUD p s A1 n1 A2 n2 A3 n3 A4 n4:=by
 obtain⟨A1,n1,k1,A2,n2,k2,A3,n3,k3,A4,n4,k4,h0,h1,h2,h3,h4⟩:=h;exact⟨A1,n1,k1,A2,n2,k2,A3,n3,k3,A4,n4,k4,h0,h1,h2,h3,h4⟩
end
theorem jP.aGR{α:Type}{p:Piece}{R:α→List Value→Prop}{t:TypeId}{sz n:Nat}{A:Option Addr}{es:List α}(h:jP (fH p) R t sz A n es){k:Nat}{e:α}(hk:es[k]? =some e):
  ∃b off r,A=some ⟨b,off,none⟩∧p.Z b∧r.length=sz∧R e r∧∀f u,r[f]? =some u→p.w.cell? ⟨b,off+k*sz+f,none⟩=some u:=by
 obtain⟨rows,h1,h2,h3⟩:=h
 have hlt:k < n:=by
  rw[h2];rcases Nat.lt_or_ge k es.length with h | h
  ·exact h
  ·rw[List.getElem?_eq_none h] at hk;cases hk
 obtain⟨b,off,hA,hb,hc⟩:=aI.at_ h3 hlt;obtain⟨r,h4,h5,h6⟩:=h1.get hk;refine⟨b,off,r,hA,hb,h4,h5,fun f u hu=>hc f u ?_⟩
 have hf:f < sz:=by
  rw[←h4];rcases Nat.lt_or_ge f r.length with h | h
  ·exact h
  ·rw[List.getElem?_eq_none h] at hu;cases hu
 rw[h6 f hf,hu]
end
section
theorem Bu{N:cE}{w0:World}{e:Env}{R:List Piece}{H:List HP}{K:Act→World→Prop}{p:HP}(hp:∀w,p.sat (fun _=>False) w)(h:XK N w0 K e R (p::H)):XK N w0 K e R H:=fun a w hr st=>
 h a w hr (st.new (w':=w) (Below.refl _ _) (by
  rw[show(fresh w w).Z=fun _=>False from by funext b;simp only[fresh,eq_iff_iff,iff_false];omega]
  exact hp w))
abbrev AC:=Option Addr×Nat
def Bl(c:eF)(a:AC):List Value:=[.int .u8 c.kind,.slice a.1 c.src.length a.2,.int .u64 c.rate,iv c.mul,iv c.div,iv c.lock]
def Bk(d:bO)(p:AC×AC):List Value:=[iv d.clock,iv d.domain,iv d.reset,.int .u32 d.iU,.slice p.1.1 d.aO.length p.1.2,.slice p.2.1 d.iS.length p.2.2]
def Sy(s:aD)(fa:List AC):List (List Value):=List.zipWith Bl s.aF fa
def Su(s:aD)(da:List (AC×AC)):List (List Value):=List.zipWith Bk s.aC da
section
variable{α β:Type}{f:α→β→List Value}{sz:Nat}
theorem aAq{es:List α}{bs:List β}(hl:bs.length=es.length)(hf:∀e a,(f e a).length=sz):(List.zipWith f es bs).length=es.length∧∀r∈List.zipWith f es bs,r.length=sz:=by
 refine⟨by simp;omega,fun r hr=>?_⟩;obtain⟨j,hj⟩:=List.getElem?_of_mem hr;rw[List.getElem?_zipWith] at hj;split at hj<;>cases hj
 exact hf _ _
theorem Uh{es:List α}{bs:List β}{i:Nat}{e:α}{a:β}(he:es[i]? =some e)(ha:bs[i]? =some a):(List.zipWith f es bs)[i]? =some (f e a):=by rw[List.getElem?_zipWith,he,ha]
theorem aFD{es:List α}{bs:List β}{i:Nat}{e:α}{a:β}(he:es[i]? =some e)(hi:i < bs.length):(List.zipWith f es bs).set i (f e a)=List.zipWith f es (bs.set i a):=by
 refine List.ext_getElem? fun j=>?_;rw[List.getElem?_set]
 by_cases hj:i=j
 ·subst hj
  have h1:=(List.getElem?_eq_some_iff.1 he).1
  rw[if_pos rfl,Uh he (List.getElem?_set_self hi),if_pos (by simp;omega)]
 ·rw[if_neg hj,List.getElem?_zipWith,List.getElem?_zipWith,List.getElem?_set_ne hj]
theorem aFE{es:List α}{bs:List β}(hf:∀e a,∀u∈f e a,u.oneCell'=true):∀u∈(List.zipWith f es bs).flatten,u.oneCell'=true:=fun u hu=>by
 obtain⟨r,hr,hu⟩:=List.mem_flatten.1 hu;obtain⟨j,hj⟩:=List.getElem?_of_mem hr;rw[List.getElem?_zipWith] at hj;split at hj<;>cases hj
 exact hf _ _ u hu
end
theorem aSV(c:eF)(a:AC):∀u∈Bl c a,u.oneCell'=true:=by simp[Bl,Value.oneCell']
theorem aS0(d:bO)(p:AC×AC):∀u∈Bk d p,u.oneCell'=true:=by simp[Bk,Value.oneCell']
theorem aEJ{S:xL}:∀{cl:List eF} {rs:List (List Value)},Rows (uB S) 6 cl rs→∃fa:List AC,fa.length=cl.length∧rs=List.zipWith Bl cl fa∧∀(i:Nat) (c:eF) (a:AC),cl[i]? =some c→fa[i]? =some a→S 3 1 a.1 c.src.length (aK c.src)
 | [],[],_=>⟨[],rfl,rfl,fun i c a h=>by simp at h⟩
 | e::es,r::rs,h=>by
  obtain⟨_,⟨A,n,k,hr,hn,hS⟩,h3⟩:=h;obtain⟨fa,h4,h5,h6⟩:=aEJ h3;subst hn;refine⟨(A,k)::fa,by simp[h4],by rw[hr,h5];rfl,fun i c a hc ha=>?_⟩;cases i with
  | zero=>simp at hc ha;subst hc;subst ha;exact hS
  | succ i=>exact h6 i c a (by simpa using hc) (by simpa using ha)
theorem aGO{S:xL}:∀{cl:List eF} {fa:List AC},fa.length=cl.length→(∀(i:Nat) (c:eF) (a:AC),cl[i]? =some c→fa[i]? =some a→S 3 1 a.1 c.src.length (aK c.src))→Rows (uB S) 6 cl (List.zipWith Bl cl fa)
 | [],[],_,_=>trivial
 | c::cl,a::fa,hl,h=>⟨rfl,⟨a.1,_,a.2,rfl,rfl,h 0 c a rfl rfl⟩,aGO (by simpa using hl) fun i c' a' hc ha=>h (i+1) c' a' (by simpa using hc) (by simpa using ha)⟩
theorem aE8{S:xL}:∀{cl:List bO} {rs:List (List Value)},Rows (tG S) 6 cl rs→∃da:List (AC×AC),da.length=cl.length∧rs=List.zipWith Bk cl da∧∀(i:Nat) (d:bO) (p:AC×AC),cl[i]? =some d→da[i]? =some p→S 48 2 p.1.1 d.aO.length (d.aO.flatMap Rg.cells)∧S 3 1 p.2.1 d.iS.length (aK d.iS)
 | [],[],_=>⟨[],rfl,rfl,fun i c a h=>by simp at h⟩
 | e::es,r::rs,h=>by
  obtain⟨_,⟨A,n,k,A',n',k',hr,hn,hn',hS,hS'⟩,h3⟩:=h;obtain⟨da,h4,h5,h6⟩:=aE8 h3;subst hn;subst hn';refine⟨((A,k),(A',k'))::da,by simp[h4],by rw[hr,h5];rfl,fun i d p hc ha=>?_⟩;cases i with
  | zero=>simp at hc ha;subst hc;subst ha;exact⟨hS,hS'⟩
  | succ i=>exact h6 i d p (by simpa using hc) (by simpa using ha)
theorem aGN{S:xL}:∀{cl:List bO} {da:List (AC×AC)},da.length=cl.length→(∀(i:Nat) (d:bO) (p:AC×AC),cl[i]? =some d→da[i]? =some p→S 48 2 p.1.1 d.aO.length (d.aO.flatMap Rg.cells)∧S 3 1 p.2.1 d.iS.length (aK d.iS))→Rows (tG S) 6 cl (List.zipWith Bk cl da)
 | [],[],_,_=>trivial
 | c::cl,a::da,hl,h=>⟨rfl,⟨a.1.1,_,a.1.2,a.2.1,_,a.2.2,rfl,rfl,rfl,(h 0 c a rfl rfl).1,(h 0 c a rfl rfl).2⟩,aGN (by simpa using hl) fun i c' a' hc ha=>h (i+1) c' a' (by simpa using hc) (by simpa using ha)⟩
theorem aSg{es:List Dom}{rs:List (List Value)}(h:Rows vD 3 es rs):∀u∈rs.flatten,u.oneCell'=true:=fun u hu=>by
 obtain⟨r,hr,hu⟩:=List.mem_flatten.1 hu;obtain⟨j,hj⟩:=List.getElem?_of_mem hr;obtain⟨e,_,_,hR⟩:=h.at_ hj;unfold vD at hR;subst hR;simp only[List.mem_cons,List.not_mem_nil,or_false] at hu;rcases hu with rfl | rfl | rfl<;>rfl
theorem aMK{es:List Int}{rs:List (List Value)}(h:Rows zC 1 es rs):∀u∈rs.flatten,u.oneCell'=true:=fun u hu=>by
 obtain⟨r,hr,hu⟩:=List.mem_flatten.1 hu;obtain⟨j,hj⟩:=List.getElem?_of_mem hr;obtain⟨e,_,_,hR⟩:=h.at_ hj;unfold zC at hR;subst hR;simp only[List.mem_cons,List.not_mem_nil,or_false] at hu;subst hu;rfl
def zI(s:aD)(fa:List AC)(i:Nat)(p:Piece):Prop:=∀(j:Nat) (c:eF) (a:AC),j < i→s.aF[j]? =some c→fa[j]? =some a→aI p 1 a.1 c.src.length (aK c.src)
theorem zI.le{s:aD}{fa:List AC}{i:Nat}(p q:Piece)(hl:p.Le q)(h:zI s fa i p):zI s fa i q:=fun j c a hj hc ha=>(h j c a hj hc ha).le hl
def Ei(s:aD)(da:List (AC×AC))(i:Nat)(p:Piece):Prop:=∀(j:Nat) (d:bO) (a:AC×AC),j < i→s.aC[j]? =some d→da[j]? =some a→aI p 2 a.1.1 d.aO.length (d.aO.flatMap Rg.cells)∧aI p 1 a.2.1 d.iS.length (aK d.iS)
theorem Ei.le{s:aD}{da:List (AC×AC)}{i:Nat}(p q:Piece)(hl:p.Le q)(h:Ei s da i p):Ei s da i q:=fun j c a hj hc ha=>⟨(h j c a hj hc ha).1.le hl,(h j c a hj hc ha).2.le hl⟩
end
end Go.Proofs.YtdcdccmpcmjmhaaGreatDoor
