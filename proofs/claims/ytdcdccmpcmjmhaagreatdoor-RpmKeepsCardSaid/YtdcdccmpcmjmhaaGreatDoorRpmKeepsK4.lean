/- package table: the messages that there are. -/
import Derived.KernelRfl
import Derived.Test.YtdcdccmpcmjmhaaGreatDoorProg
import Derived.Test.YtdcdccmpcmjmhaaGreatDoorRpmKeepsK3
namespace Go.Proofs.YtdcdccmpcmjmhaaGreatDoor
set_option linter.all false
set_option maxHeartbeats 4000000
set_option maxRecDepth 20000
open Go.RowKit Go.Proofs.Tryz
section
theorem aII(L:List (Nat×Nat))(place:Nat→Option (Nat×Nat))(hp:∀i x,L[i]? =some x→place i=some x):∀(ps:List (Nat×Value)) (cs cs':List Value),fI L cs ps=some cs'→Instr.fill place cs.toArray ps=some cs'.toArray
 | [],cs,cs',h=>by cases h;rfl
 | (i, v) :: rest, cs, cs', h => by
  unfold fI at h;unfold Instr.fill;split at h
  ·rename_i off sz hL
   rw[hp _ _ hL];split at h
   ·rename_i hc
    have e1:(decide (v.cells.size≠sz)||decide (off+v.cells.size>cs.toArray.size))=false:=by simp;omega
    simp only[e1,Bool.false_eq_true,if_false]
    have:=aCL v.cells.toList cs off 0
    rw[show v.cells.zipIdx.foldl (fun cs (c,j)=>cs.setIfInBounds (off+j) c) cs.toArray=(gI cs off v.cells.toList).toArray by
     rw[←Array.foldl_toList,Array.toList_zipIdx];exact this]
    exact aII L place hp rest _ cs' h
   ·cases h
  ·cases h
section
variable{P:Program}{N:cF}{w0:World}{e:Env}{R:List Piece}{H:List HP}{d:Nat}{ty:TypeId}{pos:String}{aH:Array Edge}
theorem aEx{t el:TypeId}{n sz:Nat}{ps:List (Nat×Operand)}{vs:List (Nat×Value)}{zs cs:List Value}(hz:Eg P t zs)(ht:P.underlying t=some (.array n el))(hsz:(P.info? el).map (·.size)=some sz)(hp:e.parts ps=some vs)(hf:fI ((List.range n).map fun i=>(i*sz,sz)) zs vs=some cs):bQ P N w0 e R H ⟨some d,.build t ps.toArray,ty,pos,aH,none⟩ (.agg cs.toArray):=
 iO (fun a w hr => by
  have:=hr.parts hp
  obtain⟨i,z,hi,Fb,rfl⟩:=hz;obtain⟨j,hj,rfl⟩:=Option.map_eq_some_iff.1 hsz
  have hfl:=aII _ (fun i=>some (i*j.size,j.size)) (fun i x hx=>by
   rw[List.getElem?_map] at hx;obtain⟨q,hq,rfl⟩:=Option.map_eq_some_iff.1 hx
   have hlt:i < n:=by
    rcases Nat.lt_or_ge i n with h | h
    ·exact h
    ·rw[List.getElem?_eq_none (by simpa using h)] at hq;cases hq
   rw[List.getElem?_range hlt] at hq;cases hq
   rfl) vs z.cells.toList cs hf
  simp at hfl;simp only[execOp,List.map_toArray,this]
  simp[Instr.build,zeroValue,typeInfo,sizeOf,hi,hj,Fb,run_underlying ht,hfl])
end
def tC(n m a b c:Int):Value:=.agg #[iv n,iv m,.int .u8 a,.int .u8 b,.int .u8 c]
theorem aAM:Dz Tryz.prog 371:=Dz.of Tryz.underlying371 Tryz.underlying3 Tryz.underlying3 rfl rfl (fun _ _ _ _=>by kernel_rfl)
def Bi:Nat→(Int×Int)×Value
 | 3=>((16,0),tC 0 0 0 0 0) | 6=>((17,0),tC 0 0 0 0 0) | 9=>((20,0),tC 0 0 0 0 0) | 12=>((22,0),tC 0 0 0 0 0) | 15=>((16,1),tC 0 0 0 0 0)
 | 19=>((17,4),tC 2 3 100 117 107) | 22=>((17,5),tC 1 0 0 0 0) | 25=>((20,6),tC 1 0 0 0 0) | 29=>((20,7),tC 2 2 111 99 0) | _=>((22,4),tC 2 2 114 97 0)
def Np:List Nat:=[3,6,9,12,15,19,22,25,29,33]
def aEj:List ((Int×Int)×Value):=Np.map Bi
def aFr(v:Value)(hs:List HP)(_:Piece):Prop:=∃(g:Nat) (sub:List Nat),v=.map (some g)∧sub.Perm Np∧hs=[HP.vS g (sub.reverse.map Bi)]
theorem aI6(w:World):Cz 219 #[] w (fun y w'=>(∃v hs q,y=.returned v∧q.w=w'∧aFr v hs q∧kA w hs q)∧Below w.heap.size w w'):=by
 refine aN func219 ntmps219 ?_;refine cP ?_;refine eA ?_;refine fQ rfl (by decide) ?_;refine dN ?_;refine cP ?_;refine rF 34 (by kernel_rfl) (by kernel_rfl) ?_;refine fM 1 rfl rfl rfl (by decide) (lW (zs:=[iv 0,iv 0]) (L:=[(0,1),(1,1)]) (iG (by kernel_rfl)) (by kernel_rfl) rfl (by simp[fI,gI,Value.cells];rfl)) (by kernel_rfl) (fun _ _ _ h=>h) (fun _ h=>h) ?_;refine fM 2 rfl rfl rfl (by decide) (lW (zs:=[iv 0,iv 0,.int .u8 0,.int .u8 0,.int .u8 0]) (L:=[(0,1),(1,1),(2,3)]) (iG (by kernel_rfl)) (by kernel_rfl) rfl (by simp[fI,gI,Value.cells];rfl)) (by kernel_rfl) (fun _ _ _ h=>h) (fun _ h=>h) ?_;refine fM 4 rfl rfl rfl (by decide) (lW (zs:=[iv 0,iv 0]) (L:=[(0,1),(1,1)]) (iG (by kernel_rfl)) (by kernel_rfl) rfl (by simp[fI,gI,Value.cells];rfl)) (by kernel_rfl) (fun _ _ _ h=>h) (fun _ h=>h) ?_;refine fM 5 rfl rfl rfl (by decide) (lW (zs:=[iv 0,iv 0,.int .u8 0,.int .u8 0,.int .u8 0]) (L:=[(0,1),(1,1),(2,3)]) (iG (by kernel_rfl)) (by kernel_rfl) rfl (by simp[fI,gI,Value.cells];rfl)) (by kernel_rfl) (fun _ _ _ h=>h) (fun _ h=>h) ?_;refine fM 7 rfl rfl rfl (by decide) (lW (zs:=[iv 0,iv 0]) (L:=[(0,1),(1,1)]) (iG (by kernel_rfl)) (by kernel_rfl) rfl (by simp[fI,gI,Value.cells];rfl)) (by kernel_rfl) (fun _ _ _ h=>h) (fun _ h=>h) ?_;refine fM 8 rfl rfl rfl (by decide) (lW (zs:=[iv 0,iv 0,.int .u8 0,.int .u8 0,.int .u8 0]) (L:=[(0,1),(1,1),(2,3)]) (iG (by kernel_rfl)) (by kernel_rfl) rfl (by simp[fI,gI,Value.cells];rfl)) (by kernel_rfl) (fun _ _ _ h=>h) (fun _ h=>h) ?_;refine fM 10 rfl rfl rfl (by decide) (lW (zs:=[iv 0,iv 0]) (L:=[(0,1),(1,1)]) (iG (by kernel_rfl)) (by kernel_rfl) rfl (by simp[fI,gI,Value.cells];rfl)) (by kernel_rfl) (fun _ _ _ h=>h) (fun _ h=>h) ?_;refine fM 11 rfl rfl rfl (by decide) (lW (zs:=[iv 0,iv 0,.int .u8 0,.int .u8 0,.int .u8 0]) (L:=[(0,1),(1,1),(2,3)]) (iG (by kernel_rfl)) (by kernel_rfl) rfl (by simp[fI,gI,Value.cells];rfl)) (by kernel_rfl) (fun _ _ _ h=>h) (fun _ h=>h) ?_;refine fM 13 rfl rfl rfl (by decide) (lW (zs:=[iv 0,iv 0]) (L:=[(0,1),(1,1)]) (iG (by kernel_rfl)) (by kernel_rfl) rfl (by simp[fI,gI,Value.cells];rfl)) (by kernel_rfl) (fun _ _ _ h=>h) (fun _ h=>h) ?_;refine fM 14 rfl rfl rfl (by decide) (lW (zs:=[iv 0,iv 0,.int .u8 0,.int .u8 0,.int .u8 0]) (L:=[(0,1),(1,1),(2,3)]) (iG (by kernel_rfl)) (by kernel_rfl) rfl (by simp[fI,gI,Value.cells];rfl)) (by kernel_rfl) (fun _ _ _ h=>h) (fun _ h=>h) ?_;refine fM 16 rfl rfl rfl (by decide) (lW (zs:=[iv 0,iv 0]) (L:=[(0,1),(1,1)]) (iG (by kernel_rfl)) (by kernel_rfl) rfl (by simp[fI,gI,Value.cells];rfl)) (by kernel_rfl) (fun _ _ _ h=>h) (fun _ h=>h) ?_;refine fM 17 rfl rfl rfl (by decide) (aEx (n:=3) (sz:=1) (el:=5) (zs:=[.int .u8 0,.int .u8 0,.int .u8 0]) (iG (by kernel_rfl)) (by kernel_rfl) (by kernel_rfl) rfl (by simp[fI,gI,Value.cells,List.range_succ,List.set];rfl)) (by kernel_rfl) (fun _ _ _ h=>h) (fun _ h=>h) ?_;refine fM 18 rfl rfl rfl (by decide) (lW (zs:=[iv 0,iv 0,.int .u8 0,.int .u8 0,.int .u8 0]) (L:=[(0,1),(1,1),(2,3)]) (iG (by kernel_rfl)) (by kernel_rfl) rfl (by simp[fI,gI,Value.cells];rfl)) (by kernel_rfl) (fun _ _ _ h=>h) (fun _ h=>h) ?_;refine fM 20 rfl rfl rfl (by decide) (lW (zs:=[iv 0,iv 0]) (L:=[(0,1),(1,1)]) (iG (by kernel_rfl)) (by kernel_rfl) rfl (by simp[fI,gI,Value.cells];rfl)) (by kernel_rfl) (fun _ _ _ h=>h) (fun _ h=>h) ?_;refine fM 21 rfl rfl rfl (by decide) (lW (zs:=[iv 0,iv 0,.int .u8 0,.int .u8 0,.int .u8 0]) (L:=[(0,1),(1,1),(2,3)]) (iG (by kernel_rfl)) (by kernel_rfl) rfl (by simp[fI,gI,Value.cells];rfl)) (by kernel_rfl) (fun _ _ _ h=>h) (fun _ h=>h) ?_;refine fM 23 rfl rfl rfl (by decide) (lW (zs:=[iv 0,iv 0]) (L:=[(0,1),(1,1)]) (iG (by kernel_rfl)) (by kernel_rfl) rfl (by simp[fI,gI,Value.cells];rfl)) (by kernel_rfl) (fun _ _ _ h=>h) (fun _ h=>h) ?_;refine fM 24 rfl rfl rfl (by decide) (lW (zs:=[iv 0,iv 0,.int .u8 0,.int .u8 0,.int .u8 0]) (L:=[(0,1),(1,1),(2,3)]) (iG (by kernel_rfl)) (by kernel_rfl) rfl (by simp[fI,gI,Value.cells];rfl)) (by kernel_rfl) (fun _ _ _ h=>h) (fun _ h=>h) ?_;refine fM 26 rfl rfl rfl (by decide) (lW (zs:=[iv 0,iv 0]) (L:=[(0,1),(1,1)]) (iG (by kernel_rfl)) (by kernel_rfl) rfl (by simp[fI,gI,Value.cells];rfl)) (by kernel_rfl) (fun _ _ _ h=>h) (fun _ h=>h) ?_;refine fM 27 rfl rfl rfl (by decide) (aEx (n:=3) (sz:=1) (el:=5) (zs:=[.int .u8 0,.int .u8 0,.int .u8 0]) (iG (by kernel_rfl)) (by kernel_rfl) (by kernel_rfl) rfl (by simp[fI,gI,Value.cells,List.range_succ,List.set];rfl)) (by kernel_rfl) (fun _ _ _ h=>h) (fun _ h=>h) ?_;refine fM 28 rfl rfl rfl (by decide) (lW (zs:=[iv 0,iv 0,.int .u8 0,.int .u8 0,.int .u8 0]) (L:=[(0,1),(1,1),(2,3)]) (iG (by kernel_rfl)) (by kernel_rfl) rfl (by simp[fI,gI,Value.cells];rfl)) (by kernel_rfl) (fun _ _ _ h=>h) (fun _ h=>h) ?_;refine fM 30 rfl rfl rfl (by decide) (lW (zs:=[iv 0,iv 0]) (L:=[(0,1),(1,1)]) (iG (by kernel_rfl)) (by kernel_rfl) rfl (by simp[fI,gI,Value.cells];rfl)) (by kernel_rfl) (fun _ _ _ h=>h) (fun _ h=>h) ?_;refine fM 31 rfl rfl rfl (by decide) (aEx (n:=3) (sz:=1) (el:=5) (zs:=[.int .u8 0,.int .u8 0,.int .u8 0]) (iG (by kernel_rfl)) (by kernel_rfl) (by kernel_rfl) rfl (by simp[fI,gI,Value.cells,List.range_succ,List.set];rfl)) (by kernel_rfl) (fun _ _ _ h=>h) (fun _ h=>h) ?_;refine fM 32 rfl rfl rfl (by decide) (lW (zs:=[iv 0,iv 0,.int .u8 0,.int .u8 0,.int .u8 0]) (L:=[(0,1),(1,1),(2,3)]) (iG (by kernel_rfl)) (by kernel_rfl) rfl (by simp[fI,gI,Value.cells];rfl)) (by kernel_rfl) (fun _ _ _ h=>h) (fun _ h=>h) ?_;refine cG 0 ?_;refine aKN (by decide) fun g1=>?_;refine nT ?_;refine aUb (fuel:=2) Np Bi g1 (by decide) (fun i hi=>?_) (by decide) (by kernel_rfl) (fun l w1 h=>h.tail) (fun sub hsub=>?_)
 ·simp only[Np,List.mem_cons,List.not_mem_nil,or_false] at hi;rcases hi with rfl | rfl | rfl | rfl | rfl | rfl | rfl | rfl | rfl | rfl
  all_goals exact⟨_,_,_,_,_,_,_,_,_,rfl,Tryz.underlying368,aAM,rfl,rfl,rfl⟩
 rw[aAT hsub];refine cG 34 ?_;refine cQ rfl (by decide) ?_;refine fA ?_;refine cG 35 ?_;refine fQ rfl (by decide) ?_;refine fA ?_;refine kG ?_;refine dV ?_;refine Lc ?_;refine dV ?_;refine dO [] [] [0] (by simp) rfl (by decide) (by decide) fun q _ _ hfr=>?_;exact aS (h:=fun w1 st=>⟨_,_,⟨w1,q.Z⟩,rfl,rfl,⟨g1,sub,rfl,hsub,rfl⟩,st.newR (by simp) (by simp) (hfr (by simp) (by simp))⟩)
end
section
def aBN(a b:Int):Int:=IntKind.u32.wrap (BitVec.ofInt 32 a&&& BitVec.ofInt 32 b).toNat
def Zc(a b:Int):Int:=IntKind.u32.wrap (BitVec.ofInt 32 a&&& ~~~ BitVec.ofInt 32 b).toNat
def aAL(a b:Int):Int:=IntKind.u32.wrap (BitVec.ofInt 32 a||| BitVec.ofInt 32 b).toNat
theorem Pw(a:Int):0≤IntKind.u32.wrap a∧IntKind.u32.wrap a < 4294967296:=by
 unfold IntKind.wrap;simp only[IntKind.signed,IntKind.bits,Bool.false_and,Bool.false_eq_true,if_false];exact⟨Int.emod_nonneg _ (by decide),Int.emod_lt_of_pos _ (by decide)⟩
def Jp(many at':Int):Int:=IntKind.u32.wrap (IntKind.u64.wrap (IntKind.u64.wrap (IntKind.u64.wrap (1*2 ^ min many.toNat 64) - 1)*2 ^ min at'.toNat 64))
def cO(w low many:Int):Int:=aBN (w.fdiv (2 ^ min low.toNat 32)) (Jp many 0)
def zY(w low many v:Int):Int×Int:=if Zc v (Jp many 0)≠0 then(0,1) else(aAL (Zc w (Jp many low)) (IntKind.u32.wrap (v*2 ^ min low.toNat 32)),0)
def iW(w low many v:Int):Int×Int:=if v < 0∨IntKind.i64.wrap (1*2 ^ min many.toNat 64)≤v then(0,1) else if(zY w low many (IntKind.u32.wrap v)).2≠0 then(0,1) else((zY w low many (IntKind.u32.wrap v)).1,0)
def okF(low many:Int):Prop:=1≤many∧many≤32∧0≤low∧low≤32 - many
def aFs(many:Int)(v:Value)(w w':World):Prop:=∃g,v=.tuple #[.func (.func 247) #[] #[pt g],.bool true]∧RP (fresh w w') g 0 (iv many)
theorem aEr(a many:Int)(g:Nat)(w:World)(h:fR w g 0 (iv many))(ha:0≤a)(hm:0≤many):
  Cz 247 #[iv a,pt g] w (Rt (.int .u32 (Jp many a)) w):=by
 refine aN func247 ntmps247 ?_;refine aB ?_;refine Po rfl rfl (by omega) rfl (by decide) ?_;refine aAk rfl rfl rfl (by decide) ?_;refine cQ rfl (by decide) ?_;refine Po rfl rfl (by omega) rfl (by decide) ?_;refine Ek (kd:=.u32) (ds:=.int .u64) (by kernel_rfl) (by kernel_rfl) rfl rfl (by decide) ?_;refine aB ?_;exact aS (h:=fun _ _=>rfl)
theorem aIJ(low many:Int)(w:World)(hok:okF low many):Cz 245 #[iv low,iv many] w (fun y w'=>(∃x,y=.returned x∧aFs many x w w')∧Below w.heap.size w w'):=by
 refine aN func245 ntmps245 ?_;refine aA ?_;refine bA fun g1=>?_;refine aA ?_
 (first | refine bX (t:=8) rfl (fun hg=>?_) (fun hg=>?_) | refine sL (t:=8) rfl (fun hg=>?_) (fun hg=>?_))
 ·
  refine aA ?_;exact absurd hok (by unfold okF;omega)
 ·
  refine aA ?_
  (first | refine bX (t:=12) rfl (fun hg=>?_) (fun hg=>?_) | refine sL (t:=12) rfl (fun hg=>?_) (fun hg=>?_))
  ·
   refine aA ?_;exact absurd hok (by unfold okF;omega)
  ·
   refine aA ?_
   (first | refine bX (t:=16) rfl (fun hg=>?_) (fun hg=>?_) | refine sL (t:=16) rfl (fun hg=>?_) (fun hg=>?_))
   ·
    refine aA ?_;exact absurd hok (by unfold okF;omega)
   ·
    refine aA ?_;refine aG rfl (fun h=>?_) (fun h=>?_)
    ·
     refine aA ?_;exact absurd hok (by unfold okF;omega)
    ·
     refine aA ?_;refine kO (vf:=[]) (vc:=[pt g1]) rfl rfl (by decide) ?_;refine aA ?_;refine dO [] [0] [] (by simp) rfl (by decide) (by decide) fun q hq _ hfr=>?_;refine eL rfl rfl rfl fun w1 st=>⟨⟨_,rfl,g1,rfl,(uF (o:=0) (v:=iv many) (hq 0 _ (by simp) rfl) rfl).le (st.mH (by simp) (hfr (by simp) (by simp)))⟩,st.below (by simp)⟩
theorem aI2(w0 low many:Int)(w:World)(hok:okF low many):
  Cz 241 #[.int .u32 w0,iv low,iv many] w (Rt (.tuple #[.int .u32 (cO w0 low many),iv 0]) w):=by
 refine aN func241 ntmps241 ?_;refine aB ?_;refine jQ [] (aFs many) (fun w1 st=>aIJ low many w1 hok) ?_;rintro _ w1 q1 ⟨g,rfl,cT⟩ hf _ _
 have cT:=cT.le hf
 clear hf;refine cQ rfl (by decide) ?_;refine aAp rfl rfl (by decide) ?_;refine aAp rfl rfl (by decide) ?_;refine fQ rfl (by decide) ?_;refine fQ rfl (by decide) ?_;refine dN ?_;refine cP ?_;refine cP ?_;refine eA ?_;refine cQ rfl (by decide) ?_
 (first | refine Lu rfl (by decide) ?_ | refine zP rfl (by decide) ?_)
 refine dN ?_;refine pV rfl (fun h=>?_) (fun h=>?_)
 ·
  refine aB ?_;exact absurd h (by simp)
 ·
  refine lX ?_;refine dV ?_;refine cP ?_;refine rF 5 (by kernel_rfl) (by kernel_rfl) ?_;refine gD 0 rfl rfl rfl (mV rfl) ?_;refine gD 1 rfl rfl rfl (mV rfl) ?_;refine gD 2 rfl rfl rfl (aJa rfl rfl (by unfold okF at hok;omega) rfl) ?_;refine gD 3 rfl rfl rfl (mV rfl) ?_;refine cG 4 ?_;refine zR (f:=247) (fi:=[]) (ca:=[pt g]) (by kernel_rfl) rfl rfl (by decide) (fun w1 st=>aEr 0 many g w1 (cT.le (st.le (by simp))) (by unfold okF at hok;omega) (by unfold okF at hok;omega)) ?_;refine nT ?_;refine cG 5 ?_;refine aCy (c:=cO w0 low many) rfl rfl (fun _=>rfl) (by simp) (by decide) ?_;refine fA ?_;refine cG 6 ?_;refine fQ rfl (by decide) ?_;refine fA ?_;refine cG 7 ?_;refine fQ rfl (by decide) ?_;refine fA ?_;refine kG ?_;refine dV ?_;refine Lc ?_;refine dV ?_;exact eL rfl rfl rfl fun w1 st=>⟨rfl,st.below (by simp)⟩
theorem aCZ(w0 low many v:Int)(w:World)(hok:okF low many):
  Cz 244 #[.int .u32 w0,iv low,iv many,.int .u32 v] w (Rt (.tuple #[.int .u32 (zY w0 low many v).1,iv (zY w0 low many v).2]) w):=by
 refine aN func244 ntmps244 ?_;refine aB ?_;refine jQ [] (aFs many) (fun w1 st=>aIJ low many w1 hok) ?_;rintro _ w1 q1 ⟨g,rfl,cT⟩ hf _ _
 have cT:=cT.le hf
 clear hf;refine cQ rfl (by decide) ?_;refine aAp rfl rfl (by decide) ?_;refine aAp rfl rfl (by decide) ?_;refine fQ rfl (by decide) ?_;refine fQ rfl (by decide) ?_;refine dN ?_;refine cP ?_;refine cP ?_;refine eA ?_;refine cQ rfl (by decide) ?_
 (first | refine Lu rfl (by decide) ?_ | refine zP rfl (by decide) ?_)
 refine dN ?_;refine pV rfl (fun h=>?_) (fun h=>?_)
 ·
  refine aB ?_;exact absurd h (by simp)
 ·
  refine aB ?_;refine zR (f:=247) (fi:=[]) (ca:=[pt g]) (by kernel_rfl) rfl rfl (by decide) (fun w1 st=>aEr 0 many g w1 (cT.le (st.le (by simp))) (by unfold okF at hok;omega) (by unfold okF at hok;omega)) ?_;refine aCy (c:=Zc v (Jp many 0)) rfl rfl (fun _=>rfl) (by simp) (by decide) ?_;refine aB ?_;refine aG rfl (fun h=>?_) (fun h=>?_)
  ·
   refine aB ?_;refine eL rfl rfl rfl fun w1 st=>⟨by rw[zY,if_pos h],st.below (by simp)⟩
  ·
   refine lX ?_;refine dV ?_;refine cP ?_;refine rF 8 (by kernel_rfl) (by kernel_rfl) ?_;refine gD 0 rfl rfl rfl (mV rfl) ?_;refine gD 1 rfl rfl rfl (mV rfl) ?_;refine gD 2 rfl rfl rfl (mV rfl) ?_;refine gD 5 rfl rfl rfl (mV rfl) ?_;refine gD 6 rfl rfl rfl (mV rfl) ?_;refine gD 7 rfl rfl rfl (aRF rfl rfl (by unfold okF at hok;omega) rfl) ?_;refine cG 3 ?_;refine zR (f:=247) (fi:=[]) (ca:=[pt g]) (by kernel_rfl) rfl rfl (by decide) (fun w1 st=>aEr low many g w1 (cT.le (st.le (by simp))) (by unfold okF at hok;omega) (by unfold okF at hok;omega)) ?_;refine nT ?_;refine gD 4 rfl rfl rfl (aJh (c:=Zc w0 (Jp many low)) rfl rfl (fun _=>rfl) (by simp)) ?_;refine cG 8 ?_;refine aCy (c:=aAL (Zc w0 (Jp many low)) (IntKind.u32.wrap (v*2 ^ min low.toNat 32))) rfl rfl (fun _=>rfl) (by simp) (by decide) ?_;refine fA ?_;refine cG 9 ?_;refine fQ rfl (by decide) ?_;refine fA ?_;refine cG 10 ?_;refine fQ rfl (by decide) ?_;refine fA ?_;refine kG ?_;refine dV ?_;refine Lc ?_;refine dV ?_;refine eL rfl rfl rfl fun w1 st=>⟨by rw[zY,if_neg h],st.below (by simp)⟩
theorem Vo(w0 low many:Int)(w:World)(hok:okF low many):
  Cz 231 #[.int .u32 w0,iv low,iv many] w (Rt (iv (cO w0 low many)) w):=by
 refine aN func231 ntmps231 ?_;refine aA ?_;refine dH (fun w1 st=>aI2 w0 low many w1 hok) ?_;refine aA ?_;refine Ek (ds:=.int .u32) (by kernel_rfl) (by kernel_rfl) rfl (iR (by have:=Pw (BitVec.ofInt 32 (w0.fdiv (2 ^ min low.toNat 32))&&& BitVec.ofInt 32 (Jp many 0)).toNat;unfold cO aBN;omega)) (by decide) ?_;refine aA ?_;exact aS (h:=fun _ _=>rfl)
theorem aAH(w0 low many v:Int)(w:World)(hok:okF low many):
  Cz 237 #[.int .u32 w0,iv low,iv many,iv v] w (Rt (.tuple #[.int .u32 (iW w0 low many v).1,iv (iW w0 low many v).2]) w):=by
 refine aN func237 ntmps237 ?_;refine aB ?_
 (first | refine bX (t:=13) rfl (fun hg=>?_) (fun hg=>?_) | refine sL (t:=13) rfl (fun hg=>?_) (fun hg=>?_))
 ·
  refine aB ?_;refine eL rfl rfl rfl fun w1 st=>⟨by rw[iW,if_pos (.inl hg)],st.below (by simp)⟩
 ·
  refine fP rfl rfl ?_;refine cQ rfl (by decide) ?_;refine fP rfl rfl ?_;refine cQ rfl (by decide) ?_;refine fP rfl rfl ?_;refine Po rfl rfl (by unfold okF at hok;omega) rfl (by decide) ?_;refine aB ?_;refine aG rfl (fun h=>?_) (fun h=>?_)
  ·
   refine aB ?_;refine eL rfl rfl rfl fun w1 st=>⟨by rw[iW,if_pos (.inr h)],st.below (by simp)⟩
  ·
   refine lX ?_
   have hno:¬(v < 0∨IntKind.i64.wrap (1*2 ^ min many.toNat 64)≤v):=fun h2=>h2.elim hg h
   refine dV ?_;refine cP ?_;refine eA ?_;refine cQ rfl (by decide) ?_;refine cQ rfl (by decide) ?_;refine cQ rfl (by decide) ?_;refine cQ rfl (by decide) ?_;refine Ek (kd:=.u32) (ds:=.int .i64) (by kernel_rfl) (by kernel_rfl) rfl rfl (by decide) ?_;refine dH (fun w1 st=>aCZ w0 low many (IntKind.u32.wrap v) w1 hok) ?_;refine aB ?_;refine aG rfl (fun h2=>?_) (fun h2=>?_)
   ·
    refine aB ?_;refine eL rfl rfl rfl fun w1 st=>⟨by rw[iW,if_neg hno,if_pos h2],st.below (by simp)⟩
   ·
    refine aB ?_;refine eL rfl rfl rfl fun w1 st=>⟨by rw[iW,if_neg hno,if_neg h2];rfl,st.below (by simp)⟩
end
section
def dY(m t p k:Int):Int×Int:=
 if(iW 0 0 8 m).2≠0 then(0,(iW 0 0 8 m).2)
 else if(iW (iW 0 0 8 m).1 8 2 t).2≠0 then(0,(iW (iW 0 0 8 m).1 8 2 t).2)
 else if(iW (iW (iW 0 0 8 m).1 8 2 t).1 10 8 p).2≠0 then(0,(iW (iW (iW 0 0 8 m).1 8 2 t).1 10 8 p).2)
 else if(iW (iW (iW (iW 0 0 8 m).1 8 2 t).1 10 8 p).1 18 10 k).2≠0 then(0,(iW (iW (iW (iW 0 0 8 m).1 8 2 t).1 10 8 p).1 18 10 k).2)
 else((iW (iW (iW (iW 0 0 8 m).1 8 2 t).1 10 8 p).1 18 10 k).1,0)
def Hr(m t p k:Int):List Value:=[iv m,iv t,iv p,iv k]
def Gs(w:Int):List Value:=if cO w 28 4≠0 then Hr 0 0 0 0 else Hr (cO w 0 8) (cO w 8 2) (cO w 10 8) (cO w 18 10)
def uM(w:Int):Int:=if cO w 28 4≠0 then 2 else 0
theorem Uk(l:List Int):∀u∈qU l,u.oneCell'=true:=by
 intro u hu;simp only[qU,List.mem_map] at hu;obtain⟨_,_,rfl⟩:=hu;rfl
def aCi(l:List Int)(v:Value)(w w':World):Prop:=∃A c,v=.slice A l.length c∧aI (fresh w w') 1 A l.length (qU l)
theorem aNA(m t p k:Int)(w:World):
  Cz 218 #[.agg #[iv m,iv t,iv p,iv k]] w (Rt (.tuple #[.int .u32 (dY m t p k).1,iv (dY m t p k).2]) w):=by
 refine aN func218 ntmps218 ?_;refine aB ?_;refine bA fun g1=>?_;refine aB ?_;refine dH (fun w1 st=>aAH 0 0 8 m w1 (by unfold okF;omega)) ?_;refine aB ?_;refine aG rfl (fun h1=>?_) (fun h1=>?_)
 ·
  refine aB ?_;refine eL rfl rfl rfl fun w1 st=>⟨by rw[dY,if_pos h1];rfl,st.below (by simp)⟩
 ·
  refine aB ?_;refine dH (fun w1 st=>aAH (iW 0 0 8 m).1 8 2 t w1 (by unfold okF;omega)) ?_;refine aB ?_;refine aG rfl (fun h2=>?_) (fun h2=>?_)
  ·
   refine aB ?_;refine eL rfl rfl rfl fun w1 st=>⟨by rw[dY,if_neg h1,if_pos h2];rfl,st.below (by simp)⟩
  ·
   refine aB ?_;refine dH (fun w1 st=>aAH (iW (iW 0 0 8 m).1 8 2 t).1 10 8 p w1 (by unfold okF;omega)) ?_;refine aB ?_;refine aG rfl (fun h3=>?_) (fun h3=>?_)
   ·
    refine aB ?_;refine eL rfl rfl rfl fun w1 st=>⟨by rw[dY,if_neg h1,if_neg h2,if_pos h3];rfl,st.below (by simp)⟩
   ·
    refine aB ?_;refine dH (fun w1 st=>aAH (iW (iW (iW 0 0 8 m).1 8 2 t).1 10 8 p).1 18 10 k w1 (by unfold okF;omega)) ?_;refine aB ?_;refine aG rfl (fun h4=>?_) (fun h4=>?_)
    ·
     refine aB ?_;refine eL rfl rfl rfl fun w1 st=>⟨by rw[dY,if_neg h1,if_neg h2,if_neg h3,if_pos h4];rfl,st.below (by simp)⟩
    ·
     refine aB ?_;refine eL rfl rfl rfl fun w1 st=>⟨by rw[dY,if_neg h1,if_neg h2,if_neg h3,if_neg h4];rfl,st.below (by simp)⟩
theorem aFX(w0:Int)(w:World):
  Cz 184 #[.int .u32 w0] w (Rt (.tuple #[.agg (Gs w0).toArray,iv (uM w0)]) w):=by
 refine aN func184 ntmps184 ?_;refine aA ?_;refine bU fun g1=>?_;refine aA ?_;refine dH (fun w1 st=>Vo w0 28 4 w1 (by unfold okF;omega)) ?_;refine aA ?_;refine aG rfl (fun h=>?_) (fun h=>?_)
 ·
  refine aA ?_;refine kd (gA rfl) ?_;refine uK rfl rfl ?_;simp only[iI,Value.cells,List.set,List.take,List.drop,List.nil_append,List.append_nil,List.length_cons,List.length_nil,List.cons_append,Nat.reduceAdd];refine aA ?_;refine xM rfl (n:=4) (vs:=Hr 0 0 0 0) (by kernel_rfl) rfl rfl (aR.whole 0 rfl) rfl fun w1 st=>⟨by rw[Gs,uM,if_pos h,if_pos h],st.below (by simp)⟩
 ·
  refine aA ?_;refine dH (fun w1 st=>Vo w0 0 8 w1 (by unfold okF;omega)) ?_;refine aA ?_;refine dH (fun w1 st=>Vo w0 8 2 w1 (by unfold okF;omega)) ?_;refine aA ?_;refine dH (fun w1 st=>Vo w0 10 8 w1 (by unfold okF;omega)) ?_;refine aA ?_;refine dH (fun w1 st=>Vo w0 18 10 w1 (by unfold okF;omega)) ?_;refine kd (gA rfl) ?_;refine uK rfl rfl ?_;simp only[iI,Value.cells,List.set,List.take,List.drop,List.nil_append,List.append_nil,List.length_cons,List.length_nil,List.cons_append,Nat.reduceAdd];refine aA ?_;refine xM rfl (n:=4) (vs:=Hr (cO w0 0 8) (cO w0 8 2) (cO w0 10 8) (cO w0 18 10)) (by kernel_rfl) rfl rfl (aR.whole 0 rfl) rfl fun w1 st=>⟨by rw[Gs,uM,if_neg h,if_neg h],st.below (by simp)⟩
theorem aMA(w0:Int)(A:Option Addr)(n c:Nat)(zs:List Int)(w:World)(hs:aI (all w) 1 A n (qU zs))(hn:n=zs.length)(hn2:n≤1000000):Cz 187 #[.int .u32 w0,.slice A n c] w (fun y w'=>(∃x,y=.returned x∧aCi (w0::zs) x w w')∧Below w.heap.size w w'):=by
 refine aN func187 ntmps187 ?_;refine aB ?_;refine aF7 1 4 (el:=23) (c:=n+1) (k0:=1) (uT:=.i64) (by kernel_rfl) (by kernel_rfl) rfl (by rw[Int.natCast_add];rfl) (by omega) (by omega) (by decide) fun g1=>?_;refine aB ?_;refine eH fun g2=>?_;refine gH 1 1 4 1 (n':=1) (el:=23) (by kernel_rfl) (by kernel_rfl) (by decide) rfl rfl rfl (nL 0 rfl rfl) (by simp[Value.oneCell']) rfl (by omega) (by omega) (by decide) fun A1 c1=>?_;dsimp only[List.set];refine aB ?_;refine gH 1 1 4 n (n':=n+1) (el:=23) (by kernel_rfl) (by kernel_rfl) (by decide) rfl rfl rfl (qW (by simp) hs) (Uk _) (by omega) (by omega) (by omega) (by decide) fun A2 c2=>?_;dsimp only[List.set];refine aB ?_;refine dO [] [1] [] (by simp) rfl (by decide) (by decide) fun q hq _ hfr=>?_;obtain⟨F2,Cq,Ch⟩:=hq 1 _ (by simp) rfl;obtain⟨Am,cm,hBm,cS⟩:=vC (Y:=q.Z) Cq Ch;cases hBm;subst hn;refine nS rfl rfl fun w1 st=>⟨⟨_,rfl,A2,c2,rfl,?_⟩,st.below (by simp)⟩
 exact aI.le cS (st.mH (by simp) (hfr (by simp) (by simp)))
def aCr(l:List Int)(v:Value)(w w':World):Prop:=∃A c,v=.tuple #[.slice A l.length c,iv 0]∧aI (fresh w w') 1 A l.length (qU l)
theorem aSi(m t p k:Int)(A:Option Addr)(n c:Nat)(zs:List Int)(w:World)(hs:aI (all w) 1 A n (qU zs))(hn:n=zs.length)(hn2:n≤1000000)(hok:(dY m t p k).2=0):Cz 162 #[.agg #[iv m,iv t,iv p,iv k],.slice A n c] w (fun y w'=>(∃x,y=.returned x∧aCr ((dY m t p k).1::zs) x w w')∧Below w.heap.size w w'):=by
 refine aN func162 ntmps162 ?_;refine aB ?_;refine bA fun g1=>?_;refine aB ?_;refine dH (fun w1 st=>aNA m t p k w1) ?_;refine aB ?_;refine aG rfl (fun h=>?_) (fun h=>?_)
 ·
  refine aB ?_;exact absurd hok h
 ·
  refine aB ?_;refine jQ [] (aCi ((dY m t p k).1::zs)) (fun w1 st=>aMA (dY m t p k).1 A n c zs w1 (hs.le (st.le (by simp))) hn hn2) ?_;rintro _ w1 q1 ⟨A1,c1,rfl,h1⟩ hf _ tB
  have tB:=tB (by simp)
  have h1:=h1.le hf
  clear hf;refine aB ?_;refine eL rfl rfl rfl fun w1 st=>⟨⟨_,rfl,A1,c1,rfl,aI.le h1 (st.mH (by simp) tB)⟩,st.below (by simp)⟩
theorem aLc(pr m id v k:Int)(w:World)(hok:(dY m 0 pr k).2=0):Cz 93 #[.agg #[iv pr,iv m,.int .u32 id,.int .u32 v],iv k] w (fun y w'=>(∃x,y=.returned x∧aCr [(dY m 0 pr k).1,id,v] x w w')∧Below w.heap.size w w'):=by
 refine aN func93 ntmps93 ?_;refine aB ?_;refine bA fun g1=>?_;refine aB ?_;refine eH fun g2=>?_;refine jQ [] (aCr ((dY m 0 pr k).1::[id,v])) (fun w1 st=>aSi m 0 pr k (some ⟨g2,0,none⟩) 2 2 [id,v] w1 (st.rQ (i:=0) rfl rfl) rfl (by omega) hok) ?_;rintro _ w1 q1 ⟨A1,c1,rfl,h1⟩ hf _ tB
 have tB:=tB (by simp)
 have h1:=h1.le hf
 clear hf;refine aB ?_;refine eL rfl rfl rfl fun w1 st=>⟨⟨_,rfl,A1,c1,rfl,aI.le h1 (st.mH (by simp) tB)⟩,st.below (by simp)⟩
end
section
def eM(w:Int):Int:=if cO w 28 4≠0 then 0 else cO w 0 8
def Fu(w:Int):Int:=if cO w 28 4≠0 then 0 else cO w 8 2
def eC(w:Int):Int:=if cO w 28 4≠0 then 0 else cO w 10 8
def aBv(w:Int):Int:=if cO w 28 4≠0 then 0 else cO w 18 10
theorem aFY(w:Int):Gs w=Hr (eM w) (Fu w) (eC w) (aBv w):=by
 unfold Gs eM Fu eC aBv;split<;>rfl
structure lM where
 n:Int
 m:Int
 a:Int
 b:Int
 c:Int
def lM.v(f:lM):Value:=tC f.n f.m f.a f.b f.c
def lM.act(f:lM)(v:Int):Int:=if v=0 then f.a else if v=1 then f.b else f.c
def qJ(p m:Int):Option lM:=
 if m=0 then(if p=16∨p=17∨p=20∨p=22 then some ⟨0,0,0,0,0⟩ else none)
 else if m=1 then(if p=16 then some ⟨0,0,0,0,0⟩ else none)
 else if m=4 then(if p=17 then some ⟨2,3,100,117,107⟩ else if p=22 then some ⟨2,2,114,97,0⟩ else none)
 else if m=5 then(if p=17 then some ⟨1,0,0,0,0⟩ else none)
 else if m=6 then(if p=20 then some ⟨1,0,0,0,0⟩ else none)
 else if m=7 then(if p=20 then some ⟨2,2,111,99,0⟩ else none)
 else none
theorem aQB(p m:Int):lR aEj (p,m)=(qJ p m).map lM.v:=by
 unfold aEj Np qJ;simp only[List.map_cons,List.map_nil,Bi,Mh,Prod.mk.injEq]
 by_cases h0:m=0
 ·subst h0
  by_cases xE:p=16
  ·subst xE;simp[lM.v]
  ·by_cases Dm:p=17
   ·subst Dm;simp[lM.v]
   ·by_cases yX:p=20
    ·subst yX;simp[lM.v]
    ·by_cases Nk:p=22
     ·subst Nk;simp[lM.v]
     ·simp[xE,Dm,yX,Nk,lR,Ne.symm xE,Ne.symm Dm,Ne.symm yX,Ne.symm Nk]
 ·by_cases h1:m=1
  ·subst h1
   by_cases xE:p=16
   ·subst xE;simp[lM.v]
   ·simp[xE,Ne.symm xE,lR]
  ·by_cases h4:m=4
   ·subst h4
    by_cases Dm:p=17
    ·subst Dm;simp[lM.v]
    ·by_cases Nk:p=22
     ·subst Nk;simp[lM.v]
     ·simp[Dm,Nk,Ne.symm Dm,Ne.symm Nk,lR]
   ·by_cases h5:m=5
    ·subst h5
     by_cases Dm:p=17
     ·subst Dm;simp[lM.v]
     ·simp[Dm,Ne.symm Dm,lR]
    ·by_cases h6:m=6
     ·subst h6
      by_cases yX:p=20
      ·subst yX;simp[lM.v]
      ·simp[yX,Ne.symm yX,lR]
     ·by_cases h7:m=7
      ·subst h7
       by_cases yX:p=20
       ·subst yX;simp[lM.v]
       ·simp[yX,Ne.symm yX,lR]
      ·simp[h0,h1,h4,h5,h6,h7,Ne.symm h0,Ne.symm h1,Ne.symm h4,Ne.symm h5,Ne.symm h6,Ne.symm h7,lR]
def eF(p m:Int):lM:=(qJ p m).getD ⟨0,0,0,0,0⟩
theorem aQA{sub:List Nat}(h:sub.Perm Np)(p m:Int):lR (sub.reverse.map Bi) (p,m)=(qJ p m).map lM.v:=by
 rw[←aQB]
 have hp:(sub.reverse.map Bi).Perm aEj:=((List.reverse_perm sub).trans h).map Bi
 refine aO2 hp ?_ _;exact((hp.map (·.1)).nodup_iff).2 (by decide)
theorem Sa{sub:List Nat}(h:sub.Perm Np)(p m:Int):(lR (sub.reverse.map Bi) (p,m)).getD (tC 0 0 0 0 0)=(eF p m).v∧(lR (sub.reverse.map Bi) (p,m)).isSome=(qJ p m).isSome:=by
 rw[aQA h];unfold eF;cases qJ p m<;>exact⟨rfl,rfl⟩
theorem aI4(p m : Int) : ((eF p m).n = 0 ∨ (eF p m).n = 1 ∨ (eF p m).n = 2) ∧ 0 ≤ (eF p m).m ∧ (eF p m).m ≤ 3 ∧ (∀ v, 0 ≤ v → v < (eF p m).m → (eF p m).act v = 107 → p = 17) ∧
  ((eF p m).m≠0→p=17∨p=20∨p=22):=by
 unfold eF qJ
 by_cases h0:m=0
 ·by_cases h:p=16∨p=17∨p=20∨p=22<;>simp[h0,h]<;>omega
 ·by_cases h1:m=1
  ·by_cases h:p=16<;>simp[h1,h]<;>omega
  ·by_cases h4:m=4
   ·by_cases h:p=17
    ·simp[h4,h]
    ·by_cases h':p=22
     ·subst h4 h';simp only[lM.act];refine⟨by simp,by simp,by simp,fun v h1 h2 h3=>?_,by simp⟩;simp at h2 h3;split at h3
      ·omega
      ·split at h3<;>omega
     ·simp[h4,h,h'];omega
   ·by_cases h5:m=5
    ·by_cases h:p=17<;>simp[h5,h]<;>omega
    ·by_cases h6:m=6
     ·by_cases h:p=20<;>simp[h6,h]<;>omega
     ·by_cases h7:m=7
      ·by_cases h:p=20
       ·subst h7 h;simp only[lM.act];refine⟨by simp,by simp,by simp,fun v h1 h2 h3=>?_,by simp⟩;simp at h2 h3;split at h3
        ·omega
        ·split at h3<;>omega
       ·simp[h7,h];omega
      ·simp[h0,h1,h4,h5,h6,h7];omega
def Md(s:aC)(k:Nat):Bool:=(s.domains[k]?).any (·.ret)
def kindOf(s:aC)(k:Nat):Int:=((s.aF[k]?).map (·.kind)).getD 0
def qV(s:aC)(k:Nat):Prop:=kindOf s k=112∨kindOf s k=103
instance(s:aC)(k:Nat):Decidable (qV s k):=inferInstanceAs (Decidable (_∨_))
def zZ(s:aC)(p k:Int)(id:Nat):Prop:=(k=107∧Md s id=false)∨(p=20∧¬qV s id)
instance(s:aC)(p k:Int)(id:Nat):Decidable (zZ s p k id):=inferInstanceAs (Decidable (_∨_))
def wE(s:aC)(p:Int)(f:lM)(id v:Int):Int×Int×Int:=
 if(tN s p:Int)≤id then(-4,0,0) else if f.m=0 then(0,0,0) else if f.m≤v then(-2,0,0) else if zZ s p (f.act v) id.toNat then(-2,0,0) else(0,f.act v,id)
def dX(s:aC)(l:List Int):Int×Int×Int:=
 match l with
 | []=>(-10,0,0)
 | w::r=>
  if uM w≠0∨Fu w≠0 then(-10,0,0)
  else if(qJ (eC w) (eM w)).isSome=false then(-1,0,0)
  else if(r.length:Int)≠(eF (eC w) (eM w)).n then(-10,0,0)
  else if(eF (eC w) (eM w)).n=0 then(0,0,0)
  else wE s (eC w) (eF (eC w) (eM w)) (r.getD 0 0) (r.getD ((eF (eC w) (eM w)).n.toNat - 1) 0)
def aEK(a:Int×Int×Int):Value:=.tuple #[.int .i32 a.1,.agg #[.int .u8 a.2.1,iv a.2.2]]
def wG(l:List Int):Prop:=∀x∈l,0≤x∧x < 4294967296
theorem aI.u32{w:World}{A:Option Addr}{n:Nat}{l:List Int}(h:aI (all w) 1 A n (qU l))(hn:0 < n):∃b off,A=some ⟨b,off,none⟩∧∀(i:Nat) (x:Int),l[i]? =some x→fR w b (off+i) (.int .u32 x):=by
 obtain⟨b,off,hA,hb,hc⟩:=h.2 hn;refine⟨b,off,hA,fun i x hx=>⟨hb,hc i _ ?_⟩⟩;simp only[qU,List.getElem?_map,hx,Option.map_some]
section
variable{P:Program}{N:lM}{w0:World}{e:Env}{R:List Piece}{H:List HP}
theorem aT4{nn:Nat}{fn:Func}{Post:Ending→World→Prop}{t u n b:Nat}{s:TypeId}{vs:List Value}{v':Value}(hr:fn.results=#[.tmp u,.cell t s])(hs:Ew P s n=true)(hn:vs.length=n)(ht:e.get t=some (pt b))(hrd:aR w0 R H b 0 vs)(hu:e.get u=some v')(h:∀w,St w0 R H w→Post (.returned (.tuple #[v',.agg vs.toArray])) w):XK ⟨nn,[]⟩ w0 (bodyPost P fn Post .ret) e R H:=fun a w cT st=>by
 have hl:=Uy (P:=P) hs hn (hrd w st)
 refine bodyPost_ret (v:=.tuple #[v',.agg vs.toArray]) ?_ cT.defers (h w st)
 have ha:=cT.get t _ ht
 have hb:=cT.get u _ hu
 simp only[Instr.loadAt,Instr.sureAddr,Sem.run_bind,Sem.run_pure,Result.andThen_ok] at hl;simp only[results,hr];simp[ha,hb,asAddr,hl]
end
end
section
theorem aOj(s:aC)(A1 A2 A3 A4:Option Addr)(n1 k1 n2 k2 n3 k3 n4 k4:Nat)(p:Int){w0:World}(w:World)(hS:fL w0 s A1 n1 A2 n2 A3 n3 A4 n4):Cz 220 #[.agg #[.slice A1 n1 k1,.slice A2 n2 k2,.slice A3 n3 k3,.slice A4 n4 k4],iv p] w (Rt (iv (tN s p)) w):=by
 obtain⟨h1,h2,h3,h4⟩:=And.intro hS.nB (And.intro hS.nM (And.intro hS.pO hS.nZ));subst h1 h2 h3 h4;exact aOi s A1 A2 A3 A4 k1 k2 k3 k4 p w
theorem pU{nn:Nat}{w:World}{e:Env}{R:List Piece}{H:List HP}{fn:Func}{t u n b:Nat}{s:TypeId}{vs:List Value}{v v':Value}(hv:v=.tuple #[v',.agg vs.toArray])(hr:fn.results=#[.tmp u,.cell t s]:=by rfl)(hs:Ew Tryz.prog s n=true:=by kernel_rfl)(ht:e.get t=some (pt b):=by rfl)(hrd:aR w R H b 0 vs:=by first | exact aR.whole 0 rfl | exact aR.whole 1 rfl | exact aR.whole 2 rfl | exact aR.whole 3 rfl)(hn:vs.length=n:=by rfl)(hu:e.get u=some v':=by rfl)(hR:all w∈R:=by simp):XK ⟨nn,[]⟩ w (bodyPost Tryz.prog fn (Rt v w) .ret) e R H:=
 aT4 hr hs hn ht hrd hu fun w9 st=>⟨by rw[hv],st.below hR⟩
theorem aNo(s:aC)(A1 A2 A3 A4:Option Addr)(n1 k1 n2 k2 n3 k3 n4 k4:Nat)(A:Option Addr)(n c:Nat)(l:List Int)(w:World)(hS:fL w s A1 n1 A2 n2 A3 n3 A4 n4)(hl:aI (all w) 1 A n (qU l))(hn:n=l.length)(hn2:n≤1000000)(hu:wG l):
  Cz 165 #[.agg #[.slice A1 n1 k1,.slice A2 n2 k2,.slice A3 n3 k3,.slice A4 n4 k4],.slice A n c] w (Rt (aEK (dX s l)) w):=by
 refine aN func165 ntmps165 ?_;refine aB ?_;refine bA fun g1=>?_;refine aB ?_;refine bU fun g2=>?_;refine aB ?_;refine aG rfl (fun h=>?_) (fun h=>?_)
 ·obtain rfl:l=[]:=List.eq_nil_of_length_eq_zero (by omega);refine aB ?_
  (refine pU ?_;rfl)
 obtain⟨b,off,rfl,hcell⟩:=hl.u32 (by omega)
 obtain⟨w1,r,rfl⟩:∃x r,l=x::r:=by
  cases l with
  | nil=>exact absurd (by simpa using hn) (show ¬n=0 by omega)
  | cons x r=>exact⟨x,r,rfl⟩
 have hw1:=hcell 0 w1 rfl
 have hlen:n=r.length+1:=by simpa using hn
 refine aB ?_;refine aU (v:=.tuple #[.agg #[iv (eM w1),iv (Fu w1),iv (eC w1),iv (aBv w1)],iv (uM w1)]) (fun w2 st=>(aFX w1 w2).mono fun x w3 hx=>aFh hx (by rw[aFY];rfl)) ?_;refine aB ?_;refine bU fun g3=>?_;refine aB ?_;refine bX (t:=26) rfl (fun hg=>?_) (fun hg=>?_)
 ·refine aB ?_
  (refine pU ?_;rw[dX,if_pos (.inl hg)];rfl)
 refine aB ?_;refine aG rfl (fun h4=>?_) (fun h5=>?_)
 ·refine aB ?_
  (refine pU ?_;rw[dX,if_pos (.inr h4)];rfl)
 have h4:¬(uM w1≠0∨Fu w1≠0):=fun hh=>hh.elim hg h5
 refine lX ?_;refine dV ?_;refine Tk (α:=Nat) (fun g4=>[(9,.bool (qJ (eC w1) (eM w1)).isSome),(8,pt g4),(7,iv (uM w1)),(6,pt g3),(5,pt g2),(2,pt g1),(1,.slice (some ⟨b,off,none⟩) n c)]) (fun g4=>[HP.aE g4 366 [iv (eF (eC w1) (eM w1)).n,iv (eF (eC w1) (eM w1)).m,.int .u8 (eF (eC w1) (eM w1)).a,.int .u8 (eF (eC w1) (eM w1)).b,.int .u8 (eF (eC w1) (eM w1)).c],HP.aE g3 334 [iv (eM w1),iv (Fu w1),iv (eC w1),iv (aBv w1)],HP.aE g2 136 [.int .u8 0,iv 0],HP.aE g1 30 [.slice A1 n1 k1,.slice A2 n2 k2,.slice A3 n3 k3,.slice A4 n4 k4]]) (fun _=>True) ?_ fun g4 _=>?_
 ·skip
  refine rF 12 (by kernel_rfl) (by kernel_rfl) ?_;refine gD 1 rfl rfl rfl (Gf (off:=2) (by kernel_rfl) rfl) ?_;refine gD 2 rfl rfl rfl (Kt rfl) ?_;refine gD 3 rfl rfl rfl (Gf (off:=0) (by kernel_rfl) rfl) ?_;refine gD 4 rfl rfl rfl (Kt rfl) ?_;refine gD 5 rfl rfl rfl (lW (zs:=[iv 0,iv 0]) (L:=[(0,1),(1,1)]) (iG (by kernel_rfl)) (by kernel_rfl) rfl (by simp[fI,gI,Value.cells];rfl)) ?_;refine Li 0 10 rfl rfl (by kernel_rfl) ?_ ?_
  ·refine iY aFr (fun w2 _=>aI6 w2) ?_;rintro _ _ q1 ⟨gm,sub,rfl,hsub,rfl⟩ _;simp only[List.cons_append,List.nil_append];refine iD ?_;refine gQ ?_;refine kX (fun _ h=>h.aZ.tail) ?_;refine Li 6 10 rfl rfl (by kernel_rfl) ?_ ?_
   ·refine aCx (v:=.agg #[iv (eF (eC w1) (eM w1)).n,iv (eF (eC w1) (eM w1)).m,.int .u8 (eF (eC w1) (eM w1)).a,.int .u8 (eF (eC w1) (eM w1)).b,.int .u8 (eF (eC w1) (eM w1)).c]) (et:=366) (l:=sub.reverse.map Bi) Tryz.underlying368 aAM (z:=tC 0 0 0 0 0) (by kernel_rfl) rfl (k:=(eC w1,eM w1)) rfl (fun w2 st=>st.vS (i:=0) rfl) (Sa hsub _ _).1 (Sa hsub _ _).2 (by decide) ?_;refine iD ?_;refine gQ ?_;refine kX (fun _ h=>h.aZ.tail) ?_;refine fM 7 rfl rfl rfl (by decide) (mV rfl) (by kernel_rfl) (fun _ _ _ h=>h) (fun _ h=>h.aZ.tail) ?_;refine fM 8 rfl rfl rfl (by decide) (Dt rfl rfl) (by kernel_rfl) (fun _ _ _ h=>h) (fun _ h=>h.aZ.tail) ?_;refine fM 9 rfl rfl rfl (by decide) (Dt rfl rfl) (by kernel_rfl) (fun _ _ _ h=>h) (fun _ h=>h.aZ.tail) ?_;refine cG 10 ?_;refine bU fun g4=>?_;refine iD ?_;refine gQ ?_;refine kX (fun _ h=>h.aZ.tail.tail) ?_;refine cG 11 ?_;refine uK rfl rfl ?_;simp only[iI,Value.cells,List.set,List.take,List.drop,List.nil_append,List.append_nil,List.length_cons,List.length_nil,List.cons_append,Nat.reduceAdd];refine iD ?_;refine gQ ?_;refine kX (fun _ h=>h.aZ.tail.tail) ?_;refine cG 12 ?_;refine fQ rfl (by decide) ?_;refine fA ?_;refine kG ?_;refine dV ?_;exact fY g4
   ·refine bU fun g4=>?_;refine iD ?_;refine gQ ?_;refine kX (fun _ h=>h.aZ.tail.tail) ?_;refine cG 6 ?_;refine aCx (v:=.agg #[iv (eF (eC w1) (eM w1)).n,iv (eF (eC w1) (eM w1)).m,.int .u8 (eF (eC w1) (eM w1)).a,.int .u8 (eF (eC w1) (eM w1)).b,.int .u8 (eF (eC w1) (eM w1)).c]) (et:=366) (l:=sub.reverse.map Bi) Tryz.underlying368 aAM (z:=tC 0 0 0 0 0) (by kernel_rfl) rfl (k:=(eC w1,eM w1)) rfl (fun w2 st=>st.vS (i:=1) rfl) (Sa hsub _ _).1 (Sa hsub _ _).2 (by decide) ?_;refine iD ?_;refine gQ ?_;refine kX (fun _ h=>h.aZ.tail.tail) ?_;refine fM 7 rfl rfl rfl (by decide) (mV rfl) (by kernel_rfl) (fun _ _ _ h=>h) (fun _ h=>h.aZ.tail.tail) ?_;refine fM 8 rfl rfl rfl (by decide) (Dt rfl rfl) (by kernel_rfl) (fun _ _ _ h=>h) (fun _ h=>h.aZ.tail.tail) ?_;refine fM 9 rfl rfl rfl (by decide) (Dt rfl rfl) (by kernel_rfl) (fun _ _ _ h=>h) (fun _ h=>h.aZ.tail.tail) ?_;refine cG 11 ?_;refine uK rfl rfl ?_;simp only[iI,Value.cells,List.set,List.take,List.drop,List.nil_append,List.append_nil,List.length_cons,List.length_nil,List.cons_append,Nat.reduceAdd];refine iD ?_;refine gQ ?_;refine kX (fun _ h=>h.aZ.tail.tail) ?_;refine cG 12 ?_;refine fQ rfl (by decide) ?_;refine fA ?_;refine kG ?_;refine dV ?_;exact fY g4
  ·refine bU fun g4=>?_;refine iD ?_;refine gQ ?_;refine kX (fun _ h=>h.tail) ?_;refine cG 0 ?_;refine iY aFr (fun w2 _=>aI6 w2) ?_;rintro _ _ q1 ⟨gm,sub,rfl,hsub,rfl⟩ _;simp only[List.cons_append,List.nil_append];refine iD ?_;refine gQ ?_;refine kX (fun _ h=>h.aZ.tail.tail) ?_;refine cG 6 ?_;refine aCx (v:=.agg #[iv (eF (eC w1) (eM w1)).n,iv (eF (eC w1) (eM w1)).m,.int .u8 (eF (eC w1) (eM w1)).a,.int .u8 (eF (eC w1) (eM w1)).b,.int .u8 (eF (eC w1) (eM w1)).c]) (et:=366) (l:=sub.reverse.map Bi) Tryz.underlying368 aAM (z:=tC 0 0 0 0 0) (by kernel_rfl) rfl (k:=(eC w1,eM w1)) rfl (fun w2 st=>st.vS (i:=0) rfl) (Sa hsub _ _).1 (Sa hsub _ _).2 (by decide) ?_;refine iD ?_;refine gQ ?_;refine kX (fun _ h=>h.aZ.tail.tail) ?_;refine fM 7 rfl rfl rfl (by decide) (mV rfl) (by kernel_rfl) (fun _ _ _ h=>h) (fun _ h=>h.aZ.tail.tail) ?_;refine fM 8 rfl rfl rfl (by decide) (Dt rfl rfl) (by kernel_rfl) (fun _ _ _ h=>h) (fun _ h=>h.aZ.tail.tail) ?_;refine fM 9 rfl rfl rfl (by decide) (Dt rfl rfl) (by kernel_rfl) (fun _ _ _ h=>h) (fun _ h=>h.aZ.tail.tail) ?_;refine cG 11 ?_;refine uK rfl rfl ?_;simp only[iI,Value.cells,List.set,List.take,List.drop,List.nil_append,List.append_nil,List.length_cons,List.length_nil,List.cons_append,Nat.reduceAdd];refine iD ?_;refine gQ ?_;refine kX (fun _ h=>h.aZ.tail.tail) ?_;refine cG 12 ?_;refine fQ rfl (by decide) ?_;refine fA ?_;refine kG ?_;refine dV ?_;exact fY g4
 obtain⟨tB,Kk,hF3,hF4,hF5⟩:=aI4 (eC w1) (eM w1);refine aB ?_;cases h7:(qJ (eC w1) (eM w1)).isSome
 ·refine aB ?_
  (refine pU ?_;rw[dX,if_neg h4,if_pos h7];rfl)
 have h7':¬(qJ (eC w1) (eM w1)).isSome=false:=by rw[h7];simp
 refine aB ?_;refine aG rfl (fun h9=>?_) (fun h9=>?_)
 ·refine aB ?_
  (refine pU ?_;rw[dX,if_neg h4,if_neg h7',if_pos (by omega)];rfl)
 have h9':¬(r.length:Int)≠(eF (eC w1) (eM w1)).n:=by omega
 refine aB ?_;refine aG rfl (fun h11=>?_) (fun h11=>?_)
 ·refine aB ?_
  (refine pU ?_;rw[dX,if_neg h4,if_neg h7',if_neg h9',if_pos h11];rfl)
 obtain⟨id,hid⟩:∃x,r[0]? =some x:=⟨r[0]'(by omega),List.getElem?_eq_getElem _⟩
 obtain⟨v,hv⟩:∃x,r[(eF (eC w1) (eM w1)).n.toNat - 1]? =some x:=⟨r[(eF (eC w1) (eM w1)).n.toNat - 1]'(by omega),List.getElem?_eq_getElem _⟩
 have aP7:r.getD 0 0=id:=by rw[List.getD_eq_getElem?_getD,hid];rfl
 have hv':r.getD ((eF (eC w1) (eM w1)).n.toNat - 1) 0=v:=by rw[List.getD_eq_getElem?_getD,hv];rfl
 have aUD:=hu id (List.mem_cons_of_mem _ (List.mem_of_getElem? hid))
 have Xk:=hu v (List.mem_cons_of_mem _ (List.mem_of_getElem? hv))
 have aUC:=hcell 1 id (by simpa using hid)
 have Xg:=hcell (eF (eC w1) (eM w1)).n.toNat v (by
  obtain⟨t,ht⟩:∃t,(eF (eC w1) (eM w1)).n.toNat=t+1:=⟨(eF (eC w1) (eM w1)).n.toNat - 1,by omega⟩
  rw[ht] at hv⊢;simpa using hv)
 have hread:dX s (w1::r)=wE s (eC w1) (eF (eC w1) (eM w1)) id v:=by rw[dX,if_neg h4,if_neg h7',if_neg h9',if_neg h11,aP7,hv']
 refine aB ?_;refine aU (fun w2 st=>aOj s A1 A2 A3 A4 n1 k1 n2 k2 n3 k3 n4 k4 (eC w1) w2 hS) ?_;refine aB ?_;refine aG rfl (fun Bh=>?_) (fun Bh=>?_)
 ·refine aB ?_
  (refine pU ?_;rw[hread,wE,if_pos Bh];rfl)
 refine aB ?_;refine aG rfl (fun xE=>?_) (fun xE=>?_)
 ·refine aB ?_
  (refine pU ?_;rw[hread,wE,if_neg Bh,if_pos xE];rfl)
 refine aB ?_;refine aG rfl (fun Xt=>?_) (fun Xt=>?_)
 ·refine aB ?_
  (refine pU ?_;rw[hread,wE,if_neg Bh,if_neg xE,if_pos Xt];rfl)
 have hact:([iv (eF (eC w1) (eM w1)).n,iv (eF (eC w1) (eM w1)).m,.int .u8 (eF (eC w1) (eM w1)).a,.int .u8 (eF (eC w1) (eM w1)).b,.int .u8 (eF (eC w1) (eM w1)).c]:List Value)[2+v.toNat]? =some (.int .u8 ((eF (eC w1) (eM w1)).act v)):=by
  unfold lM.act;rcases(by omega:v=0∨v=1∨v=2) with rfl | rfl | rfl<;>rfl
 have aPy:=hF4 v Xk.1 (by omega)
 generalize hk:(eF (eC w1) (eM w1)).act v=k at *;refine aB ?_;refine kd (bN rfl (Rd.aE 0 rfl hact)) ?_;refine aB ?_;refine bU fun g5=>?_;refine oO 0 rfl ?_;dsimp only[List.set];refine dN ?_;refine Tk (α:=Unit) (fun _=>[(12,pt g5),(5,pt g2)]) (fun _=>[HP.aE g5 136 [.int .u8 k,iv id],HP.aE g2 136 [.int .u8 0,iv 0]]) (fun _=>¬zZ s (eC w1) k id.toNat) ?_ fun _ lF=>?_
 ·refine aB ?_;refine bX (t:=91) rfl (fun hg=>?_) (fun hg=>?_)
  ·have hp:=aPy hg
   obtain⟨dm,sC⟩:∃d,s.domains[id.toNat]? =some d:=⟨s.domains[id.toNat]'(by rw[hp] at Bh;simp only[tN,if_true] at Bh;omega),List.getElem?_eq_getElem _⟩
   obtain⟨bD,oD,rD,rfl,_,rfl,hRD⟩:=hS.dom.row sC
   have Ju:Md s id.toNat=dm.ret:=by rw[Md,sC];rfl
   have hlD:=hS.nM
   have aU2:=(List.getElem?_eq_some_iff.1 sC).1
   have Nf:=hRD.at_ (j:=2) rfl
   cases hr:dm.ret
   all_goals
    rw[hr] at Nf Ju;refine aB ?_
   ·(refine pU ?_;rw[hread,wE,if_neg Bh,if_neg xE,if_neg Xt,hk,if_pos (.inl ⟨hg,Ju⟩)];rfl)
   ·refine bX (t:=104) rfl (fun yX=>by omega) (fun yX=>?_);refine aB ?_;exact fY () (hg:=fun h=>by simp_all [zZ])
  ·refine aB ?_;refine bX (t:=104) rfl (fun hp=>?_) (fun hp=>?_)
   ·obtain⟨ck,yT⟩:∃d,s.aF[id.toNat]? =some d:=⟨s.aF[id.toNat]'(by rw[hp] at Bh;simp only[tN,if_true] at Bh;simp at Bh;omega),List.getElem?_eq_getElem _⟩
    obtain⟨bC,oC,rC,rfl,_,⟨cA,cn,aUJ,rfl,_⟩,hC⟩:=hS.jK.row yT
    have aBm:kindOf s id.toNat=ck.kind:=by rw[kindOf,yT];rfl
    have hlC:=hS.nB
    have aU3:=(List.getElem?_eq_some_iff.1 yT).1
    refine aB ?_;refine aU (fun w2 st=>aL8 ck.kind _ _ _ _ _ _ _ w2) ?_
    by_cases lT:ck.kind=112∨ck.kind=103
    ·rw[decide_eq_true lT];refine aB ?_;exact fY () (hg:=fun h=>by simp_all [zZ,qV])
    ·rw[decide_eq_false lT];refine aB ?_
     (refine pU ?_;rw[hread,wE,if_neg Bh,if_neg xE,if_neg Xt,hk,if_pos (.inr ⟨hp,fun hc=>lT (by rw[←aBm];exact hc)⟩)];rfl)
   ·refine aB ?_;exact fY () (hg:=fun h=>by simp_all [zZ])
 refine aB ?_;refine Zv [2] ?_;refine aB ?_
 (refine pU ?_;rw[hread,wE,if_neg Bh,if_neg xE,if_neg Xt,hk,if_neg lF];rfl)
end
section
def Iy(l:List Nat)(v:Value)(w w':World):Prop:=∃A c,v=.slice A l.length c∧aI (fresh w w') 1 A l.length (aK (dL l))
theorem aOo{l:List Nat}{k i:Nat}(h:l[k]? =some i):(aK (dL l))[k]? =some (iv (i:Int)):=by simp[aK,dL,h]
theorem aBA(q : Piece)(s : aC)(A1 A2 A3 A4 : Option Addr)(n1 k1 n2 k2 n3 k3 n4 k4 : Nat)(c : Nat)(w : World)(oF : pW q s A1 n1 A2 n2 A3 n3 A4 n4)(hm : s.wY)(hq : q.Le (all w))(hc : c < s.aF.length) :
    Cz 153 #[.agg #[.slice A1 n1 k1,.slice A2 n2 k2,.slice A3 n3 k3,.slice A4 n4 k4],iv (c:Int)] w (Tr (Iy (fU s c)) w):=by
  obtain⟨rfl,rfl,rfl,rfl⟩:=oF.len;refine aN func153 ntmps153 ?_;refine Br q (by simp) hq ?_;refine aB ?_;refine bA fun g1=>?_;refine aB ?_;refine iP 3 1 ?_;refine bK [(1,iv (c:Int)),(5,sn),(2,pt g1)] ?_;refine aB ?_;refine eJ (fun m e R H=>∃(cur:Nat) (l:List Nat) (A:Option Addr) (k:Nat),cur < s.aF.length∧l.length≤s.aF.length∧m=s.aF.length - l.length∧fU s c=l++lJ s (s.aF.length - l.length) cur∧e=[(1,iv (cur:Int)),(5,.slice A l.length k),(2,pt g1)]∧R=[q,all w]∧H=[HP.own 3 1 (.slice A l.length k) l.length (aK (dL l)),HP.aE g1 30 [.slice A1 s.aF.length k1,.slice A2 s.domains.length k2,.slice A3 s.aT.length k3,.slice A4 s.aD.length k4]]) s.aF.length ⟨c,[],none,0,hc,by simp,rfl,rfl,rfl,rfl,rfl⟩ fun m e R H hI=>?_;obtain⟨cur,l,A,k,Bd,pQ,rfl,kC,rfl,rfl,rfl⟩:=hI;refine cP ?_;refine Zw 22 (l.length < s.aF.length) ?_ ?_
  · skip
    refine eA ?_;refine cQ rfl (by decide) ?_;refine aFC rfl rfl (by decide) ?_;refine cQ rfl (by decide) ?_;refine bX (t:=8) rfl (fun hg=>?_) (fun hg=>?_)
    ·
      refine fP rfl rfl ?_;refine cQ rfl (by decide) ?_;refine fP rfl rfl ?_;refine qA (off:=0) (by kernel_rfl) rfl (by decide) ?_;refine fP rfl rfl ?_;refine Ej rfl ?_;refine fP rfl rfl ?_;refine Ei (el:=86) (by kernel_rfl) rfl (by decide) ?_;refine fP rfl rfl ?_;refine Pp rfl rfl (by decide) ?_
      (first | refine pY rfl rfl (by decide) ?_ | refine pZ rfl rfl (by decide) ?_)
      refine cQ rfl (by decide) ?_;refine bX (t:=15) rfl (fun hg=>?_) (fun hg=>?_)
      ·
        refine fP rfl rfl ?_;refine cQ rfl (by decide) ?_;refine fP rfl rfl ?_;refine Ei (el:=3) (by kernel_rfl) rfl (by decide) ?_;refine fP rfl rfl ?_;refine qA (off:=0) (by kernel_rfl) rfl (by decide) ?_;refine fP rfl rfl ?_;refine Ej rfl ?_;refine fP rfl rfl ?_;refine Ei (el:=86) (by kernel_rfl) rfl (by decide) ?_;refine fP rfl rfl ?_;refine Pp rfl rfl (by decide) ?_
        (first | refine pY rfl rfl (by decide) ?_ | refine pZ rfl rfl (by decide) ?_)
        refine dN ?_;exact Tf (by repeat (first | exact trivial | refine⟨rfl,?_⟩)) (Rz rfl (by omega))
      ·
        refine fV rfl rfl rfl (by decide) ?_;refine fV rfl rfl rfl (by decide) ?_;refine fV rfl rfl rfl (by decide) ?_;refine fV rfl rfl rfl (by decide) ?_;refine fV rfl rfl rfl (by decide) ?_;refine fV rfl rfl rfl (by decide) ?_
        (first | refine pY rfl rfl (by decide) ?_ | refine pZ rfl rfl (by decide) ?_)
        refine dN ?_;exact Tf (by repeat (first | exact trivial | refine⟨rfl,?_⟩)) (Xv rfl (by omega))
    ·
      refine fV rfl rfl rfl (by decide) ?_;refine fV rfl rfl rfl (by decide) ?_;refine fV rfl rfl rfl (by decide) ?_;refine fV rfl rfl rfl (by decide) ?_;refine fV rfl rfl rfl (by decide) ?_
      (first | refine pY rfl rfl (by decide) ?_ | refine pZ rfl rfl (by decide) ?_)
      refine cQ rfl (by decide) ?_;refine fV rfl rfl rfl (by decide) ?_;refine fV rfl rfl rfl (by decide) ?_;refine fV rfl rfl rfl (by decide) ?_;refine fV rfl rfl rfl (by decide) ?_;refine fV rfl rfl rfl (by decide) ?_;refine fV rfl rfl rfl (by decide) ?_
      (first | refine pY rfl rfl (by decide) ?_ | refine pZ rfl rfl (by decide) ?_)
      refine dN ?_;exact Tf (by repeat (first | exact trivial | refine⟨rfl,?_⟩)) (Xv rfl (by omega))
  refine aG rfl (fun h=>?_) (fun h=>?_)
  ·
    refine aB ?_
    have hlt:l.length < s.aF.length:=h
    obtain⟨x,hx⟩:∃x,s.aF[cur]? =some x:=⟨_,List.getElem?_eq_getElem Bd⟩
    obtain⟨k0,Kc⟩:∃k0,s.aF.length - l.length=k0+1:=⟨s.aF.length - l.length - 1,by omega⟩
    rw[Kc,aJy hx] at kC
    have hn9:=hm.nc
    have hfit:=(hm.aF cur x hx).1
    refine aB ?_;refine eH fun g2=>?_;refine gH 1 1 8 1 (n':=l.length+1) (el:=3) (by kernel_rfl) (by kernel_rfl) (by decide) rfl rfl rfl (nL 0 rfl rfl) (by simp[Value.oneCell']) rfl (by omega) (by omega) (by decide) fun A' k'=>?_;dsimp only[List.set];rw[show aK (dL l)++[Value.int .i64 (cur:Int)]=aK (dL (l++[cur])) by simp[aK,dL]];refine aY [1,2] rfl (by decide) (R':=[q,all w]) (by simp) ?_;refine fQ rfl (by decide) ?_;refine dN ?_;refine cP ?_;refine cP ?_;obtain⟨bC,oC,rC,rfl,hzC,_,hR,hcC⟩:=oF.jK.zW hx;obtain⟨As,ns,ks,rfl,rfl,Jt⟩:=hR;refine eA ?_;refine qA (off:=0) (by kernel_rfl) rfl (by decide) ?_;refine Ej rfl ?_;refine cQ rfl (by decide) ?_;refine kd (dat (cur) (oC+cur*6)) ?_;refine qA (off:=1) (by kernel_rfl) rfl (by decide) ?_;refine jE (by kernel_rfl) rfl (Rd.ro (p:=q) (by simp) hzC (hcC 1 _ rfl)) (by decide) ?_;refine Ei (el:=3) (by kernel_rfl) rfl (by decide) ?_;refine aFD rfl rfl (by decide) ?_;refine dN ?_;refine aG rfl (fun h0=>?_) (fun h0=>?_)
    ·
      refine aB ?_
      have hs0:x.src=[]:=List.eq_nil_of_length_eq_zero (by have:((x.src.length:Nat):Int)=0:=h0;omega)
      rw[hs0] at kC
      have xC:(l++[cur])=fU s c:=kC.symm
      refine dO [] [0] [] (by simp) rfl (by decide) (by decide) fun qf Wj _ hfr=>?_;obtain⟨Ff,sf,zf⟩:=Wj 0 _ (by simp) rfl;obtain⟨Av,cv,hv,vX⟩:=vC (Y:=qf.Z) sf zf
      exact nS rfl rfl fun w1 st=>⟨⟨_,rfl,by
        rw[←xC];unfold Iy;rw[hv]
        exact⟨Av,cv,by simp,by simpa using aI.le vX (st.mH (by simp) (hfr (by simp) (by simp)))⟩⟩,st.below (by simp)⟩
    ·
      refine lX ?_;refine dV ?_
      obtain⟨f,fs,hs0⟩:∃f fs,x.src=f::fs:=by
        cases hs0:x.src with
        | nil=>exact absurd (by rw[hs0];rfl) h0
        | cons f fs=>exact⟨f,fs,rfl⟩
      have hf:=hfit f (by rw[hs0];simp)
      obtain⟨f',rfl⟩:∃f':Nat,f=(f':Int):=⟨f.toNat,by omega⟩
      rw[hs0] at kC;obtain⟨bS,oS,rfl,hzS,hcS⟩:=Jt.2 (by rw[hs0];simp);refine eA ?_;refine qA (off:=0) (by kernel_rfl) rfl (by decide) ?_;refine Ej rfl ?_;refine cQ rfl (by decide) ?_;refine kd (dat (cur) (oC+cur*6)) ?_;refine qA (off:=1) (by kernel_rfl) rfl (by decide) ?_;refine jE (by kernel_rfl) rfl (Rd.ro (p:=q) (by simp) hzC (hcC 1 _ rfl)) (by decide) ?_;refine aKW 0 oS (el:=3) (sz:=1) (by kernel_rfl) (by kernel_rfl) rfl rfl rfl (by rw[hs0];simp) (by omega) (by decide) ?_;refine jE (by kernel_rfl) rfl (Rd.ro (p:=q) (by simp) hzS (hcS 0 _ (by rw[hs0];rfl))) (by decide) ?_;refine aB ?_;exact bK [(1,iv (f':Int)),(5,.slice A' (l.length+1) k'),(2,pt g1)] (iC (s.aF.length - (l.length+1)) (by omega) ⟨f',l++[cur],A',k',by omega,by simp;omega,by simp,by rw[kC];simp[show s.aF.length - (l.length+1)=k0 by omega],by simp,rfl,by simp⟩)
  ·
    refine aB ?_
    have hge:¬l.length < s.aF.length:=h
    rw[show s.aF.length - l.length=0 by omega] at kC
    have xC:l=fU s c:=by rw[kC];simp[lJ]
    refine dO [] [0] [] (by simp) rfl (by decide) (by decide) fun qf Wj _ hfr=>?_;obtain⟨Ff,sf,zf⟩:=Wj 0 _ (by simp) rfl;obtain⟨Av,cv,hv,vX⟩:=vC (Y:=qf.Z) sf zf
    exact nS rfl rfl fun w1 st=>⟨⟨_,rfl,by
      rw[←xC];unfold Iy;rw[hv]
      exact⟨Av,cv,rfl,aI.le vX (st.mH (by simp) (hfr (by simp) (by simp)))⟩⟩,st.below (by simp)⟩
 in
end
section
def Mk(l:List Int)(x:Int):Int:=if x∈l then(l.idxOf x:Int) else -1
theorem aPe{l:List Int}{x:Int}{i:Nat}(hno:∀j y,j < i→l[j]? =some y→y≠x)(h:l[i]? =some x):Mk l x=i:=by
 have hm:x∈l:=List.mem_of_getElem? h
 rw[Mk,if_pos hm]
 have h2:l.idxOf x=i:=by
  induction l generalizing i with
  | nil=>simp at h
  | cons a r ih =>
   cases i with
   | zero=>simp at h;subst h;simp
   | succ i=>
    have ha:a≠x:=hno 0 a (by omega) rfl
    simp at h
    have hmr:x∈r:=List.mem_of_getElem? h
    have hi:=ih (fun j y hj hy=>hno (j+1) y (by omega) (by simpa using hy)) h hmr
    have hb:(a==x)=false:=by simpa using ha
    rw[List.idxOf_cons,hb];simp[hi]
 rw[h2]
theorem aPc{l:List Int}{x:Int}(hno:∀(j:Nat) (y:Int),l[j]? =some y→y≠x):Mk l x= -1:=by
 rw[Mk,if_neg];intro hm;obtain⟨j,hj⟩:=List.getElem?_of_mem hm;exact hno j x hj rfl
theorem aPd(l:List Int)(x:Int):decide (0≤Mk l x)=decide (x∈l):=by
 unfold Mk
 by_cases h:x∈l<;>simp[h]
def zE(s:aC)(c id:Int):Bool:=decide (id∈dL (fU s c.toNat))
def Dd(s:aC)(k id:Int)(d:bL):Bool:=
 if k=100∨k=107 then decide (d.domain=id) else if k=111 then zE s d.clock id else if k=97 then decide (d.reset=id) else false
def Dv(s:aC)(wt:List Int)(k id:Int)(i:Nat):Bool:=decide (0 < (wt[i]?).getD 0)&&((s.aD[i]?).any fun d=>Dd s k id d)
def Im(s:aC)(wt:List Int)(k id:Int):Bool:=(List.range s.aD.length).any (Dv s wt k id)
theorem aBG{s:aC}{wt:List Int}{k id:Int}{i:Nat}(hi:i < s.aD.length)(h:Dv s wt k id i=true):Im s wt k id=true:=by
 rw[Im,List.any_eq_true];exact⟨i,List.mem_range.2 hi,h⟩
theorem aEC{s:aC}{wt:List Int}{k id:Int}(h:∀i,i < s.aD.length→Dv s wt k id i=false):Im s wt k id=false:=by
 rw[Im,List.any_eq_false];intro i hi;simp[h i (List.mem_range.1 hi)]
def yV(s:aC)(x y:bJ)(k id:Int)(i:Nat):Bool:=
 if k=100∨k=107 then((s.domains[i]?).any fun d=>decide (d.above=id))&&sM x y k i
 else decide ((i:Int)≠id)&&(sM x y k i&&zE s i id)
def Ki(s:aC)(k:Int):Nat:=if k=100∨k=107 then s.domains.length else if k=111 then s.aF.length else 0
def Kj(s:aC)(x y:bJ)(k id:Int):Bool:=(List.range (Ki s k)).any (yV s x y k id)
theorem aIz{s:aC}{x y:bJ}{k id:Int}{i:Nat}(hi:i < Ki s k)(h:yV s x y k id i=true):Kj s x y k id=true:=by
 rw[Kj,List.any_eq_true];exact⟨i,List.mem_range.2 hi,h⟩
theorem Xn{s:aC}{x y:bJ}{k id:Int}(h:∀i,i < Ki s k→yV s x y k id i=false):Kj s x y k id=false:=by
 rw[Kj,List.any_eq_false];intro i hi;simp[h i (List.mem_range.1 hi)]
def Ii(s:aC)(x y:bJ)(ag:Nat)(k id:Int):Bool:=pK (if ag=0 then y else x) k id||Kj s x y k id
def jH(s:aC)(x y:bJ)(wt:List Int)(ag:Nat)(l:List Int):Int×Int×Int:=
 if(dX s l).1≠0∨(dX s l).2.1=0∨pK (if ag=0 then x else y) (dX s l).2.1 (dX s l).2.2=decide (rW (dX s l).2.1) then((dX s l).1,0,0)
 else if rW (dX s l).2.1 then
  (if(dX s l).2.1=117∧(s.domains[(dX s l).2.2.toNat]?).any (fun d=>decide (d.above≠ -1)&& !sM x y 117 d.above)=true then(-3,0,0) else(0,(dX s l).2))
 else if Ii s x y ag (dX s l).2.1 (dX s l).2.2 then(-3,0,0)
 else if Im s wt (dX s l).2.1 (dX s l).2.2 then(-6,0,0)
 else(0,(dX s l).2)
def Qx(k:Int):Int:=if k=117∨k=100∨k=107 then 17 else if k=99∨k=111 then 20 else 22
def Vy(k:Int):Prop:=k=117∨k=100∨k=107∨k=99∨k=111∨k=114∨k=97
theorem aQC(p m:Int)(v:Int)(h0:0≤v)(hv:v < (eF p m).m):Qx ((eF p m).act v)=p∧Vy ((eF p m).act v):=by
 have h1:∀f:lM,qJ p m=some f→v < f.m→Qx (f.act v)=p∧Vy (f.act v):=by
  intro f hf hv;unfold qJ at hf
  have hv3:f.m≤3:=by
   have:=(aI4 p m).2.2.1
   unfold eF qJ at this;rw[hf] at this;exact this
  rcases(by omega:v=0∨v=1∨v=2) with rfl | rfl | rfl<;>
  ·repeat' split at hf
   all_goals first
    | (cases hf;done)
    | (cases hf;simp at hv;done)
    | (cases hf;simp_all [Qx,Vy,lM.act])
 unfold eF at hv⊢;cases h:qJ p m with
 | none=>rw[h] at hv;simp at hv;omega
 | some f=>rw[h] at hv;exact h1 f h hv
theorem aGX{s : aC}{l : List Int}(hu : wG l) : ((dX s l).2.1 = 0 ∧ (dX s l).2.2 = 0) ∨ ((dX s l).1 = 0 ∧ Vy (dX s l).2.1 ∧ 0 ≤ (dX s l).2.2 ∧ (dX s l).2.2 < (tN s (Qx (dX s l).2.1) : Int) ∧
  ((dX s l).2.1=107→Md s (dX s l).2.2.toNat=true)∧(Qx (dX s l).2.1=20→qV s (dX s l).2.2.toNat)):=by
 unfold dX;split
 ·exact .inl ⟨rfl,rfl⟩
 ·rename_i w r
  split
  ·exact .inl ⟨rfl,rfl⟩
  ·split
   ·exact .inl ⟨rfl,rfl⟩
   ·split
    ·exact .inl ⟨rfl,rfl⟩
    ·split
     ·exact .inl ⟨rfl,rfl⟩
     ·have hd : ∀ i, 0 ≤ r.getD i 0 := fun i => by
       rw[List.getD_eq_getElem?_getD];cases hi:r[i]? with
       | none=>exact Int.le_refl _
       | some x=>exact(hu x (List.mem_cons_of_mem _ (List.mem_of_getElem? hi))).1
      have hid:=hd 0
      have hv:=hd ((eF (eC w) (eM w)).n.toNat - 1)
      generalize r.getD 0 0=id at *;generalize r.getD ((eF (eC w) (eM w)).n.toNat - 1) 0=v at *;unfold wE;split
      ·exact .inl ⟨rfl,rfl⟩
      ·split
       ·exact .inl ⟨rfl,rfl⟩
       ·split
        ·exact .inl ⟨rfl,rfl⟩
        ·split
         ·exact .inl ⟨rfl,rfl⟩
         ·rename_i h1 h2 h3 h4
          obtain⟨a1,a2⟩:=aQC (eC w) (eM w) v hv (by omega);refine .inr ⟨rfl,a2,hid,by dsimp only;rw[a1];omega,fun h5=>?_,fun h5=>?_⟩
          ·dsimp only at h5⊢;cases hr:Md s id.toNat with
           | true=>rfl
           | false=>exact absurd (.inl ⟨h5,hr⟩) h4
          ·dsimp only at h5⊢;rw[a1] at h5;exact Decidable.byContradiction fun hs=>h4 (.inr ⟨h5,hs⟩)
theorem aI.int{w:World}{A:Option Addr}{n:Nat}{l:List Int}(h:aI (all w) 1 A n (aK l))(hn:0 < n):∃b off,A=some ⟨b,off,none⟩∧∀(i:Nat) (x:Int),l[i]? =some x→fR w b (off+i) (iv x):=by
 obtain⟨b,off,hA,hb,hc⟩:=h.2 hn;refine⟨b,off,hA,fun i x hx=>⟨hb,hc i _ ?_⟩⟩;simp only[aK,List.getElem?_map,hx,Option.map_some]
end
section
section
variable{N:cF}{w0:World}{e e':Env}{R R' R0:List Piece}{H H' H0:List HP}{fuel:Nat}{listed:Array Bool}{Q:Exit→Act→World→Prop}
def zMv(ops:Array Oper):List Nat:=(List.range ops.size).filter fun i=>match ops[i]? with
 | some o=>aAG o.op||(o.guard.isSome&&aGn o.op)
 | none=>false
theorem aES{id:Nat}{l:List Oper}(k:XB Tryz.prog N w0 l.toArray Q R H (zMv l.toArray) fuel listed e' R' H')(hk:XB Tryz.prog N w0 l.toArray Q R H (zMv l.toArray) fuel listed e' R' H'→XL 0 N w0 l.toArray Q R H (zMv l.toArray) l.length (Array.replicate l.length false) e R H:=by
  intro h
  repeat (first | refine Zm ?_ | refine Zl ?_ | refine Zj ?_ | refine Zk ?_ | refine aBQ ?_ | refine Zi ?_ | refine Zn ?_)
  exact h)(hm:Tryz.prog.follows .mixedOrders=true:=by kernel_rfl)(hs:Region.noSelect l.toArray=true:=by kernel_rfl):XK N w0 ((Code.region id l.toArray true).wp Tryz.prog Q) e R H:=jM (zMv l.toArray) (hk k) hm hs
theorem aEZ{ops:Array Oper}{Z:List Nat}{p:Prop}[Decidable p](t:Nat)(ht:e.get t=some (.bool (decide p)))(h1:p→XB Tryz.prog N w0 ops Q R0 H0 Z fuel listed ((t,.bool true)::e) R H)(h2:¬p→XB Tryz.prog N w0 ops Q R0 H0 Z fuel listed ((t,.bool false)::e) R H):XB Tryz.prog N w0 ops Q R0 H0 Z fuel listed e R H:=by
 intro up a w hr st
 by_cases hp:p
 ·rw[decide_eq_true hp] at ht;exact h1 hp up a w (hr.as ht) st
 ·rw[decide_eq_false hp] at ht;exact h2 hp up a w (hr.as ht) st
theorem Iu{ops:Array Oper}{Z:List Nat}{d j t:Nat}{op:Op}{ty:TypeId}{pos:String}{aH:Array Edge}{want b:Bool}(i:Nat)(k:XB Tryz.prog N w0 ops Q R0 H0 Z fuel (listed.setIfInBounds i true) ((d,undef)::e) R H)(hr:Region.ready .any ops listed=[i]:=by decide+kernel)(hi:ops[i]? =some ⟨some d,op,ty,pos,aH,some (j,want)⟩:=by rfl)(hj:(ops[j]?).bind (·.dst)=some t:=by rfl)(ht:e.get t=some (.bool b):=by rfl)(hb:b= !want:=by rfl)(hd:d < N.n:=by decide)(hS:∀w,St w0 R H w→St w0 R0 H0 w:=by exact fun _ h=>h):XB Tryz.prog N w0 ops Q R0 H0 Z (fuel+1) listed e R H:=
 aO i (fV hj ht hb hd (bM k hS)) hr hi
theorem Ol{P:Program}{c:Code}(E:Nat→Env)(n:Nat)(hr:∀i,i≤n→XK N w0 (c.wp P (Exit.then (LpK (α:=Unit) N w0 n (fun i _=>E i) R (fun _ _=>H) (fun _ _=>True) i) Q)) (E i) R H)(hE:(E 0).Sub e:=by repeat (first | exact trivial | refine⟨rfl,?_⟩))(hC:lZ [] H H:=by exact Oy):XK N w0 ((Code.loop c).wp P Q) e R H:=
 qN (α:=Unit) (fun i _=>E i) (fun _ _=>H) (fun _ _=>True) n () trivial (fun i _ hi _=>hr i hi) hE hC
end
end
section
theorem aPb(A:Option Addr)(n c:Nat)(l:List Int)(x:Int)(w:World)(hs:aI (all w) 1 A n (aK l))(hn:n=l.length)(hn2:n≤1000000):
  Cz 238 #[.slice A n c,iv x] w (Rt (iv (Mk l x)) w):=by
 refine aN func238 ntmps238 ?_;refine aB ?_;refine bK [(8,iv 0),(7,iv n),(1,iv x),(0,.slice A n c)] ?_;refine aB ?_;refine eJ (fun m e R H=>∃(i:Nat),i≤n∧m=n - i∧(∀(j:Nat) (y:Int),j < i→l[j]? =some y→y≠x)∧e=[(8,iv i),(7,iv n),(1,iv x),(0,.slice A n c)]∧R=[all w]∧H=[]) n ⟨0,by omega,rfl,(fun j y hj=>absurd hj (Nat.not_lt_zero j)),rfl,rfl,rfl⟩ fun m e R H hI=>?_;obtain⟨i,hi,rfl,hno,rfl,rfl,rfl⟩:=hI;refine aB ?_;refine aG rfl (fun h=>?_) (fun h=>?_)
 ·
  refine aB ?_
  have hil:i < n:=by have h':(i:Int) < (n:Int):=h;omega
  obtain⟨y,hy⟩:∃y,l[i]? =some y:=⟨l[i]'(by omega),List.getElem?_eq_getElem _⟩
  obtain⟨b,off,rfl,hc⟩:=hs.int (by omega)
  have Kg:=hc i y hy
  refine aB ?_;refine aG rfl (fun h2=>?_) (fun h2=>?_)
  ·
   refine aB ?_;exact aS (h:=fun _ _=>by rw[aPe (i:=i) hno (h2▸hy)])
  ·
   refine aB ?_
   exact dW (n - (i+1)) ⟨i+1,by omega,rfl,(fun j y' hj hy'=>by
    rcases Nat.lt_or_ge j i with h1 | h1
    ·exact hno j y' h1 hy'
    ·have hji:j=i:=by omega
     subst hji;rw[hy] at hy';cases hy'
     exact fun h=>h2 h.symm),rfl,rfl,rfl⟩
 ·
  refine aB ?_
  have hin:i=n:=by have h':¬(i:Int) < (n:Int):=h;omega
  subst hin;exact aS (h:=fun _ _=>by rw[aPc (fun j y hy=>hno j y (by have:=(List.getElem?_eq_some_iff.1 hy).1;omega) hy)])
theorem aJl(A:Option Addr)(n c:Nat)(l:List Int)(x:Int)(w:World)(hs:aI (all w) 1 A n (aK l))(hn:n=l.length)(hn2:n≤1000000):
  Cz 222 #[.slice A n c,iv x] w (Rt (.bool (decide (x∈l))) w):=by
 refine aN func222 ntmps222 ?_;refine aB ?_;refine dH (fun w1 st=>aPb A n c l x w1 (hs.le (st.le (by simp))) hn hn2) ?_;refine aB ?_;exact aS (h:=fun _ _=>by rw[←aPd])
theorem aSN(q:Piece)(s:aC)(A1 A2 A3 A4:Option Addr)(n1 k1 n2 k2 n3 k3 n4 k4:Nat)(Aw:Option Addr)(nw cw:Nat)(wt:List Int)(k id:Int)(w:World)(oF:pW q s A1 n1 A2 n2 A3 n3 A4 n4)(hm:s.wY)(hq:q.Le (all w))(hw:aI (all w) 1 Aw nw (aK wt))(hnw:nw=wt.length):
  Cz 170 #[.agg #[.slice A1 n1 k1,.slice A2 n2 k2,.slice A3 n3 k3,.slice A4 n4 k4],.slice Aw nw cw,.agg #[.int .u8 k,iv id]] w (Rt (.bool (Im s wt k id)) w):=by
 obtain⟨rfl,rfl,rfl,rfl⟩:=oF.len;refine aN func170 ntmps170 ?_;refine Br q (by simp) hq ?_;refine aB ?_;refine bA fun g1=>?_;refine aB ?_;refine bA fun g2=>?_;refine aB ?_;refine Gk (α:=Unit) (fun _=>[]) (fun _=>[]) (fun _=>∀j,j < s.aD.length→Dv s wt k id j=false) ?_ fun _ hno=>?_
 ·refine qN (α:=Unit) (fun i _=>[(12,iv i),(11,iv s.aD.length),(10,.slice A4 s.aD.length k4),(5,pt g2),(3,pt g1),(1,.slice Aw nw cw)]) (fun _ _=>[HP.aE g2 136 [.int .u8 k,iv id],HP.aE g1 30 [.slice A1 s.aF.length k1,.slice A2 s.domains.length k2,.slice A3 s.aT.length k3,.slice A4 s.aD.length k4]]) (fun i _=>∀j,j < i→Dv s wt k id j=false) s.aD.length () (fun j hj=>absurd hj (Nat.not_lt_zero j)) fun i _ hi hno=>?_
  have wA:Dv s wt k id i=false→∀j,j < i+1→Dv s wt k id j=false:=fun h j hj=>by
   rcases(by omega:j < i∨j=i) with hj | rfl
   ·exact hno j hj
   ·exact h
  have hnc:=hm.nc
  have hnd:=hm.nd
  have nD:=hm.nv
  refine aB ?_;refine aG rfl (fun h=>?_) (fun h=>?_)
  ·have hil:i < s.aD.length:=by omega
   obtain⟨d,hd⟩:=get_some hil;obtain⟨hx1,vU,hx3,hx4,hx5,hx6,_⟩:=hm.aD i d hd;obtain⟨bV,oV,rV,rfl,hzV,_,hR,Xh⟩:=oF.dev.zW hd;obtain⟨Ar,nr,kr,An,nn,kn,rfl,_⟩:=hR;obtain⟨xc,hxc⟩:∃xc:Nat,d.clock=(xc:Int):=⟨d.clock.toNat,by omega⟩
   rw[hxc] at Xh
   have hk:=eG.le hzV Xh hq
   have yU:Dv s wt k id i=(decide (0 < (wt[i]?).getD 0)&&Dd s k id d):=by rw[Dv,hd];rfl
   refine aB ?_;refine bU fun g3=>?_;refine aB ?_;refine bX (t:=21) rfl (fun h2=>?_) (fun h2=>?_)
   ·refine aB ?_;exact jU () (hg:=wA (by rw[yU,List.getElem?_eq_none (by omega)];rfl))
   obtain⟨y,hy⟩:=get_some (l:=wt) (i:=i) (by omega);obtain⟨bW,oW,rfl,hcW⟩:=hw.int (by omega)
   have Kg:=hcW i y hy
   rw[hy] at yU;refine aB ?_;refine aG rfl (fun h3=>?_) (fun h3=>?_)
   ·refine aB ?_;exact jU () (hg:=wA (by rw[yU,decide_eq_false (by simpa using h3)];rfl))
   rw[decide_eq_true (show 0 < (some y).getD 0 by simpa using h3)] at yU;refine aB ?_;refine bX (t:=30) rfl (fun hA=>?_) (fun hA=>?_)
   ·refine aB ?_;refine aG rfl (fun h4=>?_) (fun h4=>?_)
    ·refine aB ?_;exact dG (by rw[aBG hil (by rw[yU];unfold Dd zE;simp_all)])
    ·refine aB ?_;exact jU () (hg:=wA (by rw[yU];unfold Dd zE;simp_all))
   refine aB ?_;refine bX (t:=30) rfl (fun hB=>?_) (fun hB=>?_)
   ·refine aB ?_;refine aG rfl (fun h4=>?_) (fun h4=>?_)
    ·refine aB ?_;exact dG (by rw[aBG hil (by rw[yU];unfold Dd zE;simp_all)])
    ·refine aB ?_;exact jU () (hg:=wA (by rw[yU];unfold Dd zE;simp_all))
   refine aB ?_;refine bX (t:=38) rfl (fun hC=>?_) (fun hC=>?_)
   ·refine aB ?_;refine rG ?_;refine aO 3 ?_;refine jQ [q] (Iy (fU s xc)) (fun w2 st=>aBA q s _ _ _ _ _ k1 _ k2 _ k3 _ k4 xc w2 oF hm (st.le (by simp)) (by omega)) ?_;rintro _ w2 q1 ⟨Ac,cc,rfl,kC⟩ hf hle _
    have kC:=kC.le hf
    have aPZ:=aBB s s.aF.length xc
    refine bM ?_ (hS:=fun _ h=>h.aZ);refine aO 6 ?_;refine aU (fun w3 st=>aJl Ac _ cc (dL (fU s xc)) id w3 (kC.le (st.le (by simp))) (by simp[dL]) (by unfold fU;omega)) ?_;refine cX ?_;refine fJ ?_;refine aB ?_;refine aG rfl (fun h4=>?_) (fun h4=>?_)
    ·refine aB ?_;exact dG (by rw[aBG hil (by rw[yU];unfold Dd zE;simp_all)])
    ·refine aB ?_;exact jU () (hg:=wA (by rw[yU];unfold Dd zE;simp_all))
   refine aB ?_;refine bX (t:=47) rfl (fun hD=>?_) (fun hD=>?_)
   ·refine aB ?_;refine aG rfl (fun h4=>?_) (fun h4=>?_)
    ·refine aB ?_;exact dG (by rw[aBG hil (by rw[yU];unfold Dd zE;simp_all)])
    ·refine aB ?_;exact jU () (hg:=wA (by rw[yU];unfold Dd zE;simp_all))
   refine aB ?_;exact jU () (hg:=wA (by rw[yU];unfold Dd zE;simp_all))
  ·refine aB ?_;exact fY () (hg:=fun j hj=>hno j (by omega))
 ·refine aB ?_;exact dG (by rw[aEC hno])
theorem vB.box{q:Piece}{x y:bJ}{A1 A2 A3 B1 B2 B3:Option Addr}{n1 k1 n2 k2 n3 k3 m1 l1 m2 l2 m3 l3:Nat}{w:World}{g:Nat}
  (hx:vB q x y (.agg #[.slice A1 n1 k1,.slice A2 n2 k2,.slice A3 n3 k3,.slice B1 m1 l1,.slice B2 m2 l2,.slice B3 m3 l3])) (hq:q.Le (all w)) (hg:eG w g 0 [.slice A1 n1 k1,.slice A2 n2 k2,.slice A3 n3 k3,.slice B1 m1 l1,.slice B2 m2 l2,.slice B3 m3 l3]):StM w g x y:=by
 obtain⟨C1,j1,C2,j2,C3,j3,D1,i1,D2,i2,D3,i3,he,s1,s2,s3,s4,s5,s6⟩:=hx;simp only[Value.agg.injEq,Array.mk.injEq,List.cons.injEq,Value.slice.injEq] at he;obtain⟨⟨rfl,rfl,rfl⟩,⟨rfl,rfl,rfl⟩,⟨rfl,rfl,rfl⟩,⟨rfl,rfl,rfl⟩,⟨rfl,rfl,rfl⟩,⟨rfl,rfl,rfl⟩,_⟩:=he;intro i hi;rcases(by omega:i=0∨i=1) with rfl | rfl
 ·exact⟨A1,k1,A2,k2,A3,k3,by simpa using hg.at_ (j:=0) rfl,by simpa using hg.at_ (j:=1) rfl,by simpa using hg.at_ (j:=2) rfl,s1.le hq,s2.le hq,s3.le hq⟩
 ·exact⟨B1,l1,B2,l2,B3,l3,by simpa using hg.at_ (j:=3) rfl,by simpa using hg.at_ (j:=4) rfl,by simpa using hg.at_ (j:=5) rfl,s4.le hq,s5.le hq,s6.le hq⟩
theorem aSa(q qx:Piece)(s:aC)(A1 A2 A3 A4:Option Addr)(n1 k1 n2 k2 n3 k3 n4 k4:Nat)(X1 X2 X3 Y1 Y2 Y3:Option Addr)(Co xX Cm xW Cl xV Ck xU Cj xS Ci xR:Nat)(x y:bJ)(ag:Nat)(k id:Int)(w:World)(oF:pW q s A1 n1 A2 n2 A3 n3 A4 n4)(hm:s.wY)(hq:q.Le (all w))(Nj:vB qx x y (.agg #[.slice X1 Co xX,.slice X2 Cm xW,.slice X3 Cl xV,.slice Y1 Ck xU,.slice Y2 Cj xS,.slice Y3 Ci xR]))(Hl:qx.Le (all w))(hag:ag < 2):
  Cz 169 #[.agg #[.slice A1 n1 k1,.slice A2 n2 k2,.slice A3 n3 k3,.slice A4 n4 k4],.agg #[.slice X1 Co xX,.slice X2 Cm xW,.slice X3 Cl xV,.slice Y1 Ck xU,.slice Y2 Cj xS,.slice Y3 Ci xR],iv (ag:Int),.agg #[.int .u8 k,iv id]] w (Rt (.bool (Ii s x y ag k id)) w):=by
 obtain⟨rfl,rfl,rfl,rfl⟩:=oF.len
 have hnc:=hm.nc
 have hnd:=hm.nd
 have nx:∀{i:Nat} {p:Nat→Prop},(∀j,j < i→p j)→p i→∀j,j < i+1→p j:=fun {i p} h1 h2 j hj=>by
  rcases(by omega:j < i∨j=i) with hj | rfl
  ·exact h1 j hj
  ·exact h2
 refine aN func169 ntmps169 ?_;refine Br qx (by simp) Hl ?_;refine Br q (by simp) hq ?_;refine aB ?_;refine bA fun g1=>?_;refine aB ?_;refine bA fun g2=>?_;refine aB ?_;refine bA fun g3=>?_;refine aB ?_;refine Gk (α:=Unit) (fun _=>[(7,pt g3),(5,pt g2),(4,pt g1)]) (fun _=>[HP.aE g3 136 [.int .u8 k,iv id],HP.aE g2 130 [.slice X1 Co xX,.slice X2 Cm xW,.slice X3 Cl xV,.slice Y1 Ck xU,.slice Y2 Cj xS,.slice Y3 Ci xR],HP.aE g1 30 [.slice A1 s.aF.length k1,.slice A2 s.domains.length k2,.slice A3 s.aT.length k3,.slice A4 s.aD.length k4]]) (fun _=>pK (if ag=0 then y else x) k id=false) ?_ fun _ aDJ=>?_
 ·refine qN (α:=Unit) (fun i _=>[(13,iv i),(7,pt g3),(5,pt g2),(4,pt g1),(2,iv (ag:Int))]) (fun _ _=>[HP.aE g3 136 [.int .u8 k,iv id],HP.aE g2 130 [.slice X1 Co xX,.slice X2 Cm xW,.slice X3 Cl xV,.slice Y1 Ck xU,.slice Y2 Cj xS,.slice Y3 Ci xR],HP.aE g1 30 [.slice A1 s.aF.length k1,.slice A2 s.domains.length k2,.slice A3 s.aT.length k3,.slice A4 s.aD.length k4]]) (fun i _=>∀j:Nat,j < i→¬(j:Int)=ag→pK (if j=0 then x else y) k id=false) 2 () (fun j hj=>absurd hj (Nat.not_lt_zero j)) fun i _ hi hno=>?_;refine aB ?_;refine aG rfl (fun h=>?_) (fun h=>?_)
  ·have hi2:i < 2:=by omega
   refine aB ?_;refine bX (t:=19) rfl (fun h1=>?_) (fun h1=>?_)
   ·refine aB ?_;refine aU (fun w1 st=>aC5 g2 i (if i=0 then x else y) k id w1 hi2 (vB.box Nj (st.le (by simp)) (st.box (i:=1) rfl) i hi2)) ?_;cases hb:pK (if i=0 then x else y) k id
    ·refine aB ?_;exact jU () (hg:=nx hno fun _=>hb)
    ·refine aB ?_;refine jT (by simp) ?_
     have aDJ:pK (if ag=0 then y else x) k id=true:=by
      rcases(by omega:(i=0∧ag=1)∨(i=1∧ag=0)) with⟨rfl,rfl⟩ | ⟨rfl,rfl⟩<;>simpa using hb
     rw[Ii,aDJ];rfl
   ·refine aB ?_;exact jU () (hg:=nx hno fun hc=>absurd hc h1)
  ·obtain rfl:i=2:=by omega
   refine aB ?_;refine fY () (hg:=?_);rcases(by omega:ag=0∨ag=1) with rfl | rfl
   ·simpa using hno 1 (by omega) (by omega)
   ·simpa using hno 0 (by omega) (by omega)
 have Xe:Ii s x y ag k id=Kj s x y k id:=by rw[Ii,aDJ,Bool.false_or]
 refine cP ?_;refine cP ?_;refine eA ?_;refine bH ?_;refine bH ?_;refine dN ?_;refine sJ ?_;refine Tk (α:=Bool) (fun b=>[(30,.bool b),(29,.int .u8 k),(7,pt g3),(5,pt g2),(4,pt g1)]) (fun _=>[HP.aE g3 136 [.int .u8 k,iv id],HP.aE g2 130 [.slice X1 Co xX,.slice X2 Cm xW,.slice X3 Cl xV,.slice Y1 Ck xU,.slice Y2 Cj xS,.slice Y3 Ci xR],HP.aE g1 30 [.slice A1 s.aF.length k1,.slice A2 s.domains.length k2,.slice A3 s.aT.length k3,.slice A4 s.aD.length k4]]) (fun b=>b=true↔k=100∨k=107) ?_ fun b hb=>?_
 ·refine aB ?_;refine bX (t:=30) rfl (fun hA=>?_) (fun hA=>?_)
  ·refine aB ?_;exact fY true (hg:=by simp[hA])
  ·refine aB ?_;refine bX (t:=30) rfl (fun hB=>?_) (fun hB=>?_)
   ·exact fY true (hg:=by simp[hB])
   ·exact fY false (hg:=by simp[hA,hB])
 cases b
 ·have Rm:¬(k=100∨k=107):=fun hh=>by simpa using hb.2 hh
  refine aB ?_;refine bX (t:=53) rfl (fun hC=>?_) (fun hC=>?_)
  ·have Wu:Ki s k=s.aF.length:=by rw[Ki,if_neg Rm,if_pos hC]
   refine aB ?_;refine qN (α:=Unit) (fun i _=>[(58,iv i),(57,iv s.aF.length),(7,pt g3),(5,pt g2),(4,pt g1)]) (fun _ _=>[HP.aE g3 136 [.int .u8 k,iv id],HP.aE g2 130 [.slice X1 Co xX,.slice X2 Cm xW,.slice X3 Cl xV,.slice Y1 Ck xU,.slice Y2 Cj xS,.slice Y3 Ci xR],HP.aE g1 30 [.slice A1 s.aF.length k1,.slice A2 s.domains.length k2,.slice A3 s.aT.length k3,.slice A4 s.aD.length k4]]) (fun i _=>∀j,j < i→yV s x y k id j=false) s.aF.length () (fun j hj=>absurd hj (Nat.not_lt_zero j)) fun i _ hi hno=>?_;refine aB ?_;refine aG rfl (fun h=>?_) (fun h=>?_)
   ·have hil:i < s.aF.length:=by omega
    have fK:yV s x y k id i=(decide ((i:Int)≠id)&&(sM x y k i&&decide (id∈dL (fU s i)))):=by rw[yV,if_neg Rm,zE,Int.toNat_natCast]
    refine aB ?_;refine aES ?_;refine aEZ 65 rfl (fun h1=>?_) (fun h1=>?_)
    ·rw[decide_eq_true h1] at fK;refine rH 5 ?_;refine aO 8 ?_;refine aB ?_;refine aU (fun w1 st=>aC7 g2 x y k i w1 (vB.box Nj (st.le (by simp)) (st.box (i:=1) rfl))) ?_;cases hw:sM x y k i
     all_goals
      rw[hw] at fK;refine bM ?_;refine rH 9 ?_
     ·refine Iu 13 ?_;refine rH 14 ?_;refine Iu 16 ?_;refine rH 17 ?_;refine fJ ?_;refine aB ?_;exact jU () (hg:=nx hno (by rw[fK];rfl))
     ·refine aO 13 ?_;refine aB ?_;refine jQ [q] (Iy (fU s i)) (fun w2 st=>aBA q s _ _ _ _ _ k1 _ k2 _ k3 _ k4 i w2 oF hm (st.le (by simp)) (by omega)) ?_;rintro _ w2 q1 ⟨Ac,cc,rfl,kC⟩ hf hle _
      have kC:=kC.le hf
      have aPZ:=aBB s s.aF.length i
      refine bM ?_ (hS:=fun _ h=>h.aZ);refine aO 16 ?_;refine aB ?_;refine aU (fun w3 st=>aJl Ac _ cc (dL (fU s i)) id w3 (kC.le (st.le (by simp))) (by simp[dL]) (by unfold fU;omega)) ?_;refine bM ?_ (hS:=fun _ h=>h.aZ);refine Zz 17 ?_;refine fJ ?_;refine aB ?_;refine aG rfl (fun h4=>?_) (fun h4=>?_)
      ·refine aB ?_;exact dG (by rw[Xe,aIz (by rw[Wu];exact hil) (by rw[fK,decide_eq_true h4];rfl)])
      ·refine aB ?_;exact jU () (hg:=nx hno (by rw[fK,decide_eq_false h4];rfl))
    ·refine rH 5 ?_;refine Iu 8 ?_;refine rH 9 ?_;refine Iu 13 ?_;refine rH 14 ?_;refine Iu 16 ?_;refine rH 17 ?_;refine fJ ?_;refine aB ?_;exact jU () (hg:=nx hno (by rw[fK,decide_eq_false h1];rfl))
   ·refine aB ?_;exact dG (by rw[Xe,Xn (by rw[Wu];exact fun j hj=>hno j (by omega))])
  ·refine aB ?_;exact dG (by rw[Xe,Xn (by rw[Ki,if_neg Rm,if_neg hC];exact fun j hj=>absurd hj (Nat.not_lt_zero j))])
 ·have Rm:k=100∨k=107:=hb.1 rfl
  have Wu:Ki s k=s.domains.length:=by rw[Ki,if_pos Rm]
  refine aB ?_;refine qN (α:=Unit) (fun i _=>[(36,iv i),(35,iv s.domains.length),(34,.slice A2 s.domains.length k2),(7,pt g3),(5,pt g2),(4,pt g1)]) (fun _ _=>[HP.aE g3 136 [.int .u8 k,iv id],HP.aE g2 130 [.slice X1 Co xX,.slice X2 Cm xW,.slice X3 Cl xV,.slice Y1 Ck xU,.slice Y2 Cj xS,.slice Y3 Ci xR],HP.aE g1 30 [.slice A1 s.aF.length k1,.slice A2 s.domains.length k2,.slice A3 s.aT.length k3,.slice A4 s.aD.length k4]]) (fun i _=>∀j,j < i→yV s x y k id j=false) s.domains.length () (fun j hj=>absurd hj (Nat.not_lt_zero j)) fun i _ hi hno=>?_;refine aB ?_;refine aG rfl (fun h=>?_) (fun h=>?_)
  ·have hil:i < s.domains.length:=by omega
   obtain⟨d,hd⟩:=get_some hil;obtain⟨bD,oD,rD,rfl,Wb,_,rfl,Nf⟩:=oF.dom.zW hd
   have hk:=eG.le Wb Nf hq
   have fK:yV s x y k id i=(decide (d.above=id)&&sM x y k i):=by rw[yV,if_pos Rm,hd];rfl
   refine aB ?_;refine bU fun g4=>?_;refine aB ?_;refine bX (t:=46) rfl (fun h1=>?_) (fun h1=>?_)
   ·rw[decide_eq_true h1] at fK;refine aB ?_;refine aU (fun w1 st=>aC7 g2 x y k i w1 (vB.box Nj (st.le (by simp)) (st.box (i:=2) rfl))) ?_;cases hw:sM x y k i
    all_goals
     rw[hw] at fK;refine aB ?_
    ·exact jU () (hg:=nx hno fK)
    ·exact dG (by rw[Xe,aIz (by rw[Wu];exact hil) fK])
   ·refine aB ?_;exact jU () (hg:=nx hno (by rw[fK,decide_eq_false h1];rfl))
  ·refine aB ?_;exact dG (by rw[Xe,Xn (by rw[Wu];exact fun j hj=>hno j (by omega))])
end
section
theorem aSc(q qx:Piece)(s:aC)(A1 A2 A3 A4:Option Addr)(n1 k1 n2 k2 n3 k3 n4 k4:Nat)(X1 X2 X3 Y1 Y2 Y3:Option Addr)(Co xX Cm xW Cl xV Ck xU Cj xS Ci xR:Nat)(x y:bJ)(Aw:Option Addr)(nw cw:Nat)(wt:List Int)(ag:Nat)(Al:Option Addr)(nl cl:Nat)(l:List Int)(w:World)(oF:pW q s A1 n1 A2 n2 A3 n3 A4 n4)(hm:s.wY)(hq:q.Le (all w))(Nj:vB qx x y (.agg #[.slice X1 Co xX,.slice X2 Cm xW,.slice X3 Cl xV,.slice Y1 Ck xU,.slice Y2 Cj xS,.slice Y3 Ci xR]))(Hl:qx.Le (all w))(hw:aI (all w) 1 Aw nw (aK wt))(hnw:nw=wt.length)(hag:ag < 2)(hl:aI (all w) 1 Al nl (qU l))(iL:nl=l.length)(aIi:nl≤1000000)(hu:wG l):
  Cz 98 #[.agg #[.slice A1 n1 k1,.slice A2 n2 k2,.slice A3 n3 k3,.slice A4 n4 k4],.agg #[.slice X1 Co xX,.slice X2 Cm xW,.slice X3 Cl xV,.slice Y1 Ck xU,.slice Y2 Cj xS,.slice Y3 Ci xR],.slice Aw nw cw,iv (ag:Int),.slice Al nl cl] w (Rt (aEK (jH s x y wt ag l)) w):=by
 generalize hrd:dX s l=rd;obtain⟨st,k,id⟩:=rd;refine aN func98 ntmps98 ?_;refine Br qx (by simp) Hl ?_;refine Br q (by simp) hq ?_;refine aB ?_;refine bA fun g1=>?_;refine aB ?_;refine bA fun g2=>?_;refine aB ?_;refine bU fun g3=>?_;refine aB ?_;refine bX (t:=17) rfl (fun h=>absurd h (by omega)) (fun _=>?_);refine aB ?_;refine bX (t:=21) rfl (fun h=>absurd h (by omega)) (fun _=>?_);refine aB ?_;refine aU (v:=iv 0) (fun w1 st=>(aB8 s A1 A2 A3 A4 n1 k1 n2 k2 n3 k3 n4 k4 w1 (oF.W (st.le (by simp)) hm.small)).mono fun _ _ h=>aFh h (by rw[hm.Su])) ?_;refine aB ?_;refine aU (v:=.tuple #[.int .i32 st,.agg #[.int .u8 k,iv id]]) (fun w1 st=>(aNo s A1 A2 A3 A4 n1 k1 n2 k2 n3 k3 n4 k4 Al nl cl l w1 (oF.W (st.le (by simp)) hm.small) (hl.le (st.le (by simp))) iL aIi hu).mono fun _ _ h=>aFh h (by rw[hrd];rfl)) ?_;refine aB ?_;refine bU fun g4=>?_;refine aB ?_;refine aES ?_;refine aEZ 35 rfl (fun h1=>?_) (fun h1=>?_)
 ·refine rH 3 ?_;refine Iu 13 ?_;refine rH 14 ?_;refine Iu 16 ?_;refine rH 17 ?_;refine fJ ?_;refine aB ?_
  (refine pU ?_;rw[jH,hrd];dsimp only;rw[if_pos (.inl h1)];rfl)
 refine rH 3 ?_;refine aEZ 40 rfl (fun h2=>?_) (fun h2=>?_)
 ·refine rH 8 ?_;refine Iu 13 ?_;refine rH 14 ?_;refine Iu 16 ?_;refine rH 17 ?_;refine fJ ?_;refine aB ?_
  (refine pU ?_;rw[jH,hrd];dsimp only;rw[if_pos (.inr (.inl h2))];rfl)
 refine rH 8 ?_;refine aO 13 ?_;refine aB ?_;refine aU (fun w1 st=>aC5 g2 ag (if ag=0 then x else y) k id w1 hag (vB.box Nj (st.le (by simp)) (st.box (i:=2) rfl) ag hag)) ?_;refine bM ?_;refine rH 14 ?_;refine aO 16 ?_;refine aB ?_;refine aU (fun w1 st=>aDi k w1) ?_;refine bM ?_;refine rH 17 ?_;refine fJ ?_;refine aB ?_;refine pV rfl (fun h3=>?_) (fun h3=>?_)
 ·refine aB ?_
  (refine pU ?_;rw[jH,hrd];dsimp only;rw[if_pos (.inr (.inr (by simpa using h3)))];rfl)
 have Mq:st=0:=by omega
 have h4:¬(st≠0∨k=0∨pK (if ag=0 then x else y) k id=decide (rW k)):=fun hh=>by
  rcases hh with hh | hh | hh
  ·exact hh Mq
  ·exact h2 hh
  ·rw[hh] at h3;simp at h3
 refine aB ?_;refine aU (fun w1 st=>aDi k w1) ?_;refine aB ?_;refine aG rfl (fun h6=>?_) (fun h6=>?_)
 ·refine aB ?_;refine aG rfl (fun h7=>?_) (fun h7=>?_)
  ·subst h7
   have hok:=aGX (s:=s) hu
   rw[hrd] at hok
   have hid:=hok.resolve_left (fun hh=>by have:=hh.1;simp at this)
   have aU5:0≤id:=hid.2.2.1
   have aU4:id < (s.domains.length:Int):=hid.2.2.2.1
   obtain⟨d,hd⟩:=get_some (l:=s.domains) (i:=id.toNat) (by omega);obtain⟨rfl,rfl,rfl,rfl⟩:=oF.len;obtain⟨bD,oD,rD,rfl,Wb,_,rfl,Nf⟩:=oF.dom.zW hd
   have hk:=eG.le Wb Nf hq
   have ha:=hk.at_ (j:=0) rfl
   have hab:(s.domains[id.toNat]?).any (fun d=>decide (d.above≠ -1)&& !sM x y 117 d.above)=(decide (d.above≠ -1)&& !sM x y 117 d.above):=by rw[hd];rfl
   refine aB ?_;refine bX (t:=69) rfl (fun h8=>?_) (fun h8=>?_)
   ·rw[decide_eq_true h8] at hab;refine aB ?_;refine aU (fun w1 st=>aC7 g2 x y 117 d.above w1 (vB.box Nj (st.le (by simp)) (st.box (i:=2) rfl))) ?_;cases hw9:sM x y 117 d.above
    all_goals
     rw[hw9] at hab;refine aB ?_
    ·(refine pU ?_;rw[jH,hrd];dsimp only;rw[if_neg h4,if_pos h6,if_pos ⟨rfl,hab⟩];rfl)
    ·refine Zv [2] ?_;refine aB ?_
     (refine pU ?_;rw[jH,hrd];dsimp only;rw[if_neg h4,if_pos h6,if_neg (fun hh=>by have h':=hh.2;rw[hab] at h';cases h')];rfl)
   ·rw[decide_eq_false h8] at hab;refine aB ?_;refine Zv [2] ?_;refine aB ?_
    (refine pU ?_;rw[jH,hrd];dsimp only;rw[if_neg h4,if_pos h6,if_neg (fun hh=>by have h':=hh.2;rw[hab] at h';cases h')];rfl)
  ·refine aB ?_;refine Zv [2] ?_;refine aB ?_
   (refine pU ?_;rw[jH,hrd];dsimp only;rw[if_neg h4,if_pos h6,if_neg (fun hh=>h7 hh.1)];rfl)
 ·refine aB ?_;refine aU (fun w1 st=>aSa q qx s A1 A2 A3 A4 n1 k1 n2 k2 n3 k3 n4 k4 X1 X2 X3 Y1 Y2 Y3 Co xX Cm xW Cl xV Ck xU Cj xS Ci xR x y ag k id w1 oF hm (st.le (by simp)) Nj (st.le (by simp)) hag) ?_;cases hde:Ii s x y ag k id
  ·refine aB ?_;refine aU (fun w1 st=>aSN q s A1 A2 A3 A4 n1 k1 n2 k2 n3 k3 n4 k4 Aw nw cw wt k id w1 oF hm (st.le (by simp)) (hw.le (st.le (by simp))) hnw) ?_;cases hbu:Im s wt k id
   ·refine aB ?_;refine Zv [2] ?_;refine aB ?_
    (refine pU ?_;rw[jH,hrd];dsimp only;rw[if_neg h4,if_neg h6,hde,if_neg (by simp),hbu,if_neg (by simp)];rfl)
   ·refine aB ?_
    (refine pU ?_;rw[jH,hrd];dsimp only;rw[if_neg h4,if_neg h6,hde,if_neg (by simp),hbu,if_pos rfl];rfl)
  ·refine aB ?_
   (refine pU ?_;rw[jH,hrd];dsimp only;rw[if_neg h4,if_neg h6,hde,if_pos rfl];rfl)
end
section
def kS(l:List Bool)(id:Int)(b:Bool):List Bool:=if 0≤id∧id < (l.length:Int) then l.set id.toNat b else l
theorem aGw{l:List Bool}{id:Int}(b:Bool)(h:¬(0≤id∧id < (l.length:Int))):kS l id b=l:=if_neg h
theorem Cr(l:List Bool)(id:Int)(b:Bool):(kS l id b).length=l.length:=by unfold kS;split<;>simp
def kQ(x:bJ)(k id:Int):bJ:=
 if k=117∨k=100∨k=107 then⟨kS x.d id (decide (rW k)),x.c,x.l⟩
 else if k=99∨k=111 then⟨x.d,kS x.c id (decide (rW k)),x.l⟩
 else if k=114∨k=97 then⟨x.d,x.c,kS x.l id (decide (rW k))⟩ else x
def jY(x:bJ)(ag:Nat)(k id:Int):bJ:=if ag=0 then kQ x k id else x
def mR(y:bJ)(ag:Nat)(k id:Int):bJ:=if ag=0 then y else kQ y k id
theorem aSU{l:List Bool}{id:Int}(b:Bool)(h:0≤id∧id < (l.length:Int)):(bE l).set id.toNat (.bool b)=bE (kS l id b):=by
 rw[kS,if_pos h];simp[bE,List.map_set]
section
variable{N:cF}{w0 w:World}{e:Env}{R:List Piece}{H:List HP}{K:Act→World→Prop}
theorem St.aND(st:St w0 R H w){i n c sz:Nat}{t:TypeId}{A:Option Addr}{xs:List Value}(hi:H[i]? =some (HP.own t sz (.slice A n c) n xs))(hn:0 < n):∃g,A=some ⟨g,0,none⟩:=by
 obtain⟨_,h2⟩:=st.own hi;rcases h2 with⟨h2,h3⟩ | ⟨g',cap,cur,hv,_⟩
 ·omega
 ·injection hv with h4 h5 h6
  exact⟨g',h4⟩
theorem aJX(i:Nat){n c sz:Nat}{t:TypeId}{A:Option Addr}{xs:List Value}(hi:H[i]? =some (HP.own t sz (.slice A n c) n xs))(hn:0 < n)(h:(∃g,A=some ⟨g,0,none⟩)→XK N w0 K e R H):XK N w0 K e R H:=fun a w hr st=>h (st.aND hi hn) a w hr st
end
end
section
def aAe(P:Program)(c:Code)(Q:Exit→Act→World→Prop):Nat→Act→World→Prop
 | 0=>fun _ _=>False
 | n+1=>c.wp P (Exit.then (aAe P c Q n) Q)
section
variable{P:Program}{N:cF}{w0:World}{e:Env}{R:List Piece}{H:List HP}{Q:Exit→Act→World→Prop}{c:Code}{n:Nat}
theorem aT2(n:Nat)(h:XK N w0 (aAe P c Q n) e R H):XK N w0 ((Code.loop c).wp P Q) e R H:=fun a w hr st=>by
 refine aC0 (aAe P c Q) n (h a w hr st) fun n a w hI=>?_;cases n with
 | zero=>exact absurd hI (fun h=>h)
 | succ n=>
  refine wp_mono hI fun x a' w' hq=>?_;cases x with
  | normal=>exact⟨n,Nat.lt_succ_self n,hq⟩
  | _=>exact hq
theorem aCb{y:Code}{x:Code}(M:Env→List Piece→List HP→Prop)(h:XK N w0 (x.wp P (Exit.then (fun a' w'=>∃e' R' H',M e' R' H'∧eN N e' a'∧St w0 R' H' w') Q)) e R H)
  (hy:∀e' R' H',M e' R' H'→XK N w0 (y.wp P Q) e' R' H'):XK N w0 (x.wp P (Exit.then (y.wp P Q) Q)) e R H:=fun a w hr st=>
 wp_mono (h a w hr st) fun x a' w' hq=>by
  cases x with
  | normal=>
   obtain⟨e',R',H',hm,hr',st'⟩:=hq;exact hy e' R' H' hm a' w' hr' st'
  | _=>exact hq
theorem aEO(h:XK N w0 (c.wp P (Exit.then (aAe P c Q n) Q)) e R H):XK N w0 (aAe P c Q (n+1)) e R H:=h
end
theorem aR2(x y:bJ)(ag:Nat)(k id:Int):(jY x ag k id).d.length=x.d.length∧(jY x ag k id).c.length=x.c.length∧(jY x ag k id).l.length=x.l.length∧(mR y ag k id).d.length=y.d.length∧(mR y ag k id).c.length=y.c.length∧(mR y ag k id).l.length=y.l.length:=by
 have h:∀z:bJ,(kQ z k id).d.length=z.d.length∧(kQ z k id).c.length=z.c.length∧(kQ z k id).l.length=z.l.length:=fun z=>by
  unfold kQ;split
  ·exact⟨Cr _ _ _,rfl,rfl⟩
  ·split
   ·exact⟨rfl,Cr _ _ _,rfl⟩
   ·split
    ·exact⟨rfl,rfl,Cr _ _ _⟩
    ·exact⟨rfl,rfl,rfl⟩
 unfold jY mR;split
 ·exact⟨(h x).1,(h x).2.1,(h x).2.2,rfl,rfl,rfl⟩
 ·exact⟨rfl,rfl,rfl,(h y).1,(h y).2.1,(h y).2.2⟩
theorem aGv(k id:Int)(z:bJ):((∀a b c,gJ k a b c=sn)∧kQ z k id=z)∨((∀a b c,gJ k a b c=a)∧kQ z k id=⟨kS z.d id (decide (rW k)),z.c,z.l⟩)∨((∀a b c,gJ k a b c=b)∧kQ z k id=⟨z.d,kS z.c id (decide (rW k)),z.l⟩)∨((∀a b c,gJ k a b c=c)∧kQ z k id=⟨z.d,z.c,kS z.l id (decide (rW k))⟩):=by
 by_cases k0:k=117∨k=100∨k=107
 ·exact .inr (.inl ⟨fun a b c=>by rw[gJ,if_pos k0],by rw[kQ,if_pos k0]⟩)
 by_cases k1:k=99∨k=111
 ·exact .inr (.inr (.inl ⟨fun a b c=>by rw[gJ,if_neg k0,if_pos k1],by rw[kQ,if_neg k0,if_pos k1]⟩))
 by_cases k2:k=114∨k=97
 ·exact .inr (.inr (.inr ⟨fun a b c=>by rw[gJ,if_neg k0,if_neg k1,if_pos k2],by rw[kQ,if_neg k0,if_neg k1,if_pos k2]⟩))
 exact .inl ⟨fun a b c=>by rw[gJ,if_neg k0,if_neg k1,if_neg k2],by rw[kQ,if_neg k0,if_neg k1,if_neg k2]⟩
theorem aNC{l:List Bool}{id:Int}{n:Nat}{cs:List Value}{b:Bool}(h:cs.take n=bE l)(hi:0≤id∧id < (l.length:Int)):(cs.set id.toNat (.bool b)).take (n*1)=bE (kS l id b):=by
 rw[Nat.mul_one,←aSU _ hi,←h,List.take_set]
theorem Th{N:cF}{w0:World}{e:Env}{R:List Piece}{H H':List HP}{K:Act→World→Prop}{t:TypeId}{A:Option Addr}{n c:Nat}{xs:List Value}(i:Nat)(he:e.get 10=some (.slice A n c))(hH:Cs (i::(List.range 9).filter (· !=i)) H=some (HP.own t 1 (.slice A n c) n xs::H'))(hn:(i::(List.range 9).filter (· !=i)).Nodup)(h:XK N w0 K e R (HP.own t 1 (.slice A n c) n xs::H')):XK N w0 K e R H:=aY _ hH hn (fun _ h=>h) h
theorem aR3(qx:Piece)(X1 X2 X3 Y1 Y2 Y3:Option Addr)(xX xW xV xU xS xR:Nat)(x y:bJ)(ag:Nat)(k id:Int)(w:World)(Hl:qx.Le (all w))(hag:ag < 2)(hbx:x.sm)(hby:y.sm)(s0:aI qx 1 X1 x.d.length (bE x.d))(s1:aI qx 1 X2 x.c.length (bE x.c))(s2:aI qx 1 X3 x.l.length (bE x.l))(s3:aI qx 1 Y1 y.d.length (bE y.d))(s4:aI qx 1 Y2 y.c.length (bE y.c))(s5:aI qx 1 Y3 y.l.length (bE y.l)):
  Cz 99 #[.agg #[.slice X1 x.d.length xX,.slice X2 x.c.length xW,.slice X3 x.l.length xV,.slice Y1 y.d.length xU,.slice Y2 y.c.length xS,.slice Y3 y.l.length xR],iv (ag:Int),.agg #[.int .u8 k,iv id]] w (Tr (fun v w w'=>vB (fresh w w') (jY x ag k id) (mR y ag k id) v) w):=by
 obtain⟨h0,h1,h2⟩:=hbx;obtain⟨h3,h4,h5⟩:=hby;refine aN func99 ntmps99 ?_;refine Br qx (by simp) Hl ?_;refine aA ?_;refine bA fun g1=>?_;refine bA fun g2=>?_;refine bU fun g3=>?_;refine aA ?_;refine bU fun g4=>?_;refine aA ?_;refine aT2 3 ?_;refine aEO ?_;refine aA ?_;refine aFA 0 (len:=2) (n:=3) (by kernel_rfl) rfl rfl rfl (by decide) rfl (by decide) ?_;refine bU fun g5=>?_;refine aA ?_;refine jM [1,2,4,5,7,8,11] ?_;refine bP 0 ?_;refine aJ 1 ?_;refine aJ 2 ?_;refine aJ 4 ?_;refine aJ 5 ?_;refine aJ 7 ?_;refine aJ 8 ?_;refine aJ 11 ?_;refine aO 3 ?_;refine iY (Pj x.d.length (bE x.d)) (fun w1 st=>Sq _ _ _ _ w1 (s0.le (st.le (by simp))) (Sw _) (by have:=h0;omega)) ?_;rintro _ _ q0 ⟨B0,c0,rfl,rfl⟩ _;dsimp only[List.cons_append,List.nil_append];refine bM ?_ (hS:=fun _ h=>h.aZ.tail);refine aO 6 ?_;refine iY (Pj x.c.length (bE x.c)) (fun w1 st=>Sq _ _ _ _ w1 (s1.le (st.le (by simp))) (Sw _) (by have:=h1;omega)) ?_;rintro _ _ q1 ⟨B1,c1,rfl,rfl⟩ _;dsimp only[List.cons_append,List.nil_append];refine bM ?_ (hS:=fun _ h=>h.aZ.aZ.tail.tail);refine aO 9 ?_;refine iY (Pj x.l.length (bE x.l)) (fun w1 st=>Sq _ _ _ _ w1 (s2.le (st.le (by simp))) (Sw _) (by have:=h2;omega)) ?_;rintro _ _ q2 ⟨B2,c2,rfl,rfl⟩ _;dsimp only[List.cons_append,List.nil_append];refine bM ?_ (hS:=fun _ h=>h.aZ.aZ.aZ.tail.tail.tail);refine aO 10 ?_;refine kd (gA rfl) ?_;refine bM ?_ (hS:=fun _ h=>h.aZ.aZ.aZ.tail.tail.tail);refine aO 12 ?_;refine kd (gN (sz:=3) 0 0) ?_;refine cX ?_;refine aO 13 ?_;refine uK rfl rfl ?_;simp only[iI,Value.cells,List.set,List.take,List.drop,List.nil_append,List.append_nil,List.length_cons,List.length_nil,List.cons_append,Nat.reduceAdd];refine cX ?_;refine fJ ?_;refine aA ?_;refine aY [2,1,0,4,5,6,7] rfl (by decide) (R':=[qx,all w]) (by simp) ?_;refine aEO ?_;refine aA ?_;refine aFA 1 (len:=2) (n:=3) (by kernel_rfl) rfl rfl rfl (by decide) rfl (by decide) ?_;refine bU fun g6=>?_;refine aA ?_;refine jM [1,2,4,5,7,8,11] ?_;refine bP 0 ?_;refine aJ 1 ?_;refine aJ 2 ?_;refine aJ 4 ?_;refine aJ 5 ?_;refine aJ 7 ?_;refine aJ 8 ?_;refine aJ 11 ?_;refine aO 3 ?_;refine iY (Pj y.d.length (bE y.d)) (fun w1 st=>Sq _ _ _ _ w1 (s3.le (st.le (by simp))) (Sw _) (by have:=h3;omega)) ?_;rintro _ _ q3 ⟨B3,c3,rfl,rfl⟩ _;dsimp only[List.cons_append,List.nil_append];refine bM ?_ (hS:=fun _ h=>h.aZ.tail);refine aO 6 ?_;refine iY (Pj y.c.length (bE y.c)) (fun w1 st=>Sq _ _ _ _ w1 (s4.le (st.le (by simp))) (Sw _) (by have:=h4;omega)) ?_;rintro _ _ q4 ⟨B4,c4,rfl,rfl⟩ _;dsimp only[List.cons_append,List.nil_append];refine bM ?_ (hS:=fun _ h=>h.aZ.aZ.tail.tail);refine aO 9 ?_;refine iY (Pj y.l.length (bE y.l)) (fun w1 st=>Sq _ _ _ _ w1 (s5.le (st.le (by simp))) (Sw _) (by have:=h5;omega)) ?_;rintro _ _ q5 ⟨B5,c5,rfl,rfl⟩ _;dsimp only[List.cons_append,List.nil_append];refine bM ?_ (hS:=fun _ h=>h.aZ.aZ.aZ.tail.tail.tail);refine aO 10 ?_;refine kd (gA rfl) ?_;refine bM ?_ (hS:=fun _ h=>h.aZ.aZ.aZ.tail.tail.tail);refine aO 12 ?_;refine kd (gN (sz:=3) 1 3) ?_;refine cX ?_;refine aO 13 ?_;refine uK rfl rfl ?_;simp only[iI,Value.cells,List.set,List.take,List.drop,List.nil_append,List.append_nil,List.length_cons,List.length_nil,List.cons_append,Nat.reduceAdd];refine cX ?_;refine fJ ?_;refine aA ?_;refine aY [4,5,6,2,1,0,9,7,8] rfl (by decide) (R':=[qx,all w]) (by simp) ?_;refine aEO ?_;refine aA ?_;refine bX (t:=33) rfl (fun h=>absurd h (by omega)) (fun _=>?_);refine aA ?_;refine aG rfl (fun h=>absurd h (by omega)) (fun _=>?_);refine aA ?_;obtain⟨X,hX⟩:∃z,z=jY x ag k id:=⟨_,rfl⟩
 obtain⟨Y,hY⟩:∃z,z=mR y ag k id:=⟨_,rfl⟩
 have hl:=aR2 x y ag k id
 rw[←hX,←hY] at hl⊢;obtain rfl | rfl:ag=0∨ag=1:=by omega
 have hc:=aGv k id x
 refine jM [1,2,3,4] ?_;refine bP 0 ?_;refine aJ 1 ?_;refine aJ 2 ?_ (dI:=gN (sz:=3) 0 0);refine aJ 3 ?_;refine aJ 4 ?_;refine aO 5 ?_;refine aU (fun w1 t=>aDy g4 0 k (.slice B0 x.d.length c0) (.slice B1 x.c.length c1) (.slice B2 x.l.length c2) w1 (by simpa using(t.box (i:=7) rfl).at_ (j:=0) rfl) (by simpa using(t.box (i:=7) rfl).at_ (j:=1) rfl) (by simpa using(t.box (i:=7) rfl).at_ (j:=2) rfl)) ?_
 rotate_left
 have hc:=aGv k id y
 refine jM [1,2,3,4] ?_;refine bP 0 ?_;refine aJ 1 ?_;refine aJ 2 ?_ (dI:=gN (sz:=3) 1 3);refine aJ 3 ?_;refine aJ 4 ?_;refine aO 5 ?_;refine aU (fun w1 t=>aDy g4 3 k (.slice B3 y.d.length c3) (.slice B4 y.c.length c4) (.slice B5 y.l.length c5) w1 (by simpa using(t.box (i:=7) rfl).at_ (j:=3) rfl) (by simpa using(t.box (i:=7) rfl).at_ (j:=4) rfl) (by simpa using(t.box (i:=7) rfl).at_ (j:=5) rfl)) ?_
 all_goals
  refine cX ?_;refine aO 6 ?_;refine bH ?_;refine cX ?_;refine fJ ?_;refine dV ?_;refine aY [0,1,2,3,4,5,6,7,8] rfl (by decide) (fun _ h=>h) ?_;refine bK [(10,_),(7,pt g4),(6,pt g3),(5,pt g2)] ?_;refine aCb (fun e R H=>e=[(7,pt g4),(6,pt g3)]∧R=[qx,all w]∧H=[HP.own 4 1 (.slice B0 x.d.length c0) x.d.length (bE X.d),HP.own 4 1 (.slice B1 x.c.length c1) x.c.length (bE X.c),HP.own 4 1 (.slice B2 x.l.length c2) x.l.length (bE X.l),HP.own 4 1 (.slice B3 y.d.length c3) y.d.length (bE Y.d),HP.own 4 1 (.slice B4 y.c.length c4) y.c.length (bE Y.c),HP.own 4 1 (.slice B5 y.l.length c5) y.l.length (bE Y.l),HP.aE g2 136 [.int .u8 k,iv id],HP.aE g4 130 [.slice B0 x.d.length c0,.slice B1 x.c.length c1,.slice B2 x.l.length c2,.slice B3 y.d.length c3,.slice B4 y.c.length c4,.slice B5 y.l.length c5],HP.aE g3 130 [sn,sn,sn,sn,sn,sn]]) ?_ ?_
  ·clear hl;simp only[jY,mR,if_true,if_false,Nat.one_ne_zero] at hX hY;subst hX hY;obtain⟨h,h2⟩ | hc:=hc
   ·rw[h,h2];refine aA ?_;refine bX (t:=47) rfl (fun hid=>?_) (fun hid=>?_)
    ·refine aA ?_;refine aG rfl (fun h=>absurd h (by omega)) (fun _=>?_);refine aA ?_;exact pG ⟨rfl,rfl,rfl⟩
    ·refine aA ?_;exact pG ⟨rfl,rfl,rfl⟩
   rcases hc with⟨h,h2⟩ | ⟨h,h2⟩ | ⟨h,h2⟩
   all_goals
    rw[h,h2];dsimp only
    first | refine Th 0 rfl rfl (by decide) ?_ | refine Th 1 rfl rfl (by decide) ?_ | refine Th 2 rfl rfl (by decide) ?_ | refine Th 3 rfl rfl (by decide) ?_ | refine Th 4 rfl rfl (by decide) ?_ | refine Th 5 rfl rfl (by decide) ?_
    refine aA ?_;refine bX (t:=47) rfl (fun hid=>?_) (fun hid=>?_)
    ·refine aA ?_;refine aG rfl (fun aDN=>?_) (fun aDN=>?_)
     ·have hin:=And.intro hid aDN
      refine aJX 0 rfl (by omega) ?_;rintro⟨gb,rfl⟩;refine Ta 0 rfl fun cs gZ hct hnc hcm=>?_;simp only[Nat.mul_one] at gZ hct;dsimp only[List.set];refine jM [1,2,3,4] ?_;refine bP 0 ?_;refine aJ 1 ?_;refine aJ 2 ?_;refine aJ 3 ?_;refine aJ 4 ?_;refine aO 5 ?_;refine aU (fun w1 t=>aDi k w1) ?_;refine bM ?_;refine aO 6 ?_;refine kd (dat id.toNat id.toNat) ?_;refine cX ?_;refine aO 7 ?_;refine fG rfl rfl ?_;dsimp only[List.set];refine cX ?_;refine fJ ?_;refine aA ?_;refine Oo 0 (sz:=1) rfl (by simpa using gZ) (aNC hct hin) hnc hcm ?_;dsimp only[List.set];exact pG ⟨rfl,rfl,rfl⟩
     ·rw[aGw _ fun h=>aDN h.2];refine aA ?_;exact pG ⟨rfl,rfl,rfl⟩
    ·rw[aGw _ fun h=>hid h.1];refine aA ?_;exact pG ⟨rfl,rfl,rfl⟩
  ·rintro _ _ _ ⟨rfl,rfl,rfl⟩;refine aY [7,8,0,1,2,3,4,5] rfl (by decide) (fun _ h=>h) ?_;refine aA ?_;refine dO [] [2,3,4,5,6,7] [0,1] (by simp) rfl (by decide) (by decide) fun q hq _ hfr=>?_;refine Oj rfl (n:=6) (vs:=[.slice B0 x.d.length c0,.slice B1 x.c.length c1,.slice B2 x.l.length c2,.slice B3 y.d.length c3,.slice B4 y.c.length c4,.slice B5 y.l.length c5]) (by kernel_rfl) rfl rfl (aR.whole 1 rfl) fun w1 st=>⟨⟨_,rfl,?_⟩,st.below (by simp)⟩
   have hle:=st.mH (by simp) (hfr (by simp) (by simp))
   obtain⟨l1,l2,l3,l4,l5,l6⟩:=hl
   have hs:∀{A n c xs},(∃F,(HP.own 4 1 (.slice A n c) n xs).sat F q.w∧∀b,F b→q.Z b)→aI (fresh w w1) 1 A n xs:=fun h=>(aI.own h).le hle
   refine⟨B0,c0,B1,c1,B2,c2,B3,c3,B4,c4,B5,c5,?_,?_,?_,?_,?_,?_,?_⟩
   ·rw[l1,l2,l3,l4,l5,l6]
   ·rw[l1];exact hs (hq 2 _ (by simp) rfl)
   ·rw[l2];exact hs (hq 3 _ (by simp) rfl)
   ·rw[l3];exact hs (hq 4 _ (by simp) rfl)
   ·rw[l4];exact hs (hq 5 _ (by simp) rfl)
   ·rw[l5];exact hs (hq 6 _ (by simp) rfl)
   ·rw[l6];exact hs (hq 7 _ (by simp) rfl)
end
section
def aDT(m p k:Int):Bool:=decide ((dY m 0 p k).2=0∧cO (dY m 0 p k).1 28 4=0∧cO (dY m 0 p k).1 0 8=m∧cO (dY m 0 p k).1 8 2=0∧cO (dY m 0 p k).1 10 8=p∧cO (dY m 0 p k).1 18 10=k)
theorem aPG:([4,7]:List Int).all (fun m=>([17,20,22]:List Int).all fun p=>(List.range 64).all fun k=>aDT m p k)=true:=by decide+kernel
theorem aPH{m p:Int}{k:Nat}(hm:m=4∨m=7)(hp:p=17∨p=20∨p=22)(hk:k < 64):(dY m 0 p k).2=0∧uM (dY m 0 p k).1=0∧Gs (dY m 0 p k).1=Hr m 0 p k:=by
 have h:=aPG
 rw[List.all_eq_true] at h
 have h1:=h m (by rcases hm with rfl | rfl<;>simp)
 rw[List.all_eq_true] at h1
 have h2:=h1 p (by rcases hp with rfl | rfl | rfl<;>simp)
 rw[List.all_eq_true] at h2
 have h3:=of_decide_eq_true (h2 k (List.mem_range.2 hk))
 obtain⟨e1,e2,e3,e4,e5,e6⟩:=h3;refine⟨e1,?_,?_⟩
 ·rw[uM,if_neg (fun h=>h e2)]
 ·rw[Gs,if_neg (fun h=>h e2),e3,e4,e5,e6]
end
section
theorem aNU(a b:Int):0≤aAL a b∧aAL a b < 4294967296:=Pw _
theorem aHc(w low many v:Int):0≤(iW w low many v).1∧(iW w low many v).1 < 4294967296:=by
 unfold iW;split
 ·exact⟨by decide,by decide⟩
 ·split
  ·exact⟨by decide,by decide⟩
  ·unfold zY;split
   ·exact⟨by decide,by decide⟩
   ·exact aNU _ _
theorem aN9(m t p k:Int):0≤(dY m t p k).1∧(dY m t p k).1 < 4294967296:=by
 unfold dY;split
 ·exact⟨by dsimp only;decide,by dsimp only;decide⟩
 ·split
  ·exact⟨by dsimp only;decide,by dsimp only;decide⟩
  ·split
   ·exact⟨by dsimp only;decide,by dsimp only;decide⟩
   ·split
    ·exact⟨by dsimp only;decide,by dsimp only;decide⟩
    ·exact aHc _ _ _ _
end
section
theorem aGu(x:bJ)(k id:Int):(kQ x k id).d.length=x.d.length∧(kQ x k id).c.length=x.c.length∧(kQ x k id).l.length=x.l.length:=by
 unfold kQ;split
 ·exact⟨Cr _ _ _,rfl,rfl⟩
 ·split
  ·exact⟨rfl,Cr _ _ _,rfl⟩
  ·split
   ·exact⟨rfl,rfl,Cr _ _ _⟩
   ·exact⟨rfl,rfl,rfl⟩
theorem aGs{x:bJ}(h:x.sm)(k id:Int):(kQ x k id).sm:=by
 obtain⟨h1,h2,h3⟩:=aGu x k id;exact⟨by rw[h1];exact h.d,by rw[h2];exact h.c,by rw[h3];exact h.l⟩
theorem aR5{x:bJ}(h:x.sm)(ag:Nat)(k id:Int):(jY x ag k id).sm:=by
 unfold jY;split
 ·exact aGs h k id
 ·exact h
theorem aR4{x:bJ}(h:x.sm)(ag:Nat)(k id:Int):(mR x ag k id).sm:=by
 unfold mR;split
 ·exact h
 ·exact aGs h k id
end
section
theorem aDY(n:Nat)(i:Nat):hasB (List.replicate n false) i=false:=by
 unfold hasB;rw[List.getElem?_replicate];split<;>rfl
theorem aFN(s:aC)(k id:Int):pK (dP s) k id=false:=by
 unfold pK Aq dP
 have h:∀n i,hasB (List.replicate n false) i=false:=aDY
 split
 ·rw[h];simp
 ·split
  ·rw[h];simp
  ·split
   ·rw[h];simp
   ·simp[hasB]
section
variable{s:aC}{r:Nat}{p m on off kn kf n:Int}
theorem aE1{x y:bJ}{wt:List Int}{ag:Nat}{l:List Int}{k id:Int}(hr:dX s l=(0,k,id))(hk:rW k)(Kc:k≠0)(hw:pK (if ag=0 then x else y) k id=false):
  jH s x y wt ag l=if k=117∧(s.domains[id.toNat]?).any (fun d=>decide (d.above≠ -1)&& !sM x y 117 d.above)=true then(-3,0,0) else(0,k,id):=by
 unfold jH;rw[hr];dsimp only;rw[hw,if_neg (by simp[Kc,hk]),if_pos hk]
theorem aE2{x y:bJ}{wt:List Int}{ag:Nat}{l:List Int}{k id:Int}(hr:dX s l=(0,k,id))(hk:¬rW k)(Kc:k≠0)(hw:pK (if ag=0 then x else y) k id=true):
  jH s x y wt ag l=if Ii s x y ag k id=true then(-3,0,0) else if Im s wt k id=true then(-6,0,0) else(0,k,id):=by
 unfold jH;rw[hr];dsimp only;rw[hw,if_neg (by simp[Kc,hk]),if_neg hk]
theorem aBF(s:aC)(k id:Int):Im s [] k id=false:=aEC fun i hi=>by simp[Dv]
end
section
variable{s:aC}{r:Nat}{p m on off kn kf n:Int}{a b:Nat}
end
end
section
theorem aAv{s:aC}{act:List Bool}(i:Nat)(hi:i < s.domains.length):∀n,(iM s act n).d[i]?.getD false=true↔∃j,j < n∧hasB act j=true∧∃x,s.aD[j]? =some x∧i∈Eo s x.domain.toNat
 | 0=>by simp[iM,dP,hi]
 | n + 1 => by
  have ih:=aAv (act:=act) i hi n
  have hl:=(En s act n).d
  cases ha:hasB act n with
  | false =>
   rw[Pr ha,ih];constructor
   ·rintro⟨j,h1,h2⟩;exact⟨j,by omega,h2⟩
   ·rintro⟨j,h1,h2,h3⟩;rcases Nat.lt_or_ge j n with h | h
    ·exact⟨j,h,h2,h3⟩
    ·have:j=n:=by omega
     subst this;rw[ha] at h2;cases h2
  | true =>
   cases hx:s.aD[n]? with
   | none =>
    have e:iM s act (n+1)=iM s act n:=by
     show(if hasB act n then _ else _)=_
     rw[if_pos ha,hx]
    rw[e,ih];constructor
    ·rintro⟨j,h1,h2⟩;exact⟨j,by omega,h2⟩
    ·rintro⟨j,h1,h2,x,h3,h4⟩;rcases Nat.lt_or_ge j n with h | h
     ·exact⟨j,h,h2,x,h3,h4⟩
     ·have:j=n:=by omega
      subst this;rw[hx] at h3;cases h3
   | some x =>
    rw[Ui hx ha]
    show(sU (Eo s x.domain.toNat) (iM s act n).d)[i]?.getD false=true↔_
    rw[aHe _ _ _ (by omega),Bool.or_eq_true,decide_eq_true_eq,ih];constructor
    ·rintro(h | ⟨j,h1,h2⟩)
     ·exact⟨n,by omega,ha,x,hx,h⟩
     ·exact⟨j,by omega,h2⟩
    ·rintro⟨j,h1,h2,y,h3,h4⟩;rcases Nat.lt_or_ge j n with h | h
     ·exact .inr ⟨j,h,h2,y,h3,h4⟩
     ·have:j=n:=by omega
      subst this;rw[hx] at h3;cases h3;exact .inl h4
theorem Pt{s:aC}{act:List Bool}(i:Nat)(hi:i < s.aF.length):∀n,(iM s act n).c[i]?.getD false=true↔∃j,j < n∧hasB act j=true∧∃x,s.aD[j]? =some x∧i∈(fU s x.clock.toNat).filter (mL s)
 | 0=>by simp[iM,dP,hi]
 | n + 1 => by
  have ih:=Pt (act:=act) i hi n
  have hl:=(En s act n).c
  cases ha:hasB act n with
  | false =>
   rw[Pr ha,ih];constructor
   ·rintro⟨j,h1,h2⟩;exact⟨j,by omega,h2⟩
   ·rintro⟨j,h1,h2,h3⟩;rcases Nat.lt_or_ge j n with h | h
    ·exact⟨j,h,h2,h3⟩
    ·have:j=n:=by omega
     subst this;rw[ha] at h2;cases h2
  | true =>
   cases hx:s.aD[n]? with
   | none =>
    have e:iM s act (n+1)=iM s act n:=by
     show(if hasB act n then _ else _)=_
     rw[if_pos ha,hx]
    rw[e,ih];constructor
    ·rintro⟨j,h1,h2⟩;exact⟨j,by omega,h2⟩
    ·rintro⟨j,h1,h2,x,h3,h4⟩;rcases Nat.lt_or_ge j n with h | h
     ·exact⟨j,h,h2,x,h3,h4⟩
     ·have:j=n:=by omega
      subst this;rw[hx] at h3;cases h3
   | some x =>
    rw[Ui hx ha]
    show(sU ((fU s x.clock.toNat).filter (mL s)) (iM s act n).c)[i]?.getD false=true↔_
    rw[aHe _ _ _ (by omega),Bool.or_eq_true,decide_eq_true_eq,ih];constructor
    ·rintro(h | ⟨j,h1,h2⟩)
     ·exact⟨n,by omega,ha,x,hx,h⟩
     ·exact⟨j,by omega,h2⟩
    ·rintro⟨j,h1,h2,y,h3,h4⟩;rcases Nat.lt_or_ge j n with h | h
     ·exact .inr ⟨j,h,h2,y,h3,h4⟩
     ·have:j=n:=by omega
      subst this;rw[hx] at h3;cases h3;exact .inl h4
theorem aFR{s:aC}{act:List Bool}(i:Nat){j:Nat}{x:bL}(hi:i < s.aT.length)(hx:s.aD[j]? =some x)(ha:hasB act j=true)(hr:x.reset=(i:Int)):∀n,j < n→(iM s act n).l[i]?.getD false=true
 | n + 1, hj => by
  have hl:=(En s act n).l
  by_cases hjn:j=n
  ·subst hjn;rw[Ui hx ha]
   show(gX (iM s act j).l x.reset true)[i]?.getD false=true
   rw[hr,aHd,if_pos rfl,List.getElem?_eq_getElem (by omega)];rfl
  ·have ih:=aFR i hi hx ha hr n (by omega)
   cases tA:hasB act n with
   | false=>rw[Pr tA];exact ih
   | true =>
    cases hy:s.aD[n]? with
    | none =>
     have e:iM s act (n+1)=iM s act n:=by
      show(if hasB act n then _ else _)=_
      rw[if_pos tA,hy]
     rw[e];exact ih
    | some y =>
     rw[Ui hy tA]
     show(gX (iM s act n).l y.reset true)[i]?.getD false=true
     unfold gX;rw[List.getElem?_set];split
     ·split<;>simp
      omega
     ·exact ih
theorem aFO{s:aC}(hm:s.made){a:List Bool}{j:Nat}{x:bL}(hx:s.aD[j]? =some x)(ha:hasB a j=true):
  (eT s a).d[x.domain.toNat]?.getD false=true∧(eT s a).l[x.reset.toNat]?.getD false=true∧∀c,s.aF[x.clock.toNat]? =some c→(c.kind=112∨c.kind=103)→(eT s a).c[x.clock.toNat]?.getD false=true:=by
 have hj:=(List.getElem?_eq_some_iff.1 hx).1
 obtain⟨c0,c1,d0,d1,r0,r1,_⟩:=hm.aD j x hx
 have hu:Bz s (x.domain.toNat:Int) (Eo s x.domain.toNat):=aAw hm (by omega)
 refine⟨(aAv _ (by omega) _).2 ⟨j,hj,ha,x,hx,hu.head⟩,aFR _ (by omega) hx ha (by omega) _ hj,fun c hc hk=>(Pt _ (List.getElem?_eq_some_iff.1 hc).1 _).2 ⟨j,hj,ha,x,hx,List.mem_filter.2 ⟨?_,?_⟩⟩⟩
 ·unfold fU;obtain⟨n,hn⟩:∃n,s.aF.length=n+1:=⟨s.aF.length - 1,by have:=hm.nc;omega⟩
  rw[hn,aJy hc];simp
 ·unfold mL;rw[hc];exact decide_eq_true hk
theorem aLe(s:aC):eT s []=dP s:=by
 have:∀n,iM s [] n=dP s:=fun n=>by
  induction n with
  | zero=>rfl
  | succ n ih=>rw[Pr (by simp[hasB]),ih]
 exact this _
end
section
section
variable{s:aC}
theorem aE9(hm:s.made):∀(k c:Nat),∀i∈lJ s k c,i≤c
 | 0,c,i,h=>by simp[lJ] at h
 | k + 1, c, i, h => by
  unfold lJ at h;cases hc:s.aF[c]? with
  | none=>rw[hc] at h;simp at h
  | some x =>
   rw[hc] at h;dsimp only at h;cases hs:x.src with
   | nil=>rw[hs] at h;simp at h;omega
   | cons f fs =>
    rw[hs] at h;rcases List.mem_cons.1 h with rfl | h
    ·exact Nat.le_refl _
    ·have:=aE9 hm k _ i h
     have hf:=((hm.aF c x hc).1) f (by rw[hs];simp)
     omega
theorem aJw(hm:s.made):∀(k k' c:Nat),c < k→c < k'→lJ s k c=lJ s k' c
 | 0,_,c,h,_=>by omega
 | _,0,c,_,h=>by omega
 | k + 1, k' + 1, c, h, h' => by
  unfold lJ;cases hc:s.aF[c]? with
  | none=>rfl
  | some x =>
   dsimp only;cases hs:x.src with
   | nil=>rfl
   | cons f fs=>
    dsimp only
    have hf:=((hm.aF c x hc).1) f (by rw[hs];simp)
    rw[aJw hm k k' f.toNat (by omega) (by omega)]
theorem aJv(hm:s.made):∀(k c:Nat),c < k→∀i∈lJ s k c,∀j∈lJ s k i,j∈lJ s k c
 | 0,c,h,_,_,_,_=>by omega
 | k + 1, c, hk, i, hi, j, hj => by
  have hi':=hi
  unfold lJ at hi;cases hc:s.aF[c]? with
  | none=>rw[hc] at hi;simp at hi
  | some x =>
   rw[hc] at hi;dsimp only at hi;cases hs:x.src with
   | nil=>rw[hs] at hi;simp at hi;subst hi;exact hj
   | cons f fs =>
    rw[hs] at hi;rcases List.mem_cons.1 hi with rfl | hi
    ·exact hj
    ·have hf:=((hm.aF c x hc).1) f (by rw[hs];simp)
     have hle:=aE9 hm k _ i hi
     have hj2:j∈lJ s k i:=by rw[aJw hm k (k+1) i (by omega) (by omega)];exact hj
     have:=aJv hm k f.toNat (by omega) i hi j hj2
     unfold lJ;rw[hc];dsimp only;rw[hs];exact List.mem_cons_of_mem _ this
theorem aSH(hm:s.made){c i j:Nat}(hc:c < s.aF.length)(hi:i∈fU s c)(hj:j∈fU s i):j∈fU s c:=aJv hm _ c hc i hi j hj
theorem aBD(hm:s.made){c i:Nat}(hi:i∈fU s c):i≤c:=aE9 hm _ c i hi
end
theorem Fs(l:List Bool)(i:Nat):hasB l i=l[i]?.getD false:=rfl
structure bJ.cl(x:bJ)(s:aC):Prop where
 of:x.of s
 up:∀(i:Nat) d,hasB x.d i=true→s.domains[i]? =some d→0≤d.above→hasB x.d d.above.toNat=true
 ch:∀i j:Nat,hasB x.c i=true→j∈fU s i→mL s j=true→hasB x.c j=true
 sw:∀i:Nat,hasB x.c i=true→mL s i=true
theorem Rw{l:List Bool}{i:Nat}(h:hasB l i=true):i < l.length:=by
 rw[Fs] at h;rcases Nat.lt_or_ge i l.length with h1 | h1
 ·exact h1
 ·rw[List.getElem?_eq_none h1] at h;cases h
theorem aFP{s:aC}(hm:s.made)(act:List Bool)(n:Nat):(iM s act n).cl s:=by
 have jR:=En s act n
 refine⟨jR,fun i d hi hd h0=>?_,fun i j hi hj hs=>?_,fun i hi=>?_⟩
 ·have hlt:=Rw hi
  rw[jR.d] at hlt;obtain⟨k,h1,h2,x,h3,h4⟩:=(aAv i hlt n).1 hi
  have hx:=hm.aD k x h3
  have jA:x.domain.toNat < s.domains.length:=by obtain⟨_,vU,_⟩:=hx;omega
  have lS:=(aAw hm jA).up i h4 d hd h0
  exact(aAv _ ((aAw hm jA).in_ _ lS) n).2 ⟨k,h1,h2,x,h3,lS⟩
 ·have hlt:=Rw hi
  rw[jR.c] at hlt;obtain⟨k,h1,h2,x,h3,h4⟩:=(Pt i hlt n).1 hi
  have hx:=hm.aD k x h3
  have gZ:x.clock.toNat < s.aF.length:=by obtain⟨hx1,_⟩:=hx;omega
  rw[List.mem_filter] at h4
  have Rn:=aSH hm gZ h4.1 hj
  exact(Pt j (aEA s _ _ j Rn) n).2 ⟨k,h1,h2,x,h3,List.mem_filter.2 ⟨Rn,hs⟩⟩
 ·have hlt:=Rw hi
  rw[jR.c] at hlt;obtain⟨k,h1,h2,x,h3,h4⟩:=(Pt i hlt n).1 hi;exact(List.mem_filter.1 h4).2
theorem aA1{l:List Nat}(hp:l.Pairwise (· < ·)){t i:Nat}(hi:l[t]? =some i)(j:Nat):j∈l.take t↔j∈l∧j < i:=by
 induction l generalizing t with
 | nil=>simp at hi
 | cons a r ih =>
  rw[List.pairwise_cons] at hp;cases t with
  | zero=>
   simp at hi;subst hi;simp only[List.take_zero,List.not_mem_nil,false_iff,not_and,List.mem_cons];rintro(rfl | h) h2
   ·omega
   ·have:=hp.1 j h;omega
  | succ t =>
   simp at hi
   have hir:=hp.1 i (List.mem_of_getElem? hi)
   rw[List.take_succ_cons,List.mem_cons,List.mem_cons,ih hp.2 hi];constructor
   ·rintro(rfl | h)
    ·exact⟨.inl rfl,hir⟩
    ·exact⟨.inr h.1,h.2⟩
   ·rintro⟨rfl | h,h2⟩
    ·exact .inl rfl
    ·exact .inr ⟨h,h2⟩
theorem aGg{l:List Nat}(hp:l.Pairwise (· > ·)){t i:Nat}(hi:l[t]? =some i)(j:Nat):j∈l.take t↔j∈l∧i < j:=by
 induction l generalizing t with
 | nil=>simp at hi
 | cons a r ih =>
  rw[List.pairwise_cons] at hp;cases t with
  | zero=>
   simp at hi;subst hi;simp only[List.take_zero,List.not_mem_nil,false_iff,not_and,List.mem_cons];rintro(rfl | h) h2
   ·omega
   ·have:=hp.1 j h;omega
  | succ t =>
   simp at hi
   have hir:=hp.1 i (List.mem_of_getElem? hi)
   rw[List.take_succ_cons,List.mem_cons,List.mem_cons,ih hp.2 hi];constructor
   ·rintro(rfl | h)
    ·exact⟨.inl rfl,hir⟩
    ·exact⟨.inr h.1,h.2⟩
   ·rintro⟨rfl | h,h2⟩
    ·exact .inl rfl
    ·exact .inr ⟨h,h2⟩
theorem aGY(n:Nat):(List.range n).Pairwise (· < ·):=List.pairwise_lt_range
theorem aAN(n:Nat)(a b:List Bool):(eW (List.range n) a b).Pairwise (· < ·):=(aGY n).filter _
theorem aH4(n:Nat)(a b:List Bool):(eW (List.range n).reverse a b).Pairwise (· > ·):=by
 unfold eW;refine List.Pairwise.filter _ ?_;rw[List.pairwise_reverse];exact aGY n
theorem has_fold(b:Bool)(ids:List Nat)(l:List Bool)(j:Nat)(hj:j < l.length):hasB (ids.foldl (fun d (i:Nat)=>gX d (i:Int) b) l) j=if j∈ids then b else hasB l j:=by
 unfold hasB;rw[Vl];split
 ·rw[List.getElem?_eq_getElem hj];rfl
 ·rfl
theorem Zb{α:Type}{A B:List α}{k:Nat}{p:α}(h:(A++B)[k]? =some p):(A[k]? =some p∧(A++B).take k=A.take k)∨∃t,B[t]? =some p∧(A++B).take k=A++B.take t:=by
 rcases Nat.lt_or_ge k A.length with hk | hk
 ·left;rw[List.getElem?_append_left hk] at h;exact⟨h,List.take_append_of_le_length (by omega)⟩
 ·right;rw[List.getElem?_append_right hk] at h;exact⟨k - A.length,h,by rw[List.take_append,List.take_of_length_le hk]⟩
theorem Qb{pr msg:Int}{val:Nat→Int}{ids:List Nat}{t:Nat}{p:cY}(h:(jO pr msg val ids)[t]? =some p):∃i,ids[t]? =some i∧p=⟨pr,msg,i,val i⟩∧(jO pr msg val ids).take t=jO pr msg val (ids.take t):=by
 unfold jO at h⊢;rw[List.getElem?_map] at h;obtain⟨i,hi,rfl⟩:=Option.map_eq_some_iff.1 h;exact⟨i,hi,rfl,by rw[List.map_take]⟩
def qY(p:cY):Int:=if p.pr=17 then(if p.v=1 then 117 else if p.v=0 then 100 else 107) else if p.pr=20 then(if p.v=1 then 99 else 111) else(if p.v=0 then 114 else 97)
structure Ty(s:aC)(x:bJ)(p:cY)(k:Nat):Prop where
 pack:(dY p.msg 0 p.pr k).2=0
 dec:jH s x (dP s) [] 0 [(dY p.msg 0 p.pr k).1,p.id,p.v]=(0,qY p,p.id)
 kind:qY p≠0
 done:jY x 0 (qY p) p.id=gP x p
 id:0≤p.id∧p.id < 4294967296
 v:0≤p.v∧p.v < 4294967296
theorem Xb{m p:Int}{k:Nat}(hm:m=4∨m=7)(hp:p=17∨p=20∨p=22)(hk:k < 64):(dY m 0 p k).2=0∧uM (dY m 0 p k).1=0∧Fu (dY m 0 p k).1=0∧eC (dY m 0 p k).1=p∧eM (dY m 0 p k).1=m:=by
 obtain⟨h1,h2,h3⟩:=aPH hm hp hk;rw[aFY] at h3;simp only[Hr,List.cons.injEq,Value.int.injEq,true_and,and_true] at h3;exact⟨h1,h2,h3.2.1,h3.2.2.1,h3.1⟩
theorem Qe{l:List Bool}{i:Nat}(hi:i < l.length)(b:Bool):kS l (i:Int) b=gX l (i:Int) b:=by
 rw[kS,if_pos ⟨by omega,by omega⟩];rfl
theorem Gq(x:bJ)(k:Int)(i:Nat):pK x k (i:Int)=hasB (Aq k x) i:=by
 unfold pK;simp
theorem aC6(s:aC)(x:bJ)(k i:Int):sM x (dP s) k i=pK x k i:=by
 rw[sM,aFN,Bool.or_false]
section
variable{s:aC}{x:bJ}{k i:Nat}
theorem aQw(hm:s.made)(jR:x.of s)(hk:k < 64)(hi:i < s.domains.length)(hno:hasB x.d i=false)(lS:∀d,s.domains[i]? =some d→0≤d.above→hasB x.d d.above.toNat=true):Ty s x ⟨17,4,i,1⟩ k:=by
 obtain⟨e0,e1,e2,e3,e4⟩:=Xb (m:=4) (p:=17) (.inl rfl) (.inl rfl) hk
 have hr:dX s [(dY 4 0 17 k).1,(i:Int),1]=(0,117,(i:Int)):=by
  unfold dX;dsimp only;rw[e1,e2,e3,e4,if_neg (by simp),show qJ 17 4=some ⟨2,3,100,117,107⟩ from rfl,show eF 17 4=⟨2,3,100,117,107⟩ from rfl];simp[wE,tN,lM.act,zZ,hi]
 have hd:s.domains[i]? =some s.domains[i]:=List.getElem?_eq_getElem hi
 have hfit:=(hm.domains i _ hd).1
 refine⟨e0,?_,(by show(117:Int)≠0;decide),?_,⟨by simp,by have:=hm.nd;simp;omega⟩,⟨by simp,by simp⟩⟩
 ·show jH s x (dP s) [] 0 [(dY 4 0 17 k).1,(i:Int),1]=(0,117,(i:Int))
  rw[aE1 hr (.inl rfl) (by decide) (by rw[if_pos rfl,Gq];exact hno),if_neg];rintro⟨_,h2⟩;rw[Int.toNat_natCast,hd] at h2;simp only[Option.any_some,Bool.and_eq_true,decide_eq_true_eq,Bool.not_eq_true'] at h2
  have h0:0≤(s.domains[i]).above:=by omega
  have h3:=lS _ hd h0
  rw[aC6,show(s.domains[i]).above=(((s.domains[i]).above.toNat:Nat):Int) by omega,Gq] at h2;rw[show Aq 117 x=x.d from rfl,h3] at h2;cases h2.2
 ·show(if(0:Nat)=0 then kQ x 117 i else x)=_
  rw[if_pos rfl];unfold kQ gP;dsimp only;rw[if_pos (.inl rfl),if_pos ⟨rfl,rfl,by decide⟩,Qe (by rw[jR.d];exact hi)];rfl
theorem aQu(hm:s.made)(jR:x.of s)(hk:k < 64)(hi:i < s.aF.length)(lT:mL s i=true)(hno:hasB x.c i=false):Ty s x ⟨20,7,i,1⟩ k:=by
 obtain⟨e0,e1,e2,e3,e4⟩:=Xb (m:=7) (p:=20) (.inr rfl) (.inr (.inl rfl)) hk
 have aDA:qV s i:=by
  have hc:s.aF[i]? =some s.aF[i]:=List.getElem?_eq_getElem hi
  unfold mL at lT;unfold qV kindOf;rw[hc] at lT⊢;exact of_decide_eq_true lT
 have hr:dX s [(dY 7 0 20 k).1,(i:Int),1]=(0,99,(i:Int)):=by
  unfold dX;dsimp only;rw[e1,e2,e3,e4,if_neg (by simp),show qJ 20 7=some ⟨2,2,111,99,0⟩ from rfl,show eF 20 7=⟨2,2,111,99,0⟩ from rfl];simp[wE,tN,lM.act,zZ,hi,aDA]
 refine⟨e0,?_,(by show(99:Int)≠0;decide),?_,⟨by simp,by have:=hm.nc;simp;omega⟩,⟨by simp,by simp⟩⟩
 ·show jH s x (dP s) [] 0 [(dY 7 0 20 k).1,(i:Int),1]=(0,99,(i:Int))
  rw[aE1 hr (.inr (.inl rfl)) (by decide) (by rw[if_pos rfl,Gq];exact hno),if_neg];rintro⟨h2,_⟩;cases h2
 ·show(if(0:Nat)=0 then kQ x 99 i else x)=_
  rw[if_pos rfl];unfold kQ gP;dsimp only;rw[if_neg (by decide),if_pos (.inl rfl),if_neg (by decide),if_pos ⟨rfl,rfl,by decide⟩,Qe (by rw[jR.c];exact hi)];rfl
theorem aQt(hm:s.made)(jR:x.of s)(hk:k < 64)(hi:i < s.aT.length)(hno:hasB x.l i=false):Ty s x ⟨22,4,i,0⟩ k:=by
 obtain⟨e0,e1,e2,e3,e4⟩:=Xb (m:=4) (p:=22) (.inl rfl) (.inr (.inr rfl)) hk
 have hr:dX s [(dY 4 0 22 k).1,(i:Int),0]=(0,114,(i:Int)):=by
  unfold dX;dsimp only;rw[e1,e2,e3,e4,if_neg (by simp),show qJ 22 4=some ⟨2,2,114,97,0⟩ from rfl,show eF 22 4=⟨2,2,114,97,0⟩ from rfl];simp[wE,tN,lM.act,zZ,hi]
 refine⟨e0,?_,(by show(114:Int)≠0;decide),?_,⟨by simp,by have:=hm.nr;simp;omega⟩,⟨by simp,by simp⟩⟩
 ·show jH s x (dP s) [] 0 [(dY 4 0 22 k).1,(i:Int),0]=(0,114,(i:Int))
  rw[aE1 hr (.inr (.inr rfl)) (by decide) (by rw[if_pos rfl,Gq];exact hno),if_neg];rintro⟨h2,_⟩;cases h2
 ·show(if(0:Nat)=0 then kQ x 114 i else x)=_
  rw[if_pos rfl];unfold kQ gP;dsimp only;rw[if_neg (by decide),if_neg (by decide),if_pos (.inl rfl),if_neg (by decide),if_neg (by decide),if_pos ⟨rfl,rfl,by decide⟩,Qe (by rw[jR.l];exact hi)];rfl
theorem aE0(a:bJ)(kd id:Int)(h:Kj s a (dP s) kd id=false):Ii s a (dP s) 0 kd id=false:=by
 rw[Ii,if_pos rfl,aFN,h];rfl
theorem aQv(hm:s.made)(jR:x.of s)(hk:k < 64)(hi:i < s.aF.length)(lT:mL s i=true)(hyes:hasB x.c i=true)(hno:∀j:Nat,j≠i→hasB x.c j=true→i∉fU s j):Ty s x ⟨20,7,i,0⟩ k:=by
 obtain⟨e0,e1,e2,e3,e4⟩:=Xb (m:=7) (p:=20) (.inr rfl) (.inr (.inl rfl)) hk
 have aDA:qV s i:=by
  have hc:s.aF[i]? =some s.aF[i]:=List.getElem?_eq_getElem hi
  unfold mL at lT;unfold qV kindOf;rw[hc] at lT⊢;exact of_decide_eq_true lT
 have hr:dX s [(dY 7 0 20 k).1,(i:Int),0]=(0,111,(i:Int)):=by
  unfold dX;dsimp only;rw[e1,e2,e3,e4,if_neg (by simp),show qJ 20 7=some ⟨2,2,111,99,0⟩ from rfl,show eF 20 7=⟨2,2,111,99,0⟩ from rfl];simp[wE,tN,lM.act,zZ,hi,aDA]
 refine⟨e0,?_,(by show(111:Int)≠0;decide),?_,⟨by simp,by have:=hm.nc;simp;omega⟩,⟨by simp,by simp⟩⟩
 ·show jH s x (dP s) [] 0 [(dY 7 0 20 k).1,(i:Int),0]=(0,111,(i:Int))
  rw[aE2 hr (by decide) (by decide) (by rw[if_pos rfl,Gq];exact hyes),aE0,aBF]
  ·rfl
  ·refine Xn fun j hj=>?_;cases ht:yV s x (dP s) 111 i j with
   | false=>rfl
   | true=>
    exfalso;unfold yV at ht;rw[if_neg (by decide)] at ht;simp only[Bool.and_eq_true,decide_eq_true_eq,aC6,Gq] at ht
    have hc:=ht.2.2
    unfold zE at hc
    have hmem:=of_decide_eq_true hc
    rw[Int.toNat_natCast] at hmem;refine hno j (fun e=>ht.1 (by rw[e])) ht.2.1 ?_;simp only[dL,List.mem_map] at hmem;obtain⟨q,h1,h2⟩:=hmem
    have h3:(q:Int)=(i:Int):=h2
    have:q=i:=by omega
    rwa [←this]
 ·show(if(0:Nat)=0 then kQ x 111 i else x)=_
  rw[if_pos rfl];unfold kQ gP;dsimp only;rw[if_neg (by decide),if_pos (.inr rfl),if_neg (by decide),if_pos ⟨rfl,rfl,by decide⟩,Qe (by rw[jR.c];exact hi)];rfl
theorem aQx(hm:s.made)(jR:x.of s)(hk:k < 64)(hi:i < s.domains.length)(hyes:hasB x.d i=true)(hno:∀(j:Nat) d,s.domains[j]? =some d→d.above=(i:Int)→hasB x.d j=false):Ty s x ⟨17,4,i,lB s i⟩ k:=by
 obtain⟨e0,e1,e2,e3,e4⟩:=Xb (m:=4) (p:=17) (.inl rfl) (.inl rfl) hk
 have hd:s.domains[i]? =some s.domains[i]:=List.getElem?_eq_getElem hi
 have aIo:∀kd:Int,(kd=100∨kd=107)→Kj s x (dP s) kd i=false:=by
  intro kd Rk;refine Xn fun j hj=>?_;cases ht:yV s x (dP s) kd i j with
  | false=>rfl
  | true =>
   exfalso;unfold yV at ht;rw[if_pos Rk,Bool.and_eq_true,aC6,Gq] at ht;cases hdj:s.domains[j]? with
   | none=>rw[hdj] at ht;simp at ht
   | some d=>
    rw[hdj] at ht
    have ha:d.above=(i:Int):=by simpa using ht.1
    have:=hno j d hdj ha
    have hl:Aq kd x=x.d:=by rcases Rk with rfl | rfl<;>rfl
    rw[hl,this] at ht;cases ht.2
 cases Ju:(s.domains[i]).ret with
 | false =>
  have e:lB s i=0:=by unfold lB;rw[hd];simp[Ju]
  rw[e]
  have hr:dX s [(dY 4 0 17 k).1,(i:Int),0]=(0,100,(i:Int)):=by
   unfold dX;dsimp only;rw[e1,e2,e3,e4,if_neg (by simp),show qJ 17 4=some ⟨2,3,100,117,107⟩ from rfl,show eF 17 4=⟨2,3,100,117,107⟩ from rfl];simp[wE,tN,lM.act,zZ,hi]
  refine⟨e0,?_,(by show(100:Int)≠0;decide),?_,⟨by simp,by have:=hm.nd;simp;omega⟩,⟨by simp,by simp⟩⟩
  ·show jH s x (dP s) [] 0 [(dY 4 0 17 k).1,(i:Int),0]=(0,100,(i:Int))
   rw[aE2 hr (by decide) (by decide) (by rw[if_pos rfl,Gq];exact hyes),aE0 _ _ _ (aIo 100 (.inl rfl)),aBF];rfl
  ·show(if(0:Nat)=0 then kQ x 100 i else x)=_
   rw[if_pos rfl];unfold kQ gP;dsimp only;rw[if_pos (.inr (.inl rfl)),if_pos ⟨rfl,rfl,by decide⟩,Qe (by rw[jR.d];exact hi)];rfl
 | true =>
  have e:lB s i=2:=by unfold lB;rw[hd];simp[Ju]
  rw[e]
  have hr:dX s [(dY 4 0 17 k).1,(i:Int),2]=(0,107,(i:Int)):=by
   have hro:Md s i=true:=by unfold Md;rw[hd];simp[Ju]
   unfold dX;dsimp only;rw[e1,e2,e3,e4,if_neg (by simp),show qJ 17 4=some ⟨2,3,100,117,107⟩ from rfl,show eF 17 4=⟨2,3,100,117,107⟩ from rfl];simp[wE,tN,lM.act,zZ,hi,hro]
  refine⟨e0,?_,(by show(107:Int)≠0;decide),?_,⟨by simp,by have:=hm.nd;simp;omega⟩,⟨by simp,by simp⟩⟩
  ·show jH s x (dP s) [] 0 [(dY 4 0 17 k).1,(i:Int),2]=(0,107,(i:Int))
   rw[aE2 hr (by decide) (by decide) (by rw[if_pos rfl,Gq];exact hyes),aE0 _ _ _ (aIo 107 (.inr rfl)),aBF];rfl
  ·show(if(0:Nat)=0 then kQ x 107 i else x)=_
   rw[if_pos rfl];unfold kQ gP;dsimp only;rw[if_pos (.inr (.inr rfl)),if_pos ⟨rfl,rfl,by decide⟩,Qe (by rw[jR.d];exact hi)];rfl
end
theorem aQD{s:aC}{L:List cY}{x:bJ}(h:x.of s):(L.foldl gP x).of s:=by
 induction L generalizing x with
 | nil=>exact h
 | cons p L ih=>
  obtain⟨h1,h2,h3⟩:=aSY x p;exact ih ⟨by rw[h1];exact h.d,by rw[h2];exact h.c,by rw[h3];exact h.l⟩
section
variable{s:aC}{x y:bJ}
theorem vL{a b:List Bool}{i:Nat}:sO a b i=true↔hasB b i=true∧hasB a i=false:=by
 unfold sO;rw[Bool.and_eq_true,Bool.not_eq_true']
theorem Sc(L:List Nat)(z:bJ):(jO 17 4 (fun _=>1) L).foldl gP z=⟨L.foldl (fun d (i:Nat)=>gX d (i:Int) true) z.d,z.c,z.l⟩:=Xy (val:=fun _=>1) (b:=true) (fun _=>⟨by decide,rfl⟩) L z
theorem Yd(L:List Nat)(z:bJ):(jO 20 7 (fun _=>1) L).foldl gP z=⟨z.d,L.foldl (fun d (i:Nat)=>gX d (i:Int) true) z.c,z.l⟩:=Xz (val:=fun _=>1) (b:=true) (fun _=>⟨by decide,rfl⟩) L z
theorem aB0(L:List Nat)(z:bJ):(jO 22 4 (fun _=>0) L).foldl gP z=⟨z.d,z.c,L.foldl (fun d (i:Nat)=>gX d (i:Int) true) z.l⟩:=Xx (val:=fun _=>0) (b:=true) (fun _=>⟨by decide,rfl⟩) L z
theorem aEn(L:List Nat)(z:bJ):(jO 22 4 (fun _=>1) L).foldl gP z=⟨z.d,z.c,L.foldl (fun d (i:Nat)=>gX d (i:Int) false) z.l⟩:=Xx (val:=fun _=>1) (b:=false) (fun _=>⟨by decide,rfl⟩) L z
theorem aIK(L:List Nat)(z:bJ):(jO 20 7 (fun _=>0) L).foldl gP z=⟨z.d,L.foldl (fun d (i:Nat)=>gX d (i:Int) false) z.c,z.l⟩:=Xz (val:=fun _=>0) (b:=false) (fun _=>⟨by decide,rfl⟩) L z
theorem aQY(s:aC)(L:List Nat)(z:bJ):(jO 17 4 (lB s) L).foldl gP z=⟨L.foldl (fun d (i:Nat)=>gX d (i:Int) false) z.d,z.c,z.l⟩:=Xy (val:=lB s) (b:=false) (fun k=>by have:=aCV s k;exact⟨by omega,decide_eq_false (by omega)⟩) L z
theorem aAI(b:Bool)(ids:List Nat)(l:List Bool):(ids.foldl (fun d (i:Nat)=>gX d (i:Int) b) l).length=l.length:=by
 induction ids generalizing l with
 | nil=>rfl
 | cons i ids ih=>rw[List.foldl_cons,ih,Mf]
end
section
variable{w0:World}{R:List Piece}{H:List HP}
end
end
section
structure aC.dJ(s:aC):Prop where
 t:s.wY
 domains:Fits Dom.fit s.domains
 aT:∀r∈s.aT,0≤r∧r≤3
theorem aC.made.dJ{s:aC}(h:s.made):s.dJ:=⟨h.wY,h.domains,h.aT⟩
structure eP where
 on:Bool
 left:Int
def zD(c:eD):eP:=⟨false,if c.kind=112 then c.lock else 0⟩
def byF(c:eD):Int:=if c.kind=100 then c.div else 0
def rP(c:eD)(x:eP):Bool:=if c.kind=112 then x.on&&decide (x.left=0) else if c.kind=103 then x.on else true
def Pv(s:aC)(st:List eP)(i:Nat):Bool:=match s.aF[i]?,st[i]? with
 | some c,some x=>rP c x
 | _,_=>false
def runs(s:aC)(st:List eP)(i:Nat):Bool:=(fU s i).all (Pv s st)
theorem aEB{s:aC}(hf:Fits eD.fit s.aF):∀(c k:Nat),c < k→lJ s k c=lJ s (c+1) c:=by
 intro c
 induction c using Nat.strongRecOn with
 | _ c ih =>
  intro k hk;obtain⟨k,rfl⟩:=Nat.exists_eq_add_of_lt hk;rw[show c+k+1=(c+k)+1 from rfl];unfold lJ;cases hc:s.aF[c]? with
  | none=>rfl
  | some x =>
   dsimp only;cases hs:x.src with
   | nil=>rfl
   | cons f fs=>
    have hfit:=(hf c x hc).1 f (by rw[hs];simp)
    have h1:f.toNat < c:=by omega
    dsimp only;rw[ih f.toNat h1 (c+k) (by omega),ih f.toNat h1 c h1]
theorem Yy{s:aC}(hf:Fits eD.fit s.aF){i:Nat}{c:eD}(hc:s.aF[i]? =some c):fU s i=i::(match c.src with
  | []=>[]
  | f::_=>fU s f.toNat):=by
 have hlt:i < s.aF.length:=(List.getElem?_eq_some_iff.1 hc).1
 unfold fU;rw[aEB hf i _ hlt];rw[lJ,hc];dsimp only;cases hs:c.src with
 | nil=>rfl
 | cons f fs=>
  have hfit:=(hf i c hc).1 f (by rw[hs];simp)
  dsimp only;rw[aEB hf f.toNat i (by omega),aEB hf f.toNat s.aF.length (by omega)]
theorem aGz{s:aC}(hf:Fits eD.fit s.aF){st:List eP}{i:Nat}{c:eD}{x:eP}(hc:s.aF[i]? =some c)(hx:st[i]? =some x):runs s st i=(rP c x&&(match c.src with
  | []=>true
  | f::_=>runs s st f.toNat)):=by
 unfold runs;rw[Yy hf hc,List.all_cons]
 have:Pv s st i=rP c x:=by unfold Pv;rw[hc,hx]
 rw[this];cases c.src<;>rfl
def bO(n:Nat)(i:Int):Bool:=decide (0≤i∧i < (n:Int))
def qC(s:aC)(st:List eP)(i:Int):Bool:=bO s.aF.length i&&runs s st i.toNat
def Gz(c:eD)(x:eP)(b:Bool):eP:=⟨b,if c.kind=112∧b=false then c.lock else x.left⟩
def lC(s:aC)(st:List eP)(i:Int)(b:Bool):Int×List eP:=
 if bO s.aF.length i=false then(4,st) else match s.aF[i.toNat]?,st[i.toNat]? with
 | some c,some x=>if c.kind≠112∧c.kind≠103 then(1,st) else(0,st.set i.toNat (Gz c x b))
 | _,_=>(4,st)
def Qd(c:eD):Nat:=(c.src.headD 0).toNat
def vM(s:aC)(st:List eP)(c:eD)(x:eP):eP:=
 if c.kind=112∧x.on=true then(if runs s st (Qd c)=false then⟨true,c.lock⟩ else if 0 < x.left then⟨true,x.left - 1⟩ else x) else x
def lQ(s:aC)(st:List eP):List eP:=List.zipWith (vM s st) s.aF st
structure qS(s:aC)(st:List eP):Prop where
 len:st.length=s.aF.length
 left:∀x∈st,0≤x.left∧x.left≤3
structure eV where
 phase:Int
 left:Int
 kept:Bool
 keep:Bool
def zC:eV:=⟨48,0,false,false⟩
def Ge(x:eV):Bool:=decide (x.phase=48∨x.phase=116)
def rU(st:List eV)(d:Int):Int:=if bO st.length d then(st[d.toNat]?.map (·.phase)).getD 0 else 0
def Of(st:List eV)(a:Int):Bool:=decide (a= -1)||decide ((st[a.toNat]?.map (·.phase)).getD 0=49)
def sN(s:aC)(st:List eV)(d:Int):Int×List eV:=
 if bO st.length d=false then(4,st) else match s.domains[d.toNat]?,st[d.toNat]? with
 | some c,some x=>if Ge x=false∨Of st c.above=false then(6,st) else(0,st.set d.toNat ⟨114,c.delay,decide (x.phase=116),x.keep⟩)
 | _,_=>(4,st)
def Hu(d:Int)(c:Dom)(x:eV):Bool:=decide (c.above=d)&& !Ge x
def Ft(s:aC)(st:List eV)(d:Int):Bool:=(List.zipWith (Hu d) s.domains st).any id
def tU(s:aC)(st:List eV)(d:Int)(keep:Bool):Int×List eV:=
 if bO st.length d=false then(4,st) else match s.domains[d.toNat]?,st[d.toNat]? with
 | some c,some x=>if x.phase≠49 then(6,st) else if keep=true∧c.ret=false then(1,st) else if Ft s st d then(7,st) else(0,st.set d.toNat ⟨99,x.left,x.kept,keep⟩)
 | _,_=>(4,st)
def eE(x:eV):Int×eV:=
 if x.phase=114 then(if 0 < x.left then(0,⟨114,x.left - 1,x.kept,x.keep⟩) else(if x.kept then 114 else 110,⟨104,x.left,x.kept,x.keep⟩))
 else if x.phase=104 then(111,⟨49,x.left,x.kept,x.keep⟩)
 else if x.phase=99 then(if x.keep then(115,⟨116,x.left,x.kept,x.keep⟩) else(108,⟨48,x.left,x.kept,x.keep⟩))
 else(0,x)
def jX(st:List eV)(n:Nat):List (Int×Nat):=(List.range n).filterMap fun i=>(st[i]?).bind fun x=>if(eE x).1=0 then none else some ((eE x).1,i)
def nK(st:List eV):List eV:=st.map fun x=>(eE x).2
structure vG(s:aC)(st:List eV):Prop where
 len:st.length=s.domains.length
 left:∀x∈st,0≤x.left∧x.left≤3
 phase:∀x∈st,0≤x.phase∧x.phase < 256
structure kH where
 left:Int
 held:Bool
 wanted:Bool
def sX:kH:=⟨0,true,false⟩
def Ba(st:List kH)(i:Int):Bool:= !bO st.length i||(st[i.toNat]?.map (·.held)).getD true
def tX(s:aC)(st:List kH)(i:Int):Int×List kH:=
 if bO st.length i=false then(4,st) else(0,st.set i.toNat ⟨(s.aT[i.toNat]?).getD 0,true,false⟩)
def vO(st:List kH)(i:Int):Int×List kH:=
 if bO st.length i=false then(4,st) else match st[i.toNat]? with
 | some x=>if x.held=false then(6,st) else(0,st.set i.toNat ⟨x.left,x.held,true⟩)
 | none=>(4,st)
def lP(x:kH):kH:=if x.held=false then x else if 0 < x.left then⟨x.left - 1,x.held,x.wanted⟩ else if x.wanted then⟨x.left,false,false⟩ else x
def Ep(st:List kH):List kH:=st.map lP
structure Gm(s:aC)(st:List kH):Prop where
 len:st.length=s.aT.length
 left:∀x∈st,0≤x.left∧x.left≤3
structure bR where
 now:List Int
 saved:List Int
 kept:Bool
def Ga(d:bL):bR:=⟨d.aL.map (·.reset),d.aL.map fun _=>0,false⟩
def tF(d:bL)(x:bR):bR:=⟨d.aL.map (·.reset),x.saved,false⟩
def Jd(r:Rg)(p:Int×Int):Int:=if r.kept then p.1 else p.2
def rR(d:bL)(x:bR):bR:=⟨x.now,List.zipWith Jd d.aL (x.now.zip x.saved),true⟩
def Vb(k:Bool)(r:Rg)(v:Int):Int:=if k&&r.kept then v else r.reset
def zX(d:bL)(x:bR):bR:=⟨List.zipWith (Vb x.kept) d.aL x.saved,x.saved,x.kept⟩
structure wP(d:bL)(x:bR):Prop where
 now:x.now.length=d.aL.length
 saved:x.saved.length=d.aL.length
 u:(∀v∈x.now,0≤v∧v < 4294967296)∧∀v∈x.saved,0≤v∧v < 4294967296
structure dB where
 at_:Int
 denied:Int
def Qh:dB:=⟨0,0⟩
def qH(a:Int):Int:=if a=0 then 114 else if a=1 then 97 else if a=2 then 115 else 100
def sI(x:dB):Int×dB:=if x.at_≠0 then(6,x) else(0,⟨1,x.denied⟩)
def nO(x:dB):Int×dB:=if x.at_≠2∧x.at_≠3 then(6,x) else(0,⟨0,x.denied⟩)
def sP(x:dB)(Oe cJ:Bool):dB:=if x.at_≠1 then x else if cJ then⟨3,IntKind.i64.wrap (x.denied+1)⟩ else if Oe then x else⟨2,0⟩
def Cc(x:dB):Prop:=0≤x.at_∧x.at_≤3
end
section
def Tz(n:Nat)(xs:List Value)(v:Value)(hs:List HP)(_:Piece):Prop:=∃A c,v=.slice A n c∧hs=[HP.own 48 2 (.slice A n c) n xs]
theorem Yv(A:Option Addr)(n c:Nat)(xs:List Value)(w:World)(hs:aI (all w) 2 A n xs)(h1:∀u∈xs,u.oneCell'=true)(hn:n≤1000000):
  Cz 146 #[.slice A n c] w (fun y w'=>(∃v hs q,y=.returned v∧q.w=w'∧Tz n xs v hs q∧kA w hs q)∧Below w.heap.size w w'):=by
 refine aN func146 ntmps146 ?_;refine aA ?_;refine aAq (el:=48) (by kernel_rfl) rfl (by decide) ?_;refine dN ?_;refine pV rfl (fun hA=>?_) (fun hA=>?_)
 ·refine aA ?_
  have hn0:n=0:=by
   rcases Nat.eq_zero_or_pos n with h | h
   ·exact h
   ·obtain⟨b,off,rfl,_⟩:=hs.2 h;cases hA
  subst hn0
  have hx:xs=[]:=List.eq_nil_of_length_eq_zero (by simpa using hs.1)
  subst hx;refine iP 48 2 ?_;refine dO [] [] [0] (by simp) rfl (by decide) (by decide) fun q _ _ hfr=>?_;exact aS (h:=fun w1 st=>⟨_,_,⟨w1,q.Z⟩,rfl,rfl,⟨_,_,rfl,rfl⟩,st.newR (by simp) (by simp) (hfr (by simp) (by simp))⟩)
 ·refine aA ?_;refine Eh (el:=48) (sz:=2) (by kernel_rfl) (by kernel_rfl) (by decide) fun g=>?_;refine Bw 0 2 0 rfl rfl (by omega) ?_;dsimp only[List.set];refine aA ?_;refine gH 0 2 8 n (n':=n) (el:=48) (by kernel_rfl) (by kernel_rfl) (by decide) rfl rfl rfl (qW (by simp) hs) h1 (by omega) (by omega) (by omega) (by decide) fun A' k'=>?_;dsimp only[List.set,List.nil_append];refine aA ?_;refine dO [] [] [0] (by simp) rfl (by decide) (by decide) fun q _ _ hfr=>?_;exact aS (h:=fun w1 st=>⟨_,_,⟨w1,q.Z⟩,rfl,rfl,⟨_,_,rfl,rfl⟩,st.newR (by simp) (by simp) (hfr (by simp) (by simp))⟩)
def aFv(n:Nat)(xs:List Value)(v:Value)(hs:List HP)(_:Piece):Prop:=∃A c,v=.slice A n c∧hs=[HP.own 23 1 (.slice A n c) n xs]
theorem aJp(A:Option Addr)(n c:Nat)(xs:List Value)(w:World)(hs:aI (all w) 1 A n xs)(h1:∀u∈xs,u.oneCell'=true)(hn:n≤1000000):
  Cz 164 #[.slice A n c] w (fun y w'=>(∃v hs q,y=.returned v∧q.w=w'∧aFv n xs v hs q∧kA w hs q)∧Below w.heap.size w w'):=by
 refine aN func164 ntmps164 ?_;refine aA ?_;refine aAq (el:=23) (by kernel_rfl) rfl (by decide) ?_;refine dN ?_;refine pV rfl (fun hA=>?_) (fun hA=>?_)
 ·refine aA ?_
  have hn0:n=0:=by
   rcases Nat.eq_zero_or_pos n with h | h
   ·exact h
   ·obtain⟨b,off,rfl,_⟩:=hs.2 h;cases hA
  subst hn0
  have hx:xs=[]:=List.eq_nil_of_length_eq_zero (by simpa using hs.1)
  subst hx;refine iP 23 1 ?_;refine dO [] [] [0] (by simp) rfl (by decide) (by decide) fun q _ _ hfr=>?_;exact aS (h:=fun w1 st=>⟨_,_,⟨w1,q.Z⟩,rfl,rfl,⟨_,_,rfl,rfl⟩,st.newR (by simp) (by simp) (hfr (by simp) (by simp))⟩)
 ·refine aA ?_;refine Eh (el:=23) (sz:=1) (by kernel_rfl) (by kernel_rfl) (by decide) fun g=>?_;refine Bw 0 1 0 rfl rfl (by omega) ?_;dsimp only[List.set];refine aA ?_;refine gH 0 1 4 n (n':=n) (el:=23) (by kernel_rfl) (by kernel_rfl) (by decide) rfl rfl rfl (qW (by simp) hs) h1 (by omega) (by omega) (by omega) (by decide) fun A' k'=>?_;dsimp only[List.set,List.nil_append];refine aA ?_;refine dO [] [] [0] (by simp) rfl (by decide) (by decide) fun q _ _ hfr=>?_;exact aS (h:=fun w1 st=>⟨_,_,⟨w1,q.Z⟩,rfl,rfl,⟨_,_,rfl,rfl⟩,st.newR (by simp) (by simp) (hfr (by simp) (by simp))⟩)
end
section
def nJ(l:List Int):List Value:=l.map (Value.int .u32)
theorem aAy(l:List Int):(nJ l).length=l.length:=by simp[nJ]
theorem aCD{l:List Int}{i:Nat}{v:Int}(h:l[i]? =some v):(nJ l)[i]? =some (.int .u32 v):=by simp[nJ,h]
theorem aCC(l:List Int)(i:Nat)(v:Int):(nJ l).set i (.int .u32 v)=nJ (l.set i v):=by simp[nJ,List.map_set]
structure FL where
 f:Nat
 gn:Nat
 gs:Nat
 A:Option Addr
 c:Nat
def uE(d:bL)(A:Option Addr)(p:Piece):Prop:=aI p 2 A d.aL.length (d.aL.flatMap Rg.cells)
theorem uE.le{d:bL}{A:Option Addr}(p q:Piece)(hl:p.Le q)(h:uE d A p):uE d A q:=aI.le h hl
def Kn(L:FL)(d:bL)(k:Bool):List Value:=[.slice L.A d.aL.length L.c,.slice (some ⟨L.gn,0,none⟩) d.aL.length d.aL.length,.slice (some ⟨L.gs,0,none⟩) d.aL.length d.aL.length,.bool k]
def iF(L:FL)(d:bL)(x:bR):HP:=HP.many [HP.aE L.f 298 (Kn L d x.kept),HP.aE L.gn 23 (nJ x.now),HP.aE L.gs 23 (nJ x.saved),HP.bY (uE d L.A) (uE.le (d:=d) (A:=L.A))]
structure Ee(w:World)(L:FL)(d:bL)(x:bR):Prop where
 r0:eG w L.f 0 (Kn L d x.kept)
 now:eG w L.gn 0 (nJ x.now)
 saved:eG w L.gs 0 (nJ x.saved)
 made:aI (all w) 2 L.A d.aL.length (d.aL.flatMap Rg.cells)
theorem Ee.below{w w':World}{L:FL}{d:bL}{x:bR}(h:Ee w L d x)(hb:Below w.heap.size w w'):Ee w' L d x:=⟨h.r0.below hb,h.now.below hb,h.saved.below hb,h.made.le (jS hb)⟩
theorem wD{w:World}{g:Nat}{t:TypeId}{cs:List Value}(h:vH w g t cs.toArray):eG w g 0 cs:=⟨h.lt,fun j v hv=>by rw[h.cell,Nat.zero_add];simpa using hv⟩
theorem aAg{L:FL}{d:bL}{x:bR}{F:Nat→Prop}{w:World}(h:(iF L d x).sat F w)(hF:∀b,F b→b < w.heap.size):Ee w L d x:=by
 obtain⟨G,g1,g2,_⟩:=h;exact⟨wD (g1 0 _ rfl).2,wD (g1 1 _ rfl).2,wD (g1 2 _ rfl).2,aI.le (g1 3 _ rfl) (fun b hb=>⟨hF b (g2 3 b hb),rfl⟩)⟩
section
variable{N:cF}{w0 w:World}{e:Env}{R:List Piece}{H:List HP}{K:Act→World→Prop}{L:FL}{d:bL}{x:bR}
theorem St.aEq(t:St w0 R H w)(i:Nat)(hi:H[i]? =some (iF L d x)):Ee w L d x:=by
 obtain⟨F,h1,h2,_⟩:=t.chunk hi;exact aAg h1 h2
theorem Zr(i:Nat)(hi:H[i]? =some (iF L d x))(h:XK N w0 K e R (HP.aE L.gs 23 (nJ x.saved)::HP.aE L.gn 23 (nJ x.now)::HP.aE L.f 298 (Kn L d x.kept)::H.set i (HP.many [cH,cH,cH,HP.bY (uE d L.A) (uE.le (d:=d) (A:=L.A))]))):XK N w0 K e R H:=by
 have hlt:=Az hi
 refine tG i 0 hi rfl ?_;refine tG (i+1) 1 (by rw[List.getElem?_cons_succ,List.getElem?_set_self hlt]) rfl ?_;refine tG (i+2) 2 (by simp[hlt];rfl) rfl ?_
 simpa[List.set_cons_succ,List.set_set] using h
theorem Zx(i:Nat)(hi:H[i]? =some (HP.many [cH,cH,cH,HP.bY (uE d L.A) (uE.le (d:=d) (A:=L.A))]))(h:XK N w0 K e R (H.set i (iF L d x))):XK N w0 K e R (HP.aE L.gs 23 (nJ x.saved)::HP.aE L.gn 23 (nJ x.now)::HP.aE L.f 298 (Kn L d x.kept)::H):=by
 have hlt:=Az hi
 refine tH (i+2) 2 (by simpa using hi) rfl ?_;dsimp only[List.set];refine tH (i+1) 1 (by simp[hlt];rfl) rfl ?_;dsimp only[List.set];refine tH i 0 (by simp[hlt];rfl) rfl ?_
 simpa[List.set_set,iF] using h
end
theorem Vc(L:FL)(d:bL)(x:bR)(w:World)(hR:Ee w L d x):
  Cz 72 #[.pointer (some ⟨L.f,0,none⟩)] w (Rt (iv d.aL.length) w):=by
 have h0:=hR.r0.at_ (j:=0) rfl
 refine aN func72 ntmps72 ?_;refine aA ?_;exact dG
theorem aGS(p:Piece)(S:Nat→HP)(L:FL)(d:bL)(hrl:d.aL.length≤100)(f:FuncId)(hf:fH Tryz.prog f=true)(ca:List Value)
  (hread:∀i,i≤d.aL.length→∀w F,(S i).sat F w→(∀b,F b→b < w.heap.size)→∃x,Ee w L d x)
  (hstep:∀i r,d.aL[i]? =some r→∀w F,(S i).sat F w→(∀b,F b→b < w.heap.size)→p.Le ⟨w,fun b=>b < w.heap.size∧¬F b⟩→
   Cz f (([iv (i:Int),.agg r.cells.toArray]:List Value)++ca).toArray w (Wr (.tuple #[]) (S (i+1)) w F))
  (w:World) (F:Nat→Prop) (hp:(S 0).sat F w) (hF:∀b,F b→b < w.heap.size) (Ho:p.Le ⟨w,fun b=>b < w.heap.size∧¬F b⟩):
  Cz 188 #[.pointer (some ⟨L.f,0,none⟩),.func (.func f) #[] ca.toArray] w (Wr (.tuple #[]) (S d.aL.length) w F):=by
 have hfr:∀{i:Nat} {R:List Piece} {H:List HP} {w1:World},i≤d.aL.length→St w R (S i::H) w1→∃x,Ee w1 L d x:=fun hi t=>by
  obtain⟨G,g1,g2,_⟩:=t.chunk (i:=0) rfl;exact hread _ hi _ G g1 g2
 refine dK func188 ntmps188 hp hF ?_;refine aA ?_
 refine aU (v:=iv d.aL.length) (fun w1 t=>by
  obtain⟨x,hx⟩:=hfr (Nat.zero_le _) t
  exact Vc L d x w1 hx) ?_
 refine aA ?_;refine bK [(7,iv 0),(6,iv d.aL.length),(1,.func (.func f) #[] ca.toArray),(0,.pointer (some ⟨L.f,0,none⟩))] ?_;refine eJ (fun m e R H=>∃i:Nat,i≤d.aL.length∧m=d.aL.length - i∧e=[(7,iv i),(6,iv d.aL.length),(1,.func (.func f) #[] ca.toArray),(0,.pointer (some ⟨L.f,0,none⟩))]∧R=[⟨w,fun b=>b < w.heap.size∧¬F b⟩]∧H=[S i]) d.aL.length ⟨0,by omega,rfl,rfl,rfl,rfl⟩ fun m e R H hI=>?_;obtain⟨i,hi,rfl,rfl,rfl,rfl⟩:=hI;refine aA ?_;refine aG rfl (fun hlt=>?_) (fun hge=>?_)
 ·have hlt:i < d.aL.length:=by omega
  obtain⟨r,hr⟩:=get_some hlt
  have hb0:∃b off,L.A=some ⟨b,off,none⟩:=by
   obtain⟨x,hx⟩:=hread 0 (Nat.zero_le _) w F hp hF;obtain⟨b,off,h,_⟩:=hx.made.2 (by omega);exact⟨b,off,h⟩
  obtain⟨b,off,hA⟩:=hb0
  have aDI:Rd w [⟨w,fun b=>b < w.heap.size∧¬F b⟩] [S i] L.f 0 (.slice (some ⟨b,off,none⟩) d.aL.length L.c):=fun w1 t=>by
   obtain⟨x,hx⟩:=hfr hi t;rw[←hA];exact(hx.r0.at_ (j:=0) rfl).2
  have aUz:aR w [⟨w,fun b=>b < w.heap.size∧¬F b⟩] [S i] b (off+i*2) r.cells:=fun w1 t=>by
   obtain⟨x,hx⟩:=hfr hi t;obtain⟨b',off',sE,hro⟩:=aI.row (rows:=d.aL.map Rg.cells) (by rw[←List.flatMap_def];exact hx.made) (fun r hr=>by obtain⟨q,_,rfl⟩:=List.mem_map.1 hr;rfl) (by rw[List.getElem?_map,hr];rfl) hlt;rw[hA] at sE;cases sE;exact hro.2
  refine aA ?_;refine kd (dat i (off+i*2)) ?_;refine aA ?_
  refine aFF 0 (fi:=[]) (ca:=ca) (vs:=[iv (i:Int),.agg r.cells.toArray]) (p:=S i) (S (i+1)) hf rfl rfl rfl ⟨(by decide),rfl⟩ (fun w1 G t hG yQ hle=>by
   have hpl:=Piece.Le.trans Ho (hle _ (by simp))
   simpa using hstep i r hr w1 G hG yQ hpl) ?_
  dsimp only[List.set];refine aA ?_;exact dW (d.aL.length - (i+1)) ⟨i+1,hlt,rfl,rfl,rfl,rfl⟩
 ·obtain rfl:i=d.aL.length:=by omega
  refine aA ?_;exact jZ 0 hF
end
section
def lD(vs old:List Int)(i:Nat):List Int:=vs.take i++old.drop i
theorem Vr(vs old:List Int):lD vs old 0=old:=by simp[lD]
theorem Vu{vs old:List Int}{n:Nat}(h1:vs.length=n)(h2:old.length=n):lD vs old n=vs:=by
 rw[lD,List.drop_eq_nil_of_le (by omega),List.append_nil,List.take_of_length_le (by omega)]
theorem Vt{vs old:List Int}{i n:Nat}(h1:vs.length=n)(h2:old.length=n)(hi:i≤n):(lD vs old i).length=n:=by simp[lD];omega
theorem Vs{vs old:List Int}{i:Nat}{v:Int}(h1:vs.length=old.length)(hv:vs[i]? =some v):(lD vs old i).set i v=lD vs old (i+1):=by
 have hi:=(List.getElem?_eq_some_iff.1 hv).1
 refine List.ext_getElem? fun j=>?_;rw[List.getElem?_set];unfold lD
 by_cases he:i=j
 ·subst he;rw[if_pos rfl,if_pos (by simp;omega),List.getElem?_append_left (by simp;omega),List.getElem?_take_of_lt (by omega),hv]
 ·rw[if_neg he];rcases Nat.lt_or_ge j i with hj | hj
  ·rw[List.getElem?_append_left (by simp;omega),List.getElem?_append_left (by simp;omega),List.getElem?_take_of_lt hj,List.getElem?_take_of_lt (by omega)]
  ·rw[List.getElem?_append_right (by simp;omega),List.getElem?_append_right (by simp;omega),List.getElem?_drop,List.getElem?_drop]
   congr 1
   simp;omega
theorem aOu{vs old:List Int}{i:Nat}{v:Int}(h1:vs.length=old.length)(hi:i < old.length)(hv:old[i]? =some v):(lD vs old i)[i]? =some v:=by
 rw[lD,List.getElem?_append_right (by simp;omega),List.getElem?_drop];simp only[List.length_take];rw[show i+(i - min i vs.length)=i by omega];exact hv
theorem aMP(p:Piece)(L:FL)(d:bL)(x:bR)(f:FuncId)(hf:fH Tryz.prog f=true)(ca:List Value)(g2 g3 i:Nat)(r:Rg)(v:Int)(hr:d.aL[i]? =some r)(Fm:x.now.length=d.aL.length)
  (h2:p.Z g2∧p.w.cell? ⟨g2,0,none⟩=some (.pointer (some ⟨L.f,0,none⟩))) (h3:p.Z g3∧p.w.cell? ⟨g3,0,none⟩=some (.func (.func f) #[] ca.toArray))
  (hw:∀w F,(iF L d x).sat F w→(∀b,F b→b < w.heap.size)→p.Le (all w)→Cz f (([iv (i:Int),.agg r.cells.toArray]:List Value)++ca).toArray w (Rt (.int .u32 v) w))
  (w:World) (F:Nat→Prop) (hp:(iF L d x).sat F w) (hF:∀b,F b→b < w.heap.size) (Ho:p.Le ⟨w,fun b=>b < w.heap.size∧¬F b⟩):
  Cz 233 #[iv (i:Int),.agg r.cells.toArray,pt g3,pt g2] w (Wr (.tuple #[]) (iF L d ⟨x.now.set i v,x.saved,x.kept⟩) w F):=by
 have hlt:=(List.getElem?_eq_some_iff.1 hr).1
 obtain⟨c2,e2⟩:=Ho g2 h2.1;obtain⟨c3,e3⟩:=Ho g3 h3.1
 have k2:w.cell? ⟨g2,0,none⟩=some (.pointer (some ⟨L.f,0,none⟩)):=(World.cell?_of_block (w:=p.w) e2).trans h2.2
 have k3:w.cell? ⟨g3,0,none⟩=some (.func (.func f) #[] ca.toArray):=(World.cell?_of_block (w:=p.w) e3).trans h3.2
 refine dK func233 ntmps233 hp hF ?_;refine aA ?_;refine bA fun g1=>?_;refine aA ?_
 have r2:Rd w [⟨w,fun b=>b < w.heap.size∧¬F b⟩] [HP.aE g1 48 r.cells,iF L d x] g2 0 (.pointer (some ⟨L.f,0,none⟩)):=Rd.ro (List.mem_singleton.2 rfl) c2 k2
 have r3:Rd w [⟨w,fun b=>b < w.heap.size∧¬F b⟩] [HP.aE g1 48 r.cells,iF L d x] g3 0 (.func (.func f) #[] ca.toArray):=Rd.ro (List.mem_singleton.2 rfl) c3 k3
 have r4:Rd w [⟨w,fun b=>b < w.heap.size∧¬F b⟩] [HP.aE g1 48 r.cells,iF L d x] L.f 1 (.slice (some ⟨L.gn,0,none⟩) d.aL.length d.aL.length):=fun w1 t=>((t.aEq 1 rfl).r0.at_ (j:=1) rfl).2
 refine rF 9 (by kernel_rfl) (by kernel_rfl) ?_;refine bB 0 ?_;refine bB 1 ?_;refine bB 2 ?_;refine bB 3 ?_;refine bB 4 ?_;refine bB 5 ?_;refine bB 6 ?_;refine bB 7 ?_;refine cG 8 ?_
 refine aAZ (fi:=[]) (ca:=ca) (vs:=[iv (i:Int),.agg r.cells.toArray]) (v:=.int .u32 v) (hf:=hf) (fun w1 t=>by
  obtain⟨G,g1',g2',g3',_⟩:=t.chunk (i:=1) rfl
  have hle:p.Le (all w1):=fun b hb=>by
   obtain⟨a1,a2⟩:=(Piece.Le.trans Ho (g3' _ (List.mem_singleton.2 rfl))) b hb;exact⟨a1.1,a2⟩
  simpa using hw w1 G g1' g2' hle) ?_
 refine nT ?_;refine cG 9 ?_;refine kd (dat i i) ?_;refine fA ?_;refine cG 10 ?_;refine Zr 1 rfl ?_;dsimp only[List.set]
 have Rb:=aAy x.now
 refine fG rfl rfl ?_;dsimp only[List.set];rw[aCC];refine Zx (x:=⟨x.now.set i v,x.saved,x.kept⟩) 1 rfl ?_;refine fA ?_;refine kG ?_;refine aA ?_;exact jZ 1 hF
theorem aGT(L:FL)(d:bL)(x:bR)(hrl:d.aL.length≤100)(f:FuncId)(hf:fH Tryz.prog f=true)(ca:List Value)(p:Piece)(vs:List Int)(hvl:vs.length=d.aL.length)(Fm:x.now.length=d.aL.length)
  (hw:∀(i:Nat) (r:Rg) (v:Int),d.aL[i]? =some r→vs[i]? =some v→∀(now:List Int) w F,(iF L d ⟨now,x.saved,x.kept⟩).sat F w→(∀b,F b→b < w.heap.size)→p.Le (all w)→Cz f (([iv (i:Int),.agg r.cells.toArray]:List Value)++ca).toArray w (Rt (.int .u32 v) w))
  (w:World) (F:Nat→Prop) (hp:(iF L d x).sat F w) (hF:∀b,F b→b < w.heap.size) (Ho:p.Le ⟨w,fun b=>b < w.heap.size∧¬F b⟩):
  Cz 190 #[.pointer (some ⟨L.f,0,none⟩),.func (.func f) #[] ca.toArray] w (Wr (.tuple #[]) (iF L d ⟨vs,x.saved,x.kept⟩) w F):=by
 refine dK func190 ntmps190 hp hF ?_;refine aA ?_;refine bA fun g2=>?_;refine bA fun g3=>?_;refine aA ?_;refine kO (vf:=[]) (vc:=[pt g3,pt g2]) rfl rfl (by decide) ?_;refine dO [⟨w,fun b=>b < w.heap.size∧¬F b⟩] [0,1] [2] (by simp) rfl (by decide) (by decide) fun q hq hLe _=>?_;obtain⟨F3,s3,z3⟩:=hq 0 _ (by simp) rfl;obtain⟨F2,s2,z2⟩:=hq 1 _ (by simp) rfl
 have hpq:p.Le q:=Piece.Le.trans Ho (hLe _ (by simp))
 refine dZ 0 (iF L d ⟨vs,x.saved,x.kept⟩) (fun w1 G t hG yQ hle=>by
  have key:=aGS q (fun i=>iF L d ⟨lD vs x.now i,x.saved,x.kept⟩) L d hrl 233 (by kernel_rfl) [pt g3,pt g2]
   (fun i _ w F h1 h2=>⟨_,aAg h1 h2⟩) (fun i r hr w2 F2' h1 h2 h3=>by
    have hlt:=(List.getElem?_eq_some_iff.1 hr).1
    obtain⟨v,hv⟩:=get_some (l:=vs) (i:=i) (by omega)
    have:=aMP q L d ⟨lD vs x.now i,x.saved,x.kept⟩ f hf ca g2 g3 i r v hr (Vt hvl Fm (by omega))
     ⟨z2 _ s2.1,by rw[s2.2.cell];rfl⟩ ⟨z3 _ s3.1,by rw[s3.2.cell];rfl⟩ (fun w3 F3 a1 a2 a3=>hw i r v hr hv _ w3 F3 a1 a2 (Piece.Le.trans hpq a3)) w2 F2' h1 h2 h3
    try dsimp only at this
    rw[Vs (by omega) hv] at this
    exact this) w1 G (by show(iF L d ⟨lD vs x.now 0,x.saved,x.kept⟩).sat G w1;rw[Vr];exact hG) yQ (hle q (by simp))
  try dsimp only at key
  rw[Vu hvl Fm] at key
  exact key) ?_
 refine aA ?_;exact jZ 0 hF
end
section
structure GL where
 t:Nat
 A:Option Addr
 c:Nat
def pT(c:Dom)(x:eV):List Value:=[iv c.above,iv c.delay,.bool c.ret,.int .u8 x.phase,iv x.left,.bool x.kept,.bool x.keep]
def rE(s:aC)(st:List eV):List (List Value):=List.zipWith pT s.domains st
abbrev wN(L:GL)(s:aC)(st:List eV):HP:=Pa 273 231 7 L.t L.A s.domains.length L.c (rE s st)
abbrev aK7(w:World)(L:GL)(s:aC)(st:List eV):Prop:=Dy w 7 L.t L.A s.domains.length L.c (rE s st)
section
variable{s:aC}{st:List eV}
theorem aB6(hok:vG s st):(rE s st).length=s.domains.length∧∀r∈rE s st,r.length=7:=by
 have:=hok.len
 refine⟨by simp[rE];omega,fun r hr=>?_⟩;obtain⟨j,hj⟩:=List.getElem?_of_mem hr;rw[rE,List.getElem?_zipWith] at hj;split at hj<;>cases hj
 rfl
theorem Kr{i:Nat}{c:Dom}{x:eV}(hc:s.domains[i]? =some c)(hx:st[i]? =some x):(rE s st)[i]? =some (pT c x):=by
 rw[rE,List.getElem?_zipWith,hc,hx]
theorem aEv{i:Nat}{c:Dom}{x:eV}(hc:s.domains[i]? =some c)(hi:i < st.length):(rE s st).set i (pT c x)=rE s (st.set i x):=by
 refine List.ext_getElem? fun j=>?_;rw[List.getElem?_set]
 by_cases he:i=j
 ·subst he;rw[if_pos rfl,Kr hc (x:=x) (by rw[List.getElem?_set_self hi])];rw[if_pos]
  have h1:=(List.getElem?_eq_some_iff.1 hc).1
  simp[rE];omega
 ·rw[if_neg he,rE,rE,List.getElem?_zipWith,List.getElem?_zipWith,List.getElem?_set_ne he]
end
theorem aDe(t n c b off i:Nat)(w:World)(h0:fR w t 0 (.slice (some ⟨b,off,none⟩) n c))(hi:i < n):
  Cz 91 #[pt t,iv (i:Int)] w (Rt (.pointer (some ⟨b,off+i*7,none⟩)) w):=by
 refine aN func91 ntmps91 ?_;refine aA ?_;refine bX (t:=11) rfl (fun h=>absurd h (by omega)) (fun _=>?_);refine aA ?_;refine aG rfl (fun h=>absurd h (by omega)) (fun _=>?_);refine aA ?_;refine kd (dat i (off+i*7)) ?_;refine aA ?_;exact dG
theorem aDd(t n c:Nat)(A:Option Addr)(i:Int)(w:World)(h0:fR w t 0 (.slice A n c))(hi:bO n i=false):
  Cz 91 #[pt t,iv i] w (Rt (.pointer none) w):=by
 have hi:=of_decide_eq_false hi
 refine aN func91 ntmps91 ?_;refine aA ?_;refine bX (t:=11) rfl (fun h=>?_) (fun h=>?_)
 ·refine aA ?_;exact dG
 ·refine aA ?_;refine aG rfl (fun h=>?_) (fun h=>absurd hi (by omega));refine aA ?_;exact dG
theorem aHh(g o:Nat)(p:Int)(w:World)(h3:fR w g (o+3) (.int .u8 p)):
  Cz 239 #[.pointer (some ⟨g,o,none⟩)] w (Rt (.bool (decide (p=48∨p=116))) w):=by
 refine aN func239 ntmps239 ?_;refine aA ?_;refine bX (t:=8) rfl (fun h=>?_) (fun h=>?_)
 ·refine aA ?_;refine jT (by simp) ?_;simp[h]
 ·refine aA ?_;refine jT (by simp) ?_;simp[h]
theorem aHg(L:GL)(s:aC)(st:List eV)(hok:vG s st)(d:Int)(w:World)(hR:aK7 w L s st):
  Cz 42 #[.pointer (some ⟨L.t,0,none⟩),iv d] w (Rt (.int .u8 (rU st d)) w):=by
 have hl:=hok.len
 cases hi:bO s.domains.length d
 ·refine aN func42 ntmps42 ?_;refine aA ?_;refine aU (fun w1 t=>aDd L.t s.domains.length L.c L.A d w1 ((hR.below (t.below (by simp))).r0) hi) ?_;refine aA ?_;refine jT (by simp) ?_;simp[rU,hl,hi]
 ·obtain⟨n,rfl⟩:∃n:Nat,d=n:=⟨d.toNat,by have:=of_decide_eq_true hi;omega⟩
  have hlt:n < s.domains.length:=by have:=of_decide_eq_true hi;omega
  obtain⟨c,hc⟩:=get_some hlt;obtain⟨x,hx⟩:=get_some (l:=st) (i:=n) (by omega);obtain⟨b,off,hA,hro⟩:=hR.at_ (aB6 hok).2 (Kr hc hx) hlt
  have h3:=hro.at_ (j:=3) rfl
  refine aN func42 ntmps42 ?_;refine aA ?_;refine aU (fun w1 t=>aDe L.t s.domains.length L.c b off n w1 (by rw[←hA];exact(hR.below (t.below (by simp))).r0) hlt) ?_;refine aA ?_;refine jT (by simp) ?_;simp[rU,hl,hi,hx]
theorem aN1(L:GL)(s:aC)(st:List eV)(hH:s.dJ)(hok:vG s st)(d:Int)(w:World)(F:Nat→Prop)(hp:(wN L s st).sat F w)(hF:∀b,F b→b < w.heap.size):
  Cz 223 #[.pointer (some ⟨L.t,0,none⟩),iv d] w (Wr (iv (sN s st d).1) (wN L s (sN s st d).2) w F):=by
 have hl:=hok.len
 cases hi:bO s.domains.length d
 ·have hr:sN s st d=(4,st):=by simp[sN,hl,hi]
  rw[hr];refine dK func223 ntmps223 hp hF ?_;refine aA ?_;refine aU (fun w1 t=>aDd L.t s.domains.length L.c L.A d w1 ((t.aCS 0 rfl).r0) hi) ?_;refine aA ?_;exact cI 0 hF
 ·obtain⟨n,rfl⟩:∃n:Nat,d=n:=⟨d.toNat,by have:=of_decide_eq_true hi;omega⟩
  have hlt:n < s.domains.length:=by have:=of_decide_eq_true hi;omega
  obtain⟨c,hc⟩:=get_some hlt;obtain⟨x,hx⟩:=get_some (l:=st) (i:=n) (by omega);obtain⟨iL,iK⟩:=aB6 hok
  have lS:sN s st (n:Int)=if Ge x=false∨Of st c.above=false then(6,st) else(0,st.set n ⟨114,c.delay,decide (x.phase=116),x.keep⟩):=by
   simp[sN,hl,hi,hc,hx]
  obtain⟨hfa,_,_⟩:=hH.domains n c hc;refine dK func223 ntmps223 hp hF ?_;refine aEQ 0 rfl (by omega) fun g cs hA h1 h2 h3 h4=>?_;dsimp only[List.set]
  have hs:=Hz h2 iL iK (Kr hc hx)
  have hlen:n*7+7≤cs.length:=by omega
  have hs1:=hs.set 5 (.bool (decide (x.phase=116))) (by simp[pT]) (by omega)
  have fX:=hs1.set 3 (.int .u8 114) (by simp[pT]) (by simp;omega)
  have sA:=fX.set 4 (iv c.delay) (by simp[pT]) (by simp;omega)
  have hu3:=(((wF.refl cs (n*7) 7).set 5 (.bool (decide (x.phase=116))) (by decide)).set 3 (.int .u8 114) (by decide)).set 4 (iv c.delay) (by decide)
  have hf:=Fz (r':=pT c ⟨114,c.delay,decide (x.phase=116),x.keep⟩) h2 iL iK hlt (by omega) rfl sA hu3
  rw[aEv hc (by omega)] at hf;refine aA ?_;refine aU (fun w1 t=>aDe L.t s.domains.length L.c g 0 n w1 ((t.box (i:=1) rfl).at_ (j:=0) rfl) hlt) ?_;rw[Nat.zero_add];refine aA ?_;refine mK ?_;refine jB ?_;refine uA (fun w1 t=>aHh g (n*7) x.phase w1 ⟨(t.aE (i:=0) rfl).lt,Rd.sub 0 3 rfl hs rfl rfl w1 t⟩) ?_;refine jB ?_;refine Og 14 rfl (fun hd=>?_) (fun hd=>?_)
  ·rw[lS,if_pos (.inl (decide_eq_false hd))];refine jC ?_;refine aA ?_;refine Ir 0 hA h1 h2 h3 h4 rfl ?_;exact cI 0 hF
  ·have hdn:Ge x=true:=decide_eq_true (Classical.not_not.1 hd)
   refine jB ?_;refine Og 21 rfl (fun ha=>?_) (fun ha=>?_)
   ·obtain⟨a,tA,vZ⟩:∃a:Nat,c.above=a∧a < n:=⟨c.above.toNat,by omega,by omega⟩
    obtain⟨ca,hca⟩:=get_some (l:=s.domains) (i:=a) (by omega);obtain⟨xa,hxa⟩:=get_some (l:=st) (i:=a) (by omega)
    have hsa:=Hz h2 iL iK (Kr hca hxa)
    refine jB ?_;refine xK (dat a (a*7)) ?_;refine jC ?_
    have hal:Of st c.above=decide (xa.phase=49):=by
     unfold Of;rw[tA,Int.toNat_natCast,hxa]
     first | (simp;done) | (simp;omega)
    refine aG rfl (fun h=>?_) (fun h=>?_)
    ·rw[lS,if_pos (.inr (by rw[hal];exact decide_eq_false h))];refine aA ?_;refine Ir 0 hA h1 h2 h3 h4 rfl ?_;exact cI 0 hF
    ·rw[lS,if_neg (by rw[hal,hdn];simp;exact Classical.not_not.1 h)];refine aA ?_;refine Ir 0 hA (by simpa using h1) hf h3 h4 rfl ?_;exact cI 0 hF
   ·have ha:=Classical.not_not.1 ha
    rw[lS,if_neg (by rw[hdn];simp[Of,ha])];refine jC ?_;refine aA ?_;refine Ir 0 hA (by simpa using h1) hf h3 h4 rfl ?_;exact cI 0 hF
end
section
theorem aQj{s:aC}{st:List eV}{d:Int}(h:∀(j:Nat) (c:Dom) (x:eV),s.domains[j]? =some c→st[j]? =some x→Hu d c x=false):Ft s st d=false:=by
 unfold Ft;rw[List.any_eq_false];intro b hb;obtain⟨j,hj⟩:=List.getElem?_of_mem hb;rw[List.getElem?_zipWith] at hj;cases hc:s.domains[j]? with
 | none=>rw[hc] at hj;cases hj
 | some c =>
  cases hx:st[j]? with
  | none=>rw[hc,hx] at hj;cases hj
  | some x=>
   rw[hc,hx] at hj;cases hj;rw[h j c x hc hx];decide
theorem aQi{s:aC}{st:List eV}{d:Int}{j:Nat}{c:Dom}{x:eV}(hc:s.domains[j]? =some c)(hx:st[j]? =some x)(h:Hu d c x=true):Ft s st d=true:=by
 unfold Ft;rw[List.any_eq_true];exact⟨Hu d c x,List.mem_of_getElem? (i:=j) (by rw[List.getElem?_zipWith,hc,hx]),h⟩
theorem aN6(L:GL)(s:aC)(st:List eV)(hok:vG s st)(hnd:s.domains.length≤1000)(d:Int)(keep:Bool)(w:World)(F:Nat→Prop)(hp:(wN L s st).sat F w)(hF:∀b,F b→b < w.heap.size):
  Cz 227 #[.pointer (some ⟨L.t,0,none⟩),iv d,.bool keep] w (Wr (iv (tU s st d keep).1) (wN L s (tU s st d keep).2) w F):=by
 have hl:=hok.len
 cases hi:bO s.domains.length d
 ·have hr:tU s st d keep=(4,st):=by simp[tU,hl,hi]
  rw[hr];refine dK func227 ntmps227 hp hF ?_;refine aB ?_;refine aU (fun w1 t=>aDd L.t s.domains.length L.c L.A d w1 ((t.aCS 0 rfl).r0) hi) ?_;refine aB ?_;exact cI 0 hF
 ·obtain⟨n,rfl⟩:∃n:Nat,d=n:=⟨d.toNat,by have:=of_decide_eq_true hi;omega⟩
  have hlt:n < s.domains.length:=by have:=of_decide_eq_true hi;omega
  obtain⟨c,hc⟩:=get_some hlt;obtain⟨x,hx⟩:=get_some (l:=st) (i:=n) (by omega);obtain⟨iL,iK⟩:=aB6 hok
  have hdn:tU s st (n:Int) keep=if x.phase≠49 then(6,st) else if keep=true∧c.ret=false then(1,st) else if Ft s st n then(7,st) else(0,st.set n ⟨99,x.left,x.kept,keep⟩):=by
   simp[tU,hl,hi,hc,hx]
  refine dK func227 ntmps227 hp hF ?_;refine aEQ 0 rfl (by omega) fun g cs hA h1 h2 h3 h4=>?_;dsimp only[List.set]
  have hs:=Hz h2 iL iK (Kr hc hx)
  have hlen:n*7+7≤cs.length:=by omega
  have hs1:=hs.set 3 (.int .u8 99) (by simp[pT]) (by omega)
  have fX:=hs1.set 6 (.bool keep) (by simp[pT]) (by simp;omega)
  have hu2:=((wF.refl cs (n*7) 7).set 3 (.int .u8 99) (by decide)).set 6 (.bool keep) (by decide)
  have hf:=Fz (r':=pT c ⟨99,x.left,x.kept,keep⟩) h2 iL iK hlt (by omega) rfl fX hu2
  rw[aEv hc (by omega)] at hf;refine aB ?_;refine aU (fun w1 t=>aDe L.t s.domains.length L.c g 0 n w1 ((t.box (i:=1) rfl).at_ (j:=0) rfl) hlt) ?_;rw[Nat.zero_add];refine aB ?_;refine aG rfl (fun mP=>?_) (fun mP=>?_)
  ·rw[hdn,if_pos mP];refine aB ?_;refine Ir 0 hA h1 h2 h3 h4 rfl ?_;exact cI 0 hF
  rw[if_neg mP] at hdn;refine lX ?_;refine dV ?_;refine cP ?_;refine Zw 27 (keep=true∧c.ret=false) ?_ ?_
  ·cases keep
   ·refine aA ?_;exact Te
   ·refine aA ?_;cases hrt:c.ret<;>exact Te
  refine aG rfl (fun hk=>?_) (fun hk=>?_)
  ·rw[hdn,if_pos hk];refine aB ?_;refine Ir 0 hA h1 h2 h3 h4 rfl ?_;exact cI 0 hF
  rw[if_neg hk] at hdn;refine aB ?_;refine bK [(33,iv 0),(32,iv s.domains.length),(7,.pointer (some ⟨g,n*7,none⟩)),(2,.bool keep),(1,iv n),(0,.pointer (some ⟨L.t,0,none⟩))] ?_;refine eJ (fun m e R H=>∃i:Nat,i≤s.domains.length∧(∀(j:Nat) (c:Dom) (x:eV),j < i→s.domains[j]? =some c→st[j]? =some x→Hu n c x=false)∧m=s.domains.length - i∧e=[(33,iv i),(32,iv s.domains.length),(7,.pointer (some ⟨g,n*7,none⟩)),(2,.bool keep),(1,iv n),(0,.pointer (some ⟨L.t,0,none⟩))]∧R=[⟨w,fun b=>b < w.heap.size∧¬F b⟩]∧H=[HP.aE g 231 cs,HP.aE L.t 273 [.slice (some ⟨g,0,none⟩) s.domains.length L.c],HP.many [cH,cH]]) s.domains.length ⟨0,by omega,fun j _ _ hj=>by omega,rfl,rfl,rfl,rfl⟩ fun m e R H hI=>?_;obtain⟨i,hi2,hno,rfl,rfl,rfl,rfl⟩:=hI;refine aB ?_;refine aG rfl (fun vZ=>?_) (fun hge=>?_)
  ·have vZ:i < s.domains.length:=by omega
   obtain⟨ci,sD⟩:=get_some vZ;obtain⟨xi,hxi⟩:=get_some (l:=st) (i:=i) (by omega)
   have hsi:=Hz h2 iL iK (Kr sD hxi)
   clear hs1 fX;refine aA ?_;refine kd (dat i (i*7)) ?_;refine aB ?_;refine bX (t:=47) rfl (fun ha=>?_) (fun ha=>?_)
   ·refine aA ?_;refine kd (dat i (i*7)) ?_;refine aB ?_;refine aU (fun w1 t=>aHh g (i*7) xi.phase w1 ⟨(t.aE (i:=0) rfl).lt,Rd.sub 0 3 rfl hsi rfl rfl w1 t⟩) ?_;refine aB ?_;refine aG rfl (fun hd=>?_) (fun hd=>?_)
    ·have hh:Ft s st n=true:=aQi sD hxi (by simp[Hu,ha,Ge];simpa using hd)
     rw[hdn,if_pos hh];refine aB ?_;refine Ir 0 hA h1 h2 h3 h4 rfl ?_;exact cI 0 hF
    ·refine aB ?_;refine bK [(33,iv (i+1:Nat)),(32,iv s.domains.length),(7,.pointer (some ⟨g,n*7,none⟩)),(2,.bool keep),(1,iv n),(0,.pointer (some ⟨L.t,0,none⟩))] ?_;refine iC (s.domains.length - (i+1)) (by omega) ⟨i+1,vZ,fun j c x hj Fq yM=>?_,rfl,rfl,rfl,rfl⟩;rcases Nat.lt_or_ge j i with h | h
     ·exact hno j c x h Fq yM
     ·obtain rfl:j=i:=by omega
      rw[sD] at Fq;rw[hxi] at yM;cases Fq;cases yM
      have hd:=Classical.not_not.1 hd
      simp[Hu,Ge,hd]
   ·refine aB ?_;refine bK [(33,iv (i+1:Nat)),(32,iv s.domains.length),(7,.pointer (some ⟨g,n*7,none⟩)),(2,.bool keep),(1,iv n),(0,.pointer (some ⟨L.t,0,none⟩))] ?_;refine iC (s.domains.length - (i+1)) (by omega) ⟨i+1,vZ,fun j c x hj Fq yM=>?_,rfl,rfl,rfl,rfl⟩;rcases Nat.lt_or_ge j i with h | h
    ·exact hno j c x h Fq yM
    ·obtain rfl:j=i:=by omega
     rw[sD] at Fq;rw[hxi] at yM;cases Fq;cases yM;simp[Hu,ha]
  ·obtain rfl:i=s.domains.length:=by omega
   have hh:Ft s st n=false:=aQj fun j c x Fq yM=>hno j c x (List.getElem?_eq_some_iff.1 Fq).1 Fq yM
   rw[hdn,if_neg (by rw[hh];decide)];refine aB ?_;refine Ir 0 hA (by simpa using h1) hf h3 h4 rfl ?_;exact cI 0 hF
def nV(cs:List Value)(o:Nat)(x:eV):List Value:=
 if x.phase=114 then(if 0 < x.left then cs.set (o+4) (iv (x.left - 1)) else cs.set (o+3) (.int .u8 104))
 else if x.phase=104 then cs.set (o+3) (.int .u8 49)
 else if x.phase=99 then cs.set (o+3) (.int .u8 (if x.keep then 116 else 48)) else cs
theorem aL1{cs:List Value}{o:Nat}{c:Dom}{x:eV}(h:Sub cs o (pT c x))(hl:o+7≤cs.length):Sub (nV cs o x) o (pT c (eE x).2)∧wF cs (nV cs o x) o 7:=by
 have hu:=wF.refl cs o 7
 obtain⟨ph,left,kept,keep⟩:=x
 by_cases h1:ph=114
 ·subst h1
  by_cases h2:0 < left
  ·simp only[nV,eE,if_pos h2,if_true];exact⟨h.set 4 (iv (left - 1)) (by simp[pT]) (by omega),hu.set 4 _ (by decide)⟩
  ·simp only[nV,eE,if_neg h2,if_true];exact⟨h.set 3 (.int .u8 104) (by simp[pT]) (by omega),hu.set 3 _ (by decide)⟩
 ·by_cases h2:ph=104
  ·simp only[nV,eE,if_neg h1,if_pos h2];exact⟨h.set 3 (.int .u8 49) (by simp[pT]) (by omega),hu.set 3 _ (by decide)⟩
  ·by_cases h3:ph=99
   ·simp only[nV,eE,if_neg h1,if_neg h2,if_pos h3];cases keep
    ·exact⟨h.set 3 (.int .u8 48) (by simp[pT]) (by omega),hu.set 3 _ (by decide)⟩
    ·exact⟨h.set 3 (.int .u8 116) (by simp[pT]) (by omega),hu.set 3 _ (by decide)⟩
   ·simp only[nV,eE,if_neg h1,if_neg h2,if_neg h3];exact⟨h,hu⟩
theorem aN3(g o:Nat)(cs:List Value)(c:Dom)(x:eV)(hs:Sub cs o (pT c x))(hlen:o+7≤cs.length)(hx:0≤x.left∧x.left≤3)(w:World)(F:Nat→Prop)(hp:(HP.aE g 231 cs).sat F w)(hF:∀b,F b→b < w.heap.size):
  Cz 112 #[.pointer (some ⟨g,o,none⟩)] w (Wr (.int .u8 (eE x).1) (HP.aE g 231 (nV cs o x)) w F):=by
 refine dK func112 ntmps112 hp hF ?_;obtain⟨ph,left,kept,keep⟩:=x;dsimp only at hx;dsimp only[pT] at hs;refine aA ?_;refine aG rfl (fun h=>?_) (fun h=>?_)
 ·subst h;refine aA ?_;refine aG rfl (fun hp=>?_) (fun hp=>?_)
  ·refine aA ?_;refine nS rfl rfl fun w1 t=>⟨by simp[eE,nV,hp,if_true],?_⟩
   simp only[eE,nV,if_pos hp,if_true];exact t.turns hF (by simp) (i:=0) rfl
  ·have hs1:=hs.set 3 (.int .u8 104) (by simp) (by omega)
   refine aA ?_;refine pV rfl (fun hk=>?_) (fun hk=>?_)
   ·refine aA ?_;refine nS rfl rfl fun w1 t=>⟨by simp[eE,nV,hp,if_true,hk],?_⟩
    simp only[eE,nV,if_neg hp,if_true,hk];exact t.turns hF (by simp) (i:=0) rfl
   ·refine aA ?_;refine nS rfl rfl fun w1 t=>⟨by simp[eE,nV,hp,if_true,hk],?_⟩
    simp only[eE,nV,if_neg hp,if_true,hk];exact t.turns hF (by simp) (i:=0) rfl
 ·refine aA ?_;refine aG rfl (fun h2=>?_) (fun h2=>?_)
  ·refine aA ?_;refine nS rfl rfl fun w1 t=>⟨by simp[eE,nV,h,h2],?_⟩
   simp only[eE,nV,if_neg h,if_pos h2];exact t.turns hF (by simp) (i:=0) rfl
  ·refine aA ?_;refine aG rfl (fun h3=>?_) (fun h3=>?_)
   ·refine aA ?_;refine pV rfl (fun hk=>?_) (fun hk=>?_)
    ·refine aA ?_;refine nS rfl rfl fun w1 t=>⟨by simp[eE,nV,h,h2,h3,hk,if_true],?_⟩
     simp only[eE,nV,if_neg h,if_neg h2,if_pos h3,hk,if_true];exact t.turns hF (by simp) (i:=0) rfl
    ·refine aA ?_;refine nS rfl rfl fun w1 t=>⟨by simp[eE,nV,h,h2,h3,hk],?_⟩
     simp only[eE,nV,if_neg h,if_neg h2,if_pos h3,hk];exact t.turns hF (by simp) (i:=0) rfl
   ·refine aA ?_;refine nS rfl rfl fun w1 t=>⟨by simp[eE,nV,h,h2,h3],?_⟩
    simp only[eE,nV,if_neg h,if_neg h2,if_neg h3];exact t.turns hF (by simp) (i:=0) rfl
theorem aGr{α:Type}{l:List α}{i:Nat}{x:α}(h:l[i]? =some x):l.set i x=l:=by
 refine List.ext_getElem? fun j=>?_;rw[List.getElem?_set]
 by_cases he:i=j
 ·subst he;rw[if_pos rfl,if_pos (List.getElem?_eq_some_iff.1 h).1,h]
 ·rw[if_neg he]
def Hf(st:List eV)(i:Nat):List eV:=(nK st).take i++st.drop i
theorem aDp{α:Type}(f:α→α)(st:List α){i:Nat}(hi:i < st.length):((st.map f).take i++st.drop i)[i]? =st[i]? :=by
 have:((st.map f).take i).length=i:=by simp;omega
 rw[List.getElem?_append_right (by omega),this,Nat.sub_self,List.getElem?_drop,Nat.add_zero]
theorem aDo{α:Type}(f:α→α)(st:List α){i:Nat}{x:α}(hx:st[i]? =some x):((st.map f).take i++st.drop i).set i (f x)=(st.map f).take (i+1)++st.drop (i+1):=by
 have hi:=(List.getElem?_eq_some_iff.1 hx).1
 refine List.ext_getElem? fun j=>?_;rw[List.getElem?_set]
 by_cases he:i=j
 ·subst he;rw[if_pos rfl,if_pos (by simp;omega),List.getElem?_append_left (by simp;omega),List.getElem?_take_of_lt (by omega),List.getElem?_map,hx];rfl
 ·rw[if_neg he];rcases Nat.lt_or_ge j i with hj | hj
  ·rw[List.getElem?_append_left (by simp;omega),List.getElem?_append_left (by simp;omega),List.getElem?_take_of_lt hj,List.getElem?_take_of_lt (by omega)]
  ·rw[List.getElem?_append_right (by simp;omega),List.getElem?_append_right (by simp;omega),List.getElem?_drop,List.getElem?_drop]
   congr 1
   simp;omega
theorem aGc{x:eV}(hl:0≤x.left∧x.left≤3)(hp:0≤x.phase∧x.phase < 256):(0≤(eE x).2.left∧(eE x).2.left≤3)∧(0≤(eE x).2.phase∧(eE x).2.phase < 256):=by
 unfold eE
 repeat' split
 all_goals(dsimp only;constructor<;>omega)
theorem aCG{s:aC}{st:List eV}(hok:vG s st):vG s (nK st):=by
 have hl:=hok.len
 refine⟨by simp[nK];omega,fun x hx=>?_,fun x hx=>?_⟩
 ·obtain⟨y,hy,rfl⟩:=List.mem_map.1 hx;exact(aGc (hok.left y hy) (hok.phase y hy)).1
 ·obtain⟨y,hy,rfl⟩:=List.mem_map.1 hx;exact(aGc (hok.left y hy) (hok.phase y hy)).2
theorem aOw{s:aC}{st:List eV}(hok:vG s st){i:Nat}(hi:i≤s.domains.length):vG s (Hf st i):=by
 have hl:=hok.len
 have ht:=aCG hok
 refine⟨by simp[Hf,nK];omega,fun x hx=>?_,fun x hx=>?_⟩
 ·rcases List.mem_append.1 hx with h | h
  ·exact ht.left x (List.mem_of_mem_take h)
  ·exact hok.left x (List.mem_of_mem_drop h)
 ·rcases List.mem_append.1 hx with h | h
  ·exact ht.phase x (List.mem_of_mem_take h)
  ·exact hok.phase x (List.mem_of_mem_drop h)
def Gc(p:Int×Nat):List Value:=[.int .u8 p.1,iv (p.2:Int)]
theorem aIO(st:List eV)(n:Nat):(jX st n).length≤n:=by
 unfold jX;exact Nat.le_trans (List.length_filterMap_le _ _) (by simp)
theorem aRf{st:List eV}{i:Nat}{x:eV}(hx:st[i]? =some x):jX st (i+1)=jX st i++(if(eE x).1=0 then[] else[((eE x).1,i)]):=by
 unfold jX;rw[List.range_succ,List.filterMap_append];simp only[List.filterMap_cons,List.filterMap_nil,hx,Option.bind_some]
 by_cases h:(eE x).1=0<;>simp[h]
theorem aN2(L:GL)(s:aC)(st:List eV)(hok:vG s st)(hnd:s.domains.length≤1000)(w:World)(F:Nat→Prop)(hp:(wN L s st).sat F w)(hF:∀b,F b→b < w.heap.size):
  Cz 59 #[.pointer (some ⟨L.t,0,none⟩)] w (fun y w'=>∃a:Option Addr×Nat,y=.returned (.slice a.1 (jX st s.domains.length).length a.2)∧True∧∃F',(HP.many [wN L s (nK st),HP.own 151 2 (.slice a.1 (jX st s.domains.length).length a.2) (jX st s.domains.length).length ((jX st s.domains.length).flatMap Gc)]).sat F' w'∧iE w w' F F'):=by
 have hl:=hok.len
 refine dK func59 ntmps59 hp hF ?_
 have aDI:Rd w [⟨w,fun b=>b < w.heap.size∧¬F b⟩] [wN L s st] L.t 0 (.slice L.A s.domains.length L.c):=Rd.row 0 rfl
 refine aA ?_;refine iP 151 2 ?_;refine bK [(13,iv 0),(12,iv s.domains.length),(3,sn),(0,.pointer (some ⟨L.t,0,none⟩))] ?_;refine eJ (fun m e R H=>∃(i:Nat) (A:Option Addr) (k:Nat),i≤s.domains.length∧m=s.domains.length - i∧e=[(13,iv i),(12,iv s.domains.length),(3,.slice A (jX st i).length k),(0,.pointer (some ⟨L.t,0,none⟩))]∧R=[⟨w,fun b=>b < w.heap.size∧¬F b⟩]∧H=[HP.own 151 2 (.slice A (jX st i).length k) (jX st i).length ((jX st i).flatMap Gc),wN L s (Hf st i)]) s.domains.length ⟨0,none,0,by omega,rfl,rfl,rfl,by simp[Hf,jX]⟩ fun m e R H hI=>?_;obtain⟨i,A,k,hi,rfl,rfl,rfl,rfl⟩:=hI;refine aA ?_;refine aG rfl (fun hlt=>?_) (fun hge=>?_)
 ·have hlt:i < s.domains.length:=by omega
  obtain⟨c,hc⟩:=get_some hlt;obtain⟨x,hx⟩:=get_some (l:=st) (i:=i) (by omega)
  have Na:(Hf st i)[i]? =some x:=by rw[Hf,nK,aDp _ st (by omega)];exact hx
  have Wn:=aOw hok hi
  obtain⟨iL,iK⟩:=aB6 Wn
  have hel:=aIO st i
  refine aEQ 1 rfl (by omega) fun g cs hA h1 h2 h3 h4=>?_;dsimp only[List.set]
  have hs:=Hz h2 iL iK (Kr hc Na)
  obtain⟨hs1,vW⟩:=aL1 hs (by omega)
  have hf:=Fz (r':=pT c (eE x).2) h2 iL iK hlt (by omega) rfl hs1 vW
  rw[aEv hc (by have:=Wn.len;omega),Hf,nK,aDo (fun x=>(eE x).2) st hx] at hf;refine aA ?_;refine kd (dat i (i*7)) ?_;refine Uf 0 (fi:=[]) (ca:=[]) (p:=HP.aE g 231 cs) (HP.aE g 231 (nV cs (i*7) x)) (by kernel_rfl) rfl rfl rfl ⟨(by decide),rfl⟩ (fun w1 G t hG yQ=>aN3 g (i*7) cs c x hs (by omega) (hok.left x (List.mem_of_getElem? hx)) w1 G hG yQ) ?_;dsimp only[List.set]
  have nP:(nV cs (i*7) x).length=L.c*7:=by rw[vW.1,h1]
  refine Ir 1 hA nP hf h3 h4 rfl ?_;dsimp only[List.set]
  have dS:=aRf hx
  refine aA ?_;refine aG rfl (fun hz=>?_) (fun hz=>?_)
  ·rw[if_neg hz] at dS;refine aB ?_;refine eH fun g2=>?_;refine gH 1 2 16 1 (el:=151) (by kernel_rfl) (by kernel_rfl) (by decide) rfl rfl rfl (nL 0 rfl rfl) (by simp[Value.oneCell']) rfl (by omega) (by omega) (by decide) fun A' k'=>?_;dsimp only[List.set];refine aA ?_
   have e1:(jX st (i+1)).length=(jX st i).length+1:=by rw[dS];simp
   have e2:(jX st (i+1)).flatMap Gc=(jX st i).flatMap Gc++[.int .u8 (eE x).1,iv (i:Int)]:=by rw[dS,List.flatMap_append];rfl
   refine aY [1,2] rfl (by decide) (fun _ h=>h) ?_;refine bK [(13,iv (i+1:Nat)),(12,iv s.domains.length),(3,.slice A' ((jX st i).length+1) k'),(0,.pointer (some ⟨L.t,0,none⟩))] ?_;exact iC (s.domains.length - (i+1)) (by omega) ⟨i+1,A',k',hlt,rfl,by rw[e1],rfl,by rw[e1,e2];rfl⟩
  ·have hz:=Classical.not_not.1 hz
   rw[if_pos hz,List.append_nil] at dS;refine aA ?_;refine bK [(13,iv (i+1:Nat)),(12,iv s.domains.length),(3,.slice A (jX st i).length k),(0,.pointer (some ⟨L.t,0,none⟩))] ?_;refine iC (s.domains.length - (i+1)) (by omega) ⟨i+1,A,k,hlt,rfl,by rw[dS],rfl,by rw[dS];rfl⟩
 ·obtain rfl:i=s.domains.length:=by omega
  have xC:Hf st s.domains.length=nK st:=by
   rw[Hf,List.drop_eq_nil_of_le (by omega),List.append_nil,List.take_of_length_le (by simp[nK];omega)]
  rw[xC];refine aA ?_;refine aY [1,0] rfl (by decide) (fun _ h=>h) ?_;refine nH ?_;exact nS rfl rfl fun w1 t=>⟨(A,k),rfl,trivial,t.turns hF (by simp) (i:=0) rfl⟩
end
section
theorem aRj(w:World)(q:Piece):(⟨w,fun _=>False⟩:Piece).Le q:=fun _ h=>h.elim
theorem aS3(i:Nat)(r:Rg)(w:World):
  Cz 192 #[iv (i:Int),.agg r.cells.toArray] w (Rt (.int .u32 r.reset) w):=by
 refine aN func192 ntmps192 ?_;refine aA ?_;refine bA fun g1=>?_;dsimp only[Value.cells,Rg.cells];refine aA ?_;exact dG
theorem aAF(L:FL)(d:bL)(x:bR)(hrl:d.aL.length≤100)(hok:wP d x)(w:World)(F:Nat→Prop)(hp:(iF L d x).sat F w)(hF:∀b,F b→b < w.heap.size):
  Cz 115 #[.pointer (some ⟨L.f,0,none⟩)] w (Wr (.tuple #[]) (iF L d (tF d x)) w F):=by
 refine dK func115 ntmps115 hp hF ?_;refine aA ?_
 refine dZ 0 (iF L d ⟨d.aL.map (·.reset),x.saved,x.kept⟩) (fun w1 G t hG yQ hle=>by
  have:=aGT L d x hrl 192 (by kernel_rfl) [] ⟨w1,fun _=>False⟩ (d.aL.map (·.reset)) (by simp) hok.now (fun i r v hr hv now w2 F2 _ _ _=>by
   rw[List.getElem?_map,hr] at hv;cases hv
   exact aS3 i r w2) w1 G hG yQ (aRj _ _)
  exact this) ?_
 refine Zr 0 rfl ?_;dsimp only[List.set,Kn];refine aA ?_;refine Zx (x:=tF d x) 0 rfl ?_;exact jZ 0 hF
theorem aMG(L:FL)(d:bL)(x:bR)(g1 i:Nat)(r:Rg)(v:Int)(hr:d.aL[i]? =some r)(hv:x.saved[i]? =some v)(w:World)(hR:Ee w L d x)(h1:fR w g1 0 (.pointer (some ⟨L.f,0,none⟩))):
  Cz 191 #[iv (i:Int),.agg r.cells.toArray,pt g1] w (Rt (.int .u32 (Vb x.kept r v)) w):=by
 have hlt:=(List.getElem?_eq_some_iff.1 hr).1
 have k3:=hR.r0.at_ (j:=3) rfl
 have k2:=hR.r0.at_ (j:=2) rfl
 have kv:=hR.saved.at_ (aCD hv)
 rw[Nat.zero_add] at kv;obtain⟨rs,kp⟩:=r;cases hk:x.kept
 ·rw[hk] at k3;refine aN func191 ntmps191 ?_;refine aA ?_;refine bA fun g2=>?_;dsimp only[Value.cells,Rg.cells];refine aA ?_;exact dG
 ·rw[hk] at k3;cases kp
  ·refine aN func191 ntmps191 ?_;refine aA ?_;refine bA fun g2=>?_;dsimp only[Value.cells,Rg.cells];refine aA ?_;exact dG
  ·refine aN func191 ntmps191 ?_;refine aA ?_;refine bA fun g2=>?_;dsimp only[Value.cells,Rg.cells];refine aB ?_;exact dG
theorem aMM(L:FL)(d:bL)(x:bR)(hrl:d.aL.length≤100)(hok:wP d x)(w:World)(F:Nat→Prop)(hp:(iF L d x).sat F w)(hF:∀b,F b→b < w.heap.size):
  Cz 114 #[.pointer (some ⟨L.f,0,none⟩)] w (Wr (.tuple #[]) (iF L d (zX d x)) w F):=by
 have rZ:=hok.saved
 refine dK func114 ntmps114 hp hF ?_;refine aA ?_;refine bA fun g1=>?_;refine aA ?_;refine kO (vf:=[]) (vc:=[pt g1]) rfl rfl (by decide) ?_;refine dO [⟨w,fun b=>b < w.heap.size∧¬F b⟩] [0] [1] (by simp) rfl (by decide) (by decide) fun q hq hLe _=>?_;obtain⟨F1,s1,z1⟩:=hq 0 _ (by simp) rfl
 refine dZ 0 (iF L d (zX d x)) (fun w1 G t hG yQ hle=>by
  have:=aGT L d x hrl 191 (by kernel_rfl) [pt g1] q (zX d x).now (by simp[zX];omega) hok.now (fun i r v hr hv now w2 F2 a1 a2 a3=>by
   have hlt:=(List.getElem?_eq_some_iff.1 hr).1
   obtain⟨u,hu⟩:=get_some (l:=x.saved) (i:=i) (by omega)
   have he:v=Vb x.kept r u:=by
    rw[zX,List.getElem?_zipWith,hr,hu] at hv;cases hv;rfl
   subst he;obtain⟨b1,b2⟩:=a3 g1 (z1 _ s1.1)
   exact aMG L d ⟨now,x.saved,x.kept⟩ g1 i r u hr hu w2 (aAg a1 a2) ⟨b1,(World.cell?_of_block (w:=q.w) b2).trans (by rw[s1.2.cell];rfl)⟩) w1 G hG yQ (hle q (by simp))
  exact this) ?_
 refine aA ?_;exact jZ 0 hF
theorem aLU(p:Piece)(L:FL)(d:bL)(x:bR)(g1 i:Nat)(r:Rg)(v u:Int)(hr:d.aL[i]? =some r)(hv:x.now[i]? =some v)(hu:x.saved[i]? =some u)(Fm:x.saved.length=d.aL.length)
  (h1:p.Z g1∧p.w.cell? ⟨g1,0,none⟩=some (.pointer (some ⟨L.f,0,none⟩))) (w:World) (F:Nat→Prop) (hp:(iF L d x).sat F w) (hF:∀b,F b→b < w.heap.size) (Ho:p.Le ⟨w,fun b=>b < w.heap.size∧¬F b⟩):
  Cz 189 #[iv (i:Int),.agg r.cells.toArray,pt g1] w (Wr (.tuple #[]) (iF L d ⟨x.now,x.saved.set i (Jd r (v,u)),x.kept⟩) w F):=by
 have hlt:=(List.getElem?_eq_some_iff.1 hr).1
 obtain⟨c1,e1⟩:=Ho g1 h1.1
 have k1:w.cell? ⟨g1,0,none⟩=some (.pointer (some ⟨L.f,0,none⟩)):=(World.cell?_of_block (w:=p.w) e1).trans h1.2
 obtain⟨rs,kp⟩:=r;cases kp
 ·have hsame:x.saved.set i (Jd ⟨rs,false⟩ (v,u))=x.saved:=aGr hu
  rw[hsame];refine dK func189 ntmps189 hp hF ?_;refine aA ?_;refine bA fun g2=>?_;dsimp only[Value.cells,Rg.cells];refine aA ?_;exact jZ 1 hF
 ·refine dK func189 ntmps189 hp hF ?_;refine aA ?_;refine bA fun g2=>?_;dsimp only[Value.cells,Rg.cells];refine aA ?_;refine Zr 1 rfl ?_;dsimp only[List.set,Kn]
  have Rb:=aAy x.now
  have rZ:=aAy x.saved
  have r1:Rd w [⟨w,fun b=>b < w.heap.size∧¬F b⟩] [HP.aE L.gs 23 (nJ x.saved),HP.aE L.gn 23 (nJ x.now),HP.aE L.f 298 [.slice L.A d.aL.length L.c,.slice (some ⟨L.gn,0,none⟩) d.aL.length d.aL.length,.slice (some ⟨L.gs,0,none⟩) d.aL.length d.aL.length,.bool x.kept],HP.aE g2 48 [.int .u32 rs,.bool true],HP.many [cH,cH,cH,HP.bY (uE d L.A) (uE.le (d:=d) (A:=L.A))]] g1 0 (.pointer (some ⟨L.f,0,none⟩)):=Rd.ro (List.mem_singleton.2 rfl) c1 k1
  have r2:Rd w [⟨w,fun b=>b < w.heap.size∧¬F b⟩] [HP.aE L.gs 23 (nJ x.saved),HP.aE L.gn 23 (nJ x.now),HP.aE L.f 298 [.slice L.A d.aL.length L.c,.slice (some ⟨L.gn,0,none⟩) d.aL.length d.aL.length,.slice (some ⟨L.gs,0,none⟩) d.aL.length d.aL.length,.bool x.kept],HP.aE g2 48 [.int .u32 rs,.bool true],HP.many [cH,cH,cH,HP.bY (uE d L.A) (uE.le (d:=d) (A:=L.A))]] L.gn i (.int .u32 v):=Rd.aE 1 rfl (aCD hv)
  refine rF 12 (by kernel_rfl) (by kernel_rfl) ?_;refine bB 0 ?_;refine bB 1 ?_;refine bB 2 ?_;refine bB 3 ?_;refine bB 4 ?_;refine bB 5 ?_;refine bB 6 ?_;refine bB 7 ?_;refine bB 8 ?_;refine bB 9 ?_;refine bB 10 ?_ (dI:=dat (sz:=1) i i);refine bB 11 ?_;refine cG 12 ?_;refine kd (dat i i) ?_;refine fA ?_;refine cG 13 ?_;refine fG rfl rfl ?_;dsimp only[List.set];rw[aCC];refine fA ?_;refine kG ?_;refine aA ?_;refine aY [0,1,2,4] rfl (by decide) (fun _ h=>h) ?_;refine Zx (x:=⟨x.now,x.saved.set i v,x.kept⟩) 0 rfl ?_;exact jZ 0 hF
theorem aML(L:FL)(d:bL)(x:bR)(hrl:d.aL.length≤100)(hok:wP d x)(w:World)(F:Nat→Prop)(hp:(iF L d x).sat F w)(hF:∀b,F b→b < w.heap.size):
  Cz 113 #[.pointer (some ⟨L.f,0,none⟩)] w (Wr (.tuple #[]) (iF L d (rR d x)) w F):=by
 have rZ:=hok.saved
 have iL:=hok.now
 have hvl:(rR d x).saved.length=d.aL.length:=by simp[rR];omega
 refine dK func113 ntmps113 hp hF ?_;refine aA ?_;refine bA fun g1=>?_;refine aA ?_;refine kO (vf:=[]) (vc:=[pt g1]) rfl rfl (by decide) ?_;refine dO [⟨w,fun b=>b < w.heap.size∧¬F b⟩] [0] [1] (by simp) rfl (by decide) (by decide) fun q hq hLe _=>?_;obtain⟨F1,s1,z1⟩:=hq 0 _ (by simp) rfl
 refine dZ 0 (iF L d ⟨x.now,(rR d x).saved,x.kept⟩) (fun w1 G t hG yQ hle=>by
  have key:=aGS q (fun i=>iF L d ⟨x.now,lD (rR d x).saved x.saved i,x.kept⟩) L d hrl 189 (by kernel_rfl) [pt g1]
   (fun i _ w F h1 h2=>⟨_,aAg h1 h2⟩) (fun i r hr w2 F2' h1 h2 h3=>by
    have hlt:=(List.getElem?_eq_some_iff.1 hr).1
    obtain⟨v,hv⟩:=get_some (l:=x.now) (i:=i) (by omega);obtain⟨u,hu⟩:=get_some (l:=x.saved) (i:=i) (by omega)
    have hs:(rR d x).saved[i]? =some (Jd r (v,u)):=by
     rw[rR,List.getElem?_zipWith,hr,(List.getElem?_zip_eq_some (z:=(v,u))).2 ⟨hv,hu⟩]
    have:=aLU q L d ⟨x.now,lD (rR d x).saved x.saved i,x.kept⟩ g1 i r v u hr hv (aOu (by omega) (by omega) hu) (Vt hvl rZ (by omega))
     ⟨z1 _ s1.1,by rw[s1.2.cell];rfl⟩ w2 F2' h1 h2 h3
    try dsimp only at this
    rw[Vs (by omega) hs] at this
    exact this) w1 G (by show(iF L d ⟨x.now,lD (rR d x).saved x.saved 0,x.kept⟩).sat G w1;rw[Vr];exact hG) yQ (hle q (by simp))
  try dsimp only at key
  rw[Vu hvl rZ] at key
  exact key) ?_
 refine Zr 0 rfl ?_;dsimp only[List.set,Kn]
 have r1:∀H,Rd w [q,⟨w,fun b=>b < w.heap.size∧¬F b⟩] H g1 0 (.pointer (some ⟨L.f,0,none⟩)):=fun H=>Rd.ro (by simp:q∈_) (z1 _ s1.1) (by rw[s1.2.cell];rfl)
 have r1:=r1 [HP.aE L.gs 23 (nJ (rR d x).saved),HP.aE L.gn 23 (nJ x.now),HP.aE L.f 298 [.slice L.A d.aL.length L.c,.slice (some ⟨L.gn,0,none⟩) d.aL.length d.aL.length,.slice (some ⟨L.gs,0,none⟩) d.aL.length d.aL.length,.bool x.kept],HP.many [cH,cH,cH,HP.bY (uE d L.A) (uE.le (d:=d) (A:=L.A))]]
 refine aA ?_;refine Zx (x:=rR d x) 0 rfl ?_;exact jZ 0 hF
theorem aMN(L:FL)(d:bL)(x:bR)(i:Nat)(v:Int)(Fm:x.now.length=d.aL.length)(hv:x.now[i]? =some v)(w:World)(hR:Ee w L d x):
  Cz 109 #[.pointer (some ⟨L.f,0,none⟩),iv (i:Int)] w (Rt (.tuple #[.int .u32 v,iv 0]) w):=by
 have hlt:i < d.aL.length:=by have:=(List.getElem?_eq_some_iff.1 hv).1;omega
 have k1:=hR.r0.at_ (j:=1) rfl
 have kv:=hR.now.at_ (aCD hv)
 rw[Nat.zero_add] at kv;refine aN func109 ntmps109 ?_;refine aA ?_;refine bX (t:=8) rfl (fun h=>absurd h (by omega)) (fun _=>?_);refine aA ?_;refine aU (fun w1 t=>Vc L d x w1 (hR.below (t.below (by simp)))) ?_;refine aA ?_;refine aG rfl (fun h=>absurd h (by omega)) (fun _=>?_);refine aB ?_;exact eL rfl rfl rfl fun w1 t=>⟨rfl,t.below (by simp)⟩
theorem aMK(L:FL)(d:bL)(x:bR)(i:Nat)(v:Int)(Fm:x.now.length=d.aL.length)(hlt:i < d.aL.length)(w:World)(F:Nat→Prop)(hp:(iF L d x).sat F w)(hF:∀b,F b→b < w.heap.size):
  Cz 110 #[.pointer (some ⟨L.f,0,none⟩),iv (i:Int),.int .u32 v] w (Wr (iv 0) (iF L d ⟨x.now.set i v,x.saved,x.kept⟩) w F):=by
 refine dK func110 ntmps110 hp hF ?_;refine aA ?_;refine bX (t:=9) rfl (fun h=>absurd h (by omega)) (fun _=>?_);refine aA ?_;refine aU (fun w1 t=>Vc L d x w1 (t.aEq 0 rfl)) ?_;refine aA ?_;refine aG rfl (fun h=>absurd h (by omega)) (fun _=>?_);refine Zr 0 rfl ?_;dsimp only[List.set,Kn]
 have Rb:=aAy x.now
 refine aB ?_;rw[aCC];refine aA ?_;refine Zx (x:=⟨x.now.set i v,x.saved,x.kept⟩) 0 rfl ?_;exact cI 0 hF
end
section
def aKx(n:Nat)(xs:List Value)(v:Value)(hs:List HP)(_:Piece):Prop:=∃A c,v=.slice A n c∧hs=[HP.own 86 6 (.slice A n c) n xs]
theorem aNI(A:Option Addr)(n c:Nat)(xs:List Value)(w:World)(hs:aI (all w) 6 A n xs)(h1:∀u∈xs,u.oneCell'=true)(hn:n≤1000000):
  Cz 147 #[.slice A n c] w (fun y w'=>(∃v hs q,y=.returned v∧q.w=w'∧aKx n xs v hs q∧kA w hs q)∧Below w.heap.size w w'):=by
 refine aN func147 ntmps147 ?_;refine aA ?_;refine iP 86 6 ?_;refine gH 0 6 64 n (n':=n) (v:=sn) (el:=86) (by kernel_rfl) (by kernel_rfl) (by decide) rfl rfl rfl (qW (by simp) hs) h1 (by omega) (by omega) (by omega) (by decide) fun A' k'=>?_;dsimp only[List.set,List.nil_append];refine aA ?_;refine dO [] [] [0] (by simp) rfl (by decide) (by decide) fun q _ _ hfr=>?_;exact aS (h:=fun w1 st=>⟨_,_,⟨w1,q.Z⟩,rfl,rfl,⟨_,_,rfl,rfl⟩,st.newR (by simp) (by simp) (hfr (by simp) (by simp))⟩)
def aKv(n:Nat)(xs:List Value)(v:Value)(hs:List HP)(_:Piece):Prop:=∃A c,v=.slice A n c∧hs=[HP.own 50 3 (.slice A n c) n xs]
theorem aNG(A:Option Addr)(n c:Nat)(xs:List Value)(w:World)(hs:aI (all w) 3 A n xs)(h1:∀u∈xs,u.oneCell'=true)(hn:n≤1000000):
  Cz 148 #[.slice A n c] w (fun y w'=>(∃v hs q,y=.returned v∧q.w=w'∧aKv n xs v hs q∧kA w hs q)∧Below w.heap.size w w'):=by
 refine aN func148 ntmps148 ?_;refine aA ?_;refine iP 50 3 ?_;refine gH 0 3 24 n (n':=n) (v:=sn) (el:=50) (by kernel_rfl) (by kernel_rfl) (by decide) rfl rfl rfl (qW (by simp) hs) h1 (by omega) (by omega) (by omega) (by decide) fun A' k'=>?_;dsimp only[List.set,List.nil_append];refine aA ?_;refine dO [] [] [0] (by simp) rfl (by decide) (by decide) fun q _ _ hfr=>?_;exact aS (h:=fun w1 st=>⟨_,_,⟨w1,q.Z⟩,rfl,rfl,⟨_,_,rfl,rfl⟩,st.newR (by simp) (by simp) (hfr (by simp) (by simp))⟩)
def aKt(n:Nat)(xs:List Value)(v:Value)(hs:List HP)(_:Piece):Prop:=∃A c,v=.slice A n c∧hs=[HP.own 88 1 (.slice A n c) n xs]
theorem aNE(A:Option Addr)(n c:Nat)(xs:List Value)(w:World)(hs:aI (all w) 1 A n xs)(h1:∀u∈xs,u.oneCell'=true)(hn:n≤1000000):
  Cz 149 #[.slice A n c] w (fun y w'=>(∃v hs q,y=.returned v∧q.w=w'∧aKt n xs v hs q∧kA w hs q)∧Below w.heap.size w w'):=by
 refine aN func149 ntmps149 ?_;refine aA ?_;refine iP 88 1 ?_;refine gH 0 1 8 n (n':=n) (v:=sn) (el:=88) (by kernel_rfl) (by kernel_rfl) (by decide) rfl rfl rfl (qW (by simp) hs) h1 (by omega) (by omega) (by omega) (by decide) fun A' k'=>?_;dsimp only[List.set,List.nil_append];refine aA ?_;refine dO [] [] [0] (by simp) rfl (by decide) (by decide) fun q _ _ hfr=>?_;exact aS (h:=fun w1 st=>⟨_,_,⟨w1,q.Z⟩,rfl,rfl,⟨_,_,rfl,rfl⟩,st.newR (by simp) (by simp) (hfr (by simp) (by simp))⟩)
def aKw(n:Nat)(xs:List Value)(v:Value)(hs:List HP)(_:Piece):Prop:=∃A c,v=.slice A n c∧hs=[HP.own 38 6 (.slice A n c) n xs]
theorem aNH(A:Option Addr)(n c:Nat)(xs:List Value)(w:World)(hs:aI (all w) 6 A n xs)(h1:∀u∈xs,u.oneCell'=true)(hn:n≤1000000):
  Cz 150 #[.slice A n c] w (fun y w'=>(∃v hs q,y=.returned v∧q.w=w'∧aKw n xs v hs q∧kA w hs q)∧Below w.heap.size w w'):=by
 refine aN func150 ntmps150 ?_;refine aA ?_;refine iP 38 6 ?_;refine gH 0 6 80 n (n':=n) (v:=sn) (el:=38) (by kernel_rfl) (by kernel_rfl) (by decide) rfl rfl rfl (qW (by simp) hs) h1 (by omega) (by omega) (by omega) (by decide) fun A' k'=>?_;dsimp only[List.set,List.nil_append];refine aA ?_;refine dO [] [] [0] (by simp) rfl (by decide) (by decide) fun q _ _ hfr=>?_;exact aS (h:=fun w1 st=>⟨_,_,⟨w1,q.Z⟩,rfl,rfl,⟨_,_,rfl,rfl⟩,st.newR (by simp) (by simp) (hfr (by simp) (by simp))⟩)
def aFm(n:Nat)(xs:List Value)(v:Value)(hs:List HP)(_:Piece):Prop:=∃A c,v=.slice A n c∧hs=[HP.own 3 1 (.slice A n c) n xs]
theorem aHo(A:Option Addr)(n c:Nat)(xs:List Value)(w:World)(hs:aI (all w) 1 A n xs)(h1:∀u∈xs,u.oneCell'=true)(hn:n≤1000000):
  Cz 140 #[.slice A n c] w (fun y w'=>(∃v hs q,y=.returned v∧q.w=w'∧aFm n xs v hs q∧kA w hs q)∧Below w.heap.size w w'):=by
 refine aN func140 ntmps140 ?_;refine aA ?_;refine iP 3 1 ?_;refine gH 0 1 8 n (n':=n) (v:=sn) (el:=3) (by kernel_rfl) (by kernel_rfl) (by decide) rfl rfl rfl (qW (by simp) hs) h1 (by omega) (by omega) (by omega) (by decide) fun A' k'=>?_;dsimp only[List.set,List.nil_append];refine aA ?_;refine dO [] [] [0] (by simp) rfl (by decide) (by decide) fun q _ _ hfr=>?_;exact aS (h:=fun w1 st=>⟨_,_,⟨w1,q.Z⟩,rfl,rfl,⟨_,_,rfl,rfl⟩,st.newR (by simp) (by simp) (hfr (by simp) (by simp))⟩)
def aKu(n:Nat)(xs:List Value)(v:Value)(hs:List HP)(_:Piece):Prop:=∃A c,v=.slice A n c∧hs=[HP.own 48 2 (.slice A n c) n xs]
theorem aNF(A:Option Addr)(n c:Nat)(xs:List Value)(w:World)(hs:aI (all w) 2 A n xs)(h1:∀u∈xs,u.oneCell'=true)(hn:n≤1000000):
  Cz 151 #[.slice A n c] w (fun y w'=>(∃v hs q,y=.returned v∧q.w=w'∧aKu n xs v hs q∧kA w hs q)∧Below w.heap.size w w'):=by
 refine aN func151 ntmps151 ?_;refine aA ?_;refine iP 48 2 ?_;refine gH 0 2 8 n (n':=n) (v:=sn) (el:=48) (by kernel_rfl) (by kernel_rfl) (by decide) rfl rfl rfl (qW (by simp) hs) h1 (by omega) (by omega) (by omega) (by decide) fun A' k'=>?_;dsimp only[List.set,List.nil_append];refine aA ?_;refine dO [] [] [0] (by simp) rfl (by decide) (by decide) fun q _ _ hfr=>?_;exact aS (h:=fun w1 st=>⟨_,_,⟨w1,q.Z⟩,rfl,rfl,⟨_,_,rfl,rfl⟩,st.newR (by simp) (by simp) (hfr (by simp) (by simp))⟩)
end
section
structure aUf(p:Piece)(s:aC)(A1:Option Addr)(n1:Nat)(A2:Option Addr)(n2:Nat)(A3:Option Addr)(n3:Nat)(A4:Option Addr)(n4:Nat):Prop where
 jK:jN (fF p) (uI (fF p)) 86 6 A1 n1 s.aF
 dom:jN (fF p) vF 50 3 A2 n2 s.domains
 Ct:jN (fF p) zH 88 1 A3 n3 s.aT
 dev:jN (fF p) (tJ (fF p)) 38 6 A4 n4 s.aD
section
variable{p q:Piece}{w:World}{s:aC}{A1 A2 A3 A4:Option Addr}{n1 n2 n3 n4:Nat}
theorem wH.Q{cs:Array Value}(h:wH (fF p) s cs):∃A1 n1 k1 A2 n2 k2 A3 n3 k3 A4 n4 k4,cs=#[.slice A1 n1 k1,.slice A2 n2 k2,.slice A3 n3 k3,.slice A4 n4 k4]∧aUf p s A1 n1 A2 n2 A3 n3 A4 n4:=by
 obtain⟨A1,n1,k1,A2,n2,k2,A3,n3,k3,A4,n4,k4,h0,h1,h2,h3,h4⟩:=h;exact⟨A1,n1,k1,A2,n2,k2,A3,n3,k3,A4,n4,k4,h0,h1,h2,h3,h4⟩
end
theorem jN.aGI{α:Type}{p:Piece}{R:α→List Value→Prop}{t:TypeId}{sz n:Nat}{A:Option Addr}{es:List α}(h:jN (fF p) R t sz A n es){k:Nat}{e:α}(hk:es[k]? =some e):
  ∃b off r,A=some ⟨b,off,none⟩∧p.Z b∧r.length=sz∧R e r∧∀f u,r[f]? =some u→p.w.cell? ⟨b,off+k*sz+f,none⟩=some u:=by
 obtain⟨rows,h1,h2,h3⟩:=h
 have hlt:k < n:=by
  rw[h2];rcases Nat.lt_or_ge k es.length with h | h
  ·exact h
  ·rw[List.getElem?_eq_none h] at hk;cases hk
 obtain⟨b,off,hA,hb,hc⟩:=aI.at_ h3 hlt;obtain⟨r,h4,h5,h6⟩:=h1.get hk;refine⟨b,off,r,hA,hb,h4,h5,fun f u hu=>hc f u ?_⟩
 have hf:f < sz:=by
  rw[←h4];rcases Nat.lt_or_ge f r.length with h | h
  ·exact h
  ·rw[List.getElem?_eq_none h] at hu;cases hu
 rw[h6 f hf,hu]
end
section
theorem Bv{N:cF}{w0:World}{e:Env}{R:List Piece}{H:List HP}{K:Act→World→Prop}{p:HP}(hp:∀w,p.sat (fun _=>False) w)(h:XK N w0 K e R (p::H)):XK N w0 K e R H:=fun a w hr st=>
 h a w hr (st.new (w':=w) (Below.refl _ _) (by
  rw[show(fresh w w).Z=fun _=>False from by funext b;simp only[fresh,eq_iff_iff,iff_false];omega]
  exact hp w))
abbrev AC:=Option Addr×Nat
def Bn(c:eD)(a:AC):List Value:=[.int .u8 c.kind,.slice a.1 c.src.length a.2,.int .u64 c.rate,iv c.mul,iv c.div,iv c.lock]
def Bl(d:bL)(p:AC×AC):List Value:=[iv d.clock,iv d.domain,iv d.reset,.int .u32 d.iT,.slice p.1.1 d.aL.length p.1.2,.slice p.2.1 d.iX.length p.2.2]
def Sr(s:aC)(fa:List AC):List (List Value):=List.zipWith Bn s.aF fa
def Sm(s:aC)(da:List (AC×AC)):List (List Value):=List.zipWith Bl s.aD da
section
variable{α β:Type}{f:α→β→List Value}{sz:Nat}
theorem aAi{es:List α}{bs:List β}(hl:bs.length=es.length)(hf:∀e a,(f e a).length=sz):(List.zipWith f es bs).length=es.length∧∀r∈List.zipWith f es bs,r.length=sz:=by
 refine⟨by simp;omega,fun r hr=>?_⟩;obtain⟨j,hj⟩:=List.getElem?_of_mem hr;rw[List.getElem?_zipWith] at hj;split at hj<;>cases hj
 exact hf _ _
theorem Ub{es:List α}{bs:List β}{i:Nat}{e:α}{a:β}(he:es[i]? =some e)(ha:bs[i]? =some a):(List.zipWith f es bs)[i]? =some (f e a):=by rw[List.getElem?_zipWith,he,ha]
theorem aF0{es:List α}{bs:List β}{i:Nat}{e:α}{a:β}(he:es[i]? =some e)(hi:i < bs.length):(List.zipWith f es bs).set i (f e a)=List.zipWith f es (bs.set i a):=by
 refine List.ext_getElem? fun j=>?_;rw[List.getElem?_set]
 by_cases hj:i=j
 ·subst hj
  have h1:=(List.getElem?_eq_some_iff.1 he).1
  rw[if_pos rfl,Ub he (List.getElem?_set_self hi),if_pos (by simp;omega)]
 ·rw[if_neg hj,List.getElem?_zipWith,List.getElem?_zipWith,List.getElem?_set_ne hj]
theorem aF1{es:List α}{bs:List β}(hf:∀e a,∀u∈f e a,u.oneCell'=true):∀u∈(List.zipWith f es bs).flatten,u.oneCell'=true:=fun u hu=>by
 obtain⟨r,hr,hu⟩:=List.mem_flatten.1 hu;obtain⟨j,hj⟩:=List.getElem?_of_mem hr;rw[List.getElem?_zipWith] at hj;split at hj<;>cases hj
 exact hf _ _ u hu
end
theorem aS1(c:eD)(a:AC):∀u∈Bn c a,u.oneCell'=true:=by simp[Bn,Value.oneCell']
theorem aRX(d:bL)(p:AC×AC):∀u∈Bl d p,u.oneCell'=true:=by simp[Bl,Value.oneCell']
theorem aE8{S:xO}:∀{cl:List eD} {rs:List (List Value)},Rows (uI S) 6 cl rs→∃fa:List AC,fa.length=cl.length∧rs=List.zipWith Bn cl fa∧∀(i:Nat) (c:eD) (a:AC),cl[i]? =some c→fa[i]? =some a→S 3 1 a.1 c.src.length (aK c.src)
 | [],[],_=>⟨[],rfl,rfl,fun i c a h=>by simp at h⟩
 | e::es,r::rs,h=>by
  obtain⟨_,⟨A,n,k,hr,hn,hS⟩,h3⟩:=h;obtain⟨fa,h4,h5,h6⟩:=aE8 h3;subst hn;refine⟨(A,k)::fa,by simp[h4],by rw[hr,h5];rfl,fun i c a hc ha=>?_⟩;cases i with
  | zero=>simp at hc ha;subst hc;subst ha;exact hS
  | succ i=>exact h6 i c a (by simpa using hc) (by simpa using ha)
theorem aGG{S:xO}:∀{cl:List eD} {fa:List AC},fa.length=cl.length→(∀(i:Nat) (c:eD) (a:AC),cl[i]? =some c→fa[i]? =some a→S 3 1 a.1 c.src.length (aK c.src))→Rows (uI S) 6 cl (List.zipWith Bn cl fa)
 | [],[],_,_=>trivial
 | c::cl,a::fa,hl,h=>⟨rfl,⟨a.1,_,a.2,rfl,rfl,h 0 c a rfl rfl⟩,aGG (by simpa using hl) fun i c' a' hc ha=>h (i+1) c' a' (by simpa using hc) (by simpa using ha)⟩
theorem aEz{S:xO}:∀{cl:List bL} {rs:List (List Value)},Rows (tJ S) 6 cl rs→∃da:List (AC×AC),da.length=cl.length∧rs=List.zipWith Bl cl da∧∀(i:Nat) (d:bL) (p:AC×AC),cl[i]? =some d→da[i]? =some p→S 48 2 p.1.1 d.aL.length (d.aL.flatMap Rg.cells)∧S 3 1 p.2.1 d.iX.length (aK d.iX)
 | [],[],_=>⟨[],rfl,rfl,fun i c a h=>by simp at h⟩
 | e::es,r::rs,h=>by
  obtain⟨_,⟨A,n,k,A',n',k',hr,hn,hn',hS,hS'⟩,h3⟩:=h;obtain⟨da,h4,h5,h6⟩:=aEz h3;subst hn;subst hn';refine⟨((A,k),(A',k'))::da,by simp[h4],by rw[hr,h5];rfl,fun i d p hc ha=>?_⟩;cases i with
  | zero=>simp at hc ha;subst hc;subst ha;exact⟨hS,hS'⟩
  | succ i=>exact h6 i d p (by simpa using hc) (by simpa using ha)
theorem aGF{S:xO}:∀{cl:List bL} {da:List (AC×AC)},da.length=cl.length→(∀(i:Nat) (d:bL) (p:AC×AC),cl[i]? =some d→da[i]? =some p→S 48 2 p.1.1 d.aL.length (d.aL.flatMap Rg.cells)∧S 3 1 p.2.1 d.iX.length (aK d.iX))→Rows (tJ S) 6 cl (List.zipWith Bl cl da)
 | [],[],_,_=>trivial
 | c::cl,a::da,hl,h=>⟨rfl,⟨a.1.1,_,a.1.2,a.2.1,_,a.2.2,rfl,rfl,rfl,(h 0 c a rfl rfl).1,(h 0 c a rfl rfl).2⟩,aGF (by simpa using hl) fun i c' a' hc ha=>h (i+1) c' a' (by simpa using hc) (by simpa using ha)⟩
theorem aRC{es:List Dom}{rs:List (List Value)}(h:Rows vF 3 es rs):∀u∈rs.flatten,u.oneCell'=true:=fun u hu=>by
 obtain⟨r,hr,hu⟩:=List.mem_flatten.1 hu;obtain⟨j,hj⟩:=List.getElem?_of_mem hr;obtain⟨e,_,_,hR⟩:=h.at_ hj;unfold vF at hR;subst hR;simp only[List.mem_cons,List.not_mem_nil,or_false] at hu;rcases hu with rfl | rfl | rfl<;>rfl
theorem aMo{es:List Int}{rs:List (List Value)}(h:Rows zH 1 es rs):∀u∈rs.flatten,u.oneCell'=true:=fun u hu=>by
 obtain⟨r,hr,hu⟩:=List.mem_flatten.1 hu;obtain⟨j,hj⟩:=List.getElem?_of_mem hr;obtain⟨e,_,_,hR⟩:=h.at_ hj;unfold zH at hR;subst hR;simp only[List.mem_cons,List.not_mem_nil,or_false] at hu;subst hu;rfl
def zM(s:aC)(fa:List AC)(i:Nat)(p:Piece):Prop:=∀(j:Nat) (c:eD) (a:AC),j < i→s.aF[j]? =some c→fa[j]? =some a→aI p 1 a.1 c.src.length (aK c.src)
theorem zM.le{s:aC}{fa:List AC}{i:Nat}(p q:Piece)(hl:p.Le q)(h:zM s fa i p):zM s fa i q:=fun j c a hj hc ha=>(h j c a hj hc ha).le hl
def Ef(s:aC)(da:List (AC×AC))(i:Nat)(p:Piece):Prop:=∀(j:Nat) (d:bL) (a:AC×AC),j < i→s.aD[j]? =some d→da[j]? =some a→aI p 2 a.1.1 d.aL.length (d.aL.flatMap Rg.cells)∧aI p 1 a.2.1 d.iX.length (aK d.iX)
theorem Ef.le{s:aC}{da:List (AC×AC)}{i:Nat}(p q:Piece)(hl:p.Le q)(h:Ef s da i p):Ef s da i q:=fun j c a hj hc ha=>⟨(h j c a hj hc ha).1.le hl,(h j c a hj hc ha).2.le hl⟩
end
end Go.Proofs.YtdcdccmpcmjmhaaGreatDoor
