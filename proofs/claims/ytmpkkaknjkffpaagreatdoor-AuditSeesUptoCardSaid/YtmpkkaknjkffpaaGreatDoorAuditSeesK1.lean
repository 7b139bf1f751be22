/- Plain words for memory: a block that is known whole; what a call leaves as it was; a slice that reads as a list of cells; what a law owes behind its walk. -/
import Derived.Deep.AppendLies
import Derived.Deep.MidRow
import Derived.Deep.Quiet
import Derived.Deep.Slices
import Derived.KernelRfl
import Derived.Laws.CopyRow
import Derived.Laws.MakeOwn
import Derived.Laws.Pointers
import Derived.Lib.Hide
import Derived.LoopIn
import Derived.LoopNIn
import Derived.Maps.AppendAt
import Derived.OpenShut
import Derived.OrdersHeld
import Derived.OwnWalkIn
import Derived.ProofKit
import Derived.RangeFuncBound
import Derived.RangeFuncCalls
import Derived.RangeFuncLeaves
import Derived.RangeFuncNested
import Derived.Shelf.Abstract
import Derived.TacticsInMore
import Derived.Test.YtmpkkaknjkffpaaGreatDoorRows
import Derived.WalkKit
import Derived.WalkLawsBesides
import Derived.WalkSpells
namespace Go.Proofs.YtmpkkaknjkffpaaGreatDoor
set_option linter.all false
set_option maxHeartbeats 4000000
set_option maxRecDepth 20000
open Go.RowKit
variable{w w' w1 w2 w0:World}{t ty u:TypeId}{F:Nat->Prop}{sz d j m fuel:Nat}{P:Program}{x y:Operand}{v:Value}{K K':Act->World->Prop}{Q:Exit->Act->World->Prop}{ops:Array Oper}{rest:List Oper}{pos:String}{aN:Array Edge}{i c:Int}{listed:Array Bool}{want:Bool}{op:Op}
theorem dW{α}{a:α}{l m:List α}:a::l++m=a::(l++m):=rfl
theorem dG{α}{l:List α}:[]++l=l:=rfl
def aC{c:Prop}{i:Decidable c}(h:¬c){α:Sort _}{t e:α}:ite c t e=e:=if_neg h
def cE:=@List.getElem?_eq_some_iff
def cX:=@List.getElem?_eq_getElem
def aH{c:Prop}{i:Decidable c}(h:c){α:Sort _}{t e:α}:ite c t e=t:=if_pos h
def dJ:=@List.mem_of_getElem?
def dL:=@Int.toNat_natCast
def eW:=@List.getElem?_eq_none
def eO:=@List.getElem?_map
def eV:=@of_decide_eq_true
def dI:=@Nat.lt_or_ge
def eM:=@decide_eq_true
def nA:=@List.getElem?_append_right
def mZ:=@List.getD_eq_getElem?_getD
def kS:=@Option.map_eq_some_iff
def kR:=@List.getElem?_set_self
def gX:=@List.getElem?_set
def nO:=@Classical.byContradiction
def jC:=@Nat.lt_of_lt_of_le
def lA:=@List.getElem?_of_mem
def lP:=@List.getElem?_zipWith
def pL:=@List.getElem?_append_left
def gW:=@decide_eq_false
def fT:=@List.mem_cons
def jY:=@Bool.and_eq_true
def fR:=@List.mem_map
def mL:=@List.mem_singleton
def pZ:=@List.getElem?_set_ne
def gE:=@Nat.le_refl
def mK:=@List.length_cons
def mJ:=@List.all_eq_true
def lO:=@Option.map_some
def tX:=@List.getElem?_cons_succ
def pK:=@List.foldl_append
def rF:=@List.length_append
def mI:=@List.mem_range
def nZ:=@List.append_nil
def qR:=@List.ext_getElem?
def wV:=@List.getElem?_take_of_lt
def pY:=@List.not_mem_nil
def pX:=@List.length_take
def oM:=@List.mem_append
def pJ:=@List.length_set
def pW:=@List.foldl_cons
def vL:=@List.mem_cons_of_mem
def mA:=@Nat.zero_add
def Fh:=@List.eq_nil_of_length_eq_zero
def Bq:=@List.mem_or_eq_of_mem_set
def yE:=@List.take_of_length_le
def zJ:=@List.getElem?_replicate
def wU:=@List.getElem?_mapIdx
def tW:=@Option.some.injEq
def sZ:=@List.cons_append
def sJ:=@Option.some.inj
def sI:=@List.nil_append
def tV:=@Option.getD_some
def oL:=@Nat.le_trans
def sY:=@List.mem_filter
def vK:=@List.take_add_one
def fN:=@Ne.symm
def zI:=@Nat.eq_zero_or_pos
def Dg:=@List.mem_of_mem_take
def Bp:=@List.getElem?_drop
def rE:=@Nat.zero_le
def Mq:=@Array.getElem?_eq_some_iff
def yD:=@Bool.or_eq_true
def sX:=@List.set_set
def Fe:=@List.take_succ_cons
def vJ:=@List.map_cons
def Bo:=@Option.bind_some
def Bn:=@List.take_length
def Df:=@List.flatMap_cons
def zH:=@List.range_succ
def Kb:=@Nat.eq_of_beq_eq_true
def wT:=@Nat.add_assoc
def Hr:=@List.getElem?_range
def Bm:=@List.nodup_cons
def Bl:=@List.length_nil
def Tk:=@Array.getD_eq_getD_getElem?
def Mp:=@Nat.le_of_ble_eq_true
def Pm:=@Nat.add_sub_cancel_left
def Mo:=@Nat.mul_le_mul_right
def Ka:=@List.getElem?_take
def yC:=@Nat.sub_self
def Jz:=@Option.toList_some
def Pk:=@Array.getElem?_eq_none
def Tj:=@List.getElem?_zip_eq_some
def Mn:=@List.drop_succ_cons
def Pj:=@List.length_filter_le
def Jy:=@Classical.not_not
def Yc:=@Array.getElem?_setIfInBounds
def Ph:=@List.mem_of_mem_drop
def Ti:=@List.drop_eq_nil_of_le
def zG:=@Nat.mul_one
def Mm:=@List.append_assoc
def Ml:=@Bool.not_eq_true'
def Yb:=@Array.getElem?_eq_getElem
def Ya:=@List.drop_eq_getElem_cons
def Jw:=@List.map_append
def Jv:=@List.length_map
def Ju:=@Nat.not_lt_zero
def Pt:=@Bool.false_eq_true
def Yg:=@Array.setIfInBounds_comm
def Pr:=@List.filter_append
def Pq:=@List.set_cons_zero
def Mu:=@List.getElem_mem
def Br:=@Int.le_refl
def Mt:=@List.any_eq_true
def Tv:=@Nat.add_le_add_right
def Fi:=@List.map_set
def Pp:=@List.flatten_cons
def Tu:=@List.filter_sublist
def Tt:=@List.map_congr_left
def Ts:=@List.flatten_append
def aBn:=@Array.getElem?_append_left
def Ke:=@Prod.mk.injEq
def Tr:=@of_decide_eq_false
def aDM:=@List.set_eq_take_append_cons_drop
def Tq:=@List.set_cons_succ
def Yf:=@List.set_append_right
def Ye:=@List.take_append_drop
def Tp:=@Decidable.not_not
def Kc:=@Nat.succ_mul
def aBm:=@Option.bind_eq_some_iff
def aBl:=@List.filter_cons_of_pos
def To:=@List.filter_cons
def Po:=@List.take_zero
def Ms:=@Nat.add_zero
def Tn:=@Int.ediv_nonneg
def Tm:=@Nat.min_eq_left
def Mr:=@List.map_map
def Pn:=@Int.ofNat.inj
def Yd:=@List.any_eq_false
def aE{p:Prop}(h:p:=by decide):p:=h
def aJ{p:Prop}(h:p:=by kernel_rfl):p:=h
def aA{p:Prop}(h:p:=by omega):p:=h
def aB{p:Prop}(h:p:=by simp):p:=h
section
abbrev pt(g:Nat):Value:=.pointer (some ⟨g,0,none⟩)
abbrev iv(x:Int):Value:=.int .i64 x
abbrev sn:Value:=.slice none 0 0
def vE(w:World)(g:Nat)(t:TypeId)(cs:Array Value):Prop:=w.heap[g]? =some (.cells cs t (0,0))
section
variable{g:Nat}{cs:Array Value}{G:Nat->Prop}
def vE.lt(h:vE w g t cs):g < w.heap.size:=by
 rcases dI g w.heap.size with c | hge
 .exact c
 .unfold vE at h;rw[Pk hge] at h;cases h
def vE.cell(h:vE w g t cs)(i:Nat):w.cell? ⟨g,i,none⟩=cs[i]? :=by
 unfold vE at h;simp[World.cell?,h]
def vE.new(w:World)(t:TypeId)(cs:Array Value):vE (w.alloc (.cells cs t)) w.heap.size t cs:=(MapKept.heap_alloc w _).1
end
def Sl(w:World)(B sz:Nat)(A:Option Addr)(n:Nat)(xs:List Value):Prop:=
 xs.length=n*sz/\(0 < n->∃b off,A=some ⟨b,off,none⟩/\b < B/\∀j u,xs[j]? =some u->w.cell? ⟨b,off+j,none⟩=some u)
section
variable{B B' n:Nat}{A:Option Addr}{xs:List Value}
def Sl.nil:Sl w B sz A 0 []:=⟨aB,fun h=>absurd h aA⟩
def aLT{base:Nat}{e:TypeId}{c:Nat}(h:w.ownsRow base e sz (.slice A n c) n xs):Sl w w.heap.size sz A n xs:=by
 refine⟨h.1,fun k=>?_⟩;obtain⟨g,f,o,_,d⟩:=h.form k
 have m:A=some ⟨g,0,none⟩:=by injection o
 subst m
 exact⟨g,0,rfl,d,fun j u i=>by
  have:=h.cells (g:=g) rfl j u i
  rw[mA];unfold Addr.add at this;split at this
  .rename_i l;subst l;exact this
  .simpa using this⟩
end
def Nh{α:Type}(g:α->List Value)(sz:Nat):∀(l:List α),(∀e∈l,(g e).length=sz)->∀(k f:Nat) (e:α),l[k]? =some e->f < sz->(l.flatMap g)[k*sz+f]? =(g e)[f]?
 | [],_,k,f,e,h,_=>by simp at h
 | x::l,hl,0,f,e,h,hf=>by
  simp at h;subst h;rw[Df,Nat.zero_mul,mA,pL (by rw[hl x aB];exact hf)]
 | x::l,hl,k+1,f,e,h,hf=>by
  simp at h
  have hx:=hl x aB
  rw[Df,nA (by rw[hx,Kc];omega),hx,show(k+1)*sz+f - sz=k*sz+f by rw[Kc];omega];exact Nh g sz l (fun e c=>hl e (by simp[c])) k f e h hf
def aEY{α:Type}(g:α->List Value)(sz:Nat):∀(l:List α),(∀e∈l,(g e).length=sz)->(l.flatMap g).length=l.length*sz
 | [],_=>by simp
 | x::l,hl=>by
  rw[Df,rF,hl x aB,aEY g sz l (fun e c=>hl e (by simp[c])),mK,Kc,Nat.add_comm]
section
open Go.ChangeShapes Go.WideShapes Go.ChangeAt
def aKR{H:Type}{enc:TypeId×Value->H}{P:Program}(hl:laidOutB P=true){W i:World}(j:Below W.heap.size W i):
  ∀{e:List TypeId} {vs:List Value} {ds:List (DataW H)} {ps:List MemPlace},(∀t∈e,P.readableRec t=true/\t < P.types.size)->
   DataW.TrodAll enc P W 0 (fun _=>true) true e vs ds ps->(∀x∈ps,x.block < W.heap.size)->
   DataW.TrodAll enc P i 0 (fun b=>decide (b < W.heap.size)) true e vs ds ps
 | [],vs,ds,ps,_,h,_=>by
  obtain⟨rfl,rfl,rfl⟩:=trodAll_nil h;exact rfl
 | t::e,vs,ds,ps,hts,h,hlt=>by
  obtain⟨v,m,d,n,a,b,rfl,rfl,rfl,l,k⟩:=trodAll_cons h
  have c:=hts t aB
  exact trodAll_cons_mk (j.trod hl c.1 c.2 l (fun x f=>hlt x (by simp[f]))) (aKR hl j (fun t c=>hts t (by simp[c])) k (fun x f=>hlt x (by simp[f])))
def aPX{H:Type}{enc:TypeId×Value->H}{P:Program}(hl:laidOutB P=true){f:Func}{s:ChangeSpec}{t:TypeId}{W i:World}{args:Array Value}{ds o:List (DataW H)}{c:List MemPlace}
  (hp:∀t∈f.params.toList,P.readableRec t=true/\t < P.types.size) (n:f.resultTypes=#[t]) (y:P.underlying t=some .bool) (k:s.vars=[])
  (hW:DataW.Whole enc P f.params.toList s.vars false W args.toList ds o c)
  (hs:s.fn H ds={results:=[.lit (.bool true)],args:=ds}) (l:Below W.heap.size W i):
  s.post enc P f false true false false W args (.bool true) i:=by
 have d:=hW
 obtain⟨p,q,r,j,rfl,m,z⟩:=hW;rw[k] at j;obtain⟨rfl,rfl⟩:=trodVars_none j;rw[nZ] at d
 have e:s.fn H (ds++[])={results:=[.lit (.bool true)],args:=ds}:=by rw[nZ,hs]
 refine⟨ds,[],p,[],p,[],d,?_,?_,?_,l.frame _,fun h=>by cases h⟩
 .rw[e,n];exact trodAll_cons_mk (shut_bool y true) trodAll_mk0
 .rw[e];exact aKR hl l hp r (fun x w=>d.lt x w)
 .rw[e,k];exact rfl
end
def Dz{a:Int}(w0:(Lit.int .i64 a).wf=true): -9223372036854775808<=a/\a<=9223372036854775807:=by
 simp only[Lit.wf,IntKind.min,IntKind.max,IntKind.signed,IntKind.bits,jY,decide_eq_true_eq,if_true] at w0;omega
def aHf{w:World}{a:Addr}{v:Value}(h:w.cell? a=some v):a.spot=none:=by
 unfold World.cell? at h;split at h
 .rename_i c e f i
  cases d:a.spot with
  | none=>rfl
  | some _=>simp[d] at h
 .simp at h
def aFH{w:World}{a:Addr}{v:Value}(h:w.cell? a=some v)(i:Nat):a.add i=⟨a.block,a.off+i,none⟩:=by
 have c:=aHf h
 unfold Addr.add;cases a;simp at c;subst c;split
 .rename_i d;subst d;rfl
 .rfl
def aLc{w:World}{a:Addr}{v:Value}(h:w.cell? a=some v):a=⟨a.block,a.off,none⟩:=by
 have c:=aHf h
 cases a;simp at c;subst c;rfl
def aU(zs:List Int):List Value:=zs.map (Value.int .i64)
def aE4(zs:List Int)(j:Nat)(h:j < zs.length):(aU zs)[j]? =some (.int .i64 (zs[j]?.getD 0)):=by
 simp[aU,h]
def aCQ(zs:List Int):Prop:=∀j:Nat,-9223372036854775808<=zs[j]?.getD 0/\zs[j]?.getD 0<=9223372036854775807
open Go.ChangeShapes Go.WideShapes Go.ChangeAt in
/-- a slice of integers that came in, opened: nil, empty or not -/
def aQy{H : Type}{enc : TypeId × Value -> H}{P : Program}{w : World}{t e : TypeId}{v : Value}{d : DataW H}{ps : List MemPlace}{base : Nat}
    (ht:P.underlying t=some (.slice e)) (he:P.underlying e=some (.int .i64)) (hc:P.cellsOf e=1) (hval:Value.okWide P w .any base t v)
    (h:DataW.Trod enc P w 0 (fun _=>true) true t v d ps):
    ∃(A:Option Addr) (n c:Nat) (zs:List Int),v=.slice A n c/\Sl w w.heap.size 1 A n (aU zs)/\aCQ zs/\n=zs.length/\n<=9223372036854775807:=by
  obtain⟨a0,len,cap,rfl⟩:=okWide_slice ht hval;obtain⟨fuel,hf⟩:=h;rcases open_ints ht he hc hf with⟨hcs,hx⟩ | ⟨a,len',cap',zs,hcs,_,hl,hm,hz,hx,hcell,hwz⟩
  · simp[Value.cells] at hcs
    obtain⟨rfl,rfl,rfl⟩:=hcs;exact⟨none,0,0,[],rfl,Sl.nil,fun j=>by simp,rfl,by omega⟩
  · simp[Value.cells] at hcs
    obtain⟨rfl,rfl,rfl⟩:=hcs;simp at hz;unfold maxLen at hm;refine⟨some a,len,cap,zs.take len,rfl,⟨by simp[aU];omega,fun hk=>?_⟩,fun j=>?_,by simp;omega,by omega⟩
    · have h0:=hcell 0 (by omega)
      rw[show a.add 0=a from rfl] at h0;refine⟨a.block,a.off,by rw[<-aLc h0],World.block_lt_of_cell? _ _ h0,fun j u hu=>?_⟩
      have hj:j < len:=by
        rcases dI j len with hlt | hge
        · exact hlt
        · rw[eW (by simp[aU];omega)] at hu;cases hu
      rw[aE4 _ _ (by simp;omega)] at hu
      have hj':=hcell j (by omega)
      rw[aFH h0] at hj';rw[hj',<-hu,Ka,aH hj];simp
    · by_cases hj:j < (zs.take len).length
      · have:=hwz _ (Dg (Mu hj))
        have hb:=Dz this
        simpa[cX hj] using hb
      · simp[eW (Nat.le_of_not_lt hj)]
def aLU{w:World}{g n sz:Nat}{t:TypeId}{cs:Array Value}(h:vE w g t cs)(d:cs.size=n*sz):Sl w w.heap.size sz (some ⟨g,0,none⟩) n cs.toList:=
 ⟨by simpa using d,fun _=>⟨g,0,rfl,h.lt,fun j u c=>by rw[mA,h.cell];simpa using c⟩⟩
section
variable(w:World)
def aH7(base:Nat)(t ty e:TypeId)(i:TypeInfo)(z:Value)(size f:Nat)(I:P.underlying t=some (.slice e))(hi:P.info? e=some i)(R:i.zero=some z)
  (r:i.size=size) (H:i.bytes=f) (J:z.cells.size=size) (E:0 < size)
  (v:Value) (n:Nat) (xs:List Value) (k:w.ownsRow base e size v n xs)
  (B:Nat) (A:Option Addr) (m c:Nat) (d:List Value) (C:Sl w B size A m d) (O:∀u∈d,u.oneCell'=true)
  (K:n+m<=maxLen) (l:(n+m)*f<=140737488355328) (x:base<=w.heap.size):
  ∃y w',(Builtin.append_ #[t,t] ty #[v,.slice A m c]).run P w=.ok y w'/\w'.ownsRow base e size y (n+m) (xs++d)/\w.grownBy w' v.ownBlock/\
   (y.ownBlock=v.ownBlock\/y.ownBlock=some w.heap.size):=by
 rcases A with _ | ad
 .obtain rfl:m=0:=by
   rcases zI m with p | p
   .exact p
   .obtain⟨b,off,h,_⟩:=C.2 p;cases h
  obtain rfl:d=[]:=Fh (by simpa using C.1);refine⟨v,w,?_,by simpa using k,World.grownBy.refl w _,.inl rfl⟩;rcases k.2 with⟨rfl,rfl⟩ | ⟨g,T,Y,rfl,_,_,G,_⟩
  .simp[Builtin.append_,run_underlying I,sizeOf,typeInfo,hi,Builtin.lenOf,Builtin.firstCells]
  .simp[Builtin.append_,run_underlying I,sizeOf,typeInfo,hi,Builtin.lenOf,Builtin.firstCells,G,storeCells]
 .have o:∀j u,d[j]? =some u->w.cell? (ad.add j)=some u:=by
   intro j u L;rcases zI m with p | p
   .subst p;obtain rfl:d=[]:=Fh (by simpa using C.1);simp at L
   .obtain⟨b,off,h,_,M⟩:=C.2 p
    injection h with h
    subst h
    have X:0 < d.length:=by rw[C.1];exact Nat.mul_pos p E
    have F:=M 0 _ (cX X)
    rw[Ms] at F;rw[aFH F];exact M j u L
  obtain⟨y,w',D,N,U,_,V⟩:=run_append_own_at (P:=P) w base t ty e i z size f I hi R r H J E v n xs k ad m c d C.1 o O K l x;exact⟨y,w',D,N,U,V⟩
end
def aIg{w:World}{base:Nat}{e:TypeId}{size:Nat}{v:Value}{n:Nat}{xs:List Value}(h:w.ownsRow base e size v n xs):∃A c,v=.slice A n c/\Sl w w.heap.size size A n xs:=by
 rcases h.2 with⟨rfl,rfl⟩ | ⟨g,d,f,rfl,_⟩
 .exact⟨none,0,rfl,aLT h⟩
 .exact⟨some ⟨g,0,none⟩,d,rfl,aLT h⟩
def aE6{P:Program}{e:TypeId}{k size c:Nat}(h:(P.info? e).map (fun i=>(i.zero.map (fun z=>z.cells.size),i.size,i.bytes))=some (some k,size,c)):
  ∃i z,P.info? e=some i/\i.zero=some z/\i.size=size/\i.bytes=c/\z.cells.size=k:=by
 obtain⟨i,f,d⟩:=kS.1 h;simp only[Ke] at d;obtain⟨z,l,j⟩:=kS.1 d.1;exact⟨i,z,f,l,d.2.1,d.2.2,j⟩
def aIE{α β:Type}{f:α->Option β}:∀{l:List α} {r:List β},l.mapM f=some r->r.length=l.length/\∀(i:Nat) (a:α),l[i]? =some a->∃b,r[i]? =some b/\f a=some b
 | [],r,h=>by simp at h;subst h;simp
 | x::l,r,h=>by
  simp only[List.mapM_cons,Option.bind_eq_bind,aBm,Option.pure_def,tW] at h;obtain⟨b,k,r',d,rfl⟩:=h;obtain⟨j,e⟩:=aIE d;refine⟨by simp[j],fun i a c=>?_⟩;cases i with
  | zero=>simp at c;subst c;exact⟨b,rfl,k⟩
  | succ i=>exact e i a (by simpa using c)
def aV6{w:World}{base:Nat}{a:Addr}{n:Nat}{cs:List Value}(h:w.cells? base a n=some cs):cs.length=n/\∀i u,cs[i]? =some u->w.cell? (a.add i)=some u:=by
 unfold World.cells? at h;split at h
 .obtain⟨e,l⟩:=aIE h;rw[List.length_range] at e;refine⟨e,fun i u d=>?_⟩
  have k:i < n:=by
   rcases dI i n with c | hge
   .exact c
   .rw[eW aA] at d;cases d
  obtain⟨b,f,j⟩:=l i i (by simp[k]);rw[d] at f;cases f;exact j
 .cases h
open Go.Deep in
/-- a slice of whatever elements: each element's cells read by g -/
def aNY{H : Type}{enc : TypeId × Value -> H}{P : Program}{w : World}{t e : TypeId}{fuel sz : Nat}{cs : List Value}{x : DataW H × List MemPlace}{α : Type}(g : α -> List Value)(R : α -> Prop)
    (ht:P.underlying t=some (.slice e)) (hc:P.cellsOf e=sz) (hsz:0 < sz) (hg:∀y,(g y).length=sz)
    (hel:∀fuel cs x,DataW.trod enc P w 0 (fun _=>true) true fuel e cs=some x->∃y,cs=g y/\R y)
    (hf:DataW.trod enc P w 0 (fun _=>true) true fuel t cs=some x):
    ∃(A:Option Addr) (n c:Nat) (ys:List α),cs=[.slice A n c]/\Sl w w.heap.size sz A n (ys.flatMap g)/\n=ys.length/\n<=9223372036854775807/\∀y∈ys,R y:=by
  rcases open_slice ht hf with⟨hcs,hx⟩ | ⟨a,len,cap,m,n,D,Pl,hcs,_,hl,hm,hmm,hx,Ng⟩
  · exact⟨none,0,0,[],hcs,Sl.nil,rfl,by omega,by simp⟩
  · simp at hmm
    unfold maxLen at hm;rw[hc] at Ng
    have Nf:∀i,i < len->∃y,R y/\∀f u,(g y)[f]? =some u->w.cell? ((a.add (i*sz)).add f)=some u:=fun i hi=>by
      obtain⟨cs',h1,h2⟩:=Ng i (by omega);obtain⟨y,rfl,hy⟩:=hel _ _ _ h2;exact⟨y,hy,(aV6 h1).2⟩
    have key:∀k,k<=len->∃ys:List α,ys.length=k/\(∀y∈ys,R y)/\∀i y,ys[i]? =some y->∀f u,(g y)[f]? =some u->w.cell? ((a.add (i*sz)).add f)=some u:=by
      intro k
      induction k with
      | zero=>intro _;exact⟨[],rfl,by simp,by simp⟩
      | succ k ih =>
        intro hk;obtain⟨ys,h1,h2,h3⟩:=ih (by omega);obtain⟨y,h4,h5⟩:=Nf k (by omega);refine⟨ys++[y],by simp[h1],fun z hz=>?_,fun i z hz=>?_⟩
        · rcases oM.1 hz with hz | hz
          · exact h2 z hz
          · simp at hz;subst hz;exact h4
        · rcases dI i k with hlt | hge
          · rw[pL (by omega)] at hz
            exact h3 i z hz
          · rw[nA (by omega)] at hz
            have:i=k:=by
              rcases dI (i - ys.length) 1 with hlt | aJi
              · omega
              · rw[eW (by simp;omega)] at hz;cases hz
            subst this;rw[h1,yC] at hz;simp at hz;subst hz;exact h5
    obtain⟨ys,h1,h2,h3⟩:=key len (gE _);refine⟨some a,len,cap,ys,hcs,⟨by rw[aEY g sz ys (fun e _=>hg e),h1],fun hk=>?_⟩,h1.symm,by omega,h2⟩
    have hy0:∃y,ys[0]? =some y:=⟨ys[0]'(by omega),cX _⟩
    obtain⟨y0,hy0⟩:=hy0
    have hg0:0 < (g y0).length:=by rw[hg];exact hsz
    have h0:=h3 0 y0 hy0 0 _ (cX hg0)
    rw[Nat.zero_mul,show(a.add 0).add 0=a from rfl] at h0;refine⟨a.block,a.off,by rw[<-aLc h0],World.block_lt_of_cell? _ _ h0,fun j u hu=>?_⟩
    have hjl:j < len*sz:=by
      rcases dI j (len*sz) with hlt | hge
      · exact hlt
      · rw[eW (by rw[aEY g sz ys (fun e _=>hg e),h1];exact hge)] at hu;cases hu
    have hq:j / sz < len:=by rw[Nat.div_lt_iff_lt_mul hsz];exact hjl
    have hr:j % sz < sz:=Nat.mod_lt _ hsz
    have hj:j / sz*sz+j % sz=j:=Nat.div_add_mod' j sz
    obtain⟨y,hy⟩:∃y,ys[j / sz]? =some y:=⟨ys[j / sz]'(by omega),cX _⟩
    have hfl:=Nh g sz ys (fun e _=>hg e) (j / sz) (j % sz) y hy hr
    rw[hj,hu] at hfl
    have:=h3 _ y hy (j % sz) u hfl.symm
    rw[aFH h0] at this
    have e2:(⟨a.block,a.off+j / sz*sz,none⟩:Addr).add (j % sz)=⟨a.block,a.off+j,none⟩:=by
      unfold Addr.add;split
      · rename_i hz
        rw[hz,Ms] at hj;rw[hj]
      · rw[wT,hj]
    rw[<-this,e2]
end
abbrev Env:=List (Nat×Value)
def Env.get:Env->Nat->Option Value
 | [],_=>none
 | (k,v)::r,t=>match Nat.beq k t with
  | true=>some v
  | false=>Env.get r t
def Env.ev(e:Env):Operand->Option Value
 | .tmp t=>e.get t
 | .const v=>some v
 | .global g=>some (.pointer (some ⟨g,0,none⟩))
 | .func f=>some (.func (.func f) #[] #[])
structure cQ where
 n:Nat
 D:List Deferred
structure eT(N:cQ)(e:Env)(a:Act):Prop where
 size:a.tmps.size=N.n
 defers:a.defers=N.D
 get:∀t v,e.get t=some v->a.tmps[t]? =some v
def Env.Sub:Env->Env->Prop
 | [],_=>True
 | (t,v)::r,e=>e.get t=some v/\Env.Sub r e
section
variable{N:cQ}{e e':Env}{a:Act}
def eT.ev(h:eT N e a)(hx:e.ev x=some v):a.eval x=v:=by
 cases x with
 | tmp t=>simp only[Act.eval];rw[Tk,h.get t v hx];rfl
 | const c=>simpa[Env.ev,Act.eval] using hx
 | global g=>simpa[Env.ev,Act.eval] using hx
 | func f=>simpa[Env.ev,Act.eval] using hx
def eT.put(h:eT N e a)(hd:d < N.n)(v:Value):eT N ((d,v)::e) (a.put (some d) v):=by
 refine⟨by simpa[Act.put] using h.size,h.defers,fun t u c=>?_⟩;simp only[Act.put];unfold Env.get at c;rw[Yc]
 by_cases f:d=t
 .subst f;rw[show Nat.beq d d=true from Nat.beq_refl d] at c;rw[aH rfl,aH (by rw[h.size];exact hd)];exact c
 .rw[show Nat.beq d t=false from(by cases i:Nat.beq d t with | false=>rfl | true=>exact absurd (Kb i) f)] at c;rw[aC f];exact h.get t u c
def Env.Sub.get:∀{e' e:Env},e'.Sub e->∀t v,e'.get t=some v->e.get t=some v
 | [],_,_,t,v,h=>by simp[Env.get] at h
 | (k, u) :: r, e, hs, t, v, h => by
  unfold Env.get at h;split at h
  .rename_i hk
   have:=Kb hk
   subst this;rw[<-h];exact hs.1
  .exact Env.Sub.get hs.2 t v h
def eT.sub(h:eT N e a)(hs:e'.Sub e):eT N e' a:=⟨h.size,h.defers,fun t v c=>h.get t v (hs.get t v c)⟩
end
structure Piece where
 w:World
 Z:Nat->Prop
def Piece.Le(p q:Piece):Prop:=∀b,p.Z b->q.Z b/\q.w.heap[b]? =p.w.heap[b]?
def Piece.Le.refl(p:Piece):p.Le p:=fun _ h=>⟨h,rfl⟩
def Piece.Le.trans{p q r:Piece}(h:p.Le q)(k:q.Le r):p.Le r:=fun b c=>⟨(k b (h b c).1).1,(k b (h b c).1).2.trans (h b c).2⟩
structure HP where
 sat:(Nat->Prop)->World->Prop
 loc:∀F w w',sat F w->(∀b,F b->w'.heap[b]? =w.heap[b]?)->sat F w'
def HP.aK(g:Nat)(t:TypeId)(cs:List Value):HP:=⟨fun F w=>F g/\vE w g t cs.toArray,fun _ _ _ h c=>⟨h.1,(c g h.1).trans h.2⟩⟩
def HP.own(e:TypeId)(sz:Nat)(v:Value)(n:Nat)(xs:List Value):HP:=
 ⟨fun F w=>(∀g,v.ownBlock=some g->F g)/\w.ownsRow 0 e sz v n xs,fun F w l h k=>⟨h.1,h.2.1,h.2.2.imp id (by
  rintro⟨g,d,f,rfl,j,i,c⟩
  exact⟨g,d,f,rfl,j,(k g (h.1 g rfl)).trans i,c⟩)⟩⟩
structure St(w0:World)(R:List Piece)(H:List HP)(w:World):Prop where
 os:w.os=w0.os
 tape:w.tape=w0.tape
 output:w.output=w0.output
 size:w0.heap.size<=w.heap.size
 ex:∃(Z:Nat->Prop) (F:Nat->Nat->Prop),(∀b,Z b->b < w.heap.size)/\(∀p∈R,∀b,p.Z b->Z b/\w.heap[b]? =p.w.heap[b]?)/\
  (∀(i:Nat) (p:HP),H[i]? =some p->p.sat (F i) w)/\(∀i b,F i b->¬Z b/\b < w.heap.size)/\∀i j b,i≠j->F i b->¬F j b
def all(w:World):Piece:=⟨w,fun b=>b < w.heap.size⟩
def fresh(w w':World):Piece:=⟨w',fun b=>w.heap.size<=b/\b < w'.heap.size⟩
section
variable{R R':List Piece}{H H':List HP}{p:Piece}{h:HP}
def St.start(w:World):St w [all w] [] w:=
 ⟨rfl,rfl,rfl,gE _,fun b=>b < w.heap.size,fun _ _=>False,fun _ h=>h,fun p c b d=>by
  simp at c;subst c;exact⟨d,rfl⟩,fun i p h=>by simp at h,fun _ _ h=>h.elim,fun _ _ _ _ h=>h.elim⟩
def St.below(s:St w0 R H w)(h:all w0∈R):Below w0.heap.size w0 w:=by
 obtain⟨Z,F,e,c,_⟩:=s.ex;exact⟨s.os,s.tape,s.output,s.size,fun k d=>(c _ h k d).2⟩
def St.call(s:St w0 R H w)(c:Below w.heap.size w w'):St w0 R H w':=by
 obtain⟨Z,F,k,f,l,d,hd⟩:=s.ex;refine⟨c.os.trans s.os,c.tape.trans s.tape,c.output.trans s.output,oL s.size c.size,Z,F,fun b h=>jC (k b h) c.size,fun p e b h=>?_,fun i p h=>?_,fun i b h=>⟨(d i b h).1,jC (d i b h).2 c.size⟩,hd⟩
 .exact⟨(f p e b h).1,(c.block b (k b (f p e b h).1)).trans (f p e b h).2⟩
 .exact p.loc _ _ _ (l i p h) (fun b j=>c.block b (d i b j).2)
def St.new(s:St w0 R H w)(c:Below w.heap.size w w')(hp:h.sat (fresh w w').Z w'):St w0 R (h::H) w':=by
 have e:=s.call c
 obtain⟨Z,F,n,l,r,d,hd⟩:=s.ex;refine⟨e.os,e.tape,e.output,e.size,Z,fun i=>match i with | 0=>(fresh w w').Z | i+1=>F i,fun b h=>jC (n b h) c.size,fun p hp b h=>?_,fun i p h=>?_,fun i b h=>?_,fun i j b f h=>?_⟩
 .exact⟨(l p hp b h).1,(c.block b (n b (l p hp b h).1)).trans (l p hp b h).2⟩
 .cases i with
  | zero=>simp at h;subst h;exact hp
  | succ i=>exact p.loc _ _ _ (r i p (by simpa using h)) (fun b o=>c.block b (d i b o).2)
 .cases i with
  | zero=>exact⟨fun k=>by have:=n b k;have:=h.1;omega,h.2⟩
  | succ i=>exact⟨(d i b h).1,jC (d i b h).2 c.size⟩
 .cases i with
  | zero=>cases j with
   | zero=>exact absurd rfl f
   | succ j=>intro m;have:=(d j b m).2;have:=h.1;omega
  | succ i=>cases j with
   | zero=>intro m;have:=(d i b h).2;have:=m.1;omega
   | succ j=>exact hd i j b aA h
def St.seen(s:St w0 R H w)(d:Below w.heap.size w w'){Y:Nat->Prop}(n:∀b,Y b->(fresh w w').Z b\/∃p∈R,p.Z b):St w0 (⟨w',Y⟩::R) H w':=by
 have e:=s.call d
 obtain⟨Z,F,l,f,m,j,hd⟩:=s.ex;refine⟨e.os,e.tape,e.output,e.size,fun b=>Z b\/(fresh w w').Z b,F,fun b h=>?_,fun p c b h=>?_,fun i p h=>?_,fun i b h=>?_,hd⟩
 .rcases h with h | h
  .exact jC (l b h) d.size
  .exact h.2
 .simp only[fT] at c;rcases c with rfl | c
  .rcases n b h with h | ⟨q,hq,hqb⟩
   .exact⟨.inr h,rfl⟩
   .exact⟨.inl (f q hq b hqb).1,rfl⟩
  .exact⟨.inl (f p c b h).1,(d.block b (l b (f p c b h).1)).trans (f p c b h).2⟩
 .exact p.loc _ _ _ (m i p h) (fun b k=>d.block b (j i b k).2)
 .refine⟨?_,jC (j i b h).2 d.size⟩;rintro(uD | uD)
  .exact(j i b h).1 uD
  .have:=uD.1;have:=(j i b h).2;omega
def St.yZ(s:St w0 R H w){i:Nat}{p q:HP}(hi:H[i]? =some p)(c:w.heap.size<=w'.heap.size)(G:w'.os=w.os)(f:w'.tape=w.tape)(o:w'.output=w.output)
  (C:∀F,p.sat F w->(∀b,F b->b < w.heap.size)->∃x,q.sat x w'/\(∀b,x b->(F b\/w.heap.size<=b)/\b < w'.heap.size)/\∀b,b < w.heap.size->¬F b->w'.heap[b]? =w.heap[b]?):St w0 R (H.set i q) w':=by
 obtain⟨Z,F,I,z,L,d,hd⟩:=s.ex;obtain⟨x,J,n,K⟩:=C (F i) (L i p hi) (fun b A=>(d i b A).2)
 have D:i < H.length:=by
  rcases dI i H.length with h | h
  .exact h
  .rw[eW h] at hi;cases hi
 refine⟨G.trans s.os,f.trans s.tape,o.trans s.output,oL s.size c,Z,fun j=>if j=i then x else F j,fun b h=>jC (I b h) c,fun p y b h=>?_,fun j r m=>?_,fun j b h=>?_,fun j k b B h=>?_⟩
 .refine⟨(z p y b h).1,(K b (I b (z p y b h).1) (fun E=>(d i b E).1 (z p y b h).1)).trans (z p y b h).2⟩
 .rw[gX] at m;split at m
  .rename_i e;subst e
   first | (rw[aH D] at m;cases m) | cases m
   simpa using J
  .rename_i e
   simp only[aC (fN e)];exact r.loc _ _ _ (L j r m) (fun b A=>K b (d j b A).2 (hd j i b (fN e) A))
 .dsimp only at h;split at h
  .refine⟨fun t=>?_,(n b h).2⟩;rcases(n b h).1 with h | h
   .exact(d i b h).1 t
   .have:=I b t;omega
  .exact⟨(d j b h).1,jC (d j b h).2 c⟩
 .dsimp only at h|-;split at h<;>split
  .rename_i J n;omega
  .rename_i N M
   intro l;rcases(n b h).1 with h | h
   .exact hd i k b aA h l
   .have:=(d k b l).2;omega
  .rename_i N M
   intro l;rcases(n b l).1 with l | l
   .exact hd j i b aA h l
   .have:=(d j b h).2;omega
  .exact hd j k b B h
def St.drew(s:St w0 R H w):St w0 R H w.drew:=s.call ((Below.refl _ _).drew)
def St.sat(s:St w0 R H w){i:Nat}{p:HP}(hi:H[i]? =some p):∃F,p.sat F w:=by
 obtain⟨Z,F,f,e,c,d,hd⟩:=s.ex;exact⟨_,c i p hi⟩
def St.aK(s:St w0 R H w){i g:Nat}{t:TypeId}{cs:List Value}(hi:H[i]? =some (HP.aK g t cs)):vE w g t cs.toArray:=(s.sat hi).choose_spec.2
def St.own(s:St w0 R H w){i:Nat}{e:TypeId}{sz:Nat}{v:Value}{n:Nat}{xs:List Value}(hi:H[i]? =some (HP.own e sz v n xs)):w.ownsRow 0 e sz v n xs:=(s.sat hi).choose_spec.2
def St.ro(s:St w0 R H w)(hp:p∈R){b:Nat}(d:p.Z b):w.heap[b]? =p.w.heap[b]? :=by
 obtain⟨Z,F,e,c,_⟩:=s.ex;exact(c p hp b d).2
def St.Xy(s:St w0 R H w)(hp:p∈R){b:Nat}(e:p.Z b):b < w.heap.size:=by
 obtain⟨Z,F,d,c,_⟩:=s.ex;exact d b (c p hp b e).1
def St.le(s:St w0 R H w)(hp:p∈R):p.Le (all w):=fun b c=>⟨s.Xy hp c,s.ro hp c⟩
def St.aPt(s:St w0 R H w)(hp:p∈R){a:Addr}(c:p.Z a.block):w.cell? a=p.w.cell? a:=World.cell?_of_block (w:=p.w) (s.ro hp c)
def St.weak(s:St w0 R H w)(y:∀p∈R',p∈R)(f:Nat->Nat)(c:∀i j,i < H'.length->j < H'.length->f i=f j->i=j)(x:∀(i:Nat) (p:HP),H'[i]? =some p->H[f i]? =some p):St w0 R' H' w:=by
 obtain⟨Z,F,z,o,r,t,hd⟩:=s.ex;refine⟨s.os,s.tape,s.output,s.size,Z,fun i b=>i < H'.length/\F (f i) b,z,fun p n=>o p (y p n),fun i p l=>?_,fun i b h=>t _ b h.2,fun i j b d h m=>hd (f i) (f j) b (fun e=>d (c i j h.1 m.1 e)) h.2 m.2⟩
 have k:i < H'.length:=by
  rcases dI i H'.length with h | h
  .exact h
  .rw[eW h] at l;cases l
 have e:(fun b=>i < H'.length/\F (f i) b)=F (f i):=by funext b;simp[k]
 show p.sat (fun b=>i < H'.length/\F (f i) b) w
 rw[e];exact r _ p (x i p l)
def tP(w0:World)(p:Piece):Prop:=∀b,p.Z b->w0.heap.size<=b
def St.oA(s:St w0 R H w)(hp:p∈R)(hf:tP w0 p):p.Le (Go.Proofs.YtmpkkaknjkffpaaGreatDoor.fresh w0 w):=fun b c=>⟨⟨hf b c,s.Xy hp c⟩,s.ro hp c⟩
def St.still(s:St w0 R H w)(ps:List Piece)(o:∀p∈ps,p∈R)(X:Nat->Prop)(f:Nat->Nat)(m:∀i j,i < H'.length->j < H'.length->f i=f j->i=j)(B:∀i,i < H'.length->¬X (f i))(C:∀(i:Nat) (p:HP),H'[i]? =some p->H[f i]? =some p):
  ∃Y,St w0 (⟨w,Y⟩::R) H' w/\(∀(i:Nat) (p:HP),X i->H[i]? =some p->∃F,p.sat F w/\∀b,F b->Y b)/\(∀p∈ps,p.Le ⟨w,Y⟩)/\(all w0∈R->(∀p∈ps,tP w0 p)->tP w0 ⟨w,Y⟩):=by
 obtain⟨Z,F,D,l,A,r,hd⟩:=s.ex;refine⟨fun b=>(∃p∈ps,p.Z b)\/∃i,X i/\F i b,⟨s.os,s.tape,s.output,s.size,fun b=>Z b\/∃i,X i/\F i b,fun i b=>i < H'.length/\F (f i) b,?_,?_,?_,?_,?_⟩,fun i p k d=>⟨F i,A i p d,fun b c=>.inr ⟨i,k,c⟩⟩,fun p d b c=>⟨.inl ⟨p,d,c⟩,(l p (o p d) b c).2⟩,?_⟩
 .rintro b (h | ⟨i,_,h⟩)
  .exact D b h
  .exact(r i b h).2
 .intro p d b c;simp only[fT] at d;rcases d with rfl | d
  .refine⟨?_,rfl⟩;rcases c with⟨p,d,c⟩ | c
   .exact .inl (l p (o p d) b c).1
   .exact .inr c
  .exact⟨.inl (l p d b c).1,(l p d b c).2⟩
 .intro i p k
  have y:i < H'.length:=by
   rcases dI i H'.length with h | h
   .exact h
   .rw[eW h] at k;cases k
  have e:(fun b=>i < H'.length/\F (f i) b)=F (f i):=by funext b;simp[y]
  show p.sat (fun b=>i < H'.length/\F (f i) b) w
  rw[e];exact A _ p (C i p k)
 .rintro i b ⟨k,h⟩;refine⟨?_,(r _ b h).2⟩;rintro(uD | ⟨j,t,hjb⟩)
  .exact(r _ b h).1 uD
  .exact hd (f i) j b (fun e=>B i k (e▸t)) h hjb
 .exact fun i j b x h t=>hd (f i) (f j) b (fun e=>x (m i j h.1 t.1 e)) h.2 t.2
 .intro n z b c;rcases c with⟨p,d,c⟩ | ⟨i,_,c⟩
  .exact z p d b c
  .rcases dI b w0.heap.size with h | h
   .exact absurd (l _ n b h).1 (r i b c).1
   .exact h
end
def aDg{P:Program}{Q:Exit->Act->World->Prop}{a:Act}{w:World}{c:Code}(I:Nat->Act->World->Prop)(n:Nat)(B:I n a w)
  (round:∀n a w,I n a w->c.wp P (Exit.then (fun j w'=>∃m,m < n/\I m j w') Q) a w):(Code.loop c).wp P Q a w:=by
 intro b k r
 have z:∀n a w,I n a w->∃e j w',Q e j w'/\Arrives P (lone (b.at a (.code c::.inLoop c::k)) r w) b k r e j w':=by
  intro n
  induction n using Nat.strongRecOn with
  | _ n ih =>
   intro a w A;obtain⟨e,i,o,f,d⟩:=round n a w A b (.inLoop c::k) r;cases e with
   | normal=>
    obtain⟨m,p,y⟩:=f;obtain⟨D,E,C,t,h⟩:=ih m p i o y;exact⟨D,E,C,t,.of_steps (Steps.trans d (.one step_inLoop)) h⟩
   | exit id=>exact⟨_,i,o,f,.pass (x:=.inLoop c) rfl (fun _ _=>.inl aB) d⟩
   | goto l=>exact⟨_,i,o,f,.pass (x:=.inLoop c) rfl (fun _ _=>.inl aB) d⟩
   | ret=>exact⟨_,i,o,f,.pass (x:=.inLoop c) rfl (fun _ _=>.inl aB) d⟩
   | panic ch=>exact⟨_,i,o,f,.pass (x:=.inLoop c) rfl (fun _ _=>.inl aB) d⟩
   | outgrown=>exact⟨_,i,o,f,.pass (x:=.inLoop c) rfl (fun _ _=>.inl aB) d⟩
 obtain⟨e,j,w',f,d⟩:=z n a w B;exact⟨e,j,w',f,.of_steps (.one step_loop) d⟩
def XK(N:cQ)(w0:World)(K:Act->World->Prop)(e:Env)(R:List Piece)(H:List HP):Prop:=∀a w,eT N e a->St w0 R H w->K a w
section
variable{N:cQ}{e e':Env}{R R':List Piece}{H H':List HP}
def Wm(e':Env)(hs:e'.Sub e)(h:XK N w0 K e' R H):XK N w0 K e R H:=fun a w c st=>h a w (c.sub hs) st
def zB:List Nat->List HP->Option (List HP)
 | [],_=>some []
 | i::is,H=>match H[i]?,zB is H with
  | some p,some r=>some (p::r)
  | _,_=>none
def Xu:∀{c:List Nat} {H H':List HP},zB c H=some H'->H'.length=c.length
 | [],H,H',h=>by cases h;rfl
 | i::c,H,H',h=>by
  unfold zB at h;split at h
  .rename_i p r e d;cases h;simp[Xu d]
  .cases h
def aBb:∀{c:List Nat} {H H':List HP},zB c H=some H'->∀(i:Nat) (p:HP),H'[i]? =some p->H[c.getD i 0]? =some p
 | [],H,H',h,i,p,hp=>by cases h;simp at hp
 | k :: c, H, H', h, i, p, hp => by
  unfold zB at h;split at h
  .rename_i p' r d e
   cases h;cases i with
   | zero=>simp at hp;subst hp;simpa using d
   | succ i=>simpa using aBb e i p (by simpa using hp)
  .cases h
def aEd{c:List Nat}(h:c.Nodup):∀i j,i < c.length->j < c.length->c.getD i 0=c.getD j 0->i=j:=by
 intro i j e f k;simp only[mZ,cX e,cX f,tV] at k
 have l:=List.pairwise_iff_getElem.1 h
 rcases Nat.lt_trichotomy i j with d | d | d
 .exact absurd k (l i j e f d)
 .exact d
 .exact absurd k.symm (l j i f e d)
def xL(d:List Nat)(c:zB d H=some H')(k:d.Nodup)(m:∀p∈R',p∈R)(h:XK N w0 K e R' H'):XK N w0 K e R H:=
 fun a w l st=>h a w l (st.weak m (fun i=>d.getD i 0) (fun i j f n o=>aEd k i j (by rw[<-Xu c];exact f) (by rw[<-Xu c];exact n) o) (aBb c))
def aFL(ps:List Piece)(m c:List Nat)(k:∀p∈ps,p∈R)(o:zB c H=some H')(z:c.Nodup)(hf:∀i∈m,i∉c)
  (h:∀q:Piece,(∀(i:Nat) (p:HP),i∈m->H[i]? =some p->∃F,p.sat F q.w/\∀b,F b->q.Z b)->(∀p∈ps,p.Le q)->(all w0∈R->(∀p∈ps,tP w0 p)->tP w0 q)->XK N w0 K e (q::R) H'):XK N w0 K e R H:=fun a w t st=>by
 have r:=Xu o
 obtain⟨Y,d,y,n,f⟩:=st.still (H':=H') ps k (fun i=>i∈m) (fun i=>c.getD i 0) (fun i j x C B=>aEd z i j aA aA B) (fun i x A=>hf _ A (by
  have l:i < c.length:=by omega
  simp[mZ,cX l])) (aBb o)
 exact h ⟨w,Y⟩ y n f a w t d
def fO{x y:Code}(h:XK N w0 (x.wp P (Exit.then (y.wp P Q) Q)) e R H):XK N w0 ((Code.seq x y).wp P Q) e R H:=fun a w c st=>wp_seq (h a w c st)
def Wn{x y:Code}(M:Env->List Piece->List HP->Prop)(h:XK N w0 (x.wp P (Exit.then (fun d w'=>∃e' R' H',M e' R' H'/\eT N e' d/\St w0 R' H' w') Q)) e R H)
  (hy:∀e' R' H',M e' R' H'->XK N w0 (y.wp P Q) e' R' H'):XK N w0 ((Code.seq x y).wp P Q) e R H:=fun a w k st=>by
 refine wp_seq (wp_mono (h a w k st) fun x d w' i=>?_);cases x with
 | normal=>
  obtain⟨e',R',H',j,f,c⟩:=i;exact hy e' R' H' j d w' f c
 | _=>exact i
def aAy{M:Env->List Piece->List HP->Prop}(hm:M e R H):XK N w0 (fun c w'=>∃e' R' H',M e' R' H'/\eT N e' c/\St w0 R' H' w') e R H:=fun _ _ d st=>⟨e,R,H,hm,d,st⟩
def sQ(h:XK N w0 (Q .normal) e R H):XK N w0 (Code.skip.wp P Q) e R H:=fun a w c st=>wp_skip (h a w c st)
def aFS{id:Nat}(h:XK N w0 (Q (.exit id)) e R H):XK N w0 ((Code.exit id).wp P Q) e R H:=fun a w c st=>wp_exit (h a w c st)
def Rl(h:XK N w0 (Q .ret) e R H):XK N w0 (Code.ret.wp P Q) e R H:=fun a w c st=>wp_ret (h a w c st)
def Gf{id:Nat}{c:Code}(h:XK N w0 (c.wp P (Exit.inBlock id Q)) e R H):XK N w0 ((Code.block id c).wp P Q) e R H:=fun a w d st=>wp_block (h a w d st)
def tI{c:Operand}{x y:Code}{b:Bool}(f:e.ev c=some (.bool b))(i:b=true->XK N w0 (x.wp P Q) e R H)(hf:b=false->XK N w0 (y.wp P Q) e R H):XK N w0 ((Code.cond c x y).wp P Q) e R H:=
 fun a w d st=>wp_cond_split (d.ev f) (fun h=>i h a w d st) (fun h=>hf h a w d st)
def dD{c:Operand}{x y:Code}{p:Prop}[Decidable p](d:e.ev c=some (.bool (decide p)))(f:p->XK N w0 (x.wp P Q) e R H)(hf:¬p->XK N w0 (y.wp P Q) e R H):XK N w0 ((Code.cond c x y).wp P Q) e R H:=
 tI d (fun h=>f (eV h)) (fun h=>hf (Tr h))
def gA{c:Code}(I:Nat->Env->List Piece->List HP->Prop)(n:Nat)(z:I n e R H)
  (h:∀n e R H,I n e R H->XK N w0 (c.wp P (Exit.then (fun o w'=>∃m e' R' H',(m < n/\I m e' R' H')/\eT N e' o/\St w0 R' H' w') Q)) e R H):XK N w0 ((Code.loop c).wp P Q) e R H:=fun a w j st=>by
 refine aDg (fun n a w=>∃e R H,I n e R H/\eT N e a/\St w0 R H w) n ⟨e,R,H,z,j,st⟩ fun n a w ⟨e,R,H,r,j,st⟩=>wp_mono (h n e R H r a w j st) fun x o w' l=>?_;cases x with
 | normal=>
  obtain⟨m,t,p,y,⟨i,k⟩,d,f⟩:=l;exact⟨m,i,t,p,y,k,d,f⟩
 | _=>exact l
def iZ{I:Nat->Env->List Piece->List HP->Prop}{n:Nat}(m:Nat)(hm:m < n)(c:I m e R H):XK N w0 (fun d w'=>∃m e' R' H',(m < n/\I m e' R' H')/\eT N e' d/\St w0 R' H' w') e R H:=fun _ _ f st=>⟨m,e,R,H,⟨hm,c⟩,f,st⟩
def jS{id:Nat}{l:List Oper}(h:XK N w0 (wpList P l.toArray Q l) e R H):XK N w0 ((Code.region id l.toArray false).wp P Q) e R H:=fun a w c st=>wp_region_lit (h a w c st)
def jA{ops:Array Oper}(h:XK N w0 (Q .normal) e R H):XK N w0 (wpList P ops Q []) e R H:=fun a w c st=>wpList_nil (h a w c st)
end
variable{N:cQ}{e e':Env}{R R' R0:List Piece}{H H' H0:List HP}
def qM{a:Int}(h: -9223372036854775808<=a/\a<=9223372036854775807):IntKind.i64.wrap a=a:=by
 rw[IntKind.wrap_i64];omega
def aGC(kd:IntKind){a:Int}(hs:kd.signed=false)(h:0<=a/\a < 2 ^ kd.bits):kd.wrap a=a:=by
 unfold IntKind.wrap;simp only[hs,Bool.false_and,Pt,if_false];exact Int.emod_eq_of_lt h.1 h.2
def wrap_u32{a:Int}(h:0<=a/\a < 4294967296):IntKind.u32.wrap a=a:=aGC .u32 rfl h
def wrap_u64{a:Int}(h:0<=a/\a < 18446744073709551616):IntKind.u64.wrap a=a:=aGC .u64 rfl h
def aPG{a b:Int}(c:0<=a)(d:a<=9223372036854775807)(e:0 < b):IntKind.i64.wrap (a.tdiv b)=a / b:=by
 rw[Int.tdiv_eq_ediv_of_nonneg c];refine qM ⟨?_,?_⟩
 .have:=Tn c (Int.le_of_lt e);omega
 .exact Int.le_trans (Int.ediv_le_self _ c) d
def rem_in{a b:Int}(c:0<=a):a.tmod b=a % b:=Int.tmod_eq_emod_of_nonneg c
def Zy(P:Program)(s:TypeId)(f:Nat):Option Nat:=
 match P.underlying s with
 | some (.struct fs) => match fs[f]? with
  | some fl=>match P.info? fl.type with
   | some i=>if i.size=0 then none else some fl.offset
   | none=>none
  | none=>none
 | _=>none
def vF{o:Oper}(hg:o.guard=none)(h:∀a w,eT N e a->St w0 R H w->∃v w',(execOp a.eval o).run P w=.ok (.value v) w'/\wpList P ops Q rest (a.put o.dst v) w'):XK N w0 (wpList P ops Q (o::rest)) e R H:=fun a w f st=>wpList_plain hg fun K d=>by
 obtain⟨v,w',c,i⟩:=h a w f st;unfold Oper.wp;rw[c];exact d _ _ i
def pS{op:Op}{v:Value}(hd:d < N.n)(h:∀a w,eT N e a->(execOp a.eval ⟨some d,op,ty,pos,aN,none⟩).run P w=.ok (.value v) w)
  (k:XK N w0 (wpList P ops Q rest) ((d,v)::e) R H):XK N w0 (wpList P ops Q (⟨some d,op,ty,pos,aN,none⟩::rest)) e R H:=
 vF rfl fun a w c st=>⟨v,w,h a w c,k _ _ (c.put hd v) st⟩
def bY(P:Program)(N:cQ)(w0:World)(e:Env)(R:List Piece)(H:List HP)(o:Oper)(v:Value):Prop:=∀a w,eT N e a->St w0 R H w->(execOp a.eval o).run P w=.ok (.value v) w
def jF{o:Oper}{v:Value}(h:∀a w,eT N e a->(execOp a.eval o).run P w=.ok (.value v) w):bY P N w0 e R H o v:=fun a w c _=>h a w c
def nK{dst:Option Nat}{op:Op}{j:Nat}{want:Bool}{t:Nat}(hj:(ops[j]?).bind (·.dst)=some t)(d:e.get t=some (.bool want))
  (k:XK N w0 (wpList P ops Q (⟨dst,op,ty,pos,aN,none⟩::rest)) e R H):XK N w0 (wpList P ops Q (⟨dst,op,ty,pos,aN,some (j,want)⟩::rest)) e R H:=fun a w c st=>by
 have h:=k a w c st
 have hw:Region.wanted (⟨dst,op,ty,pos,aN,some (j,want)⟩:Oper) (yielded ops a.tmps)=true:=by
  simp only[Region.wanted,yielded,hj,Bo,c.get t _ d];simp
 unfold wpList at h|-;rw[aH hw];rw[aH (by simp[Region.wanted])] at h;exact h
def qL{op:Op}{j:Nat}{want b:Bool}{t:Nat}(hj:(ops[j]?).bind (·.dst)=some t)(f:e.get t=some (.bool b))(h:b= !want)(hd:d < N.n)
  (k:XK N w0 (wpList P ops Q rest) ((d,undef)::e) R H):XK N w0 (wpList P ops Q (⟨some d,op,ty,pos,aN,some (j,want)⟩::rest)) e R H:=fun a w c st=>by
 have hw:Region.wanted (⟨some d,op,ty,pos,aN,some (j,want)⟩:Oper) (yielded ops a.tmps)=false:=by
  simp only[Region.wanted,yielded,hj,Bo,c.get t _ f,h];simp
 unfold wpList;rw[aC (by rw[hw];simp)];exact k _ _ (c.put hd undef) st
def cH{K:Act->World->Prop}{t:Nat}{p:Prop}[Decidable p](h:e.get t=some (.bool (decide p)))(j:p->XK N w0 K ((t,.bool true)::e) R H)(k:¬p->XK N w0 K ((t,.bool false)::e) R H):XK N w0 K e R H:=by
 by_cases f:p
 .rw[eM f] at h;refine fun a w d st=>j f a w ⟨d.size,d.defers,fun u v c=>?_⟩ st;unfold Env.get at c;split at c
  .rename_i i
   have:=Kb i
   subst this;cases c;exact d.get _ _ h
  .exact d.get _ _ c
 .rw[gW f] at h;refine fun a w d st=>k f a w ⟨d.size,d.defers,fun u v c=>?_⟩ st;unfold Env.get at c;split at c
  .rename_i i
   have:=Kb i
   subst this;cases c;exact d.get _ _ h
  .exact d.get _ _ c
def rI{x:Operand}{v:Value}(hx:e.ev x=some v):bY P N w0 e R H ⟨some d,.move x,ty,pos,aN,none⟩ (v):=jF (fun a w c=>by simp[execOp,c.ev hx])
def jP{x:Operand}{v:Value}(hx:e.ev x=some v)(hd:d < N.n)(k:XK N w0 (wpList P ops Q rest) ((d,v)::e) R H):XK N w0 (wpList P ops Q (⟨some d,.move x,ty,pos,aN,none⟩::rest)) e R H:=
 pS hd (fun a w c=>by simp[execOp,c.ev hx]) k
def aU3{x:Operand}{v:Value}(hx:e.ev x=some v):bY P N w0 e R H ⟨some d,.assign x,ty,pos,aN,none⟩ (v):=jF (fun a w c=>by simp[execOp,c.ev hx])
def kC{x:Operand}{v:Value}(hx:e.ev x=some v)(hd:d < N.n)(k:XK N w0 (wpList P ops Q rest) ((d,v)::e) R H):XK N w0 (wpList P ops Q (⟨some d,.assign x,ty,pos,aN,none⟩::rest)) e R H:=
 pS hd (fun a w c=>by simp[execOp,c.ev hx]) k
def aUf{c x y:Operand}{v:Value}(h:e.ev c=some (.bool true))(hx:e.ev x=some v):bY P N w0 e R H ⟨some d,.pick c x y,ty,pos,aN,none⟩ (v):=jF (fun a w f=>by simp[execOp,f.ev h,f.ev hx,asBool])
def Lx{c x y:Operand}{v:Value}(h:e.ev c=some (.bool true))(hx:e.ev x=some v)(hd:d < N.n)(k:XK N w0 (wpList P ops Q rest) ((d,v)::e) R H):XK N w0 (wpList P ops Q (⟨some d,.pick c x y,ty,pos,aN,none⟩::rest)) e R H:=
 pS hd (fun a w f=>by simp[execOp,f.ev h,f.ev hx,asBool]) k
def aUg{c x y:Operand}{v:Value}(h:e.ev c=some (.bool false))(hy:e.ev y=some v):bY P N w0 e R H ⟨some d,.pick c x y,ty,pos,aN,none⟩ (v):=jF (fun a w f=>by simp[execOp,f.ev h,f.ev hy,asBool])
def Ly{c x y:Operand}{v:Value}(h:e.ev c=some (.bool false))(hy:e.ev y=some v)(hd:d < N.n)(k:XK N w0 (wpList P ops Q rest) ((d,v)::e) R H):XK N w0 (wpList P ops Q (⟨some d,.pick c x y,ty,pos,aN,none⟩::rest)) e R H:=
 pS hd (fun a w f=>by simp[execOp,f.ev h,f.ev hy,asBool]) k
def aUk{x:Operand}{b:Bool}{t:TypeId}(hx:e.ev x=some (.bool b)):bY P N w0 e R H ⟨some d,.unOp .not t x,ty,pos,aN,none⟩ (.bool (!b)):=jF (fun a w c=>by simp[execOp,c.ev hx,Op.unary])
def aG2{x:Operand}{b:Bool}{t:TypeId}(hx:e.ev x=some (.bool b))(hd:d < N.n)(k:XK N w0 (wpList P ops Q rest) ((d,.bool (!b))::e) R H):XK N w0 (wpList P ops Q (⟨some d,.unOp .not t x,ty,pos,aN,none⟩::rest)) e R H:=
 pS hd (fun a w c=>by simp[execOp,c.ev hx,Op.unary]) k
def aUj{x:Operand}{p:Prop}[Decidable p]{t:TypeId}(hx:e.ev x=some (.bool (decide p))):bY P N w0 e R H ⟨some d,.unOp .not t x,ty,pos,aN,none⟩ (.bool (decide (¬p))):=jF (fun a w c=>by simp[execOp,c.ev hx,Op.unary])
def aUn{x:Operand}{kd:IntKind}{i c:Int}{t:TypeId}(hx:e.ev x=some (.int kd i))(hw:kd.wrap (0 - i)=c):bY P N w0 e R H ⟨some d,.unOp .neg t x,ty,pos,aN,none⟩ (.int kd c):=jF (fun a w f=>by simp[execOp,f.ev hx,Op.unary,Op.intArith,<-hw])
section
variable{kd:IntKind}{j:Int}(hx:e.ev x=some (.int kd i))(hy:e.ev y=some (.int kd j))
include hx hy
def aCg(hw:kd.wrap (i+j)=c):bY P N w0 e R H ⟨some d,.binOp .add t x y u,ty,pos,aN,none⟩ (.int kd c):=jF (fun a w f=>by simp[execOp,f.ev hx,f.ev hy,eqGuard,binOp,Op.intArith,hw])
def aAH(hw:kd.wrap (i+j)=c)(hd:d < N.n)(k:XK N w0 (wpList P ops Q rest) ((d,.int kd c)::e) R H):XK N w0 (wpList P ops Q (⟨some d,.binOp .add t x y u,ty,pos,aN,none⟩::rest)) e R H:=
 pS hd (fun a w f=>by simp[execOp,f.ev hx,f.ev hy,eqGuard,binOp,Op.intArith,hw]) k
def aCf(hw:kd.wrap (i - j)=c):bY P N w0 e R H ⟨some d,.binOp .sub t x y u,ty,pos,aN,none⟩ (.int kd c):=jF (fun a w f=>by simp[execOp,f.ev hx,f.ev hy,eqGuard,binOp,Op.intArith,hw])
def aCW(hw:kd.wrap (i - j)=c)(hd:d < N.n)(k:XK N w0 (wpList P ops Q rest) ((d,.int kd c)::e) R H):XK N w0 (wpList P ops Q (⟨some d,.binOp .sub t x y u,ty,pos,aN,none⟩::rest)) e R H:=
 pS hd (fun a w f=>by simp[execOp,f.ev hx,f.ev hy,eqGuard,binOp,Op.intArith,hw]) k
def aUo(hw:kd.wrap (i*j)=c):bY P N w0 e R H ⟨some d,.binOp .mul t x y u,ty,pos,aN,none⟩ (.int kd c):=jF (fun a w f=>by simp[execOp,f.ev hx,f.ev hy,eqGuard,binOp,Op.intArith,hw])
def aMH(hw:kd.wrap (i*j)=c)(hd:d < N.n)(k:XK N w0 (wpList P ops Q rest) ((d,.int kd c)::e) R H):XK N w0 (wpList P ops Q (⟨some d,.binOp .mul t x y u,ty,pos,aN,none⟩::rest)) e R H:=
 pS hd (fun a w f=>by simp[execOp,f.ev hx,f.ev hy,eqGuard,binOp,Op.intArith,hw]) k
def aKd(h:j≠0)(hw:kd.wrap (i.tdiv j)=c):bY P N w0 e R H ⟨some d,.binOp .quo t x y u,ty,pos,aN,none⟩ (.int kd c):=jF (fun a w f=>by simp[execOp,f.ev hx,f.ev hy,eqGuard,binOp,Op.intDiv,h,hw])
def aG1(h:j≠0)(hw:kd.wrap (i.tdiv j)=c)(hd:d < N.n)(k:XK N w0 (wpList P ops Q rest) ((d,.int kd c)::e) R H):XK N w0 (wpList P ops Q (⟨some d,.binOp .quo t x y u,ty,pos,aN,none⟩::rest)) e R H:=
 pS hd (fun a w f=>by simp[execOp,f.ev hx,f.ev hy,eqGuard,binOp,Op.intDiv,h,hw]) k
def aKc(h:j≠0)(hw:i.tmod j=c):bY P N w0 e R H ⟨some d,.binOp .rem t x y u,ty,pos,aN,none⟩ (.int kd c):=jF (fun a w f=>by simp[execOp,f.ev hx,f.ev hy,eqGuard,binOp,Op.intDiv,h,hw])
def aFq{op:BinOp}(ho:∀w,(Op.intBits op kd i j).run P w=.ok (.int kd c) w)(f:op=.and\/op=.or\/op=.xor\/op=.andNot):bY P N w0 e R H ⟨some d,.binOp op t x y u,ty,pos,aN,none⟩ (.int kd c):=jF (fun a w h=>by rcases f with rfl | rfl | rfl | rfl<;>simp[execOp,h.ev hx,h.ev hy,eqGuard,binOp,ho])
def Xn{op:BinOp}(ho:∀w,(Op.intBits op kd i j).run P w=.ok (.int kd c) w)(f:op=.and\/op=.or\/op=.xor\/op=.andNot)(hd:d < N.n)(k:XK N w0 (wpList P ops Q rest) ((d,.int kd c)::e) R H):XK N w0 (wpList P ops Q (⟨some d,.binOp op t x y u,ty,pos,aN,none⟩::rest)) e R H:=
 pS hd (fun a w h=>by rcases f with rfl | rfl | rfl | rfl<;>simp[execOp,h.ev hx,h.ev hy,eqGuard,binOp,ho]) k
def aUp:bY P N w0 e R H ⟨some d,.binOp .lss t x y u,ty,pos,aN,none⟩ (.bool (decide (i < j))):=jF (fun a w c=>by simp[execOp,c.ev hx,c.ev hy,eqGuard,binOp,Op.intCmp])
def aG3(hd:d < N.n)(k:XK N w0 (wpList P ops Q rest) ((d,.bool (decide (i < j)))::e) R H):XK N w0 (wpList P ops Q (⟨some d,.binOp .lss t x y u,ty,pos,aN,none⟩::rest)) e R H:=
 pS hd (fun a w c=>by simp[execOp,c.ev hx,c.ev hy,eqGuard,binOp,Op.intCmp]) k
def aKf:bY P N w0 e R H ⟨some d,.binOp .leq t x y u,ty,pos,aN,none⟩ (.bool (decide (i<=j))):=jF (fun a w c=>by simp[execOp,c.ev hx,c.ev hy,eqGuard,binOp,Op.intCmp])
def aUu:bY P N w0 e R H ⟨some d,.binOp .gtr t x y u,ty,pos,aN,none⟩ (.bool (decide (j < i))):=jF (fun a w c=>by simp[execOp,c.ev hx,c.ev hy,eqGuard,binOp,Op.intCmp])
def aUv:bY P N w0 e R H ⟨some d,.binOp .geq t x y u,ty,pos,aN,none⟩ (.bool (decide (j<=i))):=jF (fun a w c=>by simp[execOp,c.ev hx,c.ev hy,eqGuard,binOp,Op.intCmp])
def aMR(hd:d < N.n)(k:XK N w0 (wpList P ops Q rest) ((d,.bool (decide (j<=i)))::e) R H):XK N w0 (wpList P ops Q (⟨some d,.binOp .geq t x y u,ty,pos,aN,none⟩::rest)) e R H:=
 pS hd (fun a w c=>by simp[execOp,c.ev hx,c.ev hy,eqGuard,binOp,Op.intCmp]) k
def aUy:bY P N w0 e R H ⟨some d,.binOp .eql t x y u,ty,pos,aN,none⟩ (.bool (decide (i=j))):=jF (fun a w c=>by
  have f:(i==j)=decide (i=j):=by by_cases h:i=j<;>simp[h]
  simp[execOp,c.ev hx,c.ev hy,eqGuard,binOp,Op.intCmp,f])
def aG6(hd:d < N.n)(k:XK N w0 (wpList P ops Q rest) ((d,.bool (decide (i=j)))::e) R H):XK N w0 (wpList P ops Q (⟨some d,.binOp .eql t x y u,ty,pos,aN,none⟩::rest)) e R H:=
 pS hd (fun a w c=>by
  have f:(i==j)=decide (i=j):=by by_cases h:i=j<;>simp[h]
  simp[execOp,c.ev hx,c.ev hy,eqGuard,binOp,Op.intCmp,f]) k
def aUm:bY P N w0 e R H ⟨some d,.binOp .neq t x y u,ty,pos,aN,none⟩ (.bool (decide (¬i=j))):=jF (fun a w c=>by
  have f:(i !=j)=decide (¬i=j):=by by_cases h:i=j<;>simp[h]
  simp[execOp,c.ev hx,c.ev hy,eqGuard,binOp,Op.intCmp,f])
def aDa(hd:d < N.n)(k:XK N w0 (wpList P ops Q rest) ((d,.bool (decide (¬i=j)))::e) R H):XK N w0 (wpList P ops Q (⟨some d,.binOp .neq t x y u,ty,pos,aN,none⟩::rest)) e R H:=
 pS hd (fun a w c=>by
  have f:(i !=j)=decide (¬i=j):=by by_cases h:i=j<;>simp[h]
  simp[execOp,c.ev hx,c.ev hy,eqGuard,binOp,Op.intCmp,f]) k
end
section
variable{kd tD:IntKind}{j:Int}(hx:e.ev x=some (.int kd i))(hy:e.ev y=some (.int tD j))
include hx hy
def aUe(h:0<=j)(hw:kd.wrap (i*2 ^ min j.toNat kd.bits)=c):bY P N w0 e R H ⟨some d,.binOp .shl t x y u,ty,pos,aN,none⟩ (.int kd c):=jF (fun a w f=>by simp[execOp,f.ev hx,f.ev hy,eqGuard,binOp,Op.shift,show ¬j < 0 by omega,hw])
def Sh(h:0<=j)(hw:kd.wrap (i*2 ^ min j.toNat kd.bits)=c)(hd:d < N.n)(k:XK N w0 (wpList P ops Q rest) ((d,.int kd c)::e) R H):XK N w0 (wpList P ops Q (⟨some d,.binOp .shl t x y u,ty,pos,aN,none⟩::rest)) e R H:=
 pS hd (fun a w f=>by simp[execOp,f.ev hx,f.ev hy,eqGuard,binOp,Op.shift,show ¬j < 0 by omega,hw]) k
def aKb(h:0<=j)(hw:i.fdiv (2 ^ min j.toNat kd.bits)=c):bY P N w0 e R H ⟨some d,.binOp .shr t x y u,ty,pos,aN,none⟩ (.int kd c):=jF (fun a w f=>by simp[execOp,f.ev hx,f.ev hy,eqGuard,binOp,Op.shift,show ¬j < 0 by omega,hw])
def aMF(h:0<=j)(hw:i.fdiv (2 ^ min j.toNat kd.bits)=c)(hd:d < N.n)(k:XK N w0 (wpList P ops Q rest) ((d,.int kd c)::e) R H):XK N w0 (wpList P ops Q (⟨some d,.binOp .shr t x y u,ty,pos,aN,none⟩::rest)) e R H:=
 pS hd (fun a w f=>by simp[execOp,f.ev hx,f.ev hy,eqGuard,binOp,Op.shift,show ¬j < 0 by omega,hw]) k
end
def Nt{x:Operand}{kd f:IntKind}{i c:Int}{src dst:TypeId}{ds:TypeDesc}(hs:P.underlying src=some ds)(j:P.underlying dst=some (.int kd))(hx:e.ev x=some (.int f i))(hw:kd.wrap i=c):bY P N w0 e R H ⟨some d,.convert src dst x,ty,pos,aN,none⟩ (.int kd c):=jF (fun a w h=>by
  simp only[execOp,h.ev hx,convert,Sem.run_bind,run_underlying hs,run_underlying j,Result.andThen_ok]
  cases ds<;>simp[Conv.intToInt,hw])
def Gz{x:Operand}{kd f:IntKind}{i c:Int}{src dst:TypeId}{ds:TypeDesc}(hs:P.underlying src=some ds)(j:P.underlying dst=some (.int kd))(hx:e.ev x=some (.int f i))(hw:kd.wrap i=c)(hd:d < N.n)
  (k:XK N w0 (wpList P ops Q rest) ((d,.int kd c)::e) R H):XK N w0 (wpList P ops Q (⟨some d,.convert src dst x,ty,pos,aN,none⟩::rest)) e R H:=
 pS hd (fun a w h=>by
  simp only[execOp,h.ev hx,convert,Sem.run_bind,run_underlying hs,run_underlying j,Result.andThen_ok]
  cases ds<;>simp[Conv.intToInt,hw]) k
def Ra{x:Operand}{vs:Array Value}{i:Nat}{v:Value}(hx:e.ev x=some (.tuple vs))(hi:vs[i]? =some v):bY P N w0 e R H ⟨some d,.extract x i,ty,pos,aN,none⟩ (v):=jF (fun a w c=>by simp[execOp,c.ev hx,Instr.extract,hi])
def aAF{x:Operand}{vs:Array Value}{i:Nat}{v:Value}(hx:e.ev x=some (.tuple vs))(hi:vs[i]? =some v)(hd:d < N.n)(k:XK N w0 (wpList P ops Q rest) ((d,v)::e) R H):XK N w0 (wpList P ops Q (⟨some d,.extract x i,ty,pos,aN,none⟩::rest)) e R H:=
 pS hd (fun a w c=>by simp[execOp,c.ev hx,Instr.extract,hi]) k
def Env.aM(e:Env):List Operand->Option (List Value)
 | []=>some []
 | x::xs=>match e.ev x,e.aM xs with
  | some v,some vs=>some (v::vs)
  | _,_=>none
def eT.aM{a:Act}(h:eT N e a):∀{xs:List Operand} {vs:List Value},e.aM xs=some vs->xs.map a.eval=vs
 | [],vs,hx=>by cases hx;rfl
 | x :: xs, vs, hx => by
  unfold Env.aM at hx;split at hx
  .rename_i v r d c
   cases hx;rw[vJ,h.ev d,h.aM c]
  .cases hx
def aKi{fn:Fn}{first c:List Operand}{vf vc:List Value}(h:e.aM first=some vf)(i:e.aM c=some vc):bY P N w0 e R H ⟨some d,.makeFunc fn first.toArray c.toArray,ty,pos,aN,none⟩ (.func fn vf.toArray vc.toArray):=jF (fun a w f=>by simp[execOp,Instr.makeFunc,f.aM h,f.aM i])
def lH{fn:Fn}{first c:List Operand}{vf vc:List Value}(h:e.aM first=some vf)(i:e.aM c=some vc)(hd:d < N.n)(k:XK N w0 (wpList P ops Q rest) ((d,.func fn vf.toArray vc.toArray)::e) R H):
  XK N w0 (wpList P ops Q (⟨some d,.makeFunc fn first.toArray c.toArray,ty,pos,aN,none⟩::rest)) e R H:=
 pS hd (fun a w f=>by simp[execOp,Instr.makeFunc,f.aM h,f.aM i]) k
def Qz{x:Operand}{t el:TypeId}{A:Option Addr}{n c:Nat}(h:P.underlying t=some (.slice el))(hx:e.ev x=some (.slice A n c)):bY P N w0 e R H ⟨some d,.call {callee:=.builtin .len,args:=#[x],argTypes:=#[t]},ty,pos,aN,none⟩ (.int .i64 n):=jF (fun a w f=>by simp[execOp,resolve,invoke,builtin,f.ev hx,Builtin.len_,run_underlying h,goInt])
def Ou{x:Operand}{t el:TypeId}{A:Option Addr}{n c:Nat}(h:P.underlying t=some (.slice el))(hx:e.ev x=some (.slice A n c))(hd:d < N.n)(k:XK N w0 (wpList P ops Q rest) ((d,.int .i64 n)::e) R H):
  XK N w0 (wpList P ops Q (⟨some d,.call {callee:=.builtin .len,args:=#[x],argTypes:=#[t]},ty,pos,aN,none⟩::rest)) e R H:=
 pS hd (fun a w f=>by simp[execOp,resolve,invoke,builtin,f.ev hx,Builtin.len_,run_underlying h,goInt]) k
def aFr(i o:Nat){x l:Operand}{t el:TypeId}{b off n c sz:Nat}{kd:IntKind}{j:Int}(m:P.underlying t=some (.slice el))(hs:(P.info? el).map (·.size)=some sz)(hx:e.ev x=some (.slice (some ⟨b,off,none⟩) n c))(hi:e.ev l=some (.int kd j))(hj:j=(i:Int))(hlt:i < n)(ho:off+i*sz=o):bY P N w0 e R H ⟨some d,.indexAddr t x l,ty,pos,aN,none⟩ (.pointer (some ⟨b,o,none⟩)):=jF (fun a w k=>by
  subst hj;subst ho;obtain⟨r,h,p⟩:=kS.1 hs
  have f:(⟨b,off,none⟩:Addr).add (i*sz)=⟨b,off+i*sz,none⟩:=by unfold Addr.add;split<;>simp_all
  simp[execOp,k.ev hx,k.ev hi,Instr.indexAt,asIntOf,run_underlying m,sizeOf,typeInfo,h,p,hlt,f])
def aMU(i o:Nat){x m:Operand}{t el:TypeId}{b off n c sz:Nat}{kd:IntKind}{j:Int}(p:P.underlying t=some (.slice el))(hs:(P.info? el).map (·.size)=some sz)(hx:e.ev x=some (.slice (some ⟨b,off,none⟩) n c))(hi:e.ev m=some (.int kd j))(hj:j=(i:Int))(hlt:i < n)(ho:off+i*sz=o)(hd:d < N.n)
  (k:XK N w0 (wpList P ops Q rest) ((d,.pointer (some ⟨b,o,none⟩))::e) R H):XK N w0 (wpList P ops Q (⟨some d,.indexAddr t x m,ty,pos,aN,none⟩::rest)) e R H:=
 pS hd (fun a w l=>by
  subst hj;subst ho;obtain⟨y,h,r⟩:=kS.1 hs
  have f:(⟨b,off,none⟩:Addr).add (i*sz)=⟨b,off+i*sz,none⟩:=by unfold Addr.add;split<;>simp_all
  simp[execOp,l.ev hx,l.ev hi,Instr.indexAt,asIntOf,run_underlying p,sizeOf,typeInfo,h,r,hlt,f]) k
def aU2(i o:Nat){x k:Operand}{t el:TypeId}{b off n sz:Nat}{kd:IntKind}{j:Int}(l:P.underlying t=some (.array n el))(hs:(P.info? el).map (·.size)=some sz)(hx:e.ev x=some (.pointer (some ⟨b,off,none⟩)))(hi:e.ev k=some (.int kd j))(hj:j=(i:Int))(hlt:i < n)(ho:off+i*sz=o):bY P N w0 e R H ⟨some d,.indexAddr t x k,ty,pos,aN,none⟩ (.pointer (some ⟨b,o,none⟩)):=jF (fun a w h=>by
  subst hj;subst ho;obtain⟨p,f,m⟩:=kS.1 hs
  have c:(⟨b,off,none⟩:Addr).add (i*sz)=⟨b,off+i*sz,none⟩:=by unfold Addr.add;split<;>simp_all
  simp[execOp,h.ev hx,h.ev hi,Instr.indexAt,asIntOf,run_underlying l,sizeOf,typeInfo,f,m,hlt,c,Instr.sureAddr])
def Xo(i o:Nat){x l:Operand}{t el:TypeId}{b off n sz:Nat}{kd:IntKind}{j:Int}(m:P.underlying t=some (.array n el))(hs:(P.info? el).map (·.size)=some sz)(hx:e.ev x=some (.pointer (some ⟨b,off,none⟩)))(hi:e.ev l=some (.int kd j))(hj:j=(i:Int))(hlt:i < n)(ho:off+i*sz=o)(hd:d < N.n)
  (k:XK N w0 (wpList P ops Q rest) ((d,.pointer (some ⟨b,o,none⟩))::e) R H):XK N w0 (wpList P ops Q (⟨some d,.indexAddr t x l,ty,pos,aN,none⟩::rest)) e R H:=
 pS hd (fun a w h=>by
  subst hj;subst ho;obtain⟨r,f,p⟩:=kS.1 hs
  have c:(⟨b,off,none⟩:Addr).add (i*sz)=⟨b,off+i*sz,none⟩:=by unfold Addr.add;split<;>simp_all
  simp[execOp,h.ev hx,h.ev hi,Instr.indexAt,asIntOf,run_underlying m,sizeOf,typeInfo,f,p,hlt,c,Instr.sureAddr]) k
def aU0(i:Nat){x c:Operand}{t:TypeId}{s:ByteArray}{kd:IntKind}{j:Int}{b:UInt8}(h:P.underlying t=some .string)(hx:e.ev x=some (.string s))(hi:e.ev c=some (.int kd j))(hj:j=(i:Int))(k:s[i]? =some b):bY P N w0 e R H ⟨some d,.index t x c,ty,pos,aN,none⟩ (.int .u8 b.toNat):=jF (fun a w f=>by
  subst hj
  simp[execOp,f.ev hx,f.ev hi,Instr.index,asIntOf,run_underlying h,k])
def Il{x:Operand}{s:TypeId}{f off b o:Nat}(ho:Zy P s f=some off)(hx:e.ev x=some (.pointer (some ⟨b,o,none⟩))):bY P N w0 e R H ⟨some d,.fieldAddr s x f,ty,pos,aN,none⟩ (.pointer (some ⟨b,o+off,none⟩)):=jF (fun a w m=>by
  have c:(⟨b,o,none⟩:Addr).add off=⟨b,o+off,none⟩:=by unfold Addr.add;split<;>simp_all
  unfold Zy at ho;split at ho
  .rename_i p k
   split at ho
   .rename_i n j
    split at ho
    .rename_i i h
     split at ho
     .cases ho
     .rename_i l
      cases ho;simp[execOp,m.ev hx,Instr.fieldAt,run_underlying k,j,Instr.sureAddr,fieldPlace,sizeOf,typeInfo,h,l,c]
    .cases ho
   .cases ho
  .cases ho)
def Ma{x:Operand}{s:TypeId}{f off b o:Nat}(ho:Zy P s f=some off)(hx:e.ev x=some (.pointer (some ⟨b,o,none⟩)))(hd:d < N.n)
  (k:XK N w0 (wpList P ops Q rest) ((d,.pointer (some ⟨b,o+off,none⟩))::e) R H):XK N w0 (wpList P ops Q (⟨some d,.fieldAddr s x f,ty,pos,aN,none⟩::rest)) e R H:=
 pS hd (fun a w h => by
  have c:(⟨b,o,none⟩:Addr).add off=⟨b,o+off,none⟩:=by unfold Addr.add;split<;>simp_all
  unfold Zy at ho;split at ho
  .rename_i t m
   split at ho
   .rename_i r l
    split at ho
    .rename_i i j
     split at ho
     .cases ho
     .rename_i p
      cases ho;simp[execOp,h.ev hx,Instr.fieldAt,run_underlying m,l,Instr.sureAddr,fieldPlace,sizeOf,typeInfo,j,p,c]
    .cases ho
   .cases ho
  .cases ho) k
section
variable{id id':Nat}
def iU(h:XK N w0 K e R H):XK N w0 (Exit.then K Q .normal) e R H:=h
def aC6(h:XK N w0 (Q (.exit id)) e R H):XK N w0 (Exit.then K Q (.exit id)) e R H:=h
def aC5(h:XK N w0 (Q .ret) e R H):XK N w0 (Exit.then K Q .ret) e R H:=h
def aCC(h:XK N w0 (Q .normal) e R H):XK N w0 (Exit.inBlock id Q .normal) e R H:=h
def aCB(h:XK N w0 (Q .ret) e R H):XK N w0 (Exit.inBlock id Q .ret) e R H:=h
def aCE(h:XK N w0 (Q .normal) e R H):XK N w0 (Exit.inBlock id Q (.exit id)) e R H:=fun a w c st=>by
 show if id=id then Q .normal a w else _
 rw[aH rfl];exact h a w c st
def aCD(c:Nat.beq id' id=false)(h:XK N w0 (Q (.exit id')) e R H):XK N w0 (Exit.inBlock id Q (.exit id')) e R H:=fun a w d st=>by
 show if id'=id then _ else Q (.exit id') a w
 rw[aC (fun f=>by rw[f,Nat.beq_refl] at c;cases c)];exact h a w d st
end
def aO(p:Piece)(sz:Nat)(A:Option Addr)(n:Nat)(xs:List Value):Prop:=
 xs.length=n*sz/\(0 < n->∃b off,A=some ⟨b,off,none⟩/\p.Z b/\∀j u,xs[j]? =some u->p.w.cell? ⟨b,off+j,none⟩=some u)
def aO.le{p q:Piece}{sz n:Nat}{A:Option Addr}{xs:List Value}(h:aO p sz A n xs)(hl:p.Le q):aO q sz A n xs:=
 ⟨h.1,fun f=>by
  obtain⟨b,off,i,c,d⟩:=h.2 f
  exact⟨b,off,i,(hl b c).1,fun j u e=>(World.cell?_of_block (w:=p.w) (a:=⟨b,off+j,none⟩) (hl b c).2).trans (d j u e)⟩⟩
def aO.nil(p:Piece)(sz:Nat):aO p sz none 0 []:=⟨aB,fun h=>absurd h aA⟩
def aO.sl{p:Piece}{w:World}{sz n:Nat}{A:Option Addr}{xs:List Value}(h:aO p sz A n xs)(hl:p.Le (all w)):Sl w w.heap.size sz A n xs:=by
 obtain⟨e,d⟩:=h.le hl;exact⟨e,fun f=>by obtain⟨b,off,j,i,c⟩:=d f;exact⟨b,off,j,i,c⟩⟩
def aLV{w:World}{sz n:Nat}{A:Option Addr}{xs:List Value}(h:Sl w w.heap.size sz A n xs):aO (all w) sz A n xs:=
 ⟨h.1,fun d=>by obtain⟨b,off,f,e,c⟩:=h.2 d;exact⟨b,off,f,e,c⟩⟩
def aO.at_{p:Piece}{sz n:Nat}{A:Option Addr}{xs:List Value}(h:aO p sz A n xs){k:Nat}(hk:k < n):∃b off,A=some ⟨b,off,none⟩/\p.Z b/\∀f u,xs[k*sz+f]? =some u->p.w.cell? ⟨b,off+k*sz+f,none⟩=some u:=by
 obtain⟨b,off,e,i,c⟩:=h.2 aA;exact⟨b,off,e,i,fun f u d=>by rw[wT];exact c _ u d⟩
def Em{Y:Nat->Prop}{w:World}{F:Nat->Prop}{e:TypeId}{sz n:Nat}{v:Value}{xs:List Value}(h:(HP.own e sz v n xs).sat F w)(hF:∀b,F b->Y b):∃A c,v=.slice A n c/\aO ⟨w,Y⟩ sz A n xs:=by
 obtain⟨i,d⟩:=h;rcases d.2 with⟨rfl,l⟩ | ⟨g,f,m,rfl,_⟩
 .exact⟨none,0,by rw[l],d.1,fun h=>absurd h aA⟩
 .refine⟨_,_,rfl,d.1,fun _=>⟨g,0,rfl,hF g (i g rfl),fun j u k=>?_⟩⟩
  have:=d.cells (g:=g) rfl j u k
  rw[Addr.add_mid] at this;exact this
def uH{Y:Nat->Prop}{w:World}{F:Nat->Prop}{t:TypeId}{g sz n c:Nat}{xs:List Value}(h:(HP.aK g t xs).sat F w)(hF:∀b,F b->Y b)(i:xs.length=n*sz):aO ⟨w,Y⟩ sz (some ⟨g,0,none⟩) n xs:=by
 obtain⟨d,e⟩:=h;refine⟨i,fun _=>⟨g,0,rfl,hF g d,fun j u f=>?_⟩⟩;rw[mA,e.cell]
 simpa using f
def aO.own{q:Piece}{e:TypeId}{sz n c:Nat}{A:Option Addr}{xs:List Value}(h:∃F,(HP.own e sz (.slice A n c) n xs).sat F q.w/\∀b,F b->q.Z b):aO q sz A n xs:=by
 obtain⟨F,i,f⟩:=h;obtain⟨k,l,d,j⟩:=Em (Y:=q.Z) (w:=q.w) i f
 injection d with d
 subst d;exact j
def tC(P:Program)(t:TypeId):Bool:=match P.underlying t with
 | some (.struct _) | some (.array _ _)=>false
 | some _=>(P.info? t).any (·.size==1)
 | none=>false
def Fa(P:Program)(t:TypeId)(n:Nat):Bool:=match P.underlying t with
 | some (.struct _) | some (.array _ _)=>(P.info? t).any (·.size==n)
 | _=>false
def Gw(P:Program)(t:TypeId)(cs:List Value):Prop:=∃i z,P.info? t=some i/\i.zero=some z/\z.cells.toList=cs
def fW(P:Program)(f:FuncId):Bool:=(P.funcs[f]?).any fun fn=>fn.name != "runtime.NumGoroutine" &&fn.body.isSome
def Xv{P:Program}{w:World}{t:TypeId}{b o:Nat}{v:Value}(h:tC P t=true)(e:w.cell? ⟨b,o,none⟩=some v):(Instr.loadAt t (.pointer (some ⟨b,o,none⟩))).run P w=.ok v w:=by
 unfold tC at h;split at h
 .cases h
 .cases h
 .rename_i d f j i
  have c:(isAgg t).run P w=.ok false w:=by
   unfold isAgg;rw[Sem.run_bind,run_underlying i];cases d<;>first | rfl | exact(f _ rfl).elim | exact(j _ _ rfl).elim
  simp[Instr.loadAt,Instr.sureAddr,loadVar,Sem.run_bind,c,run_load,e]
 .cases h
def Te{P:Program}{w:World}{t:TypeId}{b o n:Nat}{vs:List Value}(h:Fa P t n=true)(f:vs.length=n)(d:w.rangeAt b o vs):(Instr.loadAt t (.pointer (some ⟨b,o,none⟩))).run P w=.ok (.agg vs.toArray) w:=by
 subst f;unfold Fa at h
 have e:∀(x:Option TypeInfo),x.any (·.size==vs.length)=true->x.map (·.size)=some vs.length:=by intro x i;cases x<;>simp_all
 split at h
 .rename_i c;exact run_loadAt_mid w b o t vs _ d c rfl (e _ h)
 .rename_i c;exact run_loadAt_mid w b o t vs _ d c rfl (e _ h)
 .cases h
def jR(cs:List Value)(o:Nat)(vs:List Value):List Value:=cs.take o++vs++cs.drop (o+vs.length)
def Yk{cs vs:List Value}(h:vs.length=cs.length):jR cs 0 vs=vs:=by simp[jR,h]
def aPN{cs:List Value}{o:Nat}{v:Value}(h:o < cs.length):jR cs o [v]=cs.set o v:=by
 unfold jR;rw[aDM,aH h];simp
def aOC{P:Program}{w:World}{t ty:TypeId}{g o:Nat}{cs:List Value}{v:Value}(h:vE w g t cs.toArray)(hi:(P.info? ty).any (·.size==v.cells.size)=true)(d:∀u∈v.cells.toList,u.oneCell'=true)(hl:o+v.cells.size<=cs.length):
  (Instr.storeAt ty (.pointer (some ⟨g,o,none⟩)) v).run P w=.ok () (w.setRow g (jR cs o v.cells.toList).toArray):=by
 have e:=run_storeCells_at P g o t v.cells.toList 0 cs.toArray w h (by simpa using hl) d
 cases c:P.info? ty with
 | none=>simp[c] at hi
 | some i=>
  have f:i.size=v.cells.size:=by simpa[c] using hi
  simp[Instr.storeAt,Instr.sureAddr,storeVar,sizeOf,typeInfo,c,f,e,jR]
def setRow_size(w:World)(g:Nat)(c:Array Value):(w.setRow g c).heap.size=w.heap.size:=by simp[World.setRow]
def setRow_other(w:World)(g:Nat)(c:Array Value)(b:Nat)(h:b≠g):(w.setRow g c).heap[b]? =w.heap[b]? :=by simp[World.setRow,Array.getElem?_modify,fN h]
def Rd(w0:World)(R:List Piece)(H:List HP)(b o:Nat)(v:Value):Prop:=∀w,St w0 R H w->w.cell? ⟨b,o,none⟩=some v
def cI(w0:World)(R:List Piece)(H:List HP)(b o:Nat)(vs:List Value):Prop:=∀w,St w0 R H w->w.rangeAt b o vs
def Rd.aK(i:Nat){b o:Nat}{t:TypeId}{cs:List Value}{v:Value}(hi:H[i]? =some (HP.aK b t cs))(c:cs[o]? =some v):Rd w0 R H b o v:=fun w st=>by
 rw[(st.aK hi).cell];simpa using c
def Rd.own(i:Nat){b o n c sz:Nat}{t:TypeId}{xs:List Value}{v:Value}(hi:H[i]? =some (HP.own t sz (.slice (some ⟨b,0,none⟩) n c) n xs))(d:xs[o]? =some v):Rd w0 R H b o v:=fun w st=>by
 have:=(st.own hi).cells (g:=b) rfl o v d
 rw[Addr.add_mid,mA] at this;exact this
def Rd.ro{p:Piece}{b o:Nat}{v:Value}(hp:p∈R)(c:p.Z b)(d:p.w.cell? ⟨b,o,none⟩=some v):Rd w0 R H b o v:=fun w st=>(st.aPt hp c).trans d
def cI.of{b o:Nat}{vs:List Value}(h:∀j v,vs[j]? =some v->Rd w0 R H b (o+j) v):cI w0 R H b o vs:=fun w st j v c=>h j v c w st
def cI.aK(i:Nat){b o:Nat}{t:TypeId}{cs vs:List Value}(hi:H[i]? =some (HP.aK b t cs))(c:∀j v,vs[j]? =some v->cs[o+j]? =some v):cI w0 R H b o vs:=.of fun j v h=>.aK i hi (c j v h)
def cI.whole(i:Nat){b:Nat}{t:TypeId}{cs:List Value}(hi:H[i]? =some (HP.aK b t cs)):cI w0 R H b 0 cs:=.aK i hi (fun j v h=>by rw[mA];exact h)
def Jh{x:Operand}{t:TypeId}{b o:Nat}{v:Value}(h:tC P t=true)(hx:e.ev x=some (.pointer (some ⟨b,o,none⟩)))(f:Rd w0 R H b o v)(hd:d < N.n)(k:XK N w0 (wpList P ops Q rest) ((d,v)::e) R H):
  XK N w0 (wpList P ops Q (⟨some d,.load t x,ty,pos,aN,none⟩::rest)) e R H:=
 vF rfl fun a w c st=>⟨v,w,by simp[execOp,c.ev hx,Xv h (f w st)],k _ _ (c.put hd v) st⟩
def Gy(n:Nat){x:Operand}{t:TypeId}{b o:Nat}{vs:List Value}(i:Fa P t n=true)(hx:e.ev x=some (.pointer (some ⟨b,o,none⟩)))(f:cI w0 R H b o vs)(h:vs.length=n)(hd:d < N.n)(k:XK N w0 (wpList P ops Q rest) ((d,.agg vs.toArray)::e) R H):
  XK N w0 (wpList P ops Q (⟨some d,.load t x,ty,pos,aN,none⟩::rest)) e R H:=
 vF rfl fun a w c st=>⟨_,w,by simp[execOp,c.ev hx,Te i h (f w st)],k _ _ (c.put hd _) st⟩
def aJy(w:World)(t:TypeId)(cs:List Value):(HP.aK w.heap.size t cs).sat (fresh w (w.alloc (.cells cs.toArray t))).Z (w.alloc (.cells cs.toArray t)):=⟨⟨gE _,aB⟩,vE.new w t cs.toArray⟩
def Wf(w:World)(o:Obj):Below w.heap.size w (w.alloc o):=(Below.refl _ _).alloc (gE _) o
def Xi{o:Oper}(hg:o.guard=none){t:TypeId}{cs:List Value}{val:Nat->Value}(f:o.dst=some d)(hd:d < N.n)
  (c:∀a w,eT N e a->St w0 R H w->(execOp a.eval o).run P w=.ok (.value (val w.heap.size)) (w.alloc (.cells cs.toArray t)))
  (k:∀g,XK N w0 (wpList P ops Q rest) ((d,val g)::e) R (HP.aK g t cs::H)):XK N w0 (wpList P ops Q (o::rest)) e R H:=
 vF hg fun a w h st=>⟨_,_,c a w h st,by
  rw[f]
  exact k w.heap.size _ _ (h.put hd _) (st.new (Wf w _) (aJy w t cs))⟩
def aGA{t:TypeId}{cs:List Value}(f:Gw P t cs)(hd:d < N.n)(k:∀g,XK N w0 (wpList P ops Q rest) ((d,.pointer (some ⟨g,0,none⟩))::e) R (HP.aK g t cs::H)):
  XK N w0 (wpList P ops Q (⟨some d,.alloc t,ty,pos,aN,none⟩::rest)) e R H:=
 Xi (val:=fun g=>.pointer (some ⟨g,0,none⟩)) rfl rfl hd (fun a w j st=>by
  obtain⟨i,z,c,h,rfl⟩:=f
  simp[execOp,Instr.alloc,zeroValue,typeInfo,c,h,newVar,newRow]) k
def aMT{x:Operand}{v:Value}{t:TypeId}(hx:e.ev x=some v)(hd:d < N.n)(k:∀g,XK N w0 (wpList P ops Q rest) ((d,.pointer (some ⟨g,0,none⟩))::e) R (HP.aK g t v.cells.toList::H)):
  XK N w0 (wpList P ops Q (⟨some d,.box t x,ty,pos,aN,none⟩::rest)) e R H:=
 Xi (val:=fun g=>.pointer (some ⟨g,0,none⟩)) rfl rfl hd (fun a w c st=>by simp[execOp,c.ev hx,Instr.box,newVar,newRow]) k
def Env.parts(e:Env):List (Nat×Operand)->Option (List (Nat×Value))
 | []=>some []
 | (i,x)::xs=>match e.ev x,e.parts xs with
  | some v,some vs=>some ((i,v)::vs)
  | _,_=>none
def eT.parts{a:Act}(h:eT N e a):∀{xs:List (Nat×Operand)} {vs:List (Nat×Value)},e.parts xs=some vs->xs.map (fun(i,x)=>(i,a.eval x))=vs
 | [],vs,hx=>by cases hx;rfl
 | (i, x) :: xs, vs, hx => by
  unfold Env.parts at hx;split at hx
  .rename_i v r d c
   cases hx;rw[vJ,h.parts c];simp[h.ev d]
  .cases hx
def aG9{t el:TypeId}{n:Nat}{ps:List (Nat×Operand)}{vs:List (Nat×Value)}{cs:List Value}(hp:e.parts ps=some vs)(f:∀w,(Instr.buildSlice t n vs.toArray).run P w=.ok (.slice (some ⟨w.heap.size,0,none⟩) n n) (w.alloc (.cells cs.toArray el)))(hd:d < N.n)
  (k:∀g,XK N w0 (wpList P ops Q rest) ((d,.slice (some ⟨g,0,none⟩) n n)::e) R (HP.aK g el cs::H)):XK N w0 (wpList P ops Q (⟨some d,.buildSlice t n ps.toArray,ty,pos,aN,none⟩::rest)) e R H:=
 Xi (val:=fun g=>.slice (some ⟨g,0,none⟩) n n) rfl rfl hd (fun a w c st=>by
  have:=c.parts hp
  simp only[execOp,List.map_toArray,this,Sem.run_bind,f,Result.andThen_ok,Sem.run_pure]) k
def qQ(cs:List Value)(o:Nat):List Value->List Value
 | []=>cs
 | v::vs=>qQ (cs.set o v) (o+1) vs
def aBB(P:Program)(t:TypeId):Option (List (Nat×Nat)):=match P.underlying t with
 | some (.struct fs)=>fs.toList.mapM fun f=>(P.info? f.type).map fun i=>(f.offset,i.size)
 | _=>none
def mR(L:List (Nat×Nat))(cs:List Value):List (Nat×Value)->Option (List Value)
 | []=>some cs
 | (i,v)::rest=>match L[i]? with
  | some (off,sz)=>if v.cells.size=sz/\off+sz<=cs.length then mR L (qQ cs off v.cells.toList) rest else none
  | none=>none
def aD4:∀(vs:List Value) (cs:List Value) (off k:Nat),(vs.zipIdx k).foldl (fun(a:Array Value) (x:Value×Nat)=>a.setIfInBounds (off+x.2) x.1) cs.toArray=(qQ cs (off+k) vs).toArray
 | [],cs,off,k=>rfl
 | v::vs,cs,off,k=>by
  rw[List.zipIdx_cons,pW,qQ,List.setIfInBounds_toArray,aD4 vs _ off (k+1)];rfl
def fill_eq(L:List (Nat×Nat))(d:Nat->Option (Nat×Nat))(hp:∀i,d i=L[i]?):∀(ps:List (Nat×Value)) (cs e:List Value),mR L cs ps=some e->Instr.fill d cs.toArray ps=some e.toArray
 | [],cs,e,h=>by cases h;rfl
 | (i, v) :: rest, cs, e, h => by
  unfold mR at h;unfold Instr.fill;rw[hp];split at h
  .rename_i off sz hL
   rw[hL];split at h
   .rename_i f
    have e1:(decide (v.cells.size≠sz)||decide (off+v.cells.size>cs.toArray.size))=false:=by simp;omega
    simp only[e1,Pt,if_false]
    have:=aD4 v.cells.toList cs off 0
    rw[show v.cells.zipIdx.foldl (fun cs (c,j)=>cs.setIfInBounds (off+j) c) cs.toArray=(qQ cs off v.cells.toList).toArray by
     rw[<-Array.foldl_toList,Array.toList_zipIdx];exact this]
    exact fill_eq L d hp rest _ e h
   .cases h
  .cases h
def aVN{t:TypeId}{vs:List (Nat×Value)}{zs cs:List Value}{L:List (Nat×Nat)}(C:Gw P t zs)(hL:aBB P t=some L)(hf:mR L zs vs=some cs):∀w,(Instr.build t vs.toArray).run P w=.ok (.agg cs.toArray) w:=fun w=>by
  obtain⟨i,z,y,m,rfl⟩:=C;unfold aBB at hL;split at hL
  .rename_i o B
   have e:∀(f:Field) (j:TypeInfo),P.info? f.type=some j->∀w,((fun f:Field=>Prod.mk f.offset <$>sizeOf f.type) f).run P w=.ok (f.offset,j.size) w:=by
    intro f j n w;simp[sizeOf,typeInfo,n]
   have p:∀(l:List Field) (L:List (Nat×Nat)),(l.mapM fun f=>(P.info? f.type).map fun i=>(f.offset,i.size))=some L->∀w,(l.mapM (fun f=>Prod.mk f.offset <$>sizeOf f.type)).run P w=.ok L w:=by
    intro l
    induction l with
    | nil=>intro L h w;simp at h;subst h;rfl
    | cons f l ih=>
     intro L h w;simp only[List.mapM_cons,Option.bind_eq_bind,aBm,Option.pure_def,tW,kS] at h;obtain⟨x,⟨j,n,rfl⟩,r,k,rfl⟩:=h;rw[List.mapM_cons];simp only[Sem.run_bind]
     have A:=e f j n w
     rw[A];simp only[Result.andThen_ok,ih r k w,Sem.run_pure]
   have d:(o.mapM (fun f=>Prod.mk f.offset <$>sizeOf f.type)).run P w=.ok L.toArray w:=by
    rw[Array.mapM_eq_mapM_toList];simp[p o.toList L hL w]
   have c:=fill_eq L (L.toArray[·]?) (fun i=>by rw[List.getElem?_toArray]) vs z.cells.toList cs hf
   simp at c;simp[Instr.build,zeroValue,typeInfo,y,m,run_underlying B,d,c]
  .cases hL
def Im{t:TypeId}{ps:List (Nat×Operand)}{vs:List (Nat×Value)}{zs cs:List Value}{L:List (Nat×Nat)}(f:Gw P t zs)(hL:aBB P t=some L)(hp:e.parts ps=some vs)(hf:mR L zs vs=some cs):bY P N w0 e R H ⟨some d,.build t ps.toArray,ty,pos,aN,none⟩ (.agg cs.toArray):=
 jF (fun a w c=>by
  have:=c.parts hp
  simp only[execOp,List.map_toArray,this,Sem.run_bind,aVN f hL hf,Result.andThen_ok,Sem.run_pure])
def aG0{t el : TypeId}{n sz : Nat}{ps : List (Nat × Operand)}{vs : List (Nat × Value)}{zs cs : List Value}(ht : P.underlying t = some (.slice el))(X : Gw P el zs)(B : (P.info? el).map (·.size) = some sz)(I : zs.length = sz)(l : 0 < n * sz)(Z : n * sz <= 16777216)(hp : e.parts ps = some vs)
  (hf:mR ((List.range n).map fun i=>(i*sz,sz)) ((List.range (n*sz)).map fun i=>zs.getD (i % sz) undef) vs=some cs) (hd:d < N.n)
  (k:∀g,XK N w0 (wpList P ops Q rest) ((d,.slice (some ⟨g,0,none⟩) n n)::e) R (HP.aK g el cs::H)):XK N w0 (wpList P ops Q (⟨some d,.buildSlice t n ps.toArray,ty,pos,aN,none⟩::rest)) e R H:=
 aG9 hp (fun w => by
  obtain⟨i,z,M,G,rfl⟩:=X
  have E:i.size=sz:=by simpa[M] using B
  have o : Instr.fill (fun i => some (i * sz, sz)) ((List.range (n * sz)).map fun i => z.cells.toList.getD (i % sz) undef).toArray vs = some cs.toArray := by
   have J : ∀ (ps : List (Nat × Value)) (c f : List Value), mR ((List.range n).map fun i => (i * sz, sz)) c ps = some f -> Instr.fill (fun i => some (i * sz, sz)) c.toArray ps = some f.toArray := by
    intro ps
    induction ps with
    | nil=>intro c f h;cases h;rfl
    | cons p ps ih =>
     intro c f h;obtain⟨i,v⟩:=p;unfold mR at h;split at h
     .rename_i off Y O
      split at h
      .rename_i C
       have K:off=i*sz/\Y=sz:=by
        rw[eO] at O;rcases kS.1 O with⟨q,x,V⟩
        have:q=i:=by
         rw[Hr] at x
         .cases x;rfl
         .rcases dI i n with h | h
          .exact h
          .rw[eW (by simpa using h)] at x;cases x
        subst this;cases V;exact⟨rfl,rfl⟩
       obtain⟨y,U⟩:=K;rw[y] at C h;rw[U] at C
       have:=fill_eq [(i*sz,sz)] (fun j=>if j=0 then some (i*sz,sz) else none) (fun j=>by cases j<;>simp) [(0,v)] c (qQ c (i*sz) v.cells.toList) (by
        unfold mR;simp only[List.getElem?_cons_zero];rw[aH C]
        rfl)
       unfold Instr.fill at this|-;simp only[if_true] at this|-;split
       .rename_i m;rw[aH m] at this;cases this
       .rename_i A
        rw[aC A] at this;unfold Instr.fill at this;rw[sJ this];exact ih _ f h
      .cases h
     .cases h
   exact J vs _ cs hf
  have r:z.cells.size=sz:=by simpa using I
  have y:(Array.range (n*i.size)).map (fun j=>z.cells[j % z.cells.size]!)=((List.range (n*sz)).map fun i=>z.cells.toList.getD (i % sz) undef).toArray:=by
   rw[E];apply Array.ext
   .simp
   .intro j h1 h2
    have T:j % sz < z.cells.size:=by rw[r];exact Nat.mod_lt _ (by rcases zI sz with h | h;subst h;simp at l;exact h)
    simp only[Array.getElem_map,Array.getElem_range,r,List.getElem_toArray,List.getElem_map,List.getElem_range];rw[getElem!_pos z.cells _ T,mZ,cX (by simpa using T)];simp
  have D:¬n*sz=0:=by omega
  have F:¬16777216 < n*sz:=by omega
  have L:¬(n=0\/sz=0):=by intro h;rcases h with h | h<;>subst h<;>simp at l
  simp only[Instr.buildSlice,Sem.run_bind,run_underlying ht,Result.andThen_ok,sizeOf,typeInfo,zeroValue];rw[E] at y;rw[<-y] at o;simp[M,E,G,D,L,F,newRow];rw[o]
  simp) hd k
def aMM{x y:Operand}{t el:TypeId}{n:Nat}{i:TypeInfo}{z:Value}{kd tD:IntKind}(o:P.underlying t=some (.slice el))(hi:P.info? el=some i)(p:i.zero=some z)(hs:i.size=1)(c:z.cells=#[z])(hx:e.ev x=some (.int kd (n:Int)))(hy:e.ev y=some (.int tD (n:Int)))
  (l:(i.bytes:Int)*n<=281474976710656) (m:(n:Int)<=9223372036854775807) (hd:d < N.n) (k:∀g,XK N w0 (wpList P ops Q rest) ((d,.slice (some ⟨g,0,none⟩) n n)::e) R (HP.aK g el (List.replicate n z)::H)):
  XK N w0 (wpList P ops Q (⟨some d,.makeSlice t x y,ty,pos,aN,none⟩::rest)) e R H:=
 Xi (val := fun g => .slice (some ⟨g, 0, none⟩) n n) rfl rfl hd (fun a w f st => by
  have:=run_make (P:=P) w t el i z o hi p kd tD n n aA (Br _) l m
  have h:madeCells z.cells (n*i.size)=(List.replicate n z).toArray:=by
   rw[hs,zG,c];unfold madeCells;apply Array.ext
   .simp
   .intro j A r;simp;rw[Nat.mod_one];rfl
  simp only[dL,h] at this
  simp only[execOp,f.ev hx,f.ev hy,Sem.run_bind,this,Result.andThen_ok,Sem.run_pure]) k
def Rq(i:Nat){K:Act->World->Prop}{g:Nat}{t:TypeId}{cs:List Value}(sz n:Nat)(hi:H[i]? =some (HP.aK g t cs))(hl:cs.length=n*sz)(m:(n:Int)<=9223372036854775807)(h:XK N w0 K e R (H.set i (HP.own t sz (.slice (some ⟨g,0,none⟩) n n) n cs))):XK N w0 K e R H:=fun a w k st=>
 h a w k (st.yZ hi (gE _) rfl rfl rfl fun F j d=>⟨F,⟨fun l c=>by simp[Value.ownBlock] at c;exact c▸j.1,hl,.inr ⟨g,n,cs.toArray,rfl,rE _,j.2,gE _,by unfold maxLen;omega,by simpa using hl,by simp[<-hl]⟩⟩,fun b f=>⟨.inl f,d b f⟩,fun _ _ _=>rfl⟩)
def oF{K:Act->World->Prop}(t:TypeId)(sz:Nat)(h:XK N w0 K e R (HP.own t sz (.slice none 0 0) 0 []::H)):XK N w0 K e R H:=fun a w c st=>
 h a w c (st.new (w':=w) (Below.refl _ _) ⟨fun g d=>by simp[Value.ownBlock] at d,World.ownsRow_nil _ _ _ _⟩)
def aML{x y:Operand}{t el:TypeId}{c:Nat}{i:TypeInfo}{z:Value}{kd tD:IntKind}{sz:Nat}(m:P.underlying t=some (.slice el))(hi:P.info? el=some i)(o:i.zero=some z)(hs:i.size=sz)(hx:e.ev x=some (.int kd 0))(hy:e.ev y=some (.int tD (c:Int)))
  (j:(i.bytes:Int)*c<=281474976710656) (l:(c:Int)<=9223372036854775807) (hd:d < N.n) (k:∀g,XK N w0 (wpList P ops Q rest) ((d,.slice (some ⟨g,0,none⟩) 0 c)::e) R (HP.own el sz (.slice (some ⟨g,0,none⟩) 0 c) 0 []::H)):
  XK N w0 (wpList P ops Q (⟨some d,.makeSlice t x y,ty,pos,aN,none⟩::rest)) e R H:=
 vF rfl fun a w f st=>by
  have:=run_make (P:=P) w t el i z m hi o kd tD 0 c (Br _) aA j l
  simp only[Int.toNat_zero,dL] at this;refine⟨.slice (some ⟨w.heap.size,0,none⟩) 0 c,w.alloc (.cells (madeCells z.cells (c*i.size)) el),by simp only[execOp,f.ev hx,f.ev hy,Sem.run_bind,this,Result.andThen_ok,Sem.run_pure],k w.heap.size _ _ (f.put hd _) (st.new (Wf w _) ⟨fun g h=>?_,?_⟩)⟩
  .simp[Value.ownBlock] at h;subst h;exact⟨gE _,aB⟩
  .exact World.ownsRow_made w _ c (rE _) (by unfold maxLen;omega) (by rw[size_madeCells,hs])
def aCZ{o:Oper}(hg:o.guard=none)(c:o.dst=none)(h:∀a w,eT N e a->St w0 R H w->∃w',(execOp a.eval o).run P w=.ok .skip w'/\wpList P ops Q rest a w'):XK N w0 (wpList P ops Q (o::rest)) e R H:=fun a w i st=>wpList_plain hg fun K f=>by
 obtain⟨w',d,j⟩:=h a w i st;unfold Oper.wp;rw[d];simp only[Oper.upon,c];exact f _ _ j
def uJ(i:Nat){x y:Operand}{s t:TypeId}{g o:Nat}{cs:List Value}{v:Value}(hi:H[i]? =some (HP.aK g t cs))(hx:e.ev x=some (.pointer (some ⟨g,o,none⟩)))(hy:e.ev y=some v)
  (hs:(P.info? s).any (·.size==v.cells.size)=true) (n:∀u∈v.cells.toList,u.oneCell'=true) (hl:o+v.cells.size<=cs.length) (k:XK N w0 (wpList P ops Q rest) e R (H.set i (HP.aK g t (jR cs o v.cells.toList)))):
  XK N w0 (wpList P ops Q (⟨none,.store s x y,ty,pos,aN,none⟩::rest)) e R H:=
 aCZ rfl rfl fun a w j st=>by
  have d:=st.aK hi
  have c:=aOC (P:=P) (ty:=s) d hs n hl
  refine⟨w.setRow g (jR cs o v.cells.toList).toArray,by simp only[execOp,j.ev hx,j.ev hy,Sem.run_bind,c,Result.andThen_ok,Sem.run_pure],k _ _ j ?_⟩;refine st.yZ hi (by rw[setRow_size];exact gE _) rfl rfl rfl fun F m f=>⟨F,⟨m.1,setRow_heap w g _ _ t _ d⟩,fun b d=>⟨.inl d,by rw[setRow_size];exact f b d⟩,fun b _ l=>setRow_other _ _ _ _ (fun h=>l (h▸m.1))⟩
def tR(i:Nat){x y:Operand}{s t:TypeId}{g o:Nat}{cs:List Value}{v:Value}(hi:H[i]? =some (HP.aK g t cs))(hs:tC P s=true)(hx:e.ev x=some (.pointer (some ⟨g,o,none⟩)))(hy:e.ev y=some v)
  (d:v.oneCell'=true) (hl:o < cs.length) (k:XK N w0 (wpList P ops Q rest) e R (H.set i (HP.aK g t (cs.set o v)))):
  XK N w0 (wpList P ops Q (⟨none,.store s x y,ty,pos,aN,none⟩::rest)) e R H:=by
 have c:v.cells=#[v]:=by cases v<;>first | rfl | (simp[Value.oneCell'] at d)
 have f:(P.info? s).any (·.size==v.cells.size)=true:=by
  unfold tC at hs;rw[c];split at hs
  .cases hs
  .cases hs
  .simpa using hs
  .cases hs
 refine uJ i hi hx hy f (by rw[c];simpa using d) (by rw[c];simp;omega) ?_;rw[c]
 show XK N w0 (wpList P ops Q rest) e R (H.set i (HP.aK g t (jR cs o [v])))
 rw[aPN hl];exact k
def aMW(i:Nat){x y:Operand}{t el:TypeId}{sz c n m Z n':Nat}{v:Value}{A:Option Addr}{xs f:List Value}(D:TypeInfo)(z:Value)(ht:P.underlying t=some (.slice el))(O:P.info? el=some D)(hz:D.zero=some z)(K:D.size=sz)(T:D.bytes=c)(V:z.cells.size=sz)(C:0 < sz)
  (hi:H[i]? =some (HP.own el sz v n xs)) (hx:e.ev x=some v) (hy:e.ev y=some (.slice A m Z)) (hs:∀w,St w0 R H w->∃B,Sl w B sz A m f) (h1:∀u∈f,u.oneCell'=true) (hn:n+m=n') (h63:(n':Int)<=9223372036854775807) (h:n'*c<=140737488355328) (hd:d < N.n)
  (k:∀A' E,XK N w0 (wpList P ops Q rest) ((d,.slice A' n' E)::e) R (H.set i (HP.own el sz (.slice A' n' E) n' (xs++f)))):
  XK N w0 (wpList P ops Q (⟨some d,.call {callee:=.builtin .append,args:=#[x,y],argTypes:=#[t,t]},ty,pos,aN,none⟩::rest)) e R H:=
 vF rfl fun a w L st => by
  subst hn
  have r:=st.own hi
  obtain⟨B,G⟩:=hs w st;obtain⟨v',Y,p,J,o,l⟩:=aH7 (P:=P) w 0 t ty el D z sz c ht O hz K T V C v n xs r B A m Z f G h1 (by unfold maxLen;omega) h (rE _);obtain⟨A',E,rfl,_⟩:=aIg J;refine⟨_,Y,by simp only[execOp,resolve,invoke,builtin,L.ev hx,L.ev hy,List.map_toArray,vJ,List.map_nil,Sem.run_bind,Sem.run_pure,Result.andThen_ok,p],k A' E _ _ (L.put hd _) ?_⟩;refine st.yZ hi o.size o.os o.tape o.output fun F X I=>⟨fun b=>F b\/(w.heap.size<=b/\b < Y.heap.size),⟨fun g M=>?_,J⟩,fun b j=>?_,fun b j U=>o.block b j (fun he=>U (X.1 b he.symm))⟩
  .rcases l with l | l
   .exact .inl (X.1 g (l▸M))
   .rw[l] at M;cases M;refine .inr ⟨gE _,?_⟩;exact(J.lt w.heap.size l).2
  .rcases j with j | j
   .exact⟨.inl j,jC (I b j) o.size⟩
   .exact⟨.inr j.1,j.2⟩
def tU(i:Nat){g t sz m:Nat}{cs:List Value}(hi:H[i]? =some (HP.aK g t cs))(hl:cs.length=m*sz):∀w,St w0 R H w->∃B,Sl w B sz (some ⟨g,0,none⟩) m cs:=fun w st=>⟨_,by
 have:=aLU (n:=m) (sz:=sz) (st.aK hi) (by simpa using hl)
 simpa using this⟩
def sF{p:Piece}{sz m:Nat}{A:Option Addr}{cs:List Value}(hp:p∈R)(h:aO p sz A m cs):∀w,St w0 R H w->∃B,Sl w B sz A m cs:=fun w st=>⟨_,h.sl (st.le hp)⟩
def sD{t:TypeId}{cs:List Value}(h:((P.info? t).bind (·.zero)).map (·.cells.toList)=some cs):Gw P t cs:=by
 obtain⟨z,c,rfl⟩:=kS.1 h;obtain⟨i,d,c⟩:=aBm.1 c;exact⟨i,z,d,c,rfl⟩
def oZ(c:Nat){x y:Operand}{t el:TypeId}{n:Nat}{z:Value}{kd tD:IntKind}(r:P.underlying t=some (.slice el))(m:(P.info? el).map (fun i=>(i.zero,i.size,i.bytes))=some (some z,1,c))(f:z.cells=#[z])(hx:e.ev x=some (.int kd (n:Int)))(hy:e.ev y=some (.int tD (n:Int)))
  (w:c*n<=281474976710656) (p:(n:Int)<=9223372036854775807) (hd:d < N.n) (k:∀g,XK N w0 (wpList P ops Q rest) ((d,.slice (some ⟨g,0,none⟩) n n)::e) R (HP.aK g el (List.replicate n z)::H)):
  XK N w0 (wpList P ops Q (⟨some d,.makeSlice t x y,ty,pos,aN,none⟩::rest)) e R H:=by
 obtain⟨i,l,h⟩:=kS.1 m;simp only[Ke] at h;obtain⟨o,j,rfl⟩:=h;exact aMM r l o j f hx hy (by rw[<-Int.natCast_mul];omega) p hd k
def aDb(sz f:Nat){x y:Operand}{t el:TypeId}{c k0:Nat}{kd tD:IntKind}(p:P.underlying t=some (.slice el))(m:(P.info? el).map (fun i=>(i.zero.map (fun z=>z.cells.size),i.size,i.bytes))=some (some k0,sz,f))(hx:e.ev x=some (.int kd 0))(hy:e.ev y=some (.int tD (c:Int)))
  (w:f*c<=281474976710656) (o:(c:Int)<=9223372036854775807) (hd:d < N.n) (k:∀g,XK N w0 (wpList P ops Q rest) ((d,.slice (some ⟨g,0,none⟩) 0 c)::e) R (HP.own el sz (.slice (some ⟨g,0,none⟩) 0 c) 0 []::H)):
  XK N w0 (wpList P ops Q (⟨some d,.makeSlice t x y,ty,pos,aN,none⟩::rest)) e R H:=by
 obtain⟨i,z,l,r,j,h,_⟩:=aE6 m;subst h;exact aML p l r j hx hy (by rw[<-Int.natCast_mul];omega) o hd k
def jU(i:Nat)(sz f m:Nat){x y:Operand}{t el:TypeId}{n G n':Nat}{v:Value}{A:Option Addr}{xs c:List Value}(L:P.underlying t=some (.slice el))(J:(P.info? el).map (fun i=>(i.zero.map (fun z=>z.cells.size),i.size,i.bytes))=some (some sz,sz,f))(j:0 < sz)
  (hi:H[i]? =some (HP.own el sz v n xs)) (hx:e.ev x=some v) (hy:e.ev y=some (.slice A m G)) (hs:∀w,St w0 R H w->∃B,Sl w B sz A m c) (E:∀u∈c,u.oneCell'=true) (K:n+m=n') (C:(n':Int)<=9223372036854775807) (h:n'*f<=140737488355328) (hd:d < N.n)
  (k:∀A' D,XK N w0 (wpList P ops Q rest) ((d,.slice A' n' D)::e) R (H.set i (HP.own el sz (.slice A' n' D) n' (xs++c)))):
  XK N w0 (wpList P ops Q (⟨some d,.call {callee:=.builtin .append,args:=#[x,y],argTypes:=#[t,t]},ty,pos,aN,none⟩::rest)) e R H:=by
 obtain⟨I,z,o,F,l,p,r⟩:=aE6 J;exact aMW i I z L o F l p r j hi hx hy hs E K C h hd k
def aG8(ps:List Piece){f:FuncId}{x:Operand}{args:List Operand}{fi ca vs:List Value}{tys:Array TypeId}(hf:fW P f=true)(hx:e.ev x=some (.func (.func f) fi.toArray ca.toArray))(G:e.aM args=some vs)(hd:d < N.n)(l:∀p∈ps,p∈R)
  (R':Value->World->World->Prop) (E:∀w,St w0 R H w->Calls P f (fi++vs++ca).toArray w fun y w'=>(∃v,y=.returned v/\R' v w w')/\Below w.heap.size w w')
  (k:∀v w q,R' v w q.w->(fresh w q.w).Le q->(∀p∈ps,p.Le q)->((∀p∈ps,tP w0 p)->tP w0 q)->XK N w0 (wpList P ops Q rest) ((d,v)::e) (q::R) H):
  XK N w0 (wpList P ops Q (⟨some d,.call {callee:=.value x,args:=args.toArray,argTypes:=tys},ty,pos,aN,none⟩::rest)) e R H:=fun a w t st=>wpList_plain rfl fun K C=>by
 unfold fW at hf;cases r:P.funcs[f]? with
 | none=>simp[r] at hf
 | some fn =>
  simp[r] at hf;obtain⟨z,A⟩:=hf
  have m:(execOp a.eval (⟨some d,.call {callee:=.value x,args:=args.toArray,argTypes:=tys},ty,pos,aN,none⟩:Oper)).run P w=.ok (.enter f (fi++vs++ca).toArray) w:=by
   cases i:fn.body with
   | none=>simp[i] at A
   | some c=>
    simp[execOp,resolve,t.ev hx,Deferred.ofValue,invoke,callFunc,r,z,i,t.aM G]
  unfold Oper.wp;rw[m];refine(E w st).mono fun y w' ⟨⟨v,B,F⟩,i⟩=>?_;subst B;refine C _ _ (k v w ⟨w',fun b=>(fresh w w').Z b\/∃p∈ps,p.Z b⟩ F (fun b h=>⟨.inl h,rfl⟩) (fun p j b h=>⟨.inr ⟨p,j,h⟩,?_⟩) (fun o b i=>?_) _ _ (t.put hd v) (st.seen i (fun b h=>h.imp id fun⟨p,j,D⟩=>⟨p,l p j,D⟩)))
  .exact(i.block b (st.Xy (l p j) h)).trans (st.ro (l p j) h)
  .rcases i with i | ⟨p,j,i⟩
   .exact oL st.size i.1
   .exact o p j b i
def aG7{f:FuncId}{x:Operand}{args:List Operand}{fi ca vs:List Value}{tys:Array TypeId}(hf:fW P f=true)(hx:e.ev x=some (.func (.func f) fi.toArray ca.toArray))(m:e.aM args=some vs)(hd:d < N.n)
  (R':Value->Prop) (c:∀w,St w0 R H w->Calls P f (fi++vs++ca).toArray w fun y w'=>(∃v,y=.returned v/\R' v)/\Below w.heap.size w w')
  (k:∀v,R' v->XK N w0 (wpList P ops Q rest) ((d,v)::e) R H):
  XK N w0 (wpList P ops Q (⟨some d,.call {callee:=.value x,args:=args.toArray,argTypes:=tys},ty,pos,aN,none⟩::rest)) e R H:=
 aG8 [] hf hx m hd aB (fun v _ _=>R' v) c fun v w q l _ _ _=>fun a w j st=>k v l a w j (st.weak (fun p i=>vL _ i) id (fun _ _ _ _ h=>h) (fun _ _ h=>h))
def Eb:Nat->List Value->Env
 | _,[]=>[]
 | i,v::vs=>(i,v)::Eb (i+1) vs
def aAj:∀(vs:List Value) (i t:Nat) (v:Value),Env.get (Eb i vs) t=some v->i<=t/\vs[t - i]? =some v
 | [],i,t,v,h=>by simp[Eb,Env.get] at h
 | u :: vs, i, t, v, h => by
  unfold Eb Env.get at h;split at h
  .rename_i hk
   have:=Kb hk
   subst this;cases h;exact⟨gE _,aB⟩
  .obtain⟨d,c⟩:=aAj vs (i+1) t v h;refine⟨aA,?_⟩;rw[show t - i=(t - (i+1))+1 by omega,tX];exact c
def aWS{nn:Nat}{f:FuncId}{fn:Func}{c:Code}{vs:List Value}{w:World}{d:Ending->World->Prop}(hf:P.funcs[f]? =some fn)(k:fn.body=some c)(l:fn.ntmps=nn)(hl:vs.length<=nn)
  (h:XK ⟨nn,[]⟩ w (c.wp P (bodyPost P fn d)) (Eb 0 vs) [all w] []):Calls P f vs.toArray w d:=by
 refine calls_of_wp hf k (h _ _ ⟨?_,rfl,fun t v j=>?_⟩ (St.start w))
 .simp;omega
 .obtain⟨_,e⟩:=aAj vs 0 t v j;rw[Nat.sub_zero] at e
  have i:t < vs.length:=by
   rcases dI t vs.length with h | h
   .exact h
   .rw[eW h] at e;cases e
  rw[aBn (by simpa using i)]
  simpa using e
def fP{nn:Nat}{f:FuncId}{fn:Func}{c:Code}{vs:List Value}{w:World}{d:Ending->World->Prop}(hf:P.funcs[f]? =some fn)(e:fn.ntmps=nn)
  (h:XK ⟨nn,[]⟩ w (c.wp P (bodyPost P fn d)) (Eb 0 vs) [all w] []) (i:fn.body=some c:=by rfl) (hl:vs.length<=nn:=by simp):Calls P f vs.toArray w d:=aWS hf i e hl h
def xM{nn:Nat}{fn:Func}{c:Ending->World->Prop}{t:Nat}{v:Value}(f:fn.results=#[.tmp t])(i:e.get t=some v)(h:∀w,St w0 R H w->c (.returned v) w):XK ⟨nn,[]⟩ w0 (bodyPost P fn c .ret) e R H:=fun a w d st=>
 bodyPost_ret (v:=v) (by rw[results_tmp f,Tk,d.get t v i];rfl) d.defers (h w st)
def Gc{nn:Nat}{fn:Func}{c:Ending->World->Prop}{t u:Nat}{v f:Value}(j:fn.results=#[.tmp t,.tmp u])(k:e.get t=some v)(i:e.get u=some f)(h:∀w,St w0 R H w->c (.returned (.tuple #[v,f])) w):XK ⟨nn,[]⟩ w0 (bodyPost P fn c .ret) e R H:=fun a w d st=>
 bodyPost_ret (v:=.tuple #[v,f]) (by rw[results_tmp2 j,Tk,d.get t v k,Tk,d.get u f i];rfl) d.defers (h w st)
def aWH{nn:Nat}{fn:Func}{c:Ending->World->Prop}{x:Exit}(hx:x=.ret\/x=.normal)(f:fn.results=#[])(h:∀w,St w0 R H w->c (.returned (.tuple #[])) w):XK ⟨nn,[]⟩ w0 (bodyPost P fn c x) e R H:=fun a w d st=>by
 rcases hx with rfl | rfl
 .exact bodyPost_ret (v:=.tuple #[]) (results_none f _ _ _) d.defers (h w st)
 .exact bodyPost_end (v:=.tuple #[]) (results_none f _ _ _) d.defers (h w st)
def aAt{nn:Nat}{fn:Func}{c:Ending->World->Prop}{t n b:Nat}{s:TypeId}{vs:List Value}(j:fn.results=#[.cell t s])(hs:Fa P s n=true)(k:vs.length=n)(l:e.get t=some (.pointer (some ⟨b,0,none⟩)))(f:cI w0 R H b 0 vs)(h:∀w,St w0 R H w->c (.returned (.agg vs.toArray)) w):XK ⟨nn,[]⟩ w0 (bodyPost P fn c .ret) e R H:=fun a w d st=>by
 have i:=Te (P:=P) hs k (f w st)
 refine bodyPost_ret (v:=.agg vs.toArray) ?_ d.defers (h w st)
 have m:=d.get t _ l
 simp only[Instr.loadAt,Instr.sureAddr,Sem.run_bind,Sem.run_pure,Result.andThen_ok] at i;simp only[results,j];simp[m,asAddr,i]
def Ef{nn:Nat}{fn:Func}{c:Ending->World->Prop}{t u n b:Nat}{s:TypeId}{vs:List Value}{f:Value}(k:fn.results=#[.cell t s,.tmp u])(hs:Fa P s n=true)(o:vs.length=n)(p:e.get t=some (.pointer (some ⟨b,0,none⟩)))(i:cI w0 R H b 0 vs)(m:e.get u=some f)(h:∀w,St w0 R H w->c (.returned (.tuple #[.agg vs.toArray,f])) w):XK ⟨nn,[]⟩ w0 (bodyPost P fn c .ret) e R H:=fun a w d st=>by
 have j:=Te (P:=P) hs o (i w st)
 refine bodyPost_ret (v:=.tuple #[.agg vs.toArray,f]) ?_ d.defers (h w st)
 have r:=d.get t _ p
 have l:=d.get u _ m
 simp only[Instr.loadAt,Instr.sureAddr,Sem.run_bind,Sem.run_pure,Result.andThen_ok] at j;simp only[results,k];simp[r,l,asAddr,j]
def Ym(o:Oper):Nat:=o.after.toList.foldl (fun s x=>if Region.binds .any x then s||| 2 ^ x.on else s) 0
def Vw(ops:Array Oper):Nat->Nat->Nat
 | 0,s=>s
 | n+1,s=>Vw ops n (if s.testBit n then s||| (match ops[n]? with | some o=>Ym o | none=>0) else s)
def Oy(ops:Array Oper)(j:Nat):Bool:=match ops[j]? with
 | some o=>(List.range j).all fun i=>(Vw ops j (Ym o)).testBit i
 | none=>true
def Bd(ops:Array Oper)(m:Nat):Bool:=(List.range ops.size).all fun j=>decide (j < m)||Oy ops j
def Down(ops:Array Oper)(listed:Array Bool):Prop:=∀j o,ops[j]? =some o->listed.getD j false=true->∀x∈o.after,Region.binds .any x=true->listed.getD x.on false=true
def aHY(P:Nat->Prop):∀(l:List Edge) (s:Nat),(∀i,s.testBit i=true->P i)->(∀x∈l,Region.binds .any x=true->P x.on)->∀i,(l.foldl (fun s x=>if Region.binds .any x then s||| 2 ^ x.on else s) s).testBit i=true->P i
 | [],s,hs,_,i,h=>hs i h
 | x :: l, s, hs, hl, i, h => by
  rw[pW] at h;refine aHY P l _ (fun k hk=>?_) (fun y hy=>hl y (vL _ hy)) i h;split at hk
  .rename_i c
   rw[Nat.testBit_or,yD] at hk;rcases hk with hk | hk
   .exact hs k hk
   .rw[Nat.testBit_two_pow] at hk
    have:x.on=k:=by simpa using hk
    exact this▸hl x aB c
  .exact hs k hk
def aDQ{o:Oper}{P:Nat->Prop}(h:∀x∈o.after,Region.binds .any x=true->P x.on):∀i,(Ym o).testBit i=true->P i:=
 aHY P o.after.toList 0 (fun i c=>by simp at c) (fun x d e=>h x (by simpa using d) e)
def aF2{ops:Array Oper}{listed:Array Bool}(hd:Down ops listed):∀(n s:Nat),(∀i,s.testBit i=true->listed.getD i false=true)->∀i,(Vw ops n s).testBit i=true->listed.getD i false=true
 | 0,s,hs,i,h=>hs i h
 | n + 1, s, hs, i, h => by
  unfold Vw at h;refine aF2 hd n _ (fun k hk=>?_) i h;split at hk
  .rename_i c
   rw[Nat.testBit_or,yD] at hk;rcases hk with hk | hk
   .exact hs k hk
   .split at hk
    .rename_i o ho
     exact aDQ (P:=fun k=>listed.getD k false=true) (fun x hx d=>hd n o ho (hs n c) x hx d) k hk
    .simp at hk
  .exact hs k hk
def aD1{ops:Array Oper}{listed:Array Bool}(hd:Down ops listed){j:Nat}(hj:j∈Region.ready .any ops listed)(d:Oy ops j=true){i:Nat}(hi:i < j):listed.getD i false=true:=by
 obtain⟨_,o,f,c⟩:=mem_ready.1 hj;unfold Oy at d;rw[f] at d;simp only[mJ,mI] at d;exact aF2 hd j _ (aDQ (P:=fun k=>listed.getD k false=true) fun x e h=>c x e h) i (d i hi)
def Down.lZ{ops:Array Oper}{listed:Array Bool}(hd:Down ops listed){j:Nat}(hj:j∈Region.ready .any ops listed):Down ops (listed.setIfInBounds j true):=by
 intro k o f i x h l;obtain⟨_,m,e,d⟩:=mem_ready.1 hj
 by_cases c:j=k
 .subst c;rw[e] at f;cases f;exact getD_set_true (d x h l)
 .rw[getD_set_ne false c] at i;exact getD_set_true (hd k o f i x h l)
def Down.start(ops:Array Oper)(n:Nat):Down ops (Array.replicate n false):=by
 intro j o _ h;rw[Tk,Array.getElem?_replicate] at h;split at h<;>simp at h
section
variable{S:World->Prop}
def Ov(P:Program)(ops:Array Oper)(Q:Exit->Act->World->Prop)(S:World->Prop)(m:Nat):Nat->Array Bool->Act->World->Prop
 | 0,listed,a,w=>Region.ready .any ops listed=[]/\Q .normal a w
 | fuel+1,listed,a,w=>(Region.ready .any ops listed=[]->Q .normal a w)/\
  ∀i∈Region.ready .any ops listed,wpOp P ops Q i (fun c w'=>(i < m->S w')/\Ov P ops Q S m fuel (listed.setIfInBounds i true) c w') a w
def Xp:∀(fuel:Nat) (listed:Array Bool) (a:Act) (w:World),Ov P ops Q S m fuel listed a w->wpAny P .any ops Q fuel listed a w
 | 0,_,_,_,h=>h
 | fuel+1,_,_,_,h=>⟨h.1,fun i hi=>wpOp_mono (fun c w' d=>Xp fuel _ c w' d.2) (h.2 i hi)⟩
def aDk{i:Nat}{A:Oper}{v:Value}(hi:ops[i]? =some A)(r:∀(j:Nat) (o:Oper) cs b,ops[j]? =some o->o.op≠.select cs b)
  (hQ:∀c a w,Q (.panic c) (a.put A.dst v) w->Q (.panic c) a w) (z:Bd ops m=true) (Z:i < m):
  ∀(fuel:Nat) (listed:Array Bool) (a:Act) (w:World),Down ops listed->
   (∀j B,ops[j]? =some B->j≠i->listed.getD j true=false->(∀e∈B.after,Region.binds .any e=true->e.on≠i)->A.apart ops B=true)->
   i∈Region.ready .any ops listed->YieldsIf P ops S A v a->S w->
   Ov P ops Q S m fuel (listed.setIfInBounds i true) (a.put A.dst v) w->Ov P ops Q S m (fuel+1) listed a w:=by
 intro fuel
 induction fuel with
 | zero =>
  intro listed a w y _ x I F H;refine⟨fun h=>(by rw[h] at x;cases x),fun j C=>?_⟩
  by_cases d:j=i
  .subst d;exact I.wpOp hi F ⟨fun _=>F,H⟩
  .have:=ready_mono C d
   rw[H.1] at this;cases this
 | succ fuel ih =>
  intro listed a w y f x I F H;refine⟨fun h=>(by rw[h] at x;cases x),fun j C=>?_⟩
  by_cases d:j=i
  .subst d;exact I.wpOp hi F ⟨fun _=>F,H⟩
  .have X:=H.2 j (ready_mono C d)
   obtain⟨t,B,p,E⟩:=mem_ready.1 C
   have l:∀k,k∈Region.ready .any ops listed->listed.getD k false=true->False:=fun k M h=>by
    have U:=(mem_ready.1 M).1
    rcases dI k listed.size with T | T
    .simp[T] at U h;rw[U] at h;cases h
    .simp[Pk T] at h
   have R:j < m:=by
    rcases dI j m with h | h
    .exact h
    .exfalso
     have K:j < ops.size:=(Mq.1 p).1
     have ht:Oy ops j=true:=by
      unfold Bd at z;simp only[mJ,mI,yD,decide_eq_true_eq] at z;exact(z j K).resolve_left aA
     exact l i x (aD1 y C ht aA)
   have G:∀e∈B.after,Region.binds .any e=true->e.on≠i:=fun e he hb O=>l i x (O▸E e he hb)
   have V:=wpOp_putIf p (f j B p d t G) (fun cs b=>r i A cs b hi) (fun cs b=>r j B cs b p) hQ I X
   have n:∀k ok,ops[k]? =some ok->k≠i->(listed.setIfInBounds j true).getD k true=false->
     (∀e∈ok.after,Region.binds .any e=true->e.on≠i)->A.apart ops ok=true:=fun k ok M L l N=>by
    refine f k ok M L ?_ N
    by_cases D:j=k
    .subst D;exact t
    .rw[getD_set_ne true D] at l;exact l
   refine wpOp_mono (fun Y w' J=>⟨J.2.1,ih (listed.setIfInBounds j true) Y w' (y.lZ C) n (ready_mono x (fN d)) J.1 (J.2.1 R) ?_⟩) V;rw[Yg _ _ d];exact J.2.2
end
structure Up(ops:Array Oper)(m:Nat)(listed:Array Bool):Prop where
 down:Down ops listed
 gD:Region.noSelect ops=true
 tl:Bd ops m=true
def Up.lZ{i:Nat}(h:Up ops m listed)(hi:i∈Region.ready .any ops listed):Up ops m (listed.setIfInBounds i true):=⟨h.down.lZ hi,h.gD,h.tl⟩
def XA(P:Program)(N:cQ)(w0:World)(ops:Array Oper)(Q:Exit->Act->World->Prop)(R0:List Piece)(H0:List HP)(m fuel:Nat)(listed:Array Bool)(e:Env)(R:List Piece)(H:List HP):Prop:=
 Up ops m listed->XK N w0 (Ov P ops Q (St w0 R0 H0) m fuel listed) e R H
def wG(P:Program)(w0:World)(ops:Array Oper)(Q:Exit->Act->World->Prop)(R0:List Piece)(H0:List HP)(m fuel:Nat)(listed:Array Bool)(i:Nat):Act->World->Prop:=
 fun d c=>(i < m->St w0 R0 H0 c)/\(Up ops m (listed.setIfInBounds i true)->Ov P ops Q (St w0 R0 H0) m fuel (listed.setIfInBounds i true) d c)
def vA(m:Nat){id:Nat}{l:List Oper}(hm:P.follows .mixedOrders=true)(c:(Region.noSelect l.toArray&&Bd l.toArray m)=true)(h:XA P N w0 l.toArray Q R H m l.length (Array.replicate l.length false) e R H):XK N w0 ((Code.region id l.toArray true).wp P Q) e R H:=fun a w d st=>by
 simp only[jY] at c
 have:=h ⟨Down.start _ _,c.1,c.2⟩ a w.drew d st.drew
 refine wp_region_any hm (Xp (S:=St w0 R H) (m:=m) _ _ _ _ ?_)
 simpa using this
def nG(i:Nat){f:Oper}{v:Value}{d:Nat}(hi:ops[i]? =some f)(h:f.dst=some d)(hg:f.guard=none)(hd:d < N.n)(bL:bY P N w0 e R0 H0 f v)
  (o:(Region.free .any ops listed i&&(Region.ready .any ops listed).contains i&&decide (i < m))=true) (hQ:∀c a w,Q (.panic c) (a.put f.dst v) w->Q (.panic c) a w)
  (j:∀w,St w0 R H w->St w0 R0 H0 w)
  (k:XA P N w0 ops Q R0 H0 m fuel (listed.setIfInBounds i true) ((d,v)::e) R H):XA P N w0 ops Q R0 H0 m (fuel+1) listed e R H:=by
 simp only[jY,decide_eq_true_eq] at o;obtain⟨⟨z,r⟩,y⟩:=o;intro up a w p st
 have x:=k (up.lZ (by simpa using r)) (a.put f.dst v) w (by rw[h];exact p.put hd v) st
 refine aDk hi (Region.noSelect_spec up.gD) hQ up.tl y fuel listed a w up.down (Region.free_spec hi z) (by simpa using r) (.inl ⟨by simp[Region.wanted,hg],fun t l=>?_⟩) (j w st) x;exact bL a t p l
def He{i:Nat}{e:Oper}(hi:ops[i]? =some e){a:Act}{w:World}{K K':Act->World->Prop}(d:∀a w,K a w->K' a w)(h:wpList P ops (Exit.then K Q) [e] a w):wpOp P ops Q i K' a w:=by
 unfold wpList at h;unfold wpOp;simp only[hi];split
 .rename_i hw
  rw[aH hw] at h;rcases h with h | h
  .refine .inl ?_;unfold Oper.wp at h|-;generalize (execOp a.eval e).run P w=r at h|-;cases r with
   | ok n w'=>
    cases n<;>simp only[Oper.upon] at h|- <;>first | exact d _ _ h | exact Calls.mono h (fun x f c=>by cases x<;>first | exact d _ _ c | exact c) | exact Rows.mono h (fun _ _ c=>d _ _ c) | exact h
   | halt x w'=>cases x<;>simp only[Oper.upon] at h|- <;>exact h
  .exact .inr h
 .rename_i hw
  rw[aC hw] at h;exact d _ _ h
def aGb(i:Nat){l:Oper}(hi:ops[i]? =some l)(c:Region.ready .any ops listed=[i])(k:XK N w0 (wpList P ops (Exit.then (wG P w0 ops Q R0 H0 m fuel listed i) Q) [l]) e R H):XA P N w0 ops Q R0 H0 m (fuel+1) listed e R H:=by
 intro up a w f st;refine⟨fun h=>(by rw[c] at h;cases h),fun j d=>?_⟩;rw[c] at d;simp at d;subst d;exact He hi (fun a w h=>⟨h.1,h.2 (up.lZ (by rw[c];simp))⟩) (k a w f st)
def Od(i j:Nat){l n:Oper}(hi:ops[i]? =some l)(hj:ops[j]? =some n)(k:Region.ready .any ops listed=[i,j])
  (k1:XK N w0 (wpList P ops (Exit.then (wG P w0 ops Q R0 H0 m fuel listed i) Q) [l]) e R H) (k2:XK N w0 (wpList P ops (Exit.then (wG P w0 ops Q R0 H0 m fuel listed j) Q) [n]) e R H):XA P N w0 ops Q R0 H0 m (fuel+1) listed e R H:=by
 intro up a w d st;refine⟨fun h=>(by rw[k] at h;cases h),fun q f=>?_⟩
 have c:=f
 rw[k] at f;simp at f;rcases f with rfl | rfl
 .exact He hi (fun a w h=>⟨h.1,h.2 (up.lZ c)⟩) (k1 a w d st)
 .exact He hj (fun a w h=>⟨h.1,h.2 (up.lZ c)⟩) (k2 a w d st)
def aXp(i j k:Nat){n o ok:Oper}(hi:ops[i]? =some n)(hj:ops[j]? =some o)(hk:ops[k]? =some ok)(l:Region.ready .any ops listed=[i,j,k])
  (k1:XK N w0 (wpList P ops (Exit.then (wG P w0 ops Q R0 H0 m fuel listed i) Q) [n]) e R H) (k2:XK N w0 (wpList P ops (Exit.then (wG P w0 ops Q R0 H0 m fuel listed j) Q) [o]) e R H)
  (k3:XK N w0 (wpList P ops (Exit.then (wG P w0 ops Q R0 H0 m fuel listed k) Q) [ok]) e R H):XA P N w0 ops Q R0 H0 m (fuel+1) listed e R H:=by
 intro up a w d st;refine⟨fun h=>(by rw[l] at h;cases h),fun q f=>?_⟩
 have c:=f
 rw[l] at f;simp at f;rcases f with rfl | rfl | rfl
 .exact He hi (fun a w h=>⟨h.1,h.2 (up.lZ c)⟩) (k1 a w d st)
 .exact He hj (fun a w h=>⟨h.1,h.2 (up.lZ c)⟩) (k2 a w d st)
 .exact He hk (fun a w h=>⟨h.1,h.2 (up.lZ c)⟩) (k3 a w d st)
def mF{i:Nat}(hS:∀w,St w0 R H w->St w0 R0 H0 w)(h:XA P N w0 ops Q R0 H0 m fuel (listed.setIfInBounds i true) e R H):XK N w0 (wG P w0 ops Q R0 H0 m fuel listed i) e R H:=fun a w c st=>⟨fun _=>hS w st,fun up=>h up a w c st⟩
def aXu{i:Nat}(hm:Nat.ble m i=true)(h:XA P N w0 ops Q R0 H0 m fuel (listed.setIfInBounds i true) e R H):XK N w0 (wG P w0 ops Q R0 H0 m fuel listed i) e R H:=fun a w d st=>⟨fun c=>by have:=Mp hm;omega,fun up=>h up a w d st⟩
def aXs(d:Region.ready .any ops listed=[])(h:XK N w0 (Q .normal) e R H):XA P N w0 ops Q R0 H0 m fuel listed e R H:=by
 intro up a w c st;cases fuel with
 | zero=>exact⟨d,h a w c st⟩
 | succ fuel=>exact⟨fun _=>h a w c st,by rw[d];simp⟩
def St.tail{p:HP}{w:World}(h:St w0 R (p::H) w):St w0 R H w:=h.weak (fun _ c=>c) (· +1) (fun i j _ _ h=>by omega) (fun i q d=>by simpa using d)
def St.cN{p:Piece}{w:World}(h:St w0 (p::R) H w):St w0 R H w:=h.weak (fun _ d=>vL _ d) id (fun _ _ _ _ h=>h) (fun i q c=>c)
def vW{x:Operand}{t ty:TypeId}{b o d:Nat}{v:Value}{pos:String}{aN:Array Edge}(h:tC P t=true)(hx:e.ev x=some (.pointer (some ⟨b,o,none⟩)))(f:Rd w0 R H b o v):bY P N w0 e R H ⟨some d,.load t x,ty,pos,aN,none⟩ v:=
 fun a w c st=>by simp[execOp,c.ev hx,Xv h (f w st)]
def aFo(n:Nat){x:Operand}{t ty:TypeId}{b o d:Nat}{vs:List Value}{pos:String}{aN:Array Edge}(i:Fa P t n=true)(hx:e.ev x=some (.pointer (some ⟨b,o,none⟩)))(f:cI w0 R H b o vs)(h:vs.length=n):bY P N w0 e R H ⟨some d,.load t x,ty,pos,aN,none⟩ (.agg vs.toArray):=
 fun a w c st=>by simp[execOp,c.ev hx,Te i h (f w st)]
def Rt(v:Value)(w:World):Ending->World->Prop:=fun x c=>x=.returned v/\Below w.heap.size w c
def aGe{v c:Value}{w w':World}{x:Ending}(h:Rt v w x w')(e:v=c):Rt c w x w':=e▸h
def nF{w w':World}(h:Below w.heap.size w w'):(all w).Le (all w'):=fun b c=>⟨jC c h.size,h.block b c⟩
def iD(w:World)(g o:Nat)(v:Value):Prop:=g < w.heap.size/\w.cell? ⟨g,o,none⟩=some v
def eL(w:World)(g o:Nat)(vs:List Value):Prop:=g < w.heap.size/\w.rangeAt g o vs
def eL.at_{w:World}{g o j:Nat}{vs:List Value}{v:Value}(h:eL w g o vs)(c:vs[j]? =some v):iD w g (o+j) v:=⟨h.1,h.2 j v c⟩
def eL.below{w w':World}{g o:Nat}{vs:List Value}(h:eL w g o vs)(c:Below w.heap.size w w'):eL w' g o vs:=
 ⟨jC h.1 c.size,fun j v d=>(c.cell (p:=⟨g,o+j,none⟩) h.1).trans (h.2 j v d)⟩
def eL.le{p:Piece}{w:World}{g o:Nat}{vs:List Value}(c:p.Z g)(h:p.w.rangeAt g o vs)(hl:p.Le (all w)):eL w g o vs:=
 ⟨(hl g c).1,fun j v d=>(World.cell?_of_block (w:=p.w) (a:=⟨g,o+j,none⟩) (hl g c).2).trans (h j v d)⟩
def aGg{g o:Nat}{v:Value}(c:all w0∈R)(h:iD w0 g o v):Rd w0 R H g o v:=Rd.ro c h.1 h.2
def aX0{g o:Nat}{vs:List Value}{v:Value}(c:all w0∈R)(h:eL w0 g 0 vs)(d:vs[o]? =some v):Rd w0 R H g o v:=Rd.ro c h.1 (by have:=h.2 o v d;rwa [mA] at this)
def aCO{g o:Nat}{vs:List Value}(c:all w0∈R)(h:eL w0 g o vs):cI w0 R H g o vs:=.of fun j v d=>Rd.ro c h.1 (h.2 j v d)
def St.box(st:St w0 R H w){i g:Nat}{t:TypeId}{cs:List Value}(hi:H[i]? =some (HP.aK g t cs)):eL w g 0 cs:=
 ⟨(st.aK hi).lt,fun j v c=>by rw[(st.aK hi).cell,mA];simpa using c⟩
def St.wP(st:St w0 R H w){i g sz n:Nat}{t:TypeId}{cs:List Value}(hi:H[i]? =some (HP.aK g t cs))(hl:cs.length=n*sz):aO (all w) sz (some ⟨g,0,none⟩) n cs:=
 ⟨hl,fun _=>⟨g,0,rfl,(st.aK hi).lt,fun j u c=>by rw[mA];show w.cell? _=_;rw[(st.aK hi).cell];simpa using c⟩⟩
def St.slO(st:St w0 R H w){i sz n c:Nat}{t:TypeId}{A:Option Addr}{xs:List Value}(hi:H[i]? =some (HP.own t sz (.slice A n c) n xs)):aO (all w) sz A n xs:=by
 have h:=st.own hi
 refine⟨h.1,fun m=>?_⟩;rcases h.2 with⟨_,o⟩ | ⟨g,d,k,e,_,l,_⟩
 .omega
 .injection e with hA
  subst hA;refine⟨g,0,rfl,(h.lt g rfl).2,fun j u f=>?_⟩
  have:=h.cells (g:=g) rfl j u f
  rw[Addr.add_mid] at this;exact this
def St.started(st:St w0 R H w)(c:all w0∈R):Below w0.heap.size w0 w:=st.below c
def Ct{f:FuncId}{x:Operand}{args:List Operand}{fi ca vs:List Value}{tys:Array TypeId}{v0:Value}(hf:fW P f=true)(hx:e.ev x=some (.func (.func f) fi.toArray ca.toArray))(j:e.aM args=some vs)(hd:d < N.n)
  (c:∀w,St w0 R H w->Calls P f (fi++vs++ca).toArray w (Rt v0 w)) (k:XK N w0 (wpList P ops Q rest) ((d,v0)::e) R H):
  XK N w0 (wpList P ops Q (⟨some d,.call {callee:=.value x,args:=args.toArray,argTypes:=tys},ty,pos,aN,none⟩::rest)) e R H:=
 aG7 hf hx j hd (fun v=>v=v0) (fun w st=>(c w st).mono fun y l h=>⟨⟨v0,h.1,rfl⟩,h.2⟩) fun v i=>by subst i;exact k
def Gx{K:Act->World->Prop}{t:Nat}{b:Bool}(c:e.get t=some (.bool b))(d:b=true->XK N w0 K ((t,.bool true)::e) R H)(f:b=false->XK N w0 K ((t,.bool false)::e) R H):XK N w0 K e R H:=by
 cases b
 .refine cH (p:=False) (t:=t) (by simpa using c) (fun h=>h.elim) (fun _=>f rfl)
 .refine cH (p:=True) (t:=t) (by simpa using c) (fun _=>d rfl) (fun h=>absurd trivial h)
def aO.row{w:World}{sz n:Nat}{A:Option Addr}{rows:List (List Value)}(h:aO (all w) sz A n rows.flatten)(hl:∀r∈rows,r.length=sz){k:Nat}{r:List Value}(hk:rows[k]? =some r)(j:k < n):
  ∃b off,A=some ⟨b,off,none⟩/\eL w b (off+k*sz) r:=by
 obtain⟨b,off,e,l,d⟩:=h.at_ j;refine⟨b,off,e,l,fun f u c=>d f u ?_⟩
 have i:f < sz:=by
  rw[<-hl r (dJ hk)];rcases dI f r.length with h | h
  .exact h
  .rw[eW h] at c;cases c
 have:=Nh (fun x=>x) sz rows hl k f r hk i
 rw[List.flatMap_id'] at this;rw[this,c]
def mQ(es:List Int):Int:=(es.find? fun e=>decide (e≠0)).getD 0
def Qt:∀{es:List Int} {k:Nat} {e:Int},(∀j,j < k->es[j]? =some 0)->es[k]? =some e->e≠0->mQ es=e
 | x::xs,0,e,_,h,hne=>by simp at h;subst h;simp[mQ,hne]
 | x::xs,k+1,e,hz,h,hne=>by
  have c:=hz 0 aA
  simp at c;subst c
  have:=Qt (es:=xs) (k:=k) (fun j d=>by simpa using hz (j+1) aA) (by simpa using h) hne
  simpa[mQ] using this
 | [],k,e,_,h,_=>by simp at h
def Nj:∀{es:List Int},(∀j,j < es.length->es[j]? =some 0)->mQ es=0
 | [],_=>rfl
 | x::xs,hz=>by
  have c:=hz 0 aB
  simp at c;subst c
  have:=Nj (es:=xs) (fun j d=>by simpa using hz (j+1) (by simp;omega))
  simpa[mQ] using this
def kD(b:Bool)(e:Int):Int:=if b then e else 0
def jV(n lo hi:Int):Bool:=decide (lo<=n)&&decide (n<=hi)
section
variable{t:Nat}
def aLH(i:Nat){v:Value}(hi:ops[i]? =some ⟨some d,op,ty,pos,aN,some (j,want)⟩)(hj:(ops[j]?).bind (·.dst)=some t)(A:e.get t=some (.bool want))(hd:d < N.n)(bL:bY P N w0 e R0 H0 ⟨some d,op,ty,pos,aN,none⟩ v)
  (o:(Region.free .any ops listed i&&(Region.ready .any ops listed).contains i&&decide (i < m))=true) (hQ:∀c a w,Q (.panic c) (a.put (some d) v) w->Q (.panic c) a w)
  (f:∀w,St w0 R H w->St w0 R0 H0 w)
  (k:XA P N w0 ops Q R0 H0 m fuel (listed.setIfInBounds i true) ((d,v)::e) R H):XA P N w0 ops Q R0 H0 m (fuel+1) listed e R H:=by
 simp only[jY,decide_eq_true_eq] at o;obtain⟨⟨z,p⟩,y⟩:=o;intro up a w h st
 have x:=k (up.lZ (by simpa using p)) (a.put (some d) v) w (h.put hd v) st
 refine aDk hi (Region.noSelect_spec up.gD) hQ up.tl y fuel listed a w up.down (Region.free_spec hi z) (by simpa using p) (.inl ⟨?_,fun r l=>?_⟩) (f w st) x
 .simp only[Region.wanted,yielded,hj,Bo,h.get t _ A];simp
 .exact bL a r h l
def aXt(i:Nat){b:Bool}(hi:ops[i]? =some ⟨some d,op,ty,pos,aN,some (j,want)⟩)(hj:(ops[j]?).bind (·.dst)=some t)(z:e.get t=some (.bool b))(x:b= !want)(hd:d < N.n)
  (h:(Region.free .any ops listed i&&(Region.ready .any ops listed).contains i&&decide (i < m))=true) (hQ:∀c a w,Q (.panic c) (a.put (some d) undef) w->Q (.panic c) a w)
  (f:∀w,St w0 R H w->St w0 R0 H0 w)
  (k:XA P N w0 ops Q R0 H0 m fuel (listed.setIfInBounds i true) ((d,undef)::e) R H):XA P N w0 ops Q R0 H0 m (fuel+1) listed e R H:=by
 simp only[jY,decide_eq_true_eq] at h;obtain⟨⟨y,o⟩,r⟩:=h;intro up a w l st
 have p:=k (up.lZ (by simpa using o)) (a.put (some d) undef) w (l.put hd undef) st
 refine aDk hi (Region.noSelect_spec up.gD) hQ up.tl r fuel listed a w up.down (Region.free_spec hi y) (by simpa using o) (.inr ⟨?_,rfl⟩) (f w st) p;simp only[Region.wanted,yielded,hj,Bo,l.get t _ z,x];simp
def aXq{t:Nat}{p:Prop}[Decidable p](c:e.get t=some (.bool (decide p)))(d:p->XA P N w0 ops Q R0 H0 m fuel listed ((t,.bool true)::e) R H)(f:¬p->XA P N w0 ops Q R0 H0 m fuel listed ((t,.bool false)::e) R H):XA P N w0 ops Q R0 H0 m fuel listed e R H:=
 fun up=>cH c (fun h=>d h up) (fun h=>f h up)
def aUx{x y:Operand}{t u:TypeId}{b c:Bool}(h:P.underlying t=some .bool)(hx:e.ev x=some (.bool b))(hy:e.ev y=some (.bool c)):bY P N w0 e R H ⟨some d,.binOp .eql t x y u,ty,pos,aN,none⟩ (.bool (b==c)):=jF (fun a w f=>by
 simp[execOp,f.ev hx,f.ev hy,eqGuard,binOp,run_equal_bool w t b c h])
def aUl{x:Operand}{a:Addr}(hx:e.ev x=some (.pointer (some a))):bY P N w0 e R H ⟨some d,.nilCheck x,ty,pos,aN,none⟩ (.pointer (some a)):=jF (fun b w c=>by simp[execOp,c.ev hx])
end
section
variable{t:Nat}
def eR(k:XK N w0 K' e R H)(hk:XK N w0 K' e R H->XK N w0 K e R H:=by
  intro h
  repeat (first | refine iU ?_ | refine aC6 ?_ | refine aC5 ?_ | refine aCC ?_ | refine aCE ?_ | refine aCB ?_ | refine aCD rfl ?_)
  exact h):XK N w0 K e R H:=hk k
def cF(e':Env)(h:XK N w0 K e' R H)(hs:e'.Sub e:=by repeat (first | exact trivial | refine⟨rfl,?_⟩)):XK N w0 K e R H:=Wm e' hs h
def Rd.a{b o:Nat}{v:Value}(h:Rd w0 R H b o v:=by
  first | assumption | exact Rd.aK 0 rfl rfl | exact Rd.aK 1 rfl rfl | exact Rd.aK 2 rfl rfl | exact Rd.aK 3 rfl rfl | exact Rd.aK 4 rfl rfl | exact Rd.aK 5 rfl rfl | exact Rd.aK 6 rfl rfl | exact Rd.aK 7 rfl rfl | exact Rd.aK 8 rfl rfl | exact aGg aB (by assumption) | (apply aX0 aB;assumption;rfl)):Rd w0 R H b o v:=h
def cI.a{b o:Nat}{vs:List Value}(h:cI w0 R H b o vs:=by
  first | assumption | exact cI.whole 0 rfl | exact cI.whole 1 rfl | exact cI.whole 2 rfl | exact cI.whole 3 rfl | exact cI.whole 4 rfl | exact cI.whole 5 rfl | exact cI.whole 6 rfl | exact cI.whole 7 rfl | exact cI.whole 8 rfl | exact aCO aB (by assumption)):cI w0 R H b o vs:=h
def aAE{x:Operand}{t:TypeId}{b o:Nat}{v:Value}(hx:e.ev x=some (.pointer (some ⟨b,o,none⟩)))(k:XK N w0 (wpList P ops Q rest) ((d,v)::e) R H)(f:tC P t=true:=by kernel_rfl)(c:Rd w0 R H b o v:=by
  exact Rd.a)(hd:d < N.n:=by decide):
  XK N w0 (wpList P ops Q (⟨some d,.load t x,ty,pos,aN,none⟩::rest)) e R H:=Jh f hx c hd k
def aMO(n:Nat){x:Operand}{t:TypeId}{b o:Nat}{vs:List Value}(hx:e.ev x=some (.pointer (some ⟨b,o,none⟩)))(k:XK N w0 (wpList P ops Q rest) ((d,.agg vs.toArray)::e) R H)(h:Fa P t n=true:=by kernel_rfl)(c:cI w0 R H b o vs:=by
  exact cI.a)(f:vs.length=n:=by rfl)(hd:d < N.n:=by decide):
  XK N w0 (wpList P ops Q (⟨some d,.load t x,ty,pos,aN,none⟩::rest)) e R H:=Gy n h hx c f hd k
def Nr{x:Operand}{t:TypeId}{b o:Nat}{v:Value}(hx:e.ev x=some (.pointer (some ⟨b,o,none⟩)))(c:tC P t=true:=by kernel_rfl)(f:Rd w0 R H b o v:=by
  exact Rd.a):
  bY P N w0 e R H ⟨some d,.load t x,ty,pos,aN,none⟩ v:=vW c hx f
def dR(P:Program)(H:List HP)(s:TypeId)(g o:Nat)(v:Value)(H':List HP):Prop:=∃i t c,H[i]? =some (HP.aK g t c)/\tC P s=true/\v.oneCell'=true/\o < c.length/\H'=H.set i (HP.aK g t (c.set o v))
def dR.mk(i:Nat){s t:TypeId}{g o:Nat}{cs:List Value}{v:Value}(hi:H[i]? =some (HP.aK g t cs))(hs:tC P s=true)(c:v.oneCell'=true)(hl:o < cs.length):dR P H s g o v (H.set i (HP.aK g t (cs.set o v))):=⟨i,t,cs,hi,hs,c,hl,rfl⟩
def dR.a(i:Nat){s t:TypeId}{g o:Nat}{cs:List Value}{v:Value}(hi:H[i]? =some (HP.aK g t cs):=by rfl)(hs:tC P s=true:=by kernel_rfl)(c:v.oneCell'=true:=by rfl)(hl:o < cs.length:=by first | (simp;done) | (simp[Value.cells];done)):dR P H s g o v (H.set i (HP.aK g t (cs.set o v))):=dR.mk i hi hs c hl
def aGz{x y:Operand}{s:TypeId}{g o:Nat}{v:Value}(hx:e.ev x=some (.pointer (some ⟨g,o,none⟩)))(hy:e.ev y=some v)(k:XK N w0 (wpList P ops Q rest) e R H')(hs:dR P H s g o v H':=by
  first | exact dR.a 0 | exact dR.a 1 | exact dR.a 2 | exact dR.a 3 | exact dR.a 4 | exact dR.a 5 | exact dR.a 6 | exact dR.a 7 | exact dR.a 8):
  XK N w0 (wpList P ops Q (⟨none,.store s x y,ty,pos,aN,none⟩::rest)) e R H:=by
 obtain⟨i,t,j,c,d,h,f,rfl⟩:=hs;exact tR i c d hx hy h f k
def aX3{b o:Nat}{cs:List Value}{v:Value}(c:cs[o]? =some v)(hi:∃(i:Nat) (t:TypeId),H[i]? =some (HP.aK b t cs):=by
  first | exact⟨0,_,rfl⟩ | exact⟨1,_,rfl⟩ | exact⟨2,_,rfl⟩ | exact⟨3,_,rfl⟩ | exact⟨4,_,rfl⟩ | exact⟨5,_,rfl⟩ | exact⟨6,_,rfl⟩ | exact⟨7,_,rfl⟩ | exact⟨8,_,rfl⟩ | exact⟨9,_,rfl⟩):Rd w0 R H b o v:=by
 obtain⟨i,t,hi⟩:=hi;exact Rd.aK i hi c
def qI(H:List HP)(g o:Nat)(v:Value)(H':List HP):Prop:=∃(i:Nat) (t:TypeId) (c:List Value),H[i]? =some (HP.aK g t c)/\(∀u∈v.cells.toList,u.oneCell'=true)/\o+v.cells.size<=c.length/\H'=H.set i (HP.aK g t (jR c o v.cells.toList))
def qI.mk(i:Nat){t:TypeId}{g o:Nat}{cs:List Value}{v:Value}(hi:H[i]? =some (HP.aK g t cs))(c:∀u∈v.cells.toList,u.oneCell'=true)(hl:o+v.cells.size<=cs.length):qI H g o v (H.set i (HP.aK g t (jR cs o v.cells.toList))):=⟨i,t,cs,hi,c,hl,rfl⟩
def qI.a(i:Nat){t:TypeId}{g o:Nat}{cs:List Value}{v:Value}(hi:H[i]? =some (HP.aK g t cs):=by rfl)(c:∀u∈v.cells.toList,u.oneCell'=true:=by simp[Value.cells,Value.oneCell'])(hl:o+v.cells.size<=cs.length:=by simp[Value.cells]):qI H g o v (H.set i (HP.aK g t (jR cs o v.cells.toList))):=qI.mk i hi c hl
def Jg{x y:Operand}{s:TypeId}{g o:Nat}{v:Value}(hx:e.ev x=some (.pointer (some ⟨g,o,none⟩)))(hy:e.ev y=some v)(k:XK N w0 (wpList P ops Q rest) e R H')(f:(P.info? s).any (·.size==v.cells.size)=true:=by kernel_rfl)(hs:qI H g o v H':=by
  first | exact qI.a 0 | exact qI.a 1 | exact qI.a 2 | exact qI.a 3 | exact qI.a 4 | exact qI.a 5 | exact qI.a 6 | exact qI.a 7 | exact qI.a 8):XK N w0 (wpList P ops Q (⟨none,.store s x y,ty,pos,aN,none⟩::rest)) e R H:=by
 obtain⟨i,t,j,c,d,h,rfl⟩:=hs;exact uJ i c hx hy f d h k
def Eu(h:∀w,St w0 R H w->St w0 R0 H0 w:=by first | exact fun _ h=>h | exact fun _ h=>h.tail | exact fun _ h=>h.cN | exact fun _ h=>h.tail.tail | exact fun _ h=>h.cN.tail | exact fun _ h=>h.cN.cN | exact fun _ h=>h.cN.tail.tail | exact fun _ h=>h.tail.tail.tail | exact fun _ h=>h.cN.tail.cN.tail | exact fun _ h=>h.Fv):∀w,St w0 R H w->St w0 R0 H0 w:=h
def iQ(i:Nat){j:Oper}{v:Value}{d:Nat}(hi:ops[i]? =some j)(f:j.dst=some d)(hg:j.guard=none)(bL:bY P N w0 e R0 H0 j v)(k:XA P N w0 ops Q R0 H0 m fuel (listed.setIfInBounds i true) ((d,v)::e) R H)(hd:d < N.n:=by decide)
  (o:(Region.free .any ops listed i&&(Region.ready .any ops listed).contains i&&decide (i < m))=true:=by kernel_rfl) (hQ:∀c a w,Q (.panic c) (a.put j.dst v) w->Q (.panic c) a w:=by exact fun _ _ _ h=>h)
  (l:∀w,St w0 R H w->St w0 R0 H0 w:=by exact Eu):XA P N w0 ops Q R0 H0 m (fuel+1) listed e R H:=nG i hi f hg hd bL o hQ l k
def qH{i:Nat}(h:XA P N w0 ops Q R0 H0 m fuel (listed.setIfInBounds i true) e R H)(hS:∀w,St w0 R H w->St w0 R0 H0 w:=by exact Eu):
  XK N w0 (wpList P ops (Exit.then (wG P w0 ops Q R0 H0 m fuel listed i) Q) []) e R H:=jA (iU (mF hS h))
def fY{i:Nat}(h:XA P N w0 ops Q R0 H0 m fuel (listed.setIfInBounds i true) e R H)(hm:Nat.ble m i=true:=by rfl):
  XK N w0 (wpList P ops (Exit.then (wG P w0 ops Q R0 H0 m fuel listed i) Q) []) e R H:=jA (iU (aXu hm h))
def iJ(k:XK N w0 K' e R H)(hk:XK N w0 K' e R H->XK N w0 (Q .normal) e R H:=by
  intro h
  repeat (first | refine iU ?_ | refine aC6 ?_ | refine aC5 ?_ | refine aCC ?_ | refine aCE ?_ | refine aCB ?_ | refine aCD rfl ?_)
  exact h):XK N w0 (wpList P ops Q []) e R H:=jA (hk k)
end
def Az(w:World)(r:Nat)(l:List (Int×Value)):Prop:=∃d c,w.heap[r]? =some (.map d c)/\d.toList.map (fun x=>(x.key,x.val))=l.map fun p=>(Value.int .i64 p.1,p.2)
def pM(l:List (Int×Value))(k:Int):Option Value:=(l.find? fun p=>decide (p.1=k)).map (·.2)
def rH:List (Int×Value)->Int->Value->List (Int×Value)
 | [],k,v=>[(k,v)]
 | (a,b)::r,k,v=>if a=k then(k,v)::r else(a,b)::rH r k v
def Ue(a:Int)(b:Value)(l:List (Int×Value))(k:Int):pM ((a,b)::l) k=if a=k then some b else pM l k:=by
 unfold pM;rw[List.find?_cons]
 by_cases h:a=k<;>simp[h]
def HP.map(r:Nat)(l:List (Int×Value)):HP:=⟨fun F w=>F r/\Az w r l,fun F w j h i=>⟨h.1,by
 obtain⟨f,c,e,d⟩:=h.2
 exact⟨f,c,(i r h.1).trans e,d⟩⟩⟩
def Az.lt{w:World}{r:Nat}{l:List (Int×Value)}(h:Az w r l):r < w.heap.size:=by
 obtain⟨e,c,d,_⟩:=h;rcases dI r w.heap.size with h | h
 .exact h
 .rw[Pk h] at d;cases d
def Az.below{w w':World}{r:Nat}{l:List (Int×Value)}(h:Az w r l)(j:Below w.heap.size w w'):Az w' r l:=by
 have i:=h.lt
 obtain⟨f,c,e,d⟩:=h;exact⟨f,c,(j.block r i).trans e,d⟩
def St.map{w0 w:World}{R:List Piece}{H:List HP}(st:St w0 R H w){i r:Nat}{l:List (Int×Value)}(hi:H[i]? =some (HP.map r l)):Az w r l:=(st.sat hi).choose_spec.2
def aFb(kd:IntKind):∀(es:List MapEntry) (l:List (Int×Value)) (k:Int) (i:Nat),es.map (fun x=>(x.key,x.val))=l.map (fun p=>(Value.int .i64 p.1,p.2))->
  ∃r,Instr.findNow (.int kd) (.int .i64 k) es i=some r/\(r.map (·.2)=pM l k)/\(∀j v,r=some (j,v)->i<=j/\(es.modify (j - i) fun x=>{x with key:=.int .i64 k,val:=v}).map (fun x=>(x.key,x.val))=es.map fun x=>(x.key,x.val))/\
   (∀j v,r=some (j,v)->∀u,(es.modify (j - i) fun x=>{x with key:=.int .i64 k,val:=u}).map (fun x=>(x.key,x.val))=(rH l k u).map fun p=>(Value.int .i64 p.1,p.2))/\
   (r=none->∀u,l.map (fun p=>(Value.int .i64 p.1,p.2))++[(Value.int .i64 k,u)]=(rH l k u).map fun p=>(Value.int .i64 p.1,p.2))/\(∀j v,r=some (j,v)->(es[j - i]?).map (·.key)=some (.int .i64 k))
 | [],[],k,i,_=>⟨none,rfl,rfl,aB,aB,fun _ u=>by simp[rH],aB⟩
 | [],p::l,k,i,h=>by simp at h
 | e::es,[],k,i,h=>by simp at h
 | e :: es, (a, b) :: l, k, i, h => by
  simp only[vJ,List.cons.injEq,Ke] at h;obtain⟨⟨hk,o⟩,n⟩:=h;unfold Instr.findNow;rw[hk];simp only[Instr.sameNow,if_true]
  by_cases d:k=a
  .subst d;simp only[beq_self_eq_true];refine⟨_,rfl,?_,?_,?_,aB,?_⟩
   .rw[Ue,aH rfl,o];rfl
   .intro j v c;cases c;refine⟨gE _,?_⟩;simp[List.modify,hk]
   .intro j v c u;cases c;simp[List.modify,rH,n]
   .intro j v c;cases c;simp[hk]
  .have A:(k==a)=false:=by simpa using d
   simp only[A];obtain⟨r,B,z,m,y,w,D⟩:=aFb kd es l k (i+1) n;refine⟨r,B,?_,?_,?_,?_,?_⟩
   .rw[Ue,aC (fN d)];exact z
   .intro j v c;obtain⟨f,t⟩:=m j v c;refine⟨aA,?_⟩;rw[show j - i=(j - (i+1))+1 by omega,List.modify_succ_cons,vJ,t];rfl
   .intro j v c u
    have f:=(m j v c).1
    rw[show j - i=(j - (i+1))+1 by omega,List.modify_succ_cons,vJ,y j v c u,rH,aC (fN d),vJ,hk,o]
   .intro C u;rw[rH,aC (fN d),vJ,sZ,w C u,vJ]
   .intro j v c
    have f:=(m j v c).1
    rw[show j - i=(j - (i+1))+1 by omega,tX];exact D j v c
section
variable{kt et:TypeId}{r:Nat}{l:List (Int×Value)}
def run_getObj_map{es:Array MapEntry}{c:Nat}(h:w.heap[r]? =some (.map es c)):(getObj r).run P w=.ok (.map es c) w:=by simp[getObj,Sem.run,h]
def aBd{kd:IntKind}(hk:P.underlying kt=some (.int kd))(b:Bool)(k:Int):(Instr.checkKey b 10000 kt (.int .i64 k)).run P w=.ok () w:=by
 unfold Instr.checkKey;simp[Sem.run_bind,run_underlying hk]
def aOJ{kd:IntKind}{z:Value}(n:P.underlying t=some (.map kt et))(hk:P.underlying kt=some (.int kd))(p:∀w,(zeroValue et).run P w=.ok z w)(h:Az w r l)(k:Int)(ok:Bool):
  (Instr.lookup t (.map (some r)) (.int .i64 k) ok).run P w=.ok (if ok then .tuple #[(pM l k).getD z,.bool (pM l k).isSome] else(pM l k).getD z) w:=by
 obtain⟨f,c,i,o⟩:=h;obtain⟨q,e,d,_⟩:=aFb kd f.toList l k 0 o
 have m:(Instr.findKey kt (.int .i64 k) f.toList).run P w=.ok q w:=by
  unfold Instr.findKey;simp[Sem.run_bind,run_underlying hk,e]
 unfold Instr.lookup;rw[<-d];cases q with
 | none=>cases ok<;>simp[Sem.run_bind,run_underlying n,run_getObj_map i,aBd hk,m,p]
 | some x=>obtain⟨j,v⟩:=x;cases ok<;>simp[Sem.run_bind,run_underlying n,run_getObj_map i,aBd hk,m]
def aOH{kd:IntKind}(B:P.underlying t=some (.map kt et))(hk:P.underlying kt=some (.int kd))(h:Az w r l)(k:Int)(v:Value):
  ∃es c,(Instr.mapUpdate t (.map (some r)) (.int .i64 k) v).run P w=.ok () {w with heap:=w.heap.setIfInBounds r (.map es c)}/\es.toList.map (fun x=>(x.key,x.val))=(rH l k v).map fun p=>(Value.int .i64 p.1,p.2):=by
 obtain⟨es,c,n,z⟩:=h;obtain⟨q,y,_,C,f,i,m⟩:=aFb kd es.toList l k 0 z
 have A:(Instr.findKey kt (.int .i64 k) es.toList).run P w=.ok q w:=by
  unfold Instr.findKey;simp[Sem.run_bind,run_underlying hk,y]
 have jE:∀o,(setObj r o).run P w=.ok () {w with heap:=w.heap.setIfInBounds r o}:=fun o=>by simp[setObj,Sem.run,n]
 cases q with
 | none =>
  refine⟨es.push {key:=.int .i64 k,val:=v,born:=c},c+1,?_,?_⟩
  .unfold Instr.mapUpdate;simp[Sem.run_bind,run_underlying B,run_getObj_map n,aBd hk,A,jE]
  .rw[Array.toList_push,Jw,z];exact i rfl v
 | some x =>
  obtain⟨j,u⟩:=x
  have d:=m j u rfl
  rw[Nat.sub_zero] at d
  have e:(Instr.keyThatStays (((es[j]?).map (·.key)).getD (.int .i64 k)) (.int .i64 k)).run P w=.ok (.int .i64 k) w:=by
   have:(es[j]?).map (·.key)=some (.int .i64 k):=by simpa using d
   rw[this];simp[Instr.keyThatStays,Instr.sameBits]
  refine⟨es.modify j fun x=>{x with key:=.int .i64 k,val:=v},c,?_,?_⟩
  .unfold Instr.mapUpdate;simp[Sem.run_bind,run_underlying B,run_getObj_map n,aBd hk,A,jE,e]
  .have:=f j u rfl v
   rw[Nat.sub_zero] at this;rw[Array.toList_modify];exact this
end
def Xj{t:TypeId}(hd:d < N.n)(k:∀g,XK N w0 (wpList P ops Q rest) ((d,.map (some g))::e) R (HP.map g []::H)):XK N w0 (wpList P ops Q (⟨some d,.makeMap t none,ty,pos,aN,none⟩::rest)) e R H:=
 vF rfl fun a w c st=>⟨.map (some w.heap.size),w.alloc (.map #[] 0),by simp[execOp,Instr.makeMap],k w.heap.size _ _ (c.put hd _) (st.new (Wf w _) ⟨⟨gE _,aB⟩,#[],0,heap_alloc_new w _,rfl⟩)⟩
def zeroV{t:TypeId}{z:Value}(h:(P.info? t).bind (·.zero)=some z):∀w,(zeroValue t).run P w=.ok z w:=fun w=>by
 obtain⟨i,c,d⟩:=aBm.1 h;simp[zeroValue,typeInfo,c,d]
def aAD{x y:Operand}{t kt et:TypeId}{kd:IntKind}{z:Value}{r:Nat}{l:List (Int×Value)}{k:Int}(ok:Bool)(h:P.underlying t=some (.map kt et))(hk:P.underlying kt=some (.int kd))(i:(P.info? et).bind (·.zero)=some z)
  (hx:e.ev x=some (.map (some r))) (hy:e.ev y=some (.int .i64 k)) (hm:∀w,St w0 R H w->Az w r l) (hd:d < N.n)
  (f:XK N w0 (wpList P ops Q rest) ((d,if ok then .tuple #[(pM l k).getD z,.bool (pM l k).isSome] else(pM l k).getD z)::e) R H):XK N w0 (wpList P ops Q (⟨some d,.lookup t x y ok,ty,pos,aN,none⟩::rest)) e R H:=
 vF rfl fun a w c st=>⟨_,w,by simp only[execOp,c.ev hx,c.ev hy,Sem.run_bind,aOJ h hk (zeroV i) (hm w st),Result.andThen_ok,Sem.run_pure],f _ _ (c.put hd _) st⟩
def Lz(i:Nat){x y u:Operand}{t kt et:TypeId}{kd:IntKind}{r:Nat}{l:List (Int×Value)}{k:Int}{v:Value}(C:P.underlying t=some (.map kt et))(hk:P.underlying kt=some (.int kd))(hi:H[i]? =some (HP.map r l))
  (hx:e.ev x=some (.map (some r))) (hy:e.ev y=some (.int .i64 k)) (A:e.ev u=some v) (B:XK N w0 (wpList P ops Q rest) e R (H.set i (HP.map r (rH l k v)))):XK N w0 (wpList P ops Q (⟨none,.mapUpdate t x y u,ty,pos,aN,none⟩::rest)) e R H:=
 aCZ rfl rfl fun a w f st=>by
  have n:=st.map hi
  have j:=n.lt
  obtain⟨p,c,d,E⟩:=aOH (P:=P) C hk n k v;refine⟨{w with heap:=w.heap.setIfInBounds r (.map p c)},by simp only[execOp,f.ev hx,f.ev hy,f.ev A,Sem.run_bind,d,Result.andThen_ok,Sem.run_pure],B _ _ f ?_⟩;refine st.yZ hi aB rfl rfl rfl fun F o z=>⟨F,⟨o.1,p,c,by simp[Yc,j],E⟩,fun b h=>⟨.inl h,by simpa using z b h⟩,fun b z m=>?_⟩
  rw[Yc];split
  .rename_i D;exact absurd (D▸o.1) m
  .rfl
structure jG(w w':World)(F F':Nat->Prop):Prop where
 os:w'.os=w.os
 tape:w'.tape=w.tape
 output:w'.output=w.output
 size:w.heap.size<=w'.heap.size
 new:∀b,F' b->(F b\/w.heap.size<=b)/\b < w'.heap.size
 old:∀b,b < w.heap.size->¬F b->w'.heap[b]? =w.heap[b]?
def Xm(i:Nat){dst:Option Nat}{e':Env}{f:FuncId}{x:Operand}{args:List Operand}{fi ca vs:List Value}{tys:Array TypeId}{p:HP}{v:Value}(q:HP)(hf:fW P f=true)(hx:e.ev x=some (.func (.func f) fi.toArray ca.toArray))(ha:e.aM args=some vs)(hi:H[i]? =some p)
  (hd:match dst with | some d=>d < N.n/\e'=(d,v)::e | none=>e'=e)
  (hc:∀w F,St w0 R H w->p.sat F w->(∀b,F b->b < w.heap.size)->Calls P f (fi++vs++ca).toArray w fun y w'=>y=.returned v/\∃G,q.sat G w'/\jG w w' F G)
  (k:XK N w0 (wpList P ops Q rest) e' R (H.set i q)):XK N w0 (wpList P ops Q (⟨dst,.call {callee:=.value x,args:=args.toArray,argTypes:=tys},ty,pos,aN,none⟩::rest)) e R H:=fun a w J st=>wpList_plain rfl fun K hK=>by
 unfold fW at hf;cases U:P.funcs[f]? with
 | none=>simp[U] at hf
 | some fn =>
  simp[U] at hf;obtain⟨X,Y⟩:=hf
  have D:(execOp a.eval (⟨dst,.call {callee:=.value x,args:=args.toArray,argTypes:=tys},ty,pos,aN,none⟩:Oper)).run P w=.ok (.enter f (fi++vs++ca).toArray) w:=by
   cases A:fn.body with
   | none=>simp[A] at Y
   | some c=>simp[execOp,resolve,J.ev hx,Deferred.ofValue,invoke,callFunc,U,X,A,J.aM ha]
  obtain⟨Z,F,V,t,hs,l,o⟩:=st.ex;unfold Oper.wp;rw[D];refine(hc w (F i) st (hs i p hi) (fun b A=>(l i b A).2)).mono fun y w' ⟨hy,G,M,m⟩=>?_;subst hy
  have C:St w0 R (H.set i q) w':=by
   have O:i < H.length:=by
    rcases dI i H.length with h | h
    .exact h
    .rw[eW h] at hi;cases hi
   refine⟨m.os.trans st.os,m.tape.trans st.tape,m.output.trans st.output,oL st.size m.size,Z,fun j=>if j=i then G else F j,fun b h=>jC (V b h) m.size,fun p I b h=>?_,fun j r B=>?_,fun j b h=>?_,fun j k b L h=>?_⟩
   .exact⟨(t p I b h).1,(m.old b (V b (t p I b h).1) (fun T=>(l i b T).1 (t p I b h).1)).trans (t p I b h).2⟩
   .rw[gX] at B;split at B
    .rename_i e;subst e
     first | (rw[aH O] at B;cases B) | cases B
     simpa using M
    .rename_i e
     simp only[aC (fN e)];exact r.loc _ _ _ (hs j r B) (fun b A=>m.old b (l j b A).2 (o j i b (fN e) A))
   .dsimp only at h;split at h
    .refine⟨fun E=>?_,(m.new b h).2⟩;rcases(m.new b h).1 with h | h
     .exact(l i b h).1 E
     .have:=V b E;omega
    .exact⟨(l j b h).1,jC (l j b h).2 m.size⟩
   .dsimp only at h|-;split at h<;>split
    .rename_i h1 h2;omega
    .rename_i e1 e2
     intro z;rcases(m.new b h).1 with h | h
     .exact o i k b aA h z
     .have:=(l k b z).2;omega
    .rename_i e1 e2
     intro z;rcases(m.new b z).1 with z | z
     .exact o j i b aA h z
     .have:=(l j b h).2;omega
    .exact o j k b L h
  cases dst with
  | none=>dsimp only at hd;subst hd;exact hK _ _ (k _ _ J C)
  | some d=>dsimp only at hd;obtain⟨hd,rfl⟩:=hd;exact hK _ _ (k _ _ (J.put hd v) C)
def aGd{F:Nat->Prop}{p:HP}(h:p.sat F w)(hF:∀b,F b->b < w.heap.size):St w [⟨w,fun b=>b < w.heap.size/\¬F b⟩] [p] w:=
 ⟨rfl,rfl,rfl,gE _,fun b=>b < w.heap.size/\¬F b,fun i b=>i=0/\F b,fun b h=>h.1,fun p e b d=>by simp at e;subst e;exact⟨d,rfl⟩,
  fun i q c=>by cases i with
   | zero=>simp at c;subst c;show p.sat (fun b=>0=0/\F b) w;rw[show(fun b=>0=0/\F b)=F by funext b;simp];exact h
   | succ i=>simp at c,
  fun i b d=>⟨fun h=>h.2 d.2,hF b d.2⟩,fun i j b f c k=>by have:=c.1;have:=k.1;omega⟩
def aWR{nn:Nat}{F:Nat->Prop}{p:HP}{f:FuncId}{fn:Func}{c:Code}{vs:List Value}{d:Ending->World->Prop}(hf:P.funcs[f]? =some fn)(k:fn.body=some c)(l:fn.ntmps=nn)(hl:vs.length<=nn)(hp:p.sat F w)(hF:∀b,F b->b < w.heap.size)
  (h:XK ⟨nn,[]⟩ w (c.wp P (bodyPost P fn d)) (Eb 0 vs) [⟨w,fun b=>b < w.heap.size/\¬F b⟩] [p]):Calls P f vs.toArray w d:=by
 refine calls_of_wp hf k (h _ _ ⟨?_,rfl,fun t v j=>?_⟩ (aGd hp hF))
 .simp;omega
 .obtain⟨_,e⟩:=aAj vs 0 t v j;rw[Nat.sub_zero] at e
  have i:t < vs.length:=by
   rcases dI t vs.length with h | h
   .exact h
   .rw[eW h] at e;cases e
  rw[aBn (by simpa using i)]
  simpa using e
def fS{nn:Nat}{F:Nat->Prop}{p:HP}{f:FuncId}{fn:Func}{c:Code}{vs:List Value}{d:Ending->World->Prop}(hf:P.funcs[f]? =some fn)(e:fn.ntmps=nn)(hp:p.sat F w)(hF:∀b,F b->b < w.heap.size)
  (h:XK ⟨nn,[]⟩ w (c.wp P (bodyPost P fn d)) (Eb 0 vs) [⟨w,fun b=>b < w.heap.size/\¬F b⟩] [p]) (i:fn.body=some c:=by rfl) (hl:vs.length<=nn:=by simp):Calls P f vs.toArray w d:=aWR hf i e hl hp hF h
def St.turns{F:Nat->Prop}{q:HP}(st:St w0 R H w)(hF:∀b,F b->b < w0.heap.size)(k:⟨w0,fun b=>b < w0.heap.size/\¬F b⟩∈R){i:Nat}(hi:H[i]? =some q):∃f,q.sat f w/\jG w0 w F f:=by
 obtain⟨Z,G,n,e,l,j,hd⟩:=st.ex;refine⟨G i,l i q hi,st.os,st.tape,st.output,st.size,fun b c=>⟨?_,(j i b c).2⟩,fun b c d=>(e _ k b ⟨c,d⟩).2⟩;rcases dI b w0.heap.size with h | h
 .refine .inl (nO fun m=>(j i b c).1 (e _ k b ⟨h,m⟩).1)
 .exact .inr h
structure fK where
 kind:Int
 src:List Int
 rate:Int
 mul:Int
 div:Int
 lock:Int
structure Dom where
 above:Int
 delay:Int
 ret:Bool
structure Rg where
 reset:Int
 kept:Bool
structure bR where
 clock:Int
 domain:Int
 reset:Int
 zX:Int
 aX:List Rg
 kJ:List Int
structure aI where
 aL:List fK
 domains:List Dom
 bG:List Int
 aG:List bR
abbrev xS:=TypeId->Nat->Option Addr->Nat->List Value->Prop
def vD(S:xS)(c:fK)(row:List Value):Prop:=
 ∃A n k,row=[.int .u8 c.kind,.slice A n k,.int .u64 c.rate,iv c.mul,iv c.div,iv c.lock]/\n=c.src.length/\S 3 1 A n (aU c.src)
def xX(d:Dom)(row:List Value):Prop:=row=[iv d.above,iv d.delay,.bool d.ret]
def Ci(d:Int)(row:List Value):Prop:=row=[iv d]
def Rg.cells(r:Rg):List Value:=[.int .u32 r.reset,.bool r.kept]
def sV(S:xS)(d:bR)(row:List Value):Prop:=
 ∃A n k e c f,row=[iv d.clock,iv d.domain,iv d.reset,.int .u32 d.zX,.slice A n k,.slice e c f]/\n=d.aX.length/\c=d.kJ.length/\
  S 82 2 A n (d.aX.flatMap Rg.cells)/\S 3 1 e c (aU d.kJ)
def Rows{α:Type}(R:α->List Value->Prop)(sz:Nat):List α->List (List Value)->Prop
 | [],[]=>True
 | e::es,r::rs=>r.length=sz/\R e r/\Rows R sz es rs
 | _,_=>False
def kQ{α:Type}(S:xS)(R:α->List Value->Prop)(t:TypeId)(sz:Nat)(A:Option Addr)(n:Nat)(es:List α):Prop:=
 ∃rows,Rows R sz es rows/\n=es.length/\S t sz A n rows.flatten
section
variable{α:Type}{R R':α->List Value->Prop}
def Rows.mono(d:∀e r,R e r->R' e r):∀{es:List α} {c:List (List Value)},Rows R sz es c->Rows R' sz es c
 | [],[],_=>trivial
 | _::_,_::_,h=>⟨h.1,d _ _ h.2.1,Rows.mono d h.2.2⟩
def Rows.snoc:∀{es:List α} {c:List (List Value)} {e:α} {r:List Value},Rows R sz es c->r.length=sz->R e r->Rows R sz (es++[e]) (c++[r])
 | [],[],_,_,_,h1,h2=>⟨h1,h2,trivial⟩
 | _::_,_::_,_,_,h,h1,h2=>⟨h.1,h.2.1,Rows.snoc h.2.2 h1 h2⟩
def Rows.len:∀{es:List α} {c:List (List Value)},Rows R sz es c->c.length=es.length/\c.flatten.length=es.length*sz
 | [],[],_=>⟨rfl,aB⟩
 | _::es,_::_,h=>by
  obtain⟨e,d⟩:=Rows.len h.2.2;refine⟨by simp[e],?_⟩;rw[Pp,rF,d,h.1,mK,Kc,Nat.add_comm]
def Rows.get:∀{es:List α} {c:List (List Value)} {k:Nat} {e:α},Rows R sz es c->es[k]? =some e->∃r,r.length=sz/\R e r/\∀f,f < sz->c.flatten[k*sz+f]? =r[f]?
 | _::_,r::_,0,e,h,hk=>by
  simp at hk;subst hk;exact⟨r,h.1,h.2.1,fun f hf=>by rw[Pp,Nat.zero_mul,mA,pL (by rw[h.1];exact hf)]⟩
 | _::es,r::c,k+1,e,h,hk=>by
  simp at hk;obtain⟨r',i,d,h3⟩:=Rows.get h.2.2 hk;refine⟨r',i,d,fun f hf=>?_⟩;rw[Pp,nA (by rw[h.1,Kc];omega),h.1,show(k+1)*sz+f - sz=k*sz+f by rw[Kc];omega];exact h3 f hf
end
def yT(S:xS)(s:aI)(v:Array Value):Prop:=
 ∃i f l d c o e j m h k n,v=#[.slice i f l,.slice d c o,.slice e j m,.slice h k n]/\
  kQ S (vD S) 73 6 i f s.aL/\kQ S xX 75 3 d c s.domains/\kQ S Ci 77 1 e j s.bG/\kQ S (sV S) 80 6 h k s.aG
section
variable{S S':xS}(h:∀t sz A n xs,S t sz A n xs->S' t sz A n xs)
include h
def vD.mono{c:fK}{r:List Value}(k:vD S c r):vD S' c r:=by
 obtain⟨A,n,q,d,f,e⟩:=k;exact⟨A,n,q,d,f,h _ _ _ _ _ e⟩
def sV.mono{c:bR}{r:List Value}(k:sV S c r):sV S' c r:=by
 obtain⟨A,n,q,d,l,f,e,o,j,m,i⟩:=k;exact⟨A,n,q,d,l,f,e,o,j,h _ _ _ _ _ m,h _ _ _ _ _ i⟩
def kQ.mono{α:Type}{R R':α->List Value->Prop}{t:TypeId}{sz:Nat}{A:Option Addr}{n:Nat}{es:List α}(d:∀e r,R e r->R' e r)(k:kQ S R t sz A n es):kQ S' R' t sz A n es:=by
 obtain⟨rows,c,i,f⟩:=k;exact⟨rows,c.mono d,i,h _ _ _ _ _ f⟩
def yT.mono{s:aI}{v:Array Value}(k:yT S s v):yT S' s v:=by
 obtain⟨x,t,c,r,o,z,e,j,d,w,i,y,n,p,m,f,l⟩:=k;exact⟨x,t,c,r,o,z,e,j,d,w,i,y,n,p.mono h (fun _ _=>vD.mono h),m.mono h (fun _ _ h=>h),f.mono h (fun _ _ h=>h),l.mono h (fun _ _=>sV.mono h)⟩
end
section
variable{T:TypeId->Prop}
end
def fK.fit(i:Nat)(c:fK):Prop:=
  (∀f∈c.src,0<=f/\f < i)/\
  ((c.kind=111/\c.src=[]/\1<=c.rate/\c.rate<=1000000/\c.mul=0/\c.div=0/\c.lock=0)\/
   (c.kind=112/\c.src.length=1/\c.rate=0/\1<=c.mul/\c.mul<=8/\1<=c.div/\c.div<=4/\0<=c.lock/\c.lock<=3)\/
   (c.kind=100/\c.src.length=1/\c.rate=0/\c.mul=0/\1<=c.div/\c.div<=8/\c.lock=0)\/
   (c.kind=103/\c.src.length=1/\c.rate=0/\c.mul=0/\c.div=0/\c.lock=0)\/
   (c.kind=109/\c.src.length=2/\c.rate=0/\c.mul=0/\c.div=0/\c.lock=0))
def Dom.fit(i:Nat)(d:Dom):Prop:=(d.above= -1\/(0<=d.above/\d.above < i))/\0<=d.delay/\d.delay<=3
def bR.fit(e c h i:Nat)(d:bR):Prop:=
 0<=d.clock/\d.clock < e/\0<=d.domain/\d.domain < c/\0<=d.reset/\d.reset < h/\0<=d.zX/\d.zX<=2/\
 d.aX.length<=4/\(∀r∈d.aX,0<=r.reset/\r.reset<=6)/\d.kJ.length<=2/\∀f∈d.kJ,0<=f/\f < i
def Fits{α:Type}(F:Nat->α->Prop)(es:List α):Prop:=∀(i:Nat) (e:α),es[i]? =some e->F i e
def Fits.nil{α:Type}(F:Nat->α->Prop):Fits F []:=fun i e h=>by simp at h
def Fits.snoc{α:Type}{F:Nat->α->Prop}{es:List α}{e:α}(h:Fits F es)(j:F es.length e):Fits F (es++[e]):=fun i x c=>by
 rcases dI i es.length with d | d
 .rw[pL d] at c;exact h i x c
 .rw[nA d] at c;rcases zI (i - es.length) with f | f
  .rw[f] at c;simp at c;subst c
   rwa [show i=es.length by omega]
  .rw[eW (by simp;omega)] at c;cases c
structure aI.made(s:aI):Prop where
 aL:Fits fK.fit s.aL
 domains:Fits Dom.fit s.domains
 bG:∀r∈s.bG,0<=r/\r<=3
 aG:Fits (bR.fit s.aL.length s.domains.length s.bG.length) s.aG
 nc:0<=s.aL.length/\s.aL.length<=9
 nd:0<=s.domains.length/\s.domains.length<=4
 nr:0<=s.bG.length/\s.bG.length<=3
 nv:0<=s.aG.length/\s.aG.length<=4
def aNH{z d lo hi:Int}(hd:1<=d)(j:lo<=0)(f:0<=hi)(h:lo<=z/\z<=hi):lo<=z.tdiv d/\z.tdiv d<=hi:=by
 obtain⟨d,rfl⟩:∃e:Nat,d=e:=⟨d.toNat,aA⟩
 rcases z with m | m
 .have c:Int.tdiv (Int.ofNat m) (d:Int)=((m / d:Nat):Int):=rfl
  have k:m / d<=m:=Nat.div_le_self _ _
  have i:(Int.ofNat m:Int)=(m:Int):=rfl
  rw[c];generalize m / d=q at *;omega
 .have c:Int.tdiv (Int.negSucc m) (d:Int)= -(((m+1) / d:Nat):Int):=rfl
  have k:(m+1) / d<=m+1:=Nat.div_le_self _ _
  have i:(Int.negSucc m:Int)= -((m:Int)+1):=rfl
  rw[c];generalize (m+1) / d=q at *;omega
def Cp(ds:List Int):Prop:=ds.length=120/\∀k:Nat,0<=ds[k]?.getD 0/\ds[k]?.getD 0 < 1000000
def Cp.zero:Cp (List.replicate 120 0):=⟨aB,fun k=>by rw[zJ];split<;>simp⟩
def Cp.lZ{ds:List Int}(h:Cp ds)(i:Nat){r:Int}(d:0<=r)(c:r < 1000000):Cp (ds.set i r):=
 ⟨by simp[h.1],fun k=>by
  rw[gX];split
  .split
   .simp;omega
   .simp
  .exact h.2 k⟩
def dv(ds:List Int)(k:Nat):Int:=ds[k]?.getD 0
def Cp.at_{ds:List Int}(h:Cp ds)(k:Nat)(hk:k < 120):(aU ds)[k]? =some (.int .i64 (dv ds k)):=aE4 ds k (by rw[h.1];exact hk)
def Cp.bd{ds:List Int}(h:Cp ds)(k:Nat):0<=dv ds k/\dv ds k < 1000000:=h.2 k
def gB(q:Piece):xS:=fun _ c A n d=>aO q c A n d
def lN{p q:Piece}(h:p.Le q):∀t sz A n xs,gB p t sz A n xs->gB q t sz A n xs:=fun _ _ _ _ _ k=>aO.le k h
def aRE{q:Nat}(h:q < 5):∃b:UInt8,(⟨#[112,100,103,109,103]⟩:ByteArray)[q]? =some b/\(b.toNat=112\/b.toNat=100\/b.toNat=103\/b.toNat=109):=by
 match q,h with
 | 0,_=>exact⟨112,rfl,aE⟩
 | 1,_=>exact⟨100,rfl,aE⟩
 | 2,_=>exact⟨103,rfl,aE⟩
 | 3,_=>exact⟨109,rfl,aE⟩
 | 4,_=>exact⟨103,rfl,aE⟩
def Kx(a:Int){n:Int}(c:0 < n):0<=a % n/\a % n < n:=⟨Int.emod_nonneg _ aA,Int.emod_lt_of_pos _ c⟩
def cS:HP:=⟨fun _ _=>True,fun _ _ _ _ _=>trivial⟩
def HP.many(ps:List HP):HP:=⟨fun F w=>∃G:Nat->Nat->Prop,(∀(i:Nat) (p:HP),ps[i]? =some p->p.sat (G i) w)/\(∀i b,G i b->F b)/\∀i j b,i≠j->G i b->¬G j b,
 fun F w m h f=>by
  obtain⟨G,d,c,k⟩:=h
  exact⟨G,fun i p e=>p.loc _ _ _ (d i p e) (fun b l=>f b (c i b l)),c,k⟩⟩
def iV(w:World)(hs:List HP)(q:Piece):Prop:=∃F:Nat->Nat->Prop,(∀(i:Nat) (p:HP),hs[i]? =some p->p.sat (F i) q.w)/\(∀i b,F i b->w.heap.size<=b/\b < q.w.heap.size/\¬q.Z b)/\(∀i j b,i≠j->F i b->¬F j b)/\∀b,q.Z b->w.heap.size<=b/\b < q.w.heap.size
def St.take(st:St w0 R H w){i j:Nat}{ps:List HP}{p:HP}(hj:H[j]? =some (HP.many ps))(hi:ps[i]? =some p):St w0 R (p::H.set j (HP.many (ps.set i cS))) w:=by
 obtain⟨Z,F,K,D,z,y,hd⟩:=st.ex;obtain⟨G,B,o,A⟩:=z j _ hj
 have r:j < H.length:=by
  rcases dI j H.length with h | h
  .exact h
  .rw[eW h] at hj;cases hj
 refine⟨st.os,st.tape,st.output,st.size,Z,fun k=>match k with | 0=>G i | k+1=>if k=j then(fun b=>F j b/\¬G i b) else F k,K,D,fun k q m=>?_,fun k b h=>?_,fun k l b x d c=>?_⟩
 .cases k with
  | zero=>simp at m;subst m;exact B i _ hi
  | succ k =>
   rw[tX,gX] at m;split at m
   .rename_i e;subst e
    first | (rw[aH r] at m;cases m) | cases m
    simp only[if_true];refine⟨fun l b=>l≠i/\G l b,fun l q n=>?_,fun l b h=>⟨o l b h.2,A l i b h.1 h.2⟩,fun l I b t h J=>A l I b t h.2 J.2⟩;rw[gX] at n;split at n
    .split at n
     .cases n;trivial
     .cases n
    .rename_i f
     show q.sat (fun b=>l≠i/\G l b) w
     rw[show(fun b=>l≠i/\G l b)=G l by funext b;simp[fN f]];exact B l q n
   .rename_i e
    simp only[aC (fN e)];exact z k q m
 .cases k with
  | zero=>exact y j b (o i b h)
  | succ k=>
   dsimp only at h;split at h
   .exact y j b h.1
   .exact y k b h
 .cases k with
  | zero => cases l with
   | zero=>exact absurd rfl x
   | succ l=>
    dsimp only at d c;split at c
    .exact c.2 d
    .rename_i f;exact hd j l b (fN f) (o i b d) c
  | succ k => cases l with
   | zero=>
    dsimp only at d c;split at d
    .exact d.2 c
    .rename_i f;exact hd j k b (fN f) (o i b c) d
   | succ l=>
    dsimp only at d c;split at d<;>split at c
    .omega
    .rename_i C E;exact hd j l b aA d.1 c
    .rename_i C E;exact hd k j b aA d c.1
    .exact hd k l b aA d c
def St.aSC{p:HP}(st:St w0 R (p::H) w){i j:Nat}{ps:List HP}(hj:H[j]? =some (HP.many ps))(hi:ps[i]? =some cS):St w0 R (H.set j (HP.many (ps.set i p))) w:=by
 obtain⟨Z,F,K,D,t,z,hd⟩:=st.ex;obtain⟨G,L,y,J⟩:=t (j+1) _ (by simpa using hj)
 have o:j < H.length:=by
  rcases dI j H.length with h | h
  .exact h
  .rw[eW h] at hj;cases hj
 have r:i < ps.length:=by
  rcases dI i ps.length with h | h
  .exact h
  .rw[eW h] at hi;cases hi
 refine⟨st.os,st.tape,st.output,st.size,Z,fun k=>if k=j then(fun b=>F (j+1) b\/F 0 b) else F (k+1),K,D,fun k q f=>?_,fun k b h=>?_,fun k l b I d c=>?_⟩
 .rw [gX] at f;split at f
  .rename_i e;subst e
   first | (rw[aH o] at f;cases f) | cases f
   simp only[if_true];refine⟨fun l=>if l=i then F 0 else G l,fun l q m=>?_,fun l b h=>?_,fun l B b x h n=>?_⟩
   .rw[gX] at m;split at m
    .rename_i e;subst e
     first | (rw[aH r] at m;cases m) | cases m
     simpa using t 0 p rfl
    .rename_i A
     simp only[aC (fN A)];exact L l q m
   .dsimp only at h;split at h
    .exact .inr h
    .exact .inl (y l b h)
   .dsimp only at h n;split at h<;>split at n
    .omega
    .exact hd 0 (j+1) b aA h (y B b n)
    .exact hd (j+1) 0 b aA (y l b h) n
    .exact J l B b x h n
  .rename_i e
   simp only[aC (fN e)];exact t (k+1) q (by simpa using f)
 .dsimp only at h;split at h
  .rcases h with h | h
   .exact z _ b h
   .exact z _ b h
  .exact z _ b h
 .dsimp only at d c;split at d<;>split at c
  .omega
  .rename_i C E
   rcases d with d | d
   .exact hd (j+1) (l+1) b aA d c
   .exact hd 0 (l+1) b aA d c
  .rename_i C E
   rcases c with c | c
   .exact hd (k+1) (j+1) b aA d c
   .exact hd (k+1) 0 b aA d c
  .exact hd (k+1) (l+1) b aA d c
def uX(j i:Nat){ps:List HP}{p:HP}(hj:H[j]? =some (HP.many ps))(hi:ps[i]? =some p)(h:XK N w0 K e R (p::H.set j (HP.many (ps.set i cS)))):XK N w0 K e R H:=fun a w c st=>h a w c (st.take hj hi)
def uZ(j i:Nat){ps:List HP}{p:HP}(hj:H[j]? =some (HP.many ps))(hi:ps[i]? =some cS)(h:XK N w0 K e R (H.set j (HP.many (ps.set i p)))):XK N w0 K e R (p::H):=fun a w c st=>h a w c (st.aSC hj hi)
def aWK(n:Nat)(t:TypeId)(sz:Nat)(h:XK N w0 K e R (HP.many (List.replicate n (HP.own t sz (.slice none 0 0) 0 []))::H)):XK N w0 K e R H:=fun a w d st=>
 h a w d (st.new (w':=w) (Below.refl _ _) (by
  refine⟨fun _ _=>False,fun i p c=>?_,fun _ _ h=>h.elim,fun _ _ _ _ h=>h.elim⟩;rw[zJ] at c;split at c
  .cases c;exact⟨fun g f=>by simp[Value.ownBlock] at f,World.ownsRow_nil _ _ _ _⟩
  .cases c))
def St.newR(st:St w0 R H w)(e:all w0∈R){q:Piece}(k:q∈R)(hf:tP w0 q):iV w0 H ⟨w,q.Z⟩:=by
 obtain⟨Z,F,m,j,l,c,hd⟩:=st.ex;refine⟨F,l,fun i b d=>⟨?_,(c i b d).2,fun f=>(c i b d).1 (j q k b f).1⟩,hd,fun b d=>⟨hf b d,m b (j q k b d).1⟩⟩;rcases dI b w0.heap.size with h | h
 .exact absurd (j _ e b h).1 (c i b d).1
 .exact h
def St.got(st:St w0 R H w){hs:List HP}{q:Piece}(c:Below w.heap.size w q.w)(C:iV w hs q):St w0 (q::R) (hs++H) q.w/\tP w0 q:=by
 have n:=st.call c
 obtain⟨Z,F,z,x,m,k,hd⟩:=st.ex;obtain⟨G,E,l,B,y⟩:=C;refine⟨⟨n.os,n.tape,n.output,n.size,fun b=>Z b\/q.Z b,fun i=>if i < hs.length then G i else F (i - hs.length),fun b h=>?_,fun p d b h=>?_,fun i p o=>?_,fun i b h=>?_,fun i j b r f e=>?_⟩,fun b c=>oL st.size (y b c).1⟩
 .rcases h with h | h
  .exact jC (z b h) c.size
  .exact(y b h).2
 .simp only[fT] at d;rcases d with rfl | d
  .exact⟨.inr h,rfl⟩
  .exact⟨.inl (x p d b h).1,(c.block b (z b (x p d b h).1)).trans (x p d b h).2⟩
 .dsimp only;split
  .rename_i t
   rw[pL t] at o;exact E i p o
  .rename_i D
   rw[nA aA] at o;exact p.loc _ _ _ (m _ p o) (fun b A=>c.block b (k _ b A).2)
 .dsimp only at h;split at h
  .refine⟨?_,(l i b h).2.1⟩;rintro(uD | uD)
   .have:=z b uD;have:=(l i b h).1;omega
   .exact(l i b h).2.2 uD
  .refine⟨?_,jC (k _ b h).2 c.size⟩;rintro(uD | uD)
   .exact(k _ b h).1 uD
   .have:=(y b uD).1;have:=(k _ b h).2;omega
 .dsimp only at f e;split at f<;>split at e
  .exact B i j b r f e
  .have:=(l i b f).1;have:=(k _ b e).2;omega
  .have:=(l j b e).1;have:=(k _ b f).2;omega
  .exact hd _ _ b aA f e
def Xl{f:FuncId}{x:Operand}{args:List Operand}{fi ca vs:List Value}{tys:Array TypeId}(hf:fW P f=true)(hx:e.ev x=some (.func (.func f) fi.toArray ca.toArray))(F:e.aM args=some vs)(hd:d < N.n)
  (B:Value->List HP->Piece->Prop) (E:∀w,St w0 R H w->Calls P f (fi++vs++ca).toArray w fun y w'=>(∃v hs q,y=.returned v/\q.w=w'/\B v hs q/\iV w hs q)/\Below w.heap.size w w')
  (k:∀v hs q,B v hs q->tP w0 q->XK N w0 (wpList P ops Q rest) ((d,v)::e) (q::R) (hs++H)):
  XK N w0 (wpList P ops Q (⟨some d,.call {callee:=.value x,args:=args.toArray,argTypes:=tys},ty,pos,aN,none⟩::rest)) e R H:=fun a w t st=>wpList_plain rfl fun K D=>by
 unfold fW at hf;cases p:P.funcs[f]? with
 | none=>simp[p] at hf
 | some fn =>
  simp[p] at hf;obtain⟨z,A⟩:=hf
  have i:(execOp a.eval (⟨some d,.call {callee:=.value x,args:=args.toArray,argTypes:=tys},ty,pos,aN,none⟩:Oper)).run P w=.ok (.enter f (fi++vs++ca).toArray) w:=by
   cases j:fn.body with
   | none=>simp[j] at A
   | some c=>simp[execOp,resolve,t.ev hx,Deferred.ofValue,invoke,callFunc,p,z,j,t.aM F]
  unfold Oper.wp;rw[i];refine(E w st).mono fun y w' ⟨⟨v,hs,q,C,r,l,h⟩,j⟩=>?_;subst C;subst r;obtain⟨m,o⟩:=st.got j h;exact D _ _ (k v hs q l o _ _ (t.put hd v) m)
def xU(S:xS)(l:List Int)(row:List Value):Prop:=∃A n k,row=[.slice A n k]/\n=l.length/\S 3 1 A n (aU l)
def xU.mono{S S':xS}(h:∀t sz A n xs,S t sz A n xs->S' t sz A n xs){l:List Int}{r:List Value}(k:xU S l r):xU S' l r:=by
 obtain⟨A,n,q,d,c,e⟩:=k;exact⟨A,n,q,d,c,h _ _ _ _ _ e⟩
def qK(p:Piece)(A:Option Addr)(n:Nat)(g:List (List Int)):Prop:=kQ (gB p) (xU (gB p)) 22 1 A n g
def qK.le{p q:Piece}{A:Option Addr}{n:Nat}{g:List (List Int)}(h:qK p A n g)(hl:p.Le q):qK q A n g:=kQ.mono (lN hl) (fun _ _=>xU.mono (lN hl)) h
def Rows.at_{α:Type}{R:α->List Value->Prop}{sz:Nat}:∀{es:List α} {c:List (List Value)} {i:Nat} {r:List Value},Rows R sz es c->c[i]? =some r->∃e,es[i]? =some e/\r.length=sz/\R e r
 | [],[],i,r,_,h=>by simp at h
 | e::es,x::c,0,r,h,hr=>by simp at hr;subst hr;exact⟨e,rfl,h.1,h.2.1⟩
 | e::es,x::c,i+1,r,h,hr=>by simpa using Rows.at_ h.2.2 (by simpa using hr)
def Rows.aCz{α:Type}{R:α->List Value->Prop}{sz:Nat}{es:List α}{c:List (List Value)}(h:Rows R sz es c):∀r∈c,r.length=sz:=fun r j=>by
 obtain⟨i,d⟩:=lA j;obtain⟨e,_,f,_⟩:=h.at_ d;exact f
def qK.row{w:World}{A:Option Addr}{n:Nat}{g:List (List Int)}(h:qK (all w) A n g){k:Nat}{l:List Int}(hk:g[k]? =some l):
  ∃b off B c,A=some ⟨b,off,none⟩/\iD w b (off+k) (.slice B l.length c)/\aO (all w) 1 B l.length (aU l):=by
 obtain⟨rows,x,t,j⟩:=h;obtain⟨r,D,z,y⟩:=x.get hk;obtain⟨B,m,c,rfl,i,o⟩:=z
 have d:k < n:=by
  rw[t];rcases dI k g.length with h | h
  .exact h
  .rw[eW h] at hk;cases hk
 obtain⟨b,off,p,C,f⟩:=aO.at_ j d;subst i;refine⟨b,off,B,c,p,⟨C,?_⟩,o⟩
 have e:=f 0 (.slice B l.length c) (by rw[y 0 aA];rfl)
 rw[zG,Ms] at e;exact e
def aDd{op:Op}{j:Nat}{want:Bool}{t:Nat}(hj:(ops[j]?).bind (·.dst)=some t)(f:e.get t=some undef)(hd:d < N.n)
  (k:XK N w0 (wpList P ops Q rest) ((d,undef)::e) R H):XK N w0 (wpList P ops Q (⟨some d,op,ty,pos,aN,some (j,want)⟩::rest)) e R H:=fun a w c st=>by
 have hw:Region.wanted (⟨some d,op,ty,pos,aN,some (j,want)⟩:Oper) (yielded ops a.tmps)=false:=by
  simp only[Region.wanted,yielded,hj,Bo,c.get t _ f];simp[undef]
 unfold wpList;rw[aC (by rw[hw];simp)];exact k _ _ (c.put hd undef) st
def qK.Dd{p:Piece}{A:Option Addr}{n:Nat}{g:List (List Int)}(h:qK p A n g){k:Nat}{l:List Int}(hk:g[k]? =some l):
  ∃b off B c,A=some ⟨b,off,none⟩/\p.Z b/\p.w.cell? ⟨b,off+k,none⟩=some (.slice B l.length c)/\aO p 1 B l.length (aU l):=by
 obtain⟨rows,y,x,j⟩:=h;obtain⟨r,E,C,z⟩:=y.get hk;obtain⟨B,m,c,rfl,i,o⟩:=C
 have d:k < n:=by
  rw[x];rcases dI k g.length with h | h
  .exact h
  .rw[eW h] at hk;cases hk
 obtain⟨b,off,t,D,f⟩:=aO.at_ j d;subst i;refine⟨b,off,B,c,t,D,?_,o⟩
 have e:=f 0 (.slice B l.length c) (by rw[z 0 aA];rfl)
 rw[zG,Ms] at e;exact e
def aC0(P:Program)(t:TypeId):Option Nat:=match P.underlying t with
 | some (.struct _)=>(P.info? t).map (·.size)
 | some (.array _ _)=>(P.info? t).map (·.size)
 | _=>none
def aBu(P:Program)(t:TypeId)(i:Nat):Option Nat:=match P.underlying t with
 | some (.struct fs)=>match fs[i]? with
  | some f=>if tC P f.type then some f.offset else none
  | none=>none
 | _=>none
def aFC(P:Program)(t:TypeId):Option (Nat×Nat):=match P.underlying t with
 | some (.array len el)=>(aC0 P el).map fun n=>(len,n)
 | _=>none
def aOF{t:TypeId}{n off:Nat}{cs:Array Value}(h:aC0 P t=some n):(part t cs off).run P w=.ok (.agg (cs.extract off (off+n))) w:=by
 unfold aC0 at h;split at h
 .rename_i d
  obtain⟨i,c,rfl⟩:=kS.1 h;simp[part,isAgg,run_underlying d,sizeOf,typeInfo,c]
 .rename_i d
  obtain⟨i,c,rfl⟩:=kS.1 h;simp[part,isAgg,run_underlying d,sizeOf,typeInfo,c]
 .cases h
def aOG{t:TypeId}{off:Nat}{cs:Array Value}{v:Value}(h:tC P t=true)(f:cs[off]? =some v):(part t cs off).run P w=.ok v w:=by
 unfold tC at h;split at h
 .cases h
 .cases h
 .rename_i u d i e
  have c:(isAgg t).run P w=.ok false w:=by
   unfold isAgg;rw[Sem.run_bind,run_underlying e];cases u<;>first | rfl | exact(d _ rfl).elim | exact(i _ _ rfl).elim
  simp[part,Sem.run_bind,c,f]
 .cases h
def aOM{t:TypeId}{i off:Nat}{cs:Array Value}{v:Value}(h:aBu P t i=some off)(j:cs[off]? =some v):(Instr.field t (.agg cs) i).run P w=.ok v w:=by
 unfold aBu at h;split at h
 .rename_i k d
  split at h
  .rename_i f c
   split at h
   .rename_i e
    cases h;simp[Instr.field,run_underlying d,c,asAgg,aOG e j]
   .cases h
  .cases h
 .cases h
def aOL{t:TypeId}{len n k:Nat}{kd:IntKind}{j:Int}{cs:Array Value}(h:aFC P t=some (len,n))(hj:j=(k:Int))(hk:k < len):(Instr.index t (.agg cs) (.int kd j)).run P w=.ok (.agg (cs.extract (k*n) (k*n+n))) w:=by
 subst hj;unfold aFC at h;split at h
 .rename_i l o p
  obtain⟨m,c,f⟩:=kS.1 h;simp only[Ke] at f;obtain⟨rfl,rfl⟩:=f
  have d:(sizeOf o).run P w=.ok m w:=by
   unfold aC0 at c;split at c
   .obtain⟨i,e,rfl⟩:=kS.1 c;simp[sizeOf,typeInfo,e]
   .obtain⟨i,e,rfl⟩:=kS.1 c;simp[sizeOf,typeInfo,e]
   .cases c
  simp[Instr.index,asIntOf,run_underlying p,hk,d,aOF c]
 .cases h
def aKj{x:Operand}{t:TypeId}{i off:Nat}{cs:List Value}{v:Value}(h:aBu P t i=some off)(hx:e.ev x=some (.agg cs.toArray))(f:cs[off]? =some v):bY P N w0 e R H ⟨some d,.field t x i,ty,pos,aN,none⟩ v:=jF (fun a w c=>by
 simp only[execOp,c.ev hx,Sem.run_bind,aOM (cs:=cs.toArray) h (by simpa using f),Result.andThen_ok,Sem.run_pure])
def aG5(k:Nat){x f:Operand}{t:TypeId}{len n:Nat}{kd:IntKind}{j:Int}{cs vs:List Value}(h:aFC P t=some (len,n))(hx:e.ev x=some (.agg cs.toArray))(hi:e.ev f=some (.int kd j))(hj:j=(k:Int))(hk:k < len)(i:(cs.drop (k*n)).take n=vs)(hd:d < N.n)(l:XK N w0 (wpList P ops Q rest) ((d,.agg vs.toArray)::e) R H):
  XK N w0 (wpList P ops Q (⟨some d,.index t x f,ty,pos,aN,none⟩::rest)) e R H:=pS hd (fun a w c=>by
 simp only[execOp,c.ev hx,c.ev hi,Sem.run_bind,aOL h hj hk,Result.andThen_ok,Sem.run_pure]
 simp[<-i,List.extract_toArray,List.extract_eq_take_drop]) l
class aY(s:TypeId)(f:Nat)(off:outParam Nat):Prop where
 h:Zy Tryz.prog s f=some off:=by kernel_rfl
class nI(t:TypeId)(el:outParam TypeId)(sz:outParam Nat):Prop where
 h:Tryz.prog.underlying t=some (.slice el):=by kernel_rfl
 s:(Tryz.prog.info? el).map (·.size)=some sz:=by kernel_rfl
class Ba(t:TypeId)(n:outParam Nat)(el:outParam TypeId)(sz:outParam Nat):Prop where
 h:Tryz.prog.underlying t=some (.array n el):=by kernel_rfl
 s:(Tryz.prog.info? el).map (·.size)=some sz:=by kernel_rfl
class dK(t:TypeId):Prop where
 h:tC Tryz.prog t=true:=by kernel_rfl
class nV(t:TypeId)(n:outParam Nat):Prop where
 h:Fa Tryz.prog t n=true:=by kernel_rfl
class FdT(t:TypeId)(i:Nat)(off:outParam Nat):Prop where
 h:aBu Tryz.prog t i=some off:=by kernel_rfl
section
variable{t:Nat}{o:Oper}
def bT{x:Operand}{t:TypeId}{b o:Nat}{v:Value}[hT:dK t](hx:e.ev x=some (.pointer (some ⟨b,o,none⟩)))(c:Rd w0 R H b o v:=by
  exact Rd.a):
  bY Tryz.prog N w0 e R H ⟨some d,.load t x,ty,pos,aN,none⟩ v:=vW hT.h hx c
def aUw{x:Operand}{s:TypeId}{f off b o:Nat}[hO:aY s f off](hx:e.ev x=some (.pointer (some ⟨b,o,none⟩))):bY Tryz.prog N w0 e R H ⟨some d,.fieldAddr s x f,ty,pos,aN,none⟩ (.pointer (some ⟨b,o+off,none⟩)):=Il hO.h hx
def aUq{x:Operand}{t el:TypeId}{A:Option Addr}{n c sz:Nat}[hT:nI t el sz](hx:e.ev x=some (.slice A n c)):bY Tryz.prog N w0 e R H ⟨some d,.call {callee:=.builtin .len,args:=#[x],argTypes:=#[t]},ty,pos,aN,none⟩ (.int .i64 n):=Qz hT.h hx
def nQ{x:Operand}{t:TypeId}{b o n:Nat}{vs:List Value}[hT:nV t n](hx:e.ev x=some (.pointer (some ⟨b,o,none⟩)))(c:cI w0 R H b o vs:=by
  exact cI.a)(f:vs.length=n:=by rfl):
  bY Tryz.prog N w0 e R H ⟨some d,.load t x,ty,pos,aN,none⟩ (.agg vs.toArray):=aFo n hT.h hx c f
def aKl{x:Operand}{t:TypeId}{i off:Nat}{cs:List Value}{v:Value}[hF:FdT t i off](hx:e.ev x=some (.agg cs.toArray))(c:cs[off]? =some v):bY Tryz.prog N w0 e R H ⟨some d,.field t x i,ty,pos,aN,none⟩ v:=aKj hF.h hx c
def dat(i o:Nat){x f:Operand}{t el:TypeId}{b off n c sz:Nat}{kd:IntKind}{j:Int}[hT:nI t el sz](hx:e.ev x=some (.slice (some ⟨b,off,none⟩) n c):=by rfl)(hi:e.ev f=some (.int kd j):=by rfl)(hj:j=(i:Int):=by first | rfl | omega)(hlt:i < n:=by omega)(ho:off+i*sz=o:=by omega):bY Tryz.prog N w0 e R H ⟨some d,.indexAddr t x f,ty,pos,aN,none⟩ (.pointer (some ⟨b,o,none⟩)):=aFr i o hT.h hT.s hx hi hj hlt ho
def iA(i o:Nat){x c:Operand}{t el:TypeId}{b off n sz:Nat}{kd:IntKind}{j:Int}[hT:Ba t n el sz](hx:e.ev x=some (.pointer (some ⟨b,off,none⟩)):=by rfl)(hi:e.ev c=some (.int kd j):=by rfl)(hj:j=(i:Int):=by first | rfl | omega)(hlt:i < n:=by omega)(ho:off+i*sz=o:=by omega):bY Tryz.prog N w0 e R H ⟨some d,.indexAddr t x c,ty,pos,aN,none⟩ (.pointer (some ⟨b,o,none⟩)):=aU2 i o hT.h hT.s hx hi hj hlt ho
def Sub(cs:List Value)(o:Nat)(r:List Value):Prop:=∀k,k < r.length->cs[o+k]? =r[k]?
def Rd.sub(i k:Nat){g o c:Nat}{t:TypeId}{cs r:List Value}{v:Value}(hi:H[i]? =some (HP.aK g t cs))(hs:Sub cs o r)(ho:c=o+k)(d:r[k]? =some v):Rd w0 R H g c v:=Rd.aK i hi (by
 rw[ho,hs k (cE.1 d).1,d])
def aUs{x:Operand}{t:TypeId}{b o:Nat}{v:Value}[hT:dK t](hx:e.ev x=some (.pointer (some ⟨b,o,none⟩)))(c:Rd w0 R H b o v:=by
  first | exact Rd.sub 0 0 rfl (by assumption) rfl rfl | exact Rd.sub 0 1 rfl (by assumption) rfl rfl | exact Rd.sub 0 2 rfl (by assumption) rfl rfl | exact Rd.sub 0 3 rfl (by assumption) rfl rfl | exact Rd.sub 0 4 rfl (by assumption) rfl rfl | exact Rd.sub 0 5 rfl (by assumption) rfl rfl | exact Rd.sub 0 6 rfl (by assumption) rfl rfl | exact Rd.sub 0 7 rfl (by assumption) rfl rfl | exact Rd.sub 0 8 rfl (by assumption) rfl rfl | exact Rd.sub 0 9 rfl (by assumption) rfl rfl | exact Rd.sub 0 10 rfl (by assumption) rfl rfl | exact Rd.sub 0 11 rfl (by assumption) rfl rfl):
  bY Tryz.prog N w0 e R H ⟨some d,.load t x,ty,pos,aN,none⟩ v:=vW hT.h hx c
def aKe{x:Operand}{t u:TypeId}{p:Option Addr}(hx:e.ev x=some (.pointer p))(f:Tryz.prog.underlying t=some (.pointer (Tryz.prog.pointee t)):=by kernel_rfl):bY Tryz.prog N w0 e R H ⟨some d,.binOp .eql t x (.const (.pointer none)) u,ty,pos,aN,none⟩ (.bool p.isNone):=jF fun a w c=>by
 have h:=c.ev (show e.ev (.const (.pointer none))=some (.pointer none) from rfl)
 simp[execOp,c.ev hx,h,eqGuard,run_eql_pointer_nil w t p f]
def aUi{x:Operand}{t u:TypeId}{p:Addr}(hx:e.ev x=some (.pointer (some p)))(c:Tryz.prog.underlying t=some (.pointer (Tryz.prog.pointee t)):=by kernel_rfl):bY Tryz.prog N w0 e R H ⟨some d,.binOp .eql t x (.const (.pointer none)) u,ty,pos,aN,none⟩ (.bool false):=aKe hx c
def aUh{x:Operand}{t u:TypeId}{p:Addr}(hx:e.ev x=some (.pointer (some p)))(f:Tryz.prog.underlying t=some (.pointer (Tryz.prog.pointee t)):=by kernel_rfl):bY Tryz.prog N w0 e R H ⟨some d,.binOp .neq t x (.const (.pointer none)) u,ty,pos,aN,none⟩ (.bool true):=jF fun a w c=>by
 have h:=c.ev (show e.ev (.const (.pointer none))=some (.pointer none) from rfl)
 simp[execOp,c.ev hx,h,eqGuard,run_neq_pointer_nil w t (some p) f]
def aOe{x:Operand}(h:bY Tryz.prog N w0 e R H ⟨some d,.move x,ty,pos,aN,none⟩ v):bY Tryz.prog N w0 e R H ⟨some d,.move x,ty,pos,aN,none⟩ v:=h
def aOn{x:Operand}(h:bY Tryz.prog N w0 e R H ⟨some d,.assign x,ty,pos,aN,none⟩ v):bY Tryz.prog N w0 e R H ⟨some d,.assign x,ty,pos,aN,none⟩ v:=h
def aHi{x:Operand}{t:TypeId}(h:bY Tryz.prog N w0 e R H ⟨some d,.load t x,ty,pos,aN,none⟩ v):bY Tryz.prog N w0 e R H ⟨some d,.load t x,ty,pos,aN,none⟩ v:=h
def aOi{x:Operand}{t:TypeId}{i:Nat}(h:bY Tryz.prog N w0 e R H ⟨some d,.fieldAddr t x i,ty,pos,aN,none⟩ v):bY Tryz.prog N w0 e R H ⟨some d,.fieldAddr t x i,ty,pos,aN,none⟩ v:=h
def aOd{x:Operand}(h:bY Tryz.prog N w0 e R H ⟨some d,.nilCheck x,ty,pos,aN,none⟩ v):bY Tryz.prog N w0 e R H ⟨some d,.nilCheck x,ty,pos,aN,none⟩ v:=h
def aOc{x:Operand}{y:Operand}{z:Operand}(h:bY Tryz.prog N w0 e R H ⟨some d,.pick x y z,ty,pos,aN,none⟩ v):bY Tryz.prog N w0 e R H ⟨some d,.pick x y z,ty,pos,aN,none⟩ v:=h
def aHj{x:Operand}{y:Operand}{t:TypeId}{u:TypeId}{b:BinOp}(h:bY Tryz.prog N w0 e R H ⟨some d,.binOp b t x y u,ty,pos,aN,none⟩ v):bY Tryz.prog N w0 e R H ⟨some d,.binOp b t x y u,ty,pos,aN,none⟩ v:=h
def aHh{x:Operand}{t:TypeId}{c:UnOp}(h:bY Tryz.prog N w0 e R H ⟨some d,.unOp c t x,ty,pos,aN,none⟩ v):bY Tryz.prog N w0 e R H ⟨some d,.unOp c t x,ty,pos,aN,none⟩ v:=h
def aOf{x:Operand}{t:TypeId}(h:bY Tryz.prog N w0 e R H ⟨some d,.call {callee:=.builtin .len,args:=#[x],argTypes:=#[t]},ty,pos,aN,none⟩ v):bY Tryz.prog N w0 e R H ⟨some d,.call {callee:=.builtin .len,args:=#[x],argTypes:=#[t]},ty,pos,aN,none⟩ v:=h
def aOk{x:Operand}{i:Nat}(h:bY Tryz.prog N w0 e R H ⟨some d,.extract x i,ty,pos,aN,none⟩ v):bY Tryz.prog N w0 e R H ⟨some d,.extract x i,ty,pos,aN,none⟩ v:=h
def aOj{x:Operand}{t:TypeId}{i:Nat}(h:bY Tryz.prog N w0 e R H ⟨some d,.field t x i,ty,pos,aN,none⟩ v):bY Tryz.prog N w0 e R H ⟨some d,.field t x i,ty,pos,aN,none⟩ v:=h
def Vp(h:bY Tryz.prog N w0 e R H o v:=by
  first
  | ((with_reducible apply aOe);exact rI rfl)
  | ((with_reducible apply aOn);exact aU3 rfl)
  | ((with_reducible apply aHi);(first | exact bT rfl | exact nQ rfl | exact aUs rfl))
  | ((with_reducible apply aOi);exact aUw rfl)
  | ((with_reducible apply aOd);exact aUl rfl)
  | ((with_reducible apply aOc);(first | exact aUf rfl rfl | exact aUg rfl rfl))
  | ((with_reducible apply aHj);(first | exact aUp rfl rfl | exact aKf rfl rfl | exact aUu rfl rfl | exact aUv rfl rfl | exact aUy rfl rfl | exact aUm rfl rfl | exact aCg rfl rfl (qM aA) | exact aCf rfl rfl (qM aA) | exact aUi rfl | exact aUh rfl | exact aKe rfl))
  | ((with_reducible apply aHh);(first | exact aUj rfl | exact aUk rfl))
  | ((with_reducible apply aOf);exact aUq rfl)
  | ((with_reducible apply aOk);exact Ra rfl rfl)
  | ((with_reducible apply aOj);exact aKl rfl rfl)):bY Tryz.prog N w0 e R H o v:=h
def bN(k:XK N w0 (wpList Tryz.prog ops Q rest) ((d,v)::e) R H)(h:bY Tryz.prog N w0 e R H ⟨some d,op,ty,pos,aN,none⟩ v:=by exact Vp)(hd:d < N.n:=by decide):XK N w0 (wpList Tryz.prog ops Q (⟨some d,op,ty,pos,aN,none⟩::rest)) e R H:=
 vF rfl fun a w c st=>⟨v,w,h a w c st,k _ _ (c.put hd v) st⟩
def kd(h:bY Tryz.prog N w0 e R H ⟨some d,op,ty,pos,aN,none⟩ v)(k:XK N w0 (wpList Tryz.prog ops Q rest) ((d,v)::e) R H)(hd:d < N.n:=by decide):XK N w0 (wpList Tryz.prog ops Q (⟨some d,op,ty,pos,aN,none⟩::rest)) e R H:=
 vF rfl fun a w c st=>⟨v,w,h a w c st,k _ _ (c.put hd v) st⟩
def dR.b(i:Nat){s t:TypeId}[hT:dK s]{g o:Nat}{cs:List Value}{v:Value}(hi:H[i]? =some (HP.aK g t cs):=by rfl)(c:v.oneCell'=true:=by rfl)(hl:o < cs.length:=by first | (simp;done) | omega | (simp;omega)):dR Tryz.prog H s g o v (H.set i (HP.aK g t (cs.set o v))):=dR.mk i hi hT.h c hl
def jD{x y:Operand}{s:TypeId}{g o:Nat}{v:Value}[hT:dK s](hx:e.ev x=some (.pointer (some ⟨g,o,none⟩)))(hy:e.ev y=some v)(k:XK N w0 (wpList Tryz.prog ops Q rest) e R H')(hs:dR Tryz.prog H s g o v H':=by
  first | exact dR.b 0 | exact dR.b 1 | exact dR.b 2 | exact dR.b 3 | exact dR.b 4 | exact dR.b 5 | exact dR.b 6 | exact dR.b 7 | exact dR.b 8):XK N w0 (wpList Tryz.prog ops Q (⟨none,.store s x y,ty,pos,aN,none⟩::rest)) e R H:=aGz hx hy k hs
def mO(i:Nat){x y:Operand}{s t:TypeId}{g n:Nat}{cs vs:List Value}[hT:nV s n](hi:H[i]? =some (HP.aK g t cs))(k:XK N w0 (wpList Tryz.prog ops Q rest) e R (H.set i (HP.aK g t vs)))(hx:e.ev x=some (.pointer (some ⟨g,0,none⟩)):=by rfl)(hy:e.ev y=some (.agg vs.toArray):=by rfl)(hs:(Tryz.prog.info? s).any (·.size==vs.length)=true:=by kernel_rfl)(c:vs.all Value.oneCell'=true:=by rfl)(hl:vs.length=cs.length:=by rfl):
  XK N w0 (wpList Tryz.prog ops Q (⟨none,.store s x y,ty,pos,aN,none⟩::rest)) e R H:=by
 refine uJ i hi hx hy hs (fun u d=>mJ.1 c u (by simpa[Value.cells] using d)) (by simp[Value.cells];omega) ?_
 have:jR cs 0 (Value.agg vs.toArray).cells.toList=vs:=Yk (by simpa[Value.cells] using hl)
 rw[this];exact k
def aE1{x y:Operand}{s:TypeId}(k:XK N w0 (wpList Tryz.prog ops Q (⟨none,.store s x y,ty,pos,aN,none⟩::rest)) e R H):XK N w0 (wpList Tryz.prog ops Q (⟨none,.store s x y,ty,pos,aN,none⟩::rest)) e R H:=k
def kop(k:XK N w0 (wpList Tryz.prog ops Q (o::rest)) e R H):XK N w0 (wpList Tryz.prog ops Q (o::rest)) e R H:=k
def aIO{c:Operand}{x y:Code}(k:XK N w0 ((Code.cond c x y).wp Tryz.prog Q) e R H):XK N w0 ((Code.cond c x y).wp Tryz.prog Q) e R H:=k
def aD(k:XK N w0 K' e' R' H')(hk:XK N w0 K' e' R' H'->XK N w0 K e R H:=by
    intro h
    repeat' (first
      | ((with_reducible refine kop ?_)
         first
         | refine bN ?_
         | refine nK rfl rfl ?_
         | refine qL rfl rfl rfl aE ?_
         | refine aDd rfl rfl aE ?_
         | ((with_reducible refine aE1 ?_);first | (refine jD rfl rfl ?_;dsimp only[List.set]) | (refine mO 0 rfl ?_;dsimp only[List.set]) | (refine mO 1 rfl ?_;dsimp only[List.set]) | (refine mO 2 rfl ?_;dsimp only[List.set]) | (refine mO 3 rfl ?_;dsimp only[List.set])))
      | with_reducible refine jA ?_
      | with_reducible refine iU ?_
      | with_reducible refine aC6 ?_
      | with_reducible refine aC5 ?_
      | with_reducible refine aCC ?_
      | with_reducible refine aCE ?_
      | with_reducible refine aCB ?_
      | ((with_reducible refine aCD ?_ ?_);rfl)
      | with_reducible refine fO ?_
      | with_reducible refine jS ?_
      | with_reducible refine sQ ?_
      | with_reducible refine aFS ?_
      | with_reducible refine Rl ?_
      | with_reducible refine Gf ?_
      | ((with_reducible refine aIO ?_)
         first
         | (refine tI (b:=true) rfl (fun _=>?_) (fun h=>by cases h))
         | (refine tI (b:=false) rfl (fun h=>by cases h) (fun _=>?_))))
    exact h):XK N w0 K e R H:=hk k
def XQ(N:cQ)(w0:World)(ops:Array Oper)(Q:Exit->Act->World->Prop)(rest:List Oper)(e:Env)(R:List Piece)(H:List HP):Prop:=
 ∀a,eT N e a->wpQuiet Tryz.prog ops (St w0 R H) (fun d=>∀c,St w0 R H c->Q .normal d c) rest a
def oU{id:Nat}{l:List Oper}(h:XQ N w0 l.toArray Q l e R H)(c:Region.lexB .any l.toArray=true:=by kernel_rfl)(hm:Tryz.prog.follows .mixedOrders=true:=by kernel_rfl):XK N w0 ((Code.region id l.toArray true).wp Tryz.prog Q) e R H:=fun a w d st=>
 wp_region_quiet hm c (C:=St w0 R H) st.drew (h a d)
def aWD(k:XK N w0 (Q .normal) e R H):XQ N w0 ops Q [] e R H:=fun a d=>wpQuiet_nil fun c st=>k a c d st
def aLm(k:XQ N w0 ops Q rest ((d,v)::e) R H)(hd:d < N.n)(h:∀a w,eT N e a->St w0 R H w->(⟨some d,op,ty,pos,aN,none⟩:Oper).quietAt Tryz.prog a (St w0 R H) w v):XQ N w0 ops Q (⟨some d,op,ty,pos,aN,none⟩::rest) e R H:=fun a c=>
 wpQuiet_step fun K f=>by
  rw[aH (by simp[Region.wanted])];exact⟨v,fun w hw=>h a w c hw,f _ (k _ (c.put hd v))⟩
def aFK(k:XQ N w0 ops Q rest ((d,v)::e) R H)(h:bY Tryz.prog N w0 e R H ⟨some d,op,ty,pos,aN,none⟩ v:=by exact Vp)(hd:d < N.n:=by decide):XQ N w0 ops Q (⟨some d,op,ty,pos,aN,none⟩::rest) e R H:=aLm k hd fun a w c st=>by
 unfold Oper.quietAt;rw[h a w c st];exact⟨rfl,rfl⟩
def Ed(h:bY Tryz.prog N w0 e R H ⟨some d,op,ty,pos,aN,none⟩ v)(k:XQ N w0 ops Q rest ((d,v)::e) R H)(hd:d < N.n:=by decide):XQ N w0 ops Q (⟨some d,op,ty,pos,aN,none⟩::rest) e R H:=aFK k h hd
def aLo(k:XQ N w0 ops Q (⟨some d,op,ty,pos,aN,none⟩::rest) e R H)(hj:(ops[j]?).bind (·.dst)=some t:=by rfl)(f:e.get t=some (.bool want):=by rfl):XQ N w0 ops Q (⟨some d,op,ty,pos,aN,some (j,want)⟩::rest) e R H:=fun a c=>by
 have h:=k a c
 have hw:Region.wanted (⟨some d,op,ty,pos,aN,some (j,want)⟩:Oper) (yielded ops a.tmps)=true:=by
  simp only[Region.wanted,yielded,hj,Bo,c.get t _ f];simp
 unfold wpQuiet at h|-;rw[aH hw];rw[aH (by simp[Region.wanted])] at h;exact h
def aLp{b:Bool}(k:XQ N w0 ops Q rest ((d,undef)::e) R H)(hj:(ops[j]?).bind (·.dst)=some t:=by rfl)(h:e.get t=some (.bool b):=by rfl)(f:b= !want:=by rfl)(hd:d < N.n:=by decide):XQ N w0 ops Q (⟨some d,op,ty,pos,aN,some (j,want)⟩::rest) e R H:=fun a c=>by
 have hw:Region.wanted (⟨some d,op,ty,pos,aN,some (j,want)⟩:Oper) (yielded ops a.tmps)=false:=by
  simp only[Region.wanted,yielded,hj,Bo,c.get t _ h,f];simp
 unfold wpQuiet;rw[aC (by rw[hw];simp)];exact k _ (c.put hd undef)
def aLn(k:XQ N w0 ops Q rest ((d,undef)::e) R H)(hj:(ops[j]?).bind (·.dst)=some t:=by rfl)(f:e.get t=some undef:=by rfl)(hd:d < N.n:=by decide):XQ N w0 ops Q (⟨some d,op,ty,pos,aN,some (j,want)⟩::rest) e R H:=fun a c=>by
 have hw:Region.wanted (⟨some d,op,ty,pos,aN,some (j,want)⟩:Oper) (yielded ops a.tmps)=false:=by
  simp only[Region.wanted,yielded,hj,Bo,c.get t _ f];simp[undef]
 unfold wpQuiet;rw[aC (by rw[hw];simp)];exact k _ (c.put hd undef)
def eT.as{a:Act}{u:Value}(h:eT N e a)(d:e.get t=some u):eT N ((t,u)::e) a:=⟨h.size,h.defers,fun s v c=>by
 unfold Env.get at c;split at c
 .rename_i f
  have:=Kb f
  subst this;cases c;exact h.get _ _ d
 .exact h.get _ _ c⟩
def Rj{p:Prop}[Decidable p](t:Nat)(d:e.get t=some (.bool (decide p)))(h:p->XQ N w0 ops Q rest ((t,.bool true)::e) R H)(i:¬p->XQ N w0 ops Q rest ((t,.bool false)::e) R H):XQ N w0 ops Q rest e R H:=by
 by_cases c:p
 .rw[eM c] at d;exact fun a f=>h c a (f.as d)
 .rw[gW c] at d;exact fun a f=>i c a (f.as d)
def Li{f:FuncId}{x:Operand}{args:List Operand}{fi ca vs:List Value}{tys:Array TypeId}(p:∀w,St w0 R H w->Calls Tryz.prog f (fi++vs++ca).toArray w (Rt v w))(k:XQ N w0 ops Q rest ((d,v)::e) R H)(hx:e.ev x=some (.func (.func f) fi.toArray ca.toArray):=by rfl)(t:e.aM args=some vs:=by rfl)(hf:fW Tryz.prog f=true:=by kernel_rfl)(hd:d < N.n:=by decide):
  XQ N w0 ops Q (⟨some d,.call {callee:=.value x,args:=args.toArray,argTypes:=tys},ty,pos,aN,none⟩::rest) e R H:=aLm k hd fun a w o st=>by
 unfold fW at hf;cases j:Tryz.prog.funcs[f]? with
 | none=>simp[j] at hf
 | some fn =>
  simp[j] at hf;obtain⟨l,m⟩:=hf
  have h:(execOp a.eval (⟨some d,.call {callee:=.value x,args:=args.toArray,argTypes:=tys},ty,pos,aN,none⟩:Oper)).run Tryz.prog w=.ok (.enter f (fi++vs++ca).toArray) w:=by
   cases i:fn.body with
   | none=>simp[i] at m
   | some c=>simp[execOp,resolve,o.ev hx,Deferred.ofValue,invoke,callFunc,j,l,i,o.aM t]
  unfold Oper.quietAt;rw[h];exact⟨rfl,(p w st).mono fun y z ⟨r,i⟩=>⟨r,st.call i⟩⟩
def xK{f:FuncId}{x:Operand}{args:List Operand}{vs:List Value}{tys:Array TypeId}(c:∀w,St w0 R H w->Calls Tryz.prog f vs.toArray w (Rt v w))(k:XQ N w0 ops Q rest ((d,v)::e) R H)(hx:e.ev x=some (.func (.func f) #[] #[]):=by rfl)(h:e.aM args=some vs:=by rfl)(hf:fW Tryz.prog f=true:=by kernel_rfl)(hd:d < N.n:=by decide):
  XQ N w0 ops Q (⟨some d,.call {callee:=.value x,args:=args.toArray,argTypes:=tys},ty,pos,aN,none⟩::rest) e R H:=Li (fi:=[]) (ca:=[]) (fun w st=>by simpa using c w st) k hx h hf hd
def aLq(k:XQ N w0 ops Q (o::rest) e R H):XQ N w0 ops Q (o::rest) e R H:=k
def kU{c:List Oper}(k:XQ N w0 ops Q c e' R H)(hk:XQ N w0 ops Q c e' R H->XQ N w0 ops Q rest e R H:=by
  intro h
  repeat' ((with_reducible refine aLq ?_);first | refine aFK ?_ | refine aLo ?_ | refine aLp ?_ | refine aLn ?_)
  exact h):XQ N w0 ops Q rest e R H:=hk k
def kM(k:XK N w0 K' e' R H)(hk:XK N w0 K' e' R H->XQ N w0 ops Q rest e R H:=by
  intro h
  repeat' ((with_reducible refine aLq ?_);first | refine aFK ?_ | refine aLo ?_ | refine aLp ?_ | refine aLn ?_)
  refine aWD ?_
  exact h):XQ N w0 ops Q rest e R H:=hk k
def aBG{f:FuncId}{x:Operand}{args:List Operand}{fi ca vs:List Value}{tys:Array TypeId}(c:∀w,St w0 R H w->Calls Tryz.prog f (fi++vs++ca).toArray w (Rt v w))(k:XK N w0 (wpList Tryz.prog ops Q rest) ((d,v)::e) R H)(hx:e.ev x=some (.func (.func f) fi.toArray ca.toArray):=by rfl)(h:e.aM args=some vs:=by rfl)(hf:fW Tryz.prog f=true:=by kernel_rfl)(hd:d < N.n:=by decide):
  XK N w0 (wpList Tryz.prog ops Q (⟨some d,.call {callee:=.value x,args:=args.toArray,argTypes:=tys},ty,pos,aN,none⟩::rest)) e R H:=Ct hf hx h hd c k
def cM{f:FuncId}{x:Operand}{args:List Operand}{vs:List Value}{tys:Array TypeId}(c:∀w,St w0 R H w->Calls Tryz.prog f vs.toArray w (Rt v w))(k:XK N w0 (wpList Tryz.prog ops Q rest) ((d,v)::e) R H)(hx:e.ev x=some (.func (.func f) #[] #[]):=by rfl)(h:e.aM args=some vs:=by rfl)(hf:fW Tryz.prog f=true:=by kernel_rfl)(hd:d < N.n:=by decide):
  XK N w0 (wpList Tryz.prog ops Q (⟨some d,.call {callee:=.value x,args:=args.toArray,argTypes:=tys},ty,pos,aN,none⟩::rest)) e R H:=aBG (fi:=[]) (ca:=[]) (fun w st=>by simpa using c w st) k hx h hf hd
def bE(i:Nat)(k:XA Tryz.prog N w0 ops Q R0 H0 m fuel (listed.setIfInBounds i true) ((d,v)::e) R H)(hi:ops[i]? =some ⟨some d,op,ty,pos,aN,none⟩:=by rfl)(bL:bY Tryz.prog N w0 e R0 H0 ⟨some d,op,ty,pos,aN,none⟩ v:=by exact Vp)(hd:d < N.n:=by decide)
  (j:(Region.free .any ops listed i&&(Region.ready .any ops listed).contains i&&decide (i < m))=true:=by kernel_rfl) (hQ:∀c a w,Q (.panic c) (a.put (some d) v) w->Q (.panic c) a w:=by exact fun _ _ _ h=>h)
  (f:∀w,St w0 R H w->St w0 R0 H0 w:=by exact Eu):XA Tryz.prog N w0 ops Q R0 H0 m (fuel+1) listed e R H:=nG i hi rfl rfl hd bL j hQ f k
def lD{nn:Nat}{fn:Func}{t:Nat}{v c:Value}{w:World}(h:all w∈R)(i:v=c)(d:fn.results=#[.tmp t]:=by rfl)(f:e.get t=some v:=by rfl):XK ⟨nn,[]⟩ w (bodyPost Tryz.prog fn (Rt c w) .ret) e R H:=xM d f fun j st=>⟨by rw[i],st.below h⟩
end
instance:dK 3:={}
instance:dK 4:={}
instance:dK 5:={}
instance:dK 22:={}
instance:nI 22 3 1:={}
instance:dK 36:={}
instance:dK 25:={}
instance:nI 25 73 6:={}
instance:dK 26:={}
instance:nI 26 75 3:={}
instance:dK 27:={}
instance:nI 27 77 1:={}
instance:dK 28:={}
instance:nI 28 80 6:={}
instance:aY 30 0 0:={}
instance:aY 30 1 1:={}
instance:aY 30 2 2:={}
instance:aY 30 3 3:={}
instance:nV 30 4:={}
instance:dK 78:={}
instance:nI 78 82 2:={}
instance:aY 80 0 0:={}
instance:aY 80 1 1:={}
instance:aY 80 2 2:={}
instance:aY 80 3 3:={}
instance:aY 80 4 4:={}
instance:aY 80 5 5:={}
instance:nV 80 6:={}
instance:nI 97 5 1:={}
instance:dK 45:={}
instance:aY 47 0 0:={}
instance:aY 47 1 1:={}
instance:nV 47 2:={}
instance:aY 44 0 0:={}
instance:aY 44 1 1:={}
instance:aY 44 2 2:={}
instance:aY 44 3 3:={}
instance:nV 44 4:={}
instance:aY 82 0 0:={}
instance:aY 82 1 1:={}
instance:nV 82 2:={}
instance:aY 75 0 0:={}
instance:aY 75 1 1:={}
instance:aY 75 2 2:={}
instance:nV 75 3:={}
instance:dK 88:={}
instance:dK 89:={}
instance:dK 90:={}
instance:dK 95:={}
instance:nI 192 49 4:={}
instance:dK 109:={}
instance:dK 162:={}
instance:dK 136:={}
instance:nI 136 4 1:={}
instance:dK 41:={}
instance:nI 41 52 14:={}
instance:dK 50:={}
instance:nI 50 36 1:={}
instance:aY 49 0 0:={}
instance:aY 49 1 1:={}
instance:aY 49 2 2:={}
instance:aY 49 3 3:={}
instance:nV 49 4:={}
instance:aY 52 0 0:={}
instance:aY 52 1 1:={}
instance:aY 52 2 2:={}
instance:aY 52 3 6:={}
instance:aY 52 4 8:={}
instance:aY 52 5 12:={}
instance:aY 52 6 13:={}
instance:nV 52 14:={}
instance:aY 150 0 0:={}
instance:aY 150 1 1:={}
instance:nV 150 2:={}
instance:aY 138 0 0:={}
instance:aY 138 1 1:={}
instance:aY 138 2 2:={}
instance:nV 138 3:={}
instance:Ba 143 2 138 3:={}
instance:nV 143 6:={}
instance:aY 145 0 0:={}
instance:nV 145 6:={}
instance:aY 70 0 0:={}
instance:aY 70 1 1:={}
instance:aY 70 2 2:={}
instance:aY 70 3 6:={}
instance:aY 70 4 7:={}
instance:nV 70 8:={}
instance:nI 39 100 12:={}
instance:aY 55 0 0:={}
instance:FdT 55 0 0:={}
instance:aY 55 1 1:={}
instance:aY 55 2 2:={}
instance:FdT 55 2 2:={}
instance:aY 55 3 3:={}
instance:aY 55 4 4:={}
instance:FdT 55 4 4:={}
instance:aY 55 5 5:={}
instance:aY 55 6 6:={}
instance:nV 55 7:={}
instance:dK 71:={}
instance:aY 73 0 0:={}
instance:aY 73 1 1:={}
instance:aY 73 2 2:={}
instance:aY 73 3 3:={}
instance:aY 73 4 4:={}
instance:aY 73 5 5:={}
instance:nV 73 6:={}
instance:aY 77 0 0:={}
instance:nV 77 1:={}
instance:dK 176:={}
instance:dK 179:={}
instance:aY 182 0 0:={}
instance:aY 182 1 1:={}
instance:aY 182 2 2:={}
instance:aY 182 3 3:={}
instance:aY 182 4 4:={}
instance:aY 182 5 5:={}
instance:nV 182 6:={}
instance:dK 163:={}
instance:dK 166:={}
instance:dK 169:={}
instance:dK 172:={}
instance:dK 173:={}
instance:nI 173 182 6:={}
instance:aY 175 0 0:={}
instance:aY 175 1 1:={}
instance:aY 175 2 2:={}
instance:aY 175 3 3:={}
instance:aY 175 4 4:={}
instance:Ba 112 6 3 1:={}
instance:aY 135 0 0:={}
instance:aY 135 1 1:={}
instance:aY 135 2 5:={}
instance:aY 135 3 7:={}
instance:Ba 139 3 135 13:={}
instance:dK 140:={}
instance:nI 140 283 4:={}
instance:aY 142 0 0:={}
instance:aY 142 1 1:={}
instance:aY 142 2 2:={}
instance:aY 142 3 6:={}
instance:aY 142 4 7:={}
instance:aY 142 5 10:={}
instance:aY 142 6 49:={}
instance:aY 142 7 50:={}
instance:aY 142 8 51:={}
instance:aY 142 9 52:={}
instance:aY 142 10 53:={}
instance:aY 142 11 54:={}
instance:aY 147 0 0:={}
instance:aY 147 1 1:={}
instance:Ba 148 2 147 2:={}
instance:aY 152 0 0:={}
instance:aY 152 1 1:={}
instance:aY 152 2 5:={}
instance:aY 152 3 11:={}
instance:aY 152 4 15:={}
instance:aY 152 5 16:={}
instance:aY 152 6 17:={}
instance:nI 255 258 2:={}
instance:aY 258 0 0:={}
instance:aY 258 1 1:={}
instance:nV 258 2:={}
instance:dK 155:={}
instance:nI 155 22 1:={}
instance:dK 157:={}
instance:aY 159 0 0:={}
instance:aY 159 1 1:={}
instance:aY 159 2 2:={}
instance:aY 67 0 0:={}
instance:aY 67 1 1:={}
instance:aY 67 2 2:={}
instance:aY 67 3 3:={}
instance:nV 67 4:={}
instance:Ba 91 3 44 4:={}
instance:Ba 92 3 4 1:={}
instance:aY 94 0 0:={}
instance:aY 94 1 1:={}
instance:aY 94 2 2:={}
instance:aY 94 3 3:={}
instance:aY 94 4 4:={}
instance:aY 94 5 5:={}
instance:aY 94 6 17:={}
instance:aY 94 7 20:={}
instance:aY 98 1 1:={}
instance:aY 98 2 2:={}
instance:aY 98 3 3:={}
instance:aY 98 4 4:={}
instance:aY 98 5 5:={}
instance:nV 98 6:={}
instance:aY 100 0 0:={}
instance:aY 100 1 1:={}
instance:aY 100 2 2:={}
instance:aY 100 3 3:={}
instance:aY 100 4 4:={}
instance:aY 100 5 5:={}
instance:aY 100 6 6:={}
instance:nV 100 12:={}
instance:aY 115 0 0:={}
instance:aY 115 1 1:={}
instance:aY 115 2 2:={}
instance:Ba 116 3 45 1:={}
instance:Ba 118 3 3 1:={}
instance:nV 118 3:={}
instance:aY 214 0 0:={}
instance:aY 214 1 6:={}
instance:aY 214 2 7:={}
instance:aY 214 3 8:={}
instance:aY 214 4 9:={}
instance:aY 214 5 10:={}
instance:nV 214 11:={}
instance:dK 210:={}
instance:nI 210 214 11:={}
instance:aY 212 0 0:={}
instance:aY 219 0 0:={}
instance:aY 219 1 3:={}
instance:aY 219 2 4:={}
instance:aY 219 3 5:={}
instance:aY 219 4 6:={}
instance:aY 224 0 0:={}
instance:aY 224 1 1:={}
instance:aY 224 2 2:={}
instance:aY 224 3 3:={}
instance:nV 224 4:={}
instance:aY 277 0 0:={}
instance:aY 283 0 0:={}
instance:aY 283 1 1:={}
instance:aY 283 2 2:={}
instance:aY 283 3 3:={}
instance:nV 283 4:={}
instance:aY 307 0 0:={}
instance:aY 307 1 1:={}
instance:aY 307 2 2:={}
instance:aY 307 3 3:={}
instance:nV 307 4:={}
instance:aY 229 0 0:={}
instance:aY 229 1 1:={}
instance:dK 312:={}
instance:nI 312 307 4:={}
instance:dK 230:={}
instance:nI 230 312 1:={}
instance:aY 232 0 0:={}
instance:aY 232 1 1:={}
instance:aY 232 2 2:={}
instance:dK 215:={}
instance:nI 215 219 7:={}
instance:aY 217 0 0:={}
instance:dK 220:={}
instance:aY 222 0 0:={}
instance:Ba 318 3 5 1:={}
instance:aY 320 0 0:={}
instance:aY 320 1 1:={}
instance:aY 320 2 2:={}
instance:dK 153:={}
instance:aY 227 0 0:={}
instance:aY 227 1 1:={}
instance:aY 227 2 2:={}
instance:aY 227 3 3:={}
instance:dK 299:={}
instance:dK 269:={}
instance:nI 263 162 1:={}
instance:Ba 336 4 5 1:={}
instance:nI 368 359 1:={}
instance:dK 369:={}
abbrev Fr(r:Option Nat):Fence:={Fence.wide with round:=r}
def aEq(D:Nat):Deferred:={target:=.collected D,args:=#[]}
def mk(L:List Nat)(a:Act):Act:={tmps:=a.tmps,defers:=a.defers++L.map aEq}
def aB4(L:List Nat)(a:Act):(mk L a).eval=a.eval:=by funext x;cases x<;>rfl
def Ht(L:List Nat)(a:Act)(d:Option Nat)(v:Value):(mk L a).put d v=mk L (a.put d v):=by cases d<;>rfl
def aB3(a:Act):mk [] a=a:=by cases a;simp[mk]
def KI(r:Option Nat)(L:List Nat)(P:Program)(ops:Array Oper)(Q:Exit->Act->World->Prop)(l:List Oper):Act->World->Prop:=fun a w=>wpListIn (Fr r) 9 P ops Q l (mk L a) w
def KC(r:Option Nat)(L:List Nat)(P:Program)(c:Code)(Q:Exit->Act->World->Prop):Act->World->Prop:=fun a w=>c.wpIn (Fr r) 9 P Q (mk L a) w
def KQ(L:List Nat)(Q:Exit->Act->World->Prop)(x:Exit):Act->World->Prop:=fun a w=>Q x (mk L a) w
def Fx(K:Act->World->Prop):Exit->Act->World->Prop:=Exit.then K fun _ _ _=>False
def zL(o:Oper):Bool:=match o.op with | .defer _=>false | _=>true
section
variable{nn:Nat}{r:Option Nat}{L:List Nat}
def aHs(r:Option Nat)(ρ:Operand->Value){o:Oper}(h:zL o=true):Oper.semAt (Fr r).round ρ o=execOp ρ o:=by
 have hd:∀c,o.op≠.defer c:=fun c e=>by unfold zL at h;rw[e] at h;cases h
 cases r with
 | none=>exact Oper.semAt_none ρ o
 | some l=>exact Oper.semAt_some l ρ o hd
def aVA{n m:Nat}{f:FuncId}{args:Array Value}{w:World}{A B:Ending->World->Prop}(h:Calls P f args w A)(d:∀e w',A e w'->B e w'):CallsIn (Fr r) n P f args w B:=by
 have c:CallsIn Fence.wide n P f args w B:=callsIn_wide.2 (h.mono d)
 cases r with
 | none=>exact c
 | some l=>exact CallsIn.inRound l c
def aPp{n:Nat}{row:String}{args:Array Value}{w:World}{A B:Value->World->Prop}(h:Go.Rows P row args w A)(e:∀v w',A v w'->B v w'):RowsIn (Fr r) n P row args w B:=fun c f _=>by
 obtain⟨v,w',d,i⟩:=h c f;exact⟨v,w',e _ _ d,stepsIn_wide.2 i⟩
def aDY{o:Oper}{a:Act}{w:World}{K K':Act->World->Prop}{Q':Exit->Act->World->Prop}(hp:zL o=true)(hK:∀a w,K a w->K' (mk L a) w)(h:o.wp P a w K (Fx K)):o.wpIn (Fr r) 9 P (mk L a) w K' Q':=by
 refine⟨fun _ _=>trivial,?_⟩;rw[aHs r _ hp,aB4];unfold Oper.wp at h;generalize (execOp a.eval o).run P w=res at h|-;cases res with
 | ok n w' =>
  cases n with
  | value v=>show K' ((mk L a).put o.dst v) w';rw[Ht];exact hK _ _ h
  | skip=>show K' ((mk L a).put o.dst undef) w';rw[Ht];exact hK _ _ h
  | defer d=>
   have:=hK _ _ h
   rw[<-Ht] at this;exact this
  | enter f args => exact ⟨fun _ => by omega, aVA (m := 0) h fun e w'' he => by
    cases e with
    | returned v=>show K' ((mk L a).put o.dst v) w'';rw[Ht];exact hK _ _ he
    | panicked c=>exact he.elim
    | outgrown=>obtain⟨_,_,hf⟩:=he;exact hf.elim⟩
  | row row args=>exact⟨fun _=>by omega,aPp h fun v w'' he=>by show K' ((mk L a).put o.dst v) w'';rw[Ht];exact hK _ _ he⟩
  | _=>exact h.elim
 | halt x w'=>
  cases x with
  | panic v=>exact(show False from h).elim
  | _=>exact h.elim
def aLz{o:Oper}(hp:zL o=true)(h:XK ⟨nn,[]⟩ w0 (wpList P ops (Fx (KI r L P ops Q rest)) [o]) e R H):XK ⟨nn,[]⟩ w0 (KI r L P ops Q (o::rest)) e R H:=fun a w d st=>by
 have h:=h a w d st
 unfold wpList at h
 show wpListIn (Fr r) 9 P ops Q (o::rest) (mk L a) w
 unfold wpListIn
 by_cases hw:Region.wanted o (yielded ops a.tmps)=true
 .rw[aH hw] at h;rw[aH (show Region.wanted o (yielded ops (mk L a).tmps)=true from hw)];rcases h with h | ⟨_,_,_,h⟩
  .exact aDY hp (K:=wpList P ops (Fx (KI r L P ops Q rest)) []) (fun a w h=>h) (by
    unfold Oper.wp at h|-;generalize (execOp a.eval o).run P w=res at h|-;cases res with
    | ok n w'=>cases n<;>first | exact h | exact Calls.mono h (fun x i c=>by cases x<;>first | exact c | exact c.elim | (obtain⟨_,_,f⟩:=c;exact f.elim))
    | halt x w'=>cases x<;>exact h)
  .exact h.elim
 .rw[aC hw] at h;rw[aC (show ¬Region.wanted o (yielded ops (mk L a).tmps)=true from hw)];refine⟨fun _ _=>trivial,?_⟩;rw[Ht];exact h
def aXb{K:Act->World->Prop}(h:XK ⟨nn,[]⟩ w0 K e R H):XK ⟨nn,[]⟩ w0 (wpList P ops (Fx K) []) e R H:=h
def aWZ(h:XK ⟨nn,[]⟩ w0 (KQ L Q .normal) e R H):XK ⟨nn,[]⟩ w0 (KI r L P ops Q []) e R H:=h
def aFU{dst:Option Nat}{op:Op}{j t:Nat}{want:Bool}{ty:TypeId}{pos:String}{aN:Array Edge}(hj:(ops[j]?).bind (·.dst)=some t)(d:e.get t=some (.bool want))
  (k:XK ⟨nn,[]⟩ w0 (KI r L P ops Q (⟨dst,op,ty,pos,aN,none⟩::rest)) e R H):XK ⟨nn,[]⟩ w0 (KI r L P ops Q (⟨dst,op,ty,pos,aN,some (j,want)⟩::rest)) e R H:=fun a w c st=>by
 have h:wpListIn (Fr r) 9 P ops Q (⟨dst,op,ty,pos,aN,none⟩::rest) (mk L a) w:=k a w c st
 have hw:Region.wanted (⟨dst,op,ty,pos,aN,some (j,want)⟩:Oper) (yielded ops a.tmps)=true:=by
  simp only[Region.wanted,yielded,hj,Bo,c.get t _ d];simp
 show wpListIn (Fr r) 9 P ops Q _ (mk L a) w
 unfold wpListIn at h|-;rw[aH (show Region.wanted (⟨dst,op,ty,pos,aN,some (j,want)⟩:Oper) (yielded ops (mk L a).tmps)=true from hw)];rw[aH (by simp[Region.wanted])] at h;exact h
def aXe{id:Nat}{l:List Oper}(h:XK ⟨nn,[]⟩ w0 (KI r L P l.toArray Q l) e R H):XK ⟨nn,[]⟩ w0 (KC r L P (Code.region id l.toArray false) Q) e R H:=fun a w c st=>wpIn_region_lit (h a w c st)
def aDh:∀(l:List Oper) (a:Act) (w:World),(l.all zL)=true->wpList P ops (Fx (KQ L Q .normal)) l a w->wpListIn (Fr r) 9 P ops Q l (mk L a) w
 | [],a,w,_,h=>h
 | o :: l, a, w, hp, h => by
  simp only[List.all_cons,jY] at hp;unfold wpList at h;unfold wpListIn
  by_cases hw:Region.wanted o (yielded ops a.tmps)=true
  .rw[aH hw] at h;rw[aH (show Region.wanted o (yielded ops (mk L a).tmps)=true from hw)];rcases h with h | ⟨_,_,_,h⟩
   .exact aDY hp.1 (K:=wpList P ops (Fx (KQ L Q .normal)) l) (fun a w h=>aDh l a w hp.2 h) (by
     unfold Oper.wp at h|-;generalize (execOp a.eval o).run P w=res at h|-;cases res with
     | ok n w'=>cases n<;>first | exact h | exact Calls.mono h (fun x c hx=>by cases x<;>first | exact hx | exact hx.elim | (obtain⟨_,_,hf⟩:=hx;exact hf.elim))
     | halt x w'=>cases x<;>exact h)
   .exact h.elim
  .rw[aC hw] at h;rw[aC (show ¬Region.wanted o (yielded ops (mk L a).tmps)=true from hw)];refine⟨fun _ _=>trivial,?_⟩;rw[Ht];exact aDh l _ _ hp.2 h
def rL{id:Nat}{l:List Oper}(hp:l.all zL=true)(h:XK ⟨nn,[]⟩ w0 (wpList P l.toArray (Fx (KQ L Q .normal)) l) e R H):XK ⟨nn,[]⟩ w0 (KC r L P (Code.region id l.toArray false) Q) e R H:=fun a w c st=>wpIn_region_lit (aDh l a w hp (h a w c st))
def lV{K:Act->World->Prop}(h:XK ⟨nn,[]⟩ w0 K e R H):XK ⟨nn,[]⟩ w0 (wpList P ops (Fx K) []) e R H:=h
def qX{x y:Code}(h:XK ⟨nn,[]⟩ w0 (KC r L P x (Exit.then (y.wpIn (Fr r) 9 P Q) Q)) e R H):XK ⟨nn,[]⟩ w0 (KC r L P (Code.seq x y) Q) e R H:=fun a w c st=>wpIn_seq (h a w c st)
def aFV(h:XK ⟨nn,[]⟩ w0 (KQ L Q .normal) e R H):XK ⟨nn,[]⟩ w0 (KC r L P Code.skip Q) e R H:=fun a w c st=>wpIn_skip (h a w c st)
def aLC{id:Nat}(h:XK ⟨nn,[]⟩ w0 (KQ L Q (.exit id)) e R H):XK ⟨nn,[]⟩ w0 (KC r L P (Code.exit id) Q) e R H:=fun a w c st=>wpIn_exit (h a w c st)
def aFW(h:XK ⟨nn,[]⟩ w0 (KQ L Q .ret) e R H):XK ⟨nn,[]⟩ w0 (KC r L P Code.ret Q) e R H:=fun a w c st=>wpIn_ret (h a w c st)
def Lo{id:Nat}{c:Code}(h:XK ⟨nn,[]⟩ w0 (KC r L P c (Exit.inBlock id Q)) e R H):XK ⟨nn,[]⟩ w0 (KC r L P (Code.block id c) Q) e R H:=fun a w d st=>wpIn_block (h a w d st)
def aFZ{c:Operand}{x y:Code}{b:Bool}(f:e.ev c=some (.bool b))(i:b=true->XK ⟨nn,[]⟩ w0 (KC r L P x Q) e R H)(hf:b=false->XK ⟨nn,[]⟩ w0 (KC r L P y Q) e R H):XK ⟨nn,[]⟩ w0 (KC r L P (Code.cond c x y) Q) e R H:=
 fun a w d st=>wpIn_cond_split (by rw[aB4];exact d.ev f) (fun h=>i h a w d st) (fun h=>hf h a w d st)
def sA{c:Operand}{x y:Code}{p:Prop}[Decidable p](d:e.ev c=some (.bool (decide p)))(f:p->XK ⟨nn,[]⟩ w0 (KC r L P x Q) e R H)(hf:¬p->XK ⟨nn,[]⟩ w0 (KC r L P y Q) e R H):XK ⟨nn,[]⟩ w0 (KC r L P (Code.cond c x y) Q) e R H:=
 aFZ d (fun h=>f (eV h)) (fun h=>hf (Tr h))
def aL5{y:Code}(h:XK ⟨nn,[]⟩ w0 (KC r L P y Q) e R H):XK ⟨nn,[]⟩ w0 (KQ L (Exit.then (y.wpIn (Fr r) 9 P Q) Q) .normal) e R H:=h
def aL6{K:Act->World->Prop}{id:Nat}(h:XK ⟨nn,[]⟩ w0 (KQ L Q (.exit id)) e R H):XK ⟨nn,[]⟩ w0 (KQ L (Exit.then K Q) (.exit id)) e R H:=h
def aL4{K:Act->World->Prop}(h:XK ⟨nn,[]⟩ w0 (KQ L Q .ret) e R H):XK ⟨nn,[]⟩ w0 (KQ L (Exit.then K Q) .ret) e R H:=h
def aLA{id:Nat}(h:XK ⟨nn,[]⟩ w0 (KQ L Q .normal) e R H):XK ⟨nn,[]⟩ w0 (KQ L (Exit.inBlock id Q) .normal) e R H:=h
def aL9{id:Nat}(h:XK ⟨nn,[]⟩ w0 (KQ L Q .ret) e R H):XK ⟨nn,[]⟩ w0 (KQ L (Exit.inBlock id Q) .ret) e R H:=h
def aLB{id:Nat}(h:XK ⟨nn,[]⟩ w0 (KQ L Q .normal) e R H):XK ⟨nn,[]⟩ w0 (KQ L (Exit.inBlock id Q) (.exit id)) e R H:=fun a w c st=>by
 show Exit.inBlock id Q (.exit id) (mk L a) w
 simp only[Exit.inBlock,if_true];exact h a w c st
def lE{K K':Act->World->Prop}(k:XK ⟨nn,[]⟩ w0 K' e R H)(hk:XK ⟨nn,[]⟩ w0 K' e R H->XK ⟨nn,[]⟩ w0 K e R H:=by
  intro h
  repeat (first | refine aL5 ?_ | refine aL6 ?_ | refine aL4 ?_ | refine aLA ?_ | refine aLB ?_ | refine aL9 ?_ | refine aXg rfl ?_)
  exact h):XK ⟨nn,[]⟩ w0 K e R H:=hk k
def aA0{c:Code}(I:Nat->List Nat->Env->List Piece->List HP->Prop)(n:Nat)(E:I n L e R H)
  (h:∀n L e R H,I n L e R H->XK ⟨nn,[]⟩ w0 (KC none L P c (Exit.then (fun d w'=>∃m r a e' R' H',(m < n/\I m r e' R' H')/\d=mk r a/\eT ⟨nn,[]⟩ e' a/\St w0 R' H' w') Q)) e R H):XK ⟨nn,[]⟩ w0 (KC none L P (Code.loop c) Q) e R H:=fun a w l st=>by
 refine wpIn_wide.2 (aDg (fun n d w=>∃L a e R H,I n L e R H/\d=mk L a/\eT ⟨nn,[]⟩ e a/\St w0 R H w) n ⟨L,a,e,R,H,E,rfl,l,st⟩ fun n d w ⟨L,a,e,R,H,B,D,l,st⟩=>?_);subst D;refine wp_mono (wpIn_wide.1 (h n L e R H B a w l st)) fun x d w' p=>?_;cases x with
 | normal=>
  obtain⟨m,z,t,y,A,C,⟨j,o⟩,k,f,i⟩:=p;exact⟨m,j,z,t,y,A,C,o,k,f,i⟩
 | _=>exact p
def Oa{I:Nat->List Nat->Env->List Piece->List HP->Prop}{n:Nat}(m:Nat)(hm:m < n)(d:I m L e R H):
  XK ⟨nn,[]⟩ w0 (KQ L (Exit.then (fun f w'=>∃m c a e' R' H',(m < n/\I m c e' R' H')/\f=mk c a/\eT ⟨nn,[]⟩ e' a/\St w0 R' H' w') Q) .normal) e R H:=fun a _ h st=>⟨m,L,a,e,R,H,⟨hm,d⟩,rfl,h,st⟩
end
end Go.Proofs.YtmpkkaknjkffpaaGreatDoor
