/- package bus: what waits is taken; something is posted. -/
import Derived.Tactics2
import Derived.Test.YtmpkkaknjkffpaaGreatDoorAuditSeesK4
namespace Go.Proofs.YtmpkkaknjkffpaaGreatDoor
set_option linter.all false
set_option maxHeartbeats 4000000
set_option maxRecDepth 20000
open Go.RowKit Go.Proofs.Tryz
variable{ops:Array Oper}{Q:Exit->Act->World->Prop}{N:cQ}{w0 w:World}{e:Env}{R:List Piece}{rest:List Oper}{d f h:Nat}{ty kt:TypeId}{pos:String}{aN:Array Edge}{K:Act->World->Prop}{s:aI}{r:List Int}{x:aS}
def aWb{P:Program}{w:World}{t ty e:TypeId}{i:TypeInfo}(k:P.underlying t=some (.slice e))(hi:P.info? e=some i)(A:Option Addr)(x:Value){m c:Nat}{B:Option Addr}(hx:x=.slice B m c)(hm:0 < m)(n:m*i.bytes<=140737488355328):
  (Builtin.append_ #[t,t] ty #[.slice A 0 0,x]).run P w=(Builtin.append_ #[t,t] ty #[sn,x]).run P w:=by
 subst hx
 have l:¬0+m<=0:=by omega
 have j:Builtin.nextslicecap (0+m) 0=m:=by
  unfold Builtin.nextslicecap;rw[mA];simp;omega
 have d:¬(Builtin.nextslicecap (0+m) 0*i.bytes>2 ^ 48):=by
  rw[j];omega
 have f:¬m=0:=by omega
 have h:¬(281474976710656 < Builtin.nextslicecap m 0*i.bytes):=by
  rw[<-mA m]
  simpa using d
 cases A with
 | none=>rfl
 | some a=>simp[Builtin.append_,run_underlying k,sizeOf,typeInfo,hi,Builtin.lenOf,Builtin.firstCells,l,d,f,h,loadCells,loadCellsFrom]
section
variable{P:Program}{e':Env}{R':List Piece}{H H':List HP}
def aMV(sz c m:Nat){x y:Operand}{t el:TypeId}{J:Nat}{U A:Option Addr}{f:List Value}(T:P.underlying t=some (.slice el))(hT:(P.info? el).map (fun i=>(i.zero.map (fun z=>z.cells.size),i.size,i.bytes))=some (some sz,sz,c))(o:0 < sz)
  (hx:e.ev x=some (.slice U 0 0)) (hy:e.ev y=some (.slice A m J)) (hs:∀w,St w0 R H w->∃B,Sl w B sz A m f) (V:∀u∈f,u.oneCell'=true) (hm:0 < m) (h63:(m:Int)<=9223372036854775807) (h:m*c<=140737488355328) (hd:d < N.n)
  (k:∀A' D,XK N w0 (wpList P ops Q rest) ((d,.slice A' m D)::e) R (HP.own el sz (.slice A' m D) m f::H)):
  XK N w0 (wpList P ops Q (⟨some d,.call {callee:=.builtin .append,args:=#[x,y],argTypes:=#[t,t]},ty,pos,aN,none⟩::rest)) e R H:=by
 obtain⟨ti,z,r,Y,F,C,M⟩:=aE6 hT;refine vF rfl fun a w I st=>?_;obtain⟨B,E⟩:=hs w st;obtain⟨v',O,j,l,p,h4⟩:=aH7 (P:=P) w w.heap.size t ty el ti z sz c T r Y F C M o (sn) 0 [] (World.ownsRow_nil _ _ _ _) B A m J f E V (by unfold maxLen;omega) (by simpa using h) (gE _);rw[mA,sI] at l;obtain⟨A',D,rfl,_⟩:=aIg l;rw[<-aWb T r U (.slice A m J) rfl hm (by rw[C];exact h)] at j
 have K:Below w.heap.size w O:=⟨p.os,p.tape,p.output,p.size,fun b K=>p.block b K (fun X=>by cases X)⟩
 refine⟨_,O,by simp only[execOp,resolve,invoke,builtin,I.ev hx,I.ev hy,List.map_toArray,vJ,List.map_nil,Sem.run_bind,Sem.run_pure,Result.andThen_ok,j],k A' D _ _ (I.put hd _) (st.new K ⟨fun g hg=>?_,?_⟩)⟩
 .have:=l.lt _ hg
  exact this
 .exact⟨l.1,l.2.imp id fun⟨g,G,L,Z,_,e3⟩=>⟨g,G,L,Z,rE _,e3⟩⟩
end
section
variable{H:List HP}
def aUd{x lo hi j:Operand}{t el:TypeId}{A:Option Addr}{n c l h m sz:Nat}{z y k:IntKind}[hT:nI t el sz](hx:e.ev x=some (.slice A n c))(hl:e.ev lo=some (.int z (l:Int)))(o:e.ev hi=some (.int y (h:Int)))(hm:e.ev j=some (.int k (m:Int)))(r:l<=h)(p:h<=m)(h3:m<=c):
  bY Tryz.prog N w0 e R H ⟨some d,.slice t x (some lo) (some hi) (some j),ty,pos,aN,none⟩ (.slice (if m=l then A else A.map (·.add (l*sz))) (h - l) (m - l)):=jF fun a w f=>by
 obtain⟨C,i,B⟩:=kS.1 hT.s;simp[execOp,f.ev hx,f.ev hl,f.ev o,f.ev hm,Instr.sliceAt,Instr.slice,Instr.sliceBounds,run_sliceBound,run_underlying hT.h,sizeOf,typeInfo,i,B,r,p,h3]
def aKa{x lo:Operand}{t el:TypeId}{A:Option Addr}{n c l sz:Nat}{k:IntKind}[hT:nI t el sz](hx:e.ev x=some (.slice A n c))(hl:e.ev lo=some (.int k (l:Int)))(j:l<=n):
  bY Tryz.prog N w0 e R H ⟨some d,.slice t x (some lo) none none,ty,pos,aN,none⟩ (.slice (if c=l then A else A.map (·.add (l*sz))) (n - l) (c - l)):=jF fun a w i=>by
 obtain⟨o,f,m⟩:=kS.1 hT.s;simp[execOp,i.ev hx,i.ev hl,Instr.sliceAt,Instr.slice,Instr.sliceBounds,run_sliceBound,run_underlying hT.h,sizeOf,typeInfo,f,m,j]
def aWJ{K:Act->World->Prop}(i:Nat){n sz:Nat}{t:TypeId}{v:Value}{xs:List Value}(hi:H[i]? =some (HP.own t sz v n xs))(p:0 < n)(h:∀g c,v=.slice (some ⟨g,0,none⟩) n c->n<=c->XK N w0 K e R H):XK N w0 K e R H:=fun a w j st=>by
 obtain⟨_,m⟩:=st.own hi;rcases m with⟨_,f⟩ | ⟨k,d,o,l,_,_,f,_⟩
 .omega
 .exact h k d l f a w j st
def aWP{K:Act->World->Prop}(j i:Nat){p:Prop}{ps:List HP}(hj:H[j]? =some (HP.many ps))(hi:ps[i]? =some (qJ p))(h:p->XK N w0 K e R H):XK N w0 K e R H:=fun a w c st=>by
 obtain⟨F,d⟩:=(st.take hj hi).sat (i:=0) rfl;exact h d a w c st
end
def wL(g n:Nat)(vs:List Value)(ws:List (Option jN)):List HP:=HP.aK g 312 vs::qJ (vs.length=n)::(List.range n).map fun i=>QH (vs.getD i undef) (ws[i]?).join
def aNt{g n i:Nat}{vs:List Value}{ws:List (Option jN)}(hi:i < n):(wL g n vs ws)[i+2]? =some (QH (vs.getD i undef) (ws[i]?).join):=by
 unfold wL;rw[tX,tX,eO,Hr hi];rfl
def aNu{g n i:Nat}{vs:List Value}{ws:List (Option jN)}{v:Value}{q:Option jN}(hi:i < n)(d:vs.length=n)(hw:ws.length=n):
  (((((wL g n vs ws).set 0 cS).set (i+2) cS).set (i+2) (QH v q)).set 0 (HP.aK g 312 (vs.set i v)))=wL g n (vs.set i v) (ws.set i q):=by
 refine qR fun k=>?_
 match k with
 | 0=>rfl
 | 1=>
  show some (qJ (vs.length=n))=some (qJ ((vs.set i v).length=n))
  rw[pJ]
 | k + 2 =>
  unfold wL;simp only[Pq,Tq,tX,sX,eO];rw[gX]
  by_cases h:i=k
  .subst h;rw[aH rfl,aH (by simpa using hi),Hr hi];simp only[lO];rw[mZ,kR aA,kR aA];rfl
  .rw[aC h,eO];cases c:(List.range n)[k]? with
   | none=>rfl
   | some j=>
    obtain⟨_,rfl⟩:=cE.1 c;simp only[List.getElem_range,lO];rw[mZ,mZ,pZ h,pZ h]
section
variable{H:List HP}{L:BL}{ms:List Int}{ws:List (Option jN)}{aV:Int}
def aAi(L:BL)(ms:List Int)(aV:Int):List Value:=[.slice (some ⟨L.gr,0,none⟩) ms.length ms.length,.slice (some ⟨L.gw,0,none⟩) ms.length ms.length,iv aV]
def aGM(L:BL)(ms:List Int)(ws:List (Option jN))(vs:List Value)(i:Nat):HP:=HP.many (((wL L.gw ms.length vs ws).set 0 cS).set (i+2) cS)
def aLu(j i:Nat)(hj:H[j]? =some (Cr L ms ws aV))(hi:i < ms.length)(h:∀vs:List Value,vs.length=ms.length->
      XK N w0 K e R (QH (vs.getD i undef) (ws[i]?).join::HP.aK L.gw 312 vs::aGM L ms ws vs i::HP.aK L.b 232 (aAi L ms aV)::H.set j (HP.many [cS,HP.aK L.gr 3 (aU ms),cS]))):XK N w0 K e R H:=by
  have c:=(cE.1 hj).1
  refine uX j 0 hj rfl ?_;refine uX (j+1) 2 (by rw[tX,kR c]) rfl ?_;refine aCA 0 rfl fun vs=>?_;refine aWP 0 1 rfl rfl fun d=>?_;refine uX 0 0 rfl rfl ?_;refine uX 1 (i+2) rfl (p:=QH (vs.getD i undef) (ws[i]?).join) ?_ ?_
  · show((wL L.gw ms.length vs ws).set 0 cS)[i+2]? =_
    rw[pZ aA,aNt hi]
  · have h:=h vs d
    simp only[Tq,Pq,sX];exact h
def aLy(j i:Nat){vs:List Value}{v:Value}{q:Option jN}(hj:H[j]? =some (HP.many [cS,HP.aK L.gr 3 (aU ms),cS]))(hi:i < ms.length)(k:vs.length=ms.length)(hw:ws.length=ms.length)
  (h:XK N w0 K e R (H.set j (Cr L ms (ws.set i q) aV))):XK N w0 K e R (QH v q::HP.aK L.gw 312 (vs.set i v)::aGM L ms ws vs i::HP.aK L.b 232 (aAi L ms aV)::H):=by
 have d:=(cE.1 hj).1
 have c:(wL L.gw ms.length vs ws).length=ms.length+2:=by simp[wL]
 refine uZ 1 (i+2) rfl ?_ ?_
 .rw[kR (by simp[c];omega)]
 dsimp only[List.set];refine uZ 0 0 rfl ?_ ?_
 .rw[sX,pZ aA,kR (by simp[c])]
 rw[aNu hi k hw];dsimp only[List.set];refine wB 0 (f:=fun vs:List Value=>HP.many (wL L.gw ms.length vs (ws.set i q))) (vs.set i v) rfl ?_;dsimp only[List.set];refine uZ (j+1) 2 (by rw[tX];exact hj) rfl ?_;dsimp only[List.set];refine uZ j 0 (by rw[kR d]) rfl ?_;rw[sX];exact h
end
def aVD(L:BL)(ms:List Int)(ws:List (Option jN))(aV:Int)(i:Nat)(hi:i < ms.length)(hw:ws.length=ms.length)(t:jN)(y:(ws[i]?).join=some t)(w:World)(F:Nat->Prop)(hp:(Cr L ms ws aV).sat F w)(hF:∀b,F b->b < w.heap.size):
  Cz 200 #[.pointer (some ⟨L.b,0,none⟩),iv (i:Int)] w (Wr (.tuple #[.agg #[iv t.id,.bool t.wr,iv t.bF,.int .u32 t.val],.bool true]) (Cr L ms (ws.set i none) aV) w F):=by
 have n:bJ ms.length (i:Int)=true:=eM aA
 refine fS func200 ntmps200 hp hF ?_;generalize o:(⟨w,fun b=>b < w.heap.size/\¬F b⟩:Piece)=R0;refine aD ?_;refine eE fun z=>?_;refine aD ?_;refine cM (fun p st=>aCs L ms ws aV i p (st.aKL 1 rfl)) ?_;rw[n];refine aLu 1 i rfl hi fun e f=>?_;rw[y];dsimp only[List.set];refine aWJ 0 rfl aE fun g c k x=>?_
 have d:e[i]? =some (.slice (some ⟨g,0,none⟩) 1 c):=by
  obtain⟨v,r⟩:=get_some (l:=e) (i:=i) aA;rw[mZ,r] at k;rw[r];exact congrArg some k
 rw[k];refine aD ?_;refine kd (dat i i) ?_;refine aD ?_;refine kd (bT rfl (Rd.aK 1 rfl d)) ?_;refine aD ?_;refine kd (dat i i) ?_;refine aD ?_;refine kd (bT rfl (Rd.aK 1 rfl d)) ?_;refine aD ?_;refine kO [1,2,3,7,9,10,11] ?_;refine bU 0 ?_;refine aQ 1 ?_;refine aQ 2 ?_;refine aQ 3 ?_;refine bU 4 ?_;refine bU 5 ?_;refine bU 6 ?_;refine aQ 7 ?_;refine bU 8 ?_;refine aQ 9 ?_;refine aQ 10 ?_ (hi:=rfl) (bL:=aUd (l:=1) (h:=1) (m:=1) rfl rfl rfl rfl aA aA x);refine aQ 11 ?_ (hi:=rfl) (bL:=dat i i);refine aR 12 ?_;refine jD rfl rfl ?_ (hs:=dR.mk 1 rfl dK.h rfl aA);dsimp only[List.set];refine cT ?_;refine lW ?_;refine aD ?_;refine kd (dat 0 0) ?_;refine kd (nQ rfl (cI.of fun j v f=>by rw[mA];exact Rd.own 0 rfl f)) ?_;refine mO 4 rfl ?_;dsimp only[List.set];refine aD ?_;refine tH (q:=QH (.slice (some ⟨g,0,none⟩) 0 0) none) 0 rfl (fun _ _ _=>⟨_,rfl⟩) ?_;refine aLy 1 i rfl hi f hw ?_;dsimp only[List.set];subst o;exact Ef (vs:=[iv t.id,.bool t.wr,iv t.bF,.int .u32 t.val]) rfl aJ rfl rfl (cI.whole 0 rfl) rfl fun p st=>⟨rfl,st.turns hF aB (i:=1) rfl⟩
def aCr(w0 d many:Int)(w:World)(e:okF d many)(h:0<=cZ w0 d many/\cZ w0 d many < 4294967296):
  Cz 281 #[.int .u32 w0,iv d,iv many] w (Rt (iv (cZ w0 d many)) w):=by
 refine fP func281 ntmps281 ?_;refine aD ?_;refine cM (fun f t=>aJu w0 d many f e) ?_;refine aD ?_;refine kd (Nt (ds:=.int .u32) (kd:=.i64) (c:=cZ w0 d many) aJ aJ rfl (qM aA)) ?_;refine aD ?_;exact dP
def aBS(w c many:Int):0<=cZ w c many/\cZ w c many < 4294967296:=Sq _
def aKK(a dev bF:Int)(e:cZ a 0 2=0)(d:cZ a 24 8=0)(f:cZ a 16 8=dev)(h3:cZ a 2 14=bF)(w:World):
  Cz 279 #[.int .u32 a] w (Rt (.tuple #[iv dev,iv bF]) w):=by
 refine bQ func279 ntmps279 ?_;refine cM (fun c t=>aCr a 0 2 c (by unfold okF;omega) (aBS _ _ _)) ?_;rw[e];refine aD ?_;refine cM (fun c t=>aCr a 24 8 c (by unfold okF;omega) (aBS _ _ _)) ?_;rw[d];refine aD ?_;refine cM (fun c t=>aCr a 16 8 c (by unfold okF;omega) (aBS _ _ _)) ?_;rw[f];refine aD ?_;refine cM (fun c t=>aCr a 2 14 c (by unfold okF;omega) (aBS _ _ _)) ?_;rw[h3];refine aD ?_;exact kN fun c t=>⟨rfl,t.below aB⟩
def Wh(dev bF:Int):Int:=(Bs (Bs 0 16 8 dev).1 2 14 bF).1
structure aXB(dev bF:Int):Prop where
 p1:(Bs 0 16 8 dev).2=0
 p2:(Bs (Bs 0 16 8 dev).1 2 14 bF).2=0
 z0:cZ (Wh dev bF) 0 2=0
 z1:cZ (Wh dev bF) 24 8=0
 z2:cZ (Wh dev bF) 16 8=dev
 z3:cZ (Wh dev bF) 2 14=bF
def aLb{dev bF:Int}(d:0<=dev/\dev < 4)(e:0<=bF/\bF < 4):aXB dev bF:=by
 have hd:dev=0\/dev=1\/dev=2\/dev=3:=by omega
 have c:bF=0\/bF=1\/bF=2\/bF=3:=by omega
 rcases hd with rfl | rfl | rfl | rfl<;>rcases c with rfl | rfl | rfl | rfl<;>exact⟨by decide+kernel,by decide+kernel,by decide+kernel,by decide+kernel,by decide+kernel,by decide+kernel⟩
def aVH(dev bF:Int)(hd:0<=dev/\dev < 4)(f:0<=bF/\bF < 4)(w:World):
  Cz 277 #[iv dev,iv bF] w (Rt (.tuple #[.int .u32 (Wh dev bF),iv 0]) w):=by
 have e:=aLb hd f
 refine bQ func277 ntmps277 ?_;refine cH (t:=10) rfl (fun h=>absurd h aA) (fun _=>?_);refine aD ?_;refine cH (t:=14) rfl (fun h=>absurd h aA) (fun _=>?_);refine aD ?_;refine cH (t:=18) rfl (fun h=>absurd h aA) (fun _=>?_);refine aD ?_;refine dD rfl (fun h=>absurd h aA) (fun _=>?_);refine aD ?_;refine kd (Nt (ds:=.int .i64) (kd:=.u32) (c:=dev) aJ aJ rfl (wrap_u32 aA)) ?_;refine cM (fun d t=>aDN 0 16 8 dev d (by unfold okF;omega)) ?_;rw[e.p1];refine aD ?_;refine kd (Nt (ds:=.int .i64) (kd:=.u32) (c:=bF) aJ aJ rfl (wrap_u32 aA)) ?_;refine cM (fun d t=>aDN _ 2 14 bF d (by unfold okF;omega)) ?_;rw[e.p2];refine aD ?_;exact kN fun d t=>⟨rfl,t.below aB⟩
def aVF(L:BL)(ms:List Int)(ws:List (Option jN))(aV:Int)(i:Nat)(hi:i < ms.length)(E:ms.length<=6)(hw:ws.length=ms.length)(G:(ws[i]?).join=none)(a bF:Int)(B:cZ a 0 2=0)(r:cZ a 24 8=0)(z:cZ a 16 8=i)(H:cZ a 2 14=bF)(m:Int)(hm:ms[i]? =some m)(J:0<=bF/\bF < m)(b:Bool)(v:Int)(C:0<=aV/\aV<=1000000000)(w:World)(F:Nat->Prop)(hp:(Cr L ms ws aV).sat F w)(hF:∀b,F b->b < w.heap.size):
  Cz 280 #[.pointer (some ⟨L.b,0,none⟩),.int .u32 a,.bool b,.int .u32 v] w (Wr (.tuple #[iv aV,iv 0]) (Cr L ms (ws.set i (some ⟨aV,b,bF,v⟩)) (aV+1)) w F):=by
 have e:bJ ms.length (i:Int)=true:=eM aA
 have f:(aU ms)[i]? =some (iv m):=by simp[aU,hm]
 refine fS func280 ntmps280 hp hF ?_;generalize k:(⟨w,fun b=>b < w.heap.size/\¬F b⟩:Piece)=R0;refine aD ?_;refine cR (fun d t=>aKK a i bF B r z H d) ?_;refine cM (fun d st=>aCs L ms ws aV i d (st.aKL 0 rfl)) ?_;rw[e];refine aLu 0 i rfl hi fun j x=>?_;rw[G];dsimp only[List.set];refine bB 4 1 ?_;refine Eh (p:=∃A,j.getD i undef=.slice A 0 0) 1 rfl fun⟨A,o⟩=>?_
 have c:j[i]? =some (.slice A 0 0):=by
  obtain⟨u,n⟩:=get_some (l:=j) (i:=i) aA;rw[mZ,n] at o;rw[n];exact congrArg some o
 refine aD ?_;refine cH (t:=26) rfl (fun h=>absurd h aA) (fun _=>?_);refine aD ?_;refine cG (dat i i) ?_;refine cG (bT rfl (Rd.aK 0 rfl f)) ?_;refine dD rfl (fun h=>absurd h aA) (fun _=>?_);refine aD ?_;refine cG (dat i i) ?_;refine cG (bT rfl (Rd.aK 2 rfl c)) ?_;refine jD rfl rfl ?_ (hs:=dR.mk 4 rfl dK.h rfl (by simp[aAi]));dsimp only[List.set];rw[show(aAi L ms aV).set (0+2) (iv (aV+1))=aAi L ms (aV+1) from rfl];refine aD ?_;refine kO [1,2,3,6,7,8,10,11] ?_;refine bU 0 ?_;refine aQ 1 ?_;refine aQ 2 ?_;refine aQ 3 ?_;refine bU 4 ?_;refine bU 5 ?_;refine aQ 6 ?_;refine aQ 7 ?_;refine aQ 8 ?_;refine bU 9 ?_;refine aQ 10 ?_ (hi:=rfl) (bL:=dat i i);refine aQ 11 ?_ (hi:=rfl) (bL:=bT rfl (Rd.aK 2 rfl c));refine bU 12 ?_;refine bU 13 ?_;refine bU 14 ?_;refine bU 15 ?_;refine aR 16 ?_;refine kd (fI rfl) ?_;refine bH ?_;refine aR 17 ?_;refine eX fun I=>?_;refine bH ?_;refine aR 18 ?_;refine aMV 4 32 1 (el:=307) aJ aJ aE rfl rfl (tU 0 rfl rfl) (by simp[Value.oneCell']) aE aE aE aE fun D y=>?_;refine bH ?_;refine aR 19 ?_;refine kd (dat i i) ?_;refine cT ?_;refine aR 20 ?_;refine jD rfl rfl ?_ (hs:=dR.mk 4 rfl dK.h rfl aA);dsimp only[List.set];refine cT ?_;refine kA ?_;refine aZ [2,0,4,5,6,7] ?_;refine aP 4 1 ?_;refine aLy (v:=.slice D 1 y) (q:=some ⟨aV,b,bF,v⟩) 0 i rfl hi x hw ?_;dsimp only[List.set];subst k;exact kN fun d st=>⟨rfl,st.turns hF aB (i:=0) rfl⟩
def uW(s:aI)(x:aS)(i:Nat):Bool:=match s.aG[i]? with
 | some d=>sG s x.ck d.clock&&(decide (tY x.dm d.domain=49)&& !Fo x.ln d.reset)
 | none=>false
def tT(x:aS)(i:Nat):Int:=((x.dv[i]?).map fun p=>sO p.2.at_).getD 0
def aCN{w0:World}{R:List Piece}{H:List HP}{b o:Nat}{vs:List Value}{v:Value}(j:Nat)(h:cI w0 R H b o vs)(c:vs[j]? =some v):Rd w0 R H b (o+j) v:=fun w st=>h w st j v c
section
variable(L:HL)(s:aI)(x:aS)(w:World)
def aJl(e:s.dM)(i:Int)(c:xV w L s x):Cz 188 #[.pointer (some ⟨L.h,0,none⟩),iv i] w (Rt (.bool (sG s x.ck i)) w):=by
 have f:=c.r0.at_ (j:=0) rfl
 refine bQ func188 ntmps188 ?_;refine cR (fun d t=>Fp L s x d (c.below (t.below aB))) ?_;refine cR (fun d t=>aAc L.T s x.ck e i d (c.tree.below (t.below aB))) ?_;exact dP
def aJq(E:s.dM)(n:iS L s)(m:dF s x)(i:Nat)(hi:i < s.aG.length)(c:xV w L s x):Cz 81 #[.pointer (some ⟨L.h,0,none⟩),iv (i:Int)] w (Rt (.bool (uW s x i)) w):=by
 have J:=c.r0.at_ (j:=0) rfl
 have H:=c.r0.at_ (j:=1) rfl
 have I:=c.r0.at_ (j:=2) rfl
 have M:=c.r0.at_ (j:=4) rfl
 have C:=n.ds
 obtain⟨d,k⟩:=get_some hi;obtain⟨l,p⟩:=get_some (l:=L.ds) (i:=i) aA;obtain⟨b,off,D,A⟩:=aO.row c.rows (rows:=zU s.aG L.ds) (fun r A=>aFk r A) (aFl k p) hi
 have y:bJ s.aG.length (i:Int)=true:=eM aA
 have z:uW s x i=(sG s x.ck d.clock&&(decide (tY x.dm d.domain=49)&& !Fo x.ln d.reset)):=by
  unfold uW;rw[k]
 rw[z];refine bQ func81 ntmps81 ?_;refine cM (fun f t=>Uz L s x f i (c.below (t.below aB))) ?_;rw[y];refine aD ?_;refine cG (dat i (off+i*6) (hx:=by rw[<-D];rfl)) ?_;refine kK fun K=>?_;refine oU ?_;refine kU ?_;refine xK (fun f t=>aAc L.T s x.ck E d.clock f (c.tree.below (t.below aB))) ?_;cases B:sG s x.ck d.clock
 .refine kM ?_;refine aD ?_;exact dP
 .refine kU ?_;refine xK (fun f t=>aHZ L.G s x.dm m.dm d.domain f (Gj.below c.aEQ (t.below aB))) ?_;refine kU ?_;refine Rj 32 rfl (fun o=>?_) (fun o=>?_)
  .rw[eM o];refine kU ?_;refine xK (fun f t=>aH9 L.R s x.ln d.reset f (c.lines.below (t.below aB))) ?_;refine kM ?_;refine aD ?_;exact dP
  .rw[gW o];refine kM ?_;refine aD ?_;exact dP
def aJk(o:iS L s)(f:dF s x)(i:Nat)(hi:i < s.aG.length)(n:Xb w)(m:xV w L s x):Cz 183 #[.pointer (some ⟨L.h,0,none⟩),iv (i:Int)] w (Rt (.int .u8 (tT x i)) w):=by
 have G:=m.r0.at_ (j:=4) rfl
 have C:=o.ds
 have D:=f.dv
 obtain⟨d,e⟩:=get_some hi;obtain⟨l,k⟩:=get_some (l:=L.ds) (i:=i) aA;obtain⟨p,c⟩:=get_some (l:=x.dv) (i:=i) aA;obtain⟨b,off,E,y⟩:=aO.row m.rows (rows:=zU s.aG L.ds) (fun r y=>aFk r y) (aFl e k) hi
 have F:=y.at_ (j:=5) rfl
 have B:bJ s.aG.length (i:Int)=true:=eM aA
 have z:tT x i=sO p.2.at_:=by
  unfold tT;rw[c];rfl
 rw[z];refine bQ func183 ntmps183 ?_;refine cM (fun A t=>Uz L s x A i (m.below (t.below aB))) ?_;rw[B];refine aD ?_;refine cG (dat i (off+i*6) (hx:=by rw[<-E];rfl)) ?_;refine cR (fun A t=>aHU l.2 p.2 (f.each i d p e c).2 A (n.below (t.below aB)) ((m.below (t.below aB)).each i d l p e k c).2) ?_;exact dP
def Lh(x:aS)(i:Nat):aS:={x with dv:=match x.dv[i]? with | some p=>x.dv.set i (p.1,(vY p.2).2) | none=>x.dv}
def Dp(x:aS)(i:Nat):aS:={x with dv:=match x.dv[i]? with | some p=>x.dv.set i (p.1,(qD p.2).2) | none=>x.dv}
def aJp(I:s.dM)(e:iS L s)(c:dF s x)(i:Nat)(hi:i < s.aG.length)(F:Nat->Prop)(hp:(eH L s x).sat F w)(hF:∀b,F b->b < w.heap.size):
  Cz 218 #[.pointer (some ⟨L.h,0,none⟩),iv (i:Int)] w (fun y w'=>∃r:Int,y=.returned (iv r)/\True/\∃o,(eH L s (Lh x i)).sat o w'/\jG w w' F o):=by
 have A:=e.ds
 have B:=c.dv
 obtain⟨d,k⟩:=get_some hi;obtain⟨l,f⟩:=get_some (l:=L.ds) (i:=i) aA;obtain⟨p,j⟩:=get_some (l:=x.dv) (i:=i) aA
 have n:bJ s.aG.length (i:Int)=true:=eM aA
 have C:Lh x i={x with dv:=x.dv.set i (p.1,(vY p.2).2)}:=by
  unfold Lh;rw[j]
 rw[C];refine oQ func218 ntmps218 hp hF ?_;refine cM (fun m t=>Uz L s x m i (t.pN 0 rfl e c)) ?_;rw[n];refine aD ?_;refine kd (bT rfl (tO 0 rfl rfl)) ?_;refine Rk 0 rfl e c aA fun b off z=>?_;refine aD ?_;refine cG (dat i (off+i*6) (hx:=by rw[<-z];rfl)) ?_;refine kd (bT rfl (aCN (vs:=Nn d l) 5 (cI.dev 0 rfl e c z k f rfl) rfl)) ?_;refine Wj 0 i rfl k f j ?_;dsimp only[List.set];refine bB 0 1 ?_;refine gM 0 (xT l.2 (vY p.2).2) (fun m G t E D H=>aPL E D) ?_;refine aP 0 1 ?_;refine Wp 0 i rfl k f j (p':=(p.1,(vY p.2).2)) ?_;dsimp only[List.set];refine aD ?_;exact Ai fun m t=>⟨_,rfl,trivial,t.turns hF aB (i:=0) rfl⟩
def aEI(I:s.dM)(e:iS L s)(c:dF s x)(i:Nat)(hi:i < s.aG.length)(F:Nat->Prop)(hp:(eH L s x).sat F w)(hF:∀b,F b->b < w.heap.size):
  Cz 184 #[.pointer (some ⟨L.h,0,none⟩),iv (i:Int)] w (fun y w'=>∃r:Int,y=.returned (iv r)/\True/\∃o,(eH L s (Dp x i)).sat o w'/\jG w w' F o):=by
 have A:=e.ds
 have B:=c.dv
 obtain⟨d,k⟩:=get_some hi;obtain⟨l,f⟩:=get_some (l:=L.ds) (i:=i) aA;obtain⟨p,j⟩:=get_some (l:=x.dv) (i:=i) aA
 have n:bJ s.aG.length (i:Int)=true:=eM aA
 have C:Dp x i={x with dv:=x.dv.set i (p.1,(qD p.2).2)}:=by
  unfold Dp;rw[j]
 rw[C];refine oQ func184 ntmps184 hp hF ?_;refine cM (fun m t=>Uz L s x m i (t.pN 0 rfl e c)) ?_;rw[n];refine aD ?_;refine kd (bT rfl (tO 0 rfl rfl)) ?_;refine Rk 0 rfl e c aA fun b off z=>?_;refine aD ?_;refine cG (dat i (off+i*6) (hx:=by rw[<-z];rfl)) ?_;refine kd (bT rfl (aCN (vs:=Nn d l) 5 (cI.dev 0 rfl e c z k f rfl) rfl)) ?_;refine Wj 0 i rfl k f j ?_;dsimp only[List.set];refine bB 0 1 ?_;refine gM 0 (xT l.2 (qD p.2).2) (fun m G t E D H=>aPK E D) ?_;refine aP 0 1 ?_;refine Wp 0 i rfl k f j (p':=(p.1,(qD p.2).2)) ?_;dsimp only[List.set];refine aD ?_;exact Ai fun m t=>⟨_,rfl,trivial,t.turns hF aB (i:=0) rfl⟩
end
def dQ(m t p k:Int):Int×Int:=
 if(iM 0 0 8 m).2≠0 then(0,(iM 0 0 8 m).2)
 else if(iM (iM 0 0 8 m).1 8 2 t).2≠0 then(0,(iM (iM 0 0 8 m).1 8 2 t).2)
 else if(iM (iM (iM 0 0 8 m).1 8 2 t).1 10 8 p).2≠0 then(0,(iM (iM (iM 0 0 8 m).1 8 2 t).1 10 8 p).2)
 else if(iM (iM (iM (iM 0 0 8 m).1 8 2 t).1 10 8 p).1 18 10 k).2≠0 then(0,(iM (iM (iM (iM 0 0 8 m).1 8 2 t).1 10 8 p).1 18 10 k).2)
 else((iM (iM (iM (iM 0 0 8 m).1 8 2 t).1 10 8 p).1 18 10 k).1,0)
def Kq(m t p k:Int):List Value:=[iv m,iv t,iv p,iv k]
def Jk(w:Int):List Value:=if cZ w 28 4≠0 then Kq 0 0 0 0 else Kq (cZ w 0 8) (cZ w 8 2) (cZ w 10 8) (cZ w 18 10)
def wN(w:Int):Int:=if cZ w 28 4≠0 then 2 else 0
def Hi(l:List Int):∀u∈eB l,u.oneCell'=true:=by
 intro u c;simp only[eB,fR] at c;obtain⟨_,_,rfl⟩:=c;rfl
def aCK(l:List Int)(v:Value)(w w':World):Prop:=∃A c,v=.slice A l.length c/\aO (fresh w w') 1 A l.length (eB l)
def aIe(m t p k:Int)(w:World):
  Cz 41 #[.agg #[iv m,iv t,iv p,iv k]] w (Rt (.tuple #[.int .u32 (dQ m t p k).1,iv (dQ m t p k).2]) w):=by
 refine fP func41 ntmps41 ?_;refine aF ?_;refine eI fun i=>?_;refine aF ?_;refine gZ (fun c st=>aBp 0 0 8 m c (by unfold okF;omega)) ?_;refine aF ?_;refine dD rfl (fun d=>?_) (fun d=>?_)
 .
  refine aF ?_;refine Gc rfl rfl rfl fun c st=>⟨by rw[dQ,aH d];rfl,st.below aB⟩
 .
  refine aF ?_;refine gZ (fun c st=>aBp (iM 0 0 8 m).1 8 2 t c (by unfold okF;omega)) ?_;refine aF ?_;refine dD rfl (fun e=>?_) (fun e=>?_)
  .
   refine aF ?_;refine Gc rfl rfl rfl fun c st=>⟨by rw[dQ,aC d,aH e];rfl,st.below aB⟩
  .
   refine aF ?_;refine gZ (fun c st=>aBp (iM (iM 0 0 8 m).1 8 2 t).1 10 8 p c (by unfold okF;omega)) ?_;refine aF ?_;refine dD rfl (fun f=>?_) (fun f=>?_)
   .
    refine aF ?_;refine Gc rfl rfl rfl fun c st=>⟨by rw[dQ,aC d,aC e,aH f];rfl,st.below aB⟩
   .
    refine aF ?_;refine gZ (fun c st=>aBp (iM (iM (iM 0 0 8 m).1 8 2 t).1 10 8 p).1 18 10 k c (by unfold okF;omega)) ?_;refine aF ?_;refine dD rfl (fun h=>?_) (fun h=>?_)
    .
     refine aF ?_;refine Gc rfl rfl rfl fun c st=>⟨by rw[dQ,aC d,aC e,aC f,aH h];rfl,st.below aB⟩
    .
     refine aF ?_;refine Gc rfl rfl rfl fun c st=>⟨by rw[dQ,aC d,aC e,aC f,aC h];rfl,st.below aB⟩
def aGQ(w0:Int)(w:World):
  Cz 192 #[.int .u32 w0] w (Rt (.tuple #[.agg (Jk w0).toArray,iv (wN w0)]) w):=by
 refine fP func192 ntmps192 ?_;refine aD ?_;refine eE fun d=>?_;refine aD ?_;refine gZ (fun c st=>Yn w0 28 4 c (by unfold okF;omega)) ?_;refine aD ?_;refine bP (fun h=>?_) (fun h=>?_)
 .
  refine aD ?_;refine kd (fI rfl) ?_;refine Jg rfl rfl ?_;simp only[jR,Value.cells,List.set,List.take,List.drop,sI,nZ,mK,Bl,sZ,Nat.reduceAdd];refine aD ?_;refine Ef rfl (n:=4) (vs:=Kq 0 0 0 0) aJ rfl rfl (cI.whole 0 rfl) rfl fun c st=>⟨by rw[Jk,wN,aH h,aH h],st.below aB⟩
 .
  refine aD ?_;refine gZ (fun c st=>Yn w0 0 8 c (by unfold okF;omega)) ?_;refine aD ?_;refine gZ (fun c st=>Yn w0 8 2 c (by unfold okF;omega)) ?_;refine aD ?_;refine gZ (fun c st=>Yn w0 10 8 c (by unfold okF;omega)) ?_;refine aD ?_;refine gZ (fun c st=>Yn w0 18 10 c (by unfold okF;omega)) ?_;refine kd (fI rfl) ?_;refine Jg rfl rfl ?_;simp only[jR,Value.cells,List.set,List.take,List.drop,sI,nZ,mK,Bl,sZ,Nat.reduceAdd];refine aD ?_;refine Ef rfl (n:=4) (vs:=Kq (cZ w0 0 8) (cZ w0 8 2) (cZ w0 10 8) (cZ w0 18 10)) aJ rfl rfl (cI.whole 0 rfl) rfl fun c st=>⟨by rw[Jk,wN,aC h,aC h],st.below aB⟩
def aPq(w0:Int)(A:Option Addr)(n c:Nat)(zs:List Int)(w:World)(hs:aO (all w) 1 A n (eB zs))(k:n=zs.length)(m:n<=1000000):Cz 42 #[.int .u32 w0,.slice A n c] w (fun y w'=>(∃x,y=.returned x/\aCK (w0::zs) x w w')/\Below w.heap.size w w'):=by
 refine bQ func42 ntmps42 ?_;refine aDb 1 4 (el:=36) (c:=n+1) (k0:=1) (tD:=.i64) aJ aJ rfl (by rw[Int.natCast_add];rfl) aA aA aE fun C=>?_;refine aF ?_;refine eX fun t=>?_;refine Qh 1 fun B D=>?_;refine aF ?_;refine jU 1 1 4 n (n':=n+1) (el:=36) aJ aJ aE rfl rfl rfl (sF aB hs) (Hi _) aA aA aA aE fun l c2=>?_;dsimp only[List.set];refine aF ?_;refine dX [] [1] [] fun q j _ e=>?_;obtain⟨p,f,d⟩:=j 1 _ aB rfl;obtain⟨z,o,i,h⟩:=Em (Y:=q.Z) f d;cases i;subst k;refine Ai fun r st=>⟨⟨_,rfl,l,c2,rfl,?_⟩,st.below aB⟩
 exact aO.le h (st.oA aB (e aB aB))
def aCU(l:List Int)(v:Value)(w w':World):Prop:=∃A c,v=.tuple #[.slice A l.length c,iv 0]/\aO (fresh w w') 1 A l.length (eB l)
def aUX(m t p k:Int)(A:Option Addr)(n c:Nat)(zs:List Int)(w:World)(hs:aO (all w) 1 A n (eB zs))(r:n=zs.length)(j:n<=1000000)(f:(dQ m t p k).2=0):Cz 24 #[.agg #[iv m,iv t,iv p,iv k],.slice A n c] w (fun y w'=>(∃x,y=.returned x/\aCU ((dQ m t p k).1::zs) x w w')/\Below w.heap.size w w'):=by
 refine bQ func24 ntmps24 ?_;refine iG fun C=>?_;refine cR (fun e st=>aIe m t p k e) ?_;refine eG (fun h=>?_) (fun h=>?_)
 .
  exact absurd f h
 .
  refine jL [] (aCK ((dQ m t p k).1::zs)) (fun e st=>aPq (dQ m t p k).1 A n c zs e (hs.le (st.le aB)) r j) ?_;rintro _ e B ⟨z,o,rfl,i⟩ l _ d
  have d:=d aB
  have i:=i.le l
  clear l;refine aF ?_;refine kN fun e st=>⟨⟨_,rfl,z,o,rfl,aO.le i (st.oA aB d)⟩,st.below aB⟩
def aMY(pr m id v k:Int)(w:World)(d:(dQ m 0 pr k).2=0):Cz 171 #[.agg #[iv pr,iv m,.int .u32 id,.int .u32 v],iv k] w (fun y w'=>(∃x,y=.returned x/\aCU [(dQ m 0 pr k).1,id,v] x w w')/\Below w.heap.size w w'):=by
 refine bQ func171 ntmps171 ?_;refine iG fun p=>?_;refine eX fun l=>?_;refine jL [] (aCU ((dQ m 0 pr k).1::[id,v])) (fun e st=>aUX m 0 pr k (some ⟨l,0,none⟩) 2 2 [id,v] e (st.wP (i:=0) rfl rfl) rfl aA d) ?_;rintro _ e o ⟨n,j,rfl,f⟩ h _ c
 have c:=c aB
 have f:=f.le h
 clear h;refine aF ?_;refine kN fun e st=>⟨⟨_,rfl,n,j,rfl,aO.le f (st.oA aB c)⟩,st.below aB⟩
def aCL(l:List Int)(v:Value)(hs:List HP)(_:Piece):Prop:=∃A c,v=.slice A l.length c/\hs=[HP.own 36 1 (.slice A l.length c) l.length (eB l)]
def aPs(w0:Int)(A:Option Addr)(n c:Nat)(zs:List Int)(w:World)(hs:aO (all w) 1 A n (eB zs))(f:n=zs.length)(j:n<=1000000):Cz 42 #[.int .u32 w0,.slice A n c] w (fun y w'=>(∃v hs q,y=.returned v/\q.w=w'/\aCL (w0::zs) v hs q/\iV w hs q)/\Below w.heap.size w w'):=by
 refine bQ func42 ntmps42 ?_;refine aDb 1 4 (el:=36) (c:=n+1) (k0:=1) (tD:=.i64) aJ aJ rfl (by rw[Int.natCast_add];rfl) aA aA aE fun m=>?_;refine aF ?_;refine eX fun k=>?_;refine Qh 1 fun l o=>?_;refine aF ?_;refine jU 1 1 4 n (n':=n+1) (el:=36) aJ aJ aE rfl rfl rfl (sF aB hs) (Hi _) aA aA aA aE fun i c2=>?_;dsimp only[List.set];refine aF ?_;subst f;refine aZ [1] ?_;refine dX [] [] [0] fun q _ _ d=>?_;exact bK (h:=fun e t=>⟨_,_,⟨e,q.Z⟩,rfl,rfl,⟨i,c2,rfl,rfl⟩,t.newR aB aB (d aB aB)⟩)
def aWc(w0 st d:Int)(f:IntKind.u32.wrap st=d)(A:Option Addr)(n c:Nat)(zs:List Int)(w:World)(hs:aO (all w) 1 A n (eB zs))(k:n=zs.length)(m:n<=1000):
  Cz 136 #[.int .u32 w0,.int .i32 st,.slice A n c] w (fun y w'=>(∃v hs q,y=.returned v/\q.w=w'/\aCL (w0::d::zs) v hs q/\iV w hs q)/\Below w.heap.size w w'):=by
 subst k;refine fP func136 ntmps136 ?_;refine aD ?_;refine Gz (ds:=.int .i32) aJ aJ rfl f aE ?_;refine eX fun r=>?_;refine gN (aCL [w0,d]) (fun j t=>aPs w0 _ 1 1 [d] j (t.wP (i:=0) rfl rfl) rfl aA) ?_;rintro _ _ o ⟨p,x,rfl,rfl⟩ _;dsimp only[dW,dG];refine aD ?_;refine jU 0 1 4 zs.length (n':=zs.length+2) (el:=36) aJ aJ aE rfl rfl rfl (sF aB hs) (Hi _) (by simp;omega) aA aA aE fun l c2=>?_;dsimp only[List.set];refine aD ?_;refine aZ [0] ?_ (R':=[all w]);refine dX [] [] [0] fun q _ _ e=>?_;exact bK (h:=fun j t=>⟨_,_,⟨j,q.Z⟩,rfl,rfl,⟨l,c2,rfl,rfl⟩,t.newR aB aB (e aB aB)⟩)
def Ur(i:Int)(w:World):Cz 52 #[iv i] w (Rt (.bool (bJ 2 i)) w):=by
 refine bQ func52 ntmps52 ?_;refine cH (t:=5) rfl (fun h=>?_) (fun h=>?_)
 .refine aD ?_;refine lD aB ?_;unfold bJ
  congr 1
  simp;omega
 .refine aD ?_;refine lD aB ?_
  have:bJ 2 i=false:=gW aA
  rw[this]
def Mw(p:Int):Int:=if p=48 then 0 else if p=49 then 1 else if p=116 then 2 else 3
def aSY(p:Int)(w:World):Cz 193 #[.int .u8 p] w (Rt (.int .u32 (Mw p)) w):=by
 refine bQ func193 ntmps193 ?_;refine eG (fun h=>?_) (fun h=>?_)
 .exact dP (by rw[Mw,aH h])
 .refine eG (fun c=>?_) (fun c=>?_)
  .exact dP (by rw[Mw,aC h,aH c])
  .refine eG (fun d=>?_) (fun d=>?_)
   .exact dP (by rw[Mw,aC h,aC c,aH d])
   .exact dP (by rw[Mw,aC h,aC c,aC d])
def xR(p:Piece)(x y:bM)(v:Value):Prop:=∃j n h w e o f m k t i r,v=.agg #[.slice j x.d.length n,.slice h x.c.length w,.slice e x.l.length o,.slice f y.d.length m,.slice k y.c.length t,.slice i y.l.length r]/\
 aO p 1 j x.d.length (bO x.d)/\aO p 1 h x.c.length (bO x.c)/\aO p 1 e x.l.length (bO x.l)/\aO p 1 f y.d.length (bO y.d)/\aO p 1 k y.c.length (bO y.c)/\aO p 1 i y.l.length (bO y.l)
def Rw(s:aI)(p:Piece):Nat->List Value->Prop
 | 0,cs=>cs=[.slice none 0 0,.slice none 0 0,.slice none 0 0,.slice none 0 0,.slice none 0 0,.slice none 0 0]
 | 1,cs=>∃a b c,cs=[a,b,c,.slice none 0 0,.slice none 0 0,.slice none 0 0]/\Ek p (dV s) (.agg #[a,b,c])
 | _,cs=>∃a b c e d f,cs=[a,b,c,e,d,f]/\Ek p (dV s) (.agg #[a,b,c])/\Ek p (dV s) (.agg #[e,d,f])
def Rw.len{s:aI}{p:Piece}:∀{i:Nat} {cs:List Value},Rw s p i cs->cs.length=6
 | 0,_,h=>by rw[show _=_ from h];rfl
 | 1,_,⟨_,_,_,h,_⟩=>by rw[h];rfl
 | _+2,_,⟨_,_,_,_,_,_,h,_⟩=>by rw[h];rfl
def Rw.next{s:aI}{p q:Piece}(hl:p.Le q){a b c:Value}(hw:Ek q (dV s) (.agg #[a,b,c])){i:Nat}{cs:List Value}(hi:i < 2)(h:Rw s p i cs):Rw s q (i+1) (jR cs (i*3) [a,b,c]):=by
 obtain rfl | rfl:i=0\/i=1:=by omega
 .have d:cs=[sn,sn,sn,sn,sn,sn]:=h
  subst d;exact⟨a,b,c,rfl,hw⟩
 .obtain⟨k,j,e,d,f⟩:=h;subst d;exact⟨k,j,e,a,b,c,rfl,Ek.le f hl,hw⟩
def aNX(s:aI)(A1 A2 A3 A4:Option Addr)(k1 k2 k3 k4:Nat)(w:World)(hm:s.Bv):
  Cz 70 #[.agg #[.slice A1 s.aL.length k1,.slice A2 s.domains.length k2,.slice A3 s.bG.length k3,.slice A4 s.aG.length k4]] w (Wv (fun v w w'=>xR (fresh w w') (dV s) (dV s) v) w):=by
 have X:=hm.nc
 have Qn:=hm.nd
 have Zd:=hm.nr
 refine bQ func70 ntmps70 ?_;refine eI fun J=>?_;refine kK fun F=>?_;refine kK fun A=>?_;refine cF [(5,iv 0),(3,pt A),(2,pt F),(1,pt J)] ?_;refine Eg ⟨w,fun _=>False⟩ aB (fun _ h=>h.elim) ?_;refine aF ?_;refine gA (fun m e R H=>∃(i:Nat) (I:List Value) (k:Piece),i<=2/\m=2 - i/\Rw s k i I/\tP w k/\e=[(5,iv i),(3,pt A),(2,pt F),(1,pt J)]/\R=[k,all w]/\H=[HP.aK A 145 I,HP.aK F 145 [sn,sn,sn,sn,sn,sn],HP.aK J 30 [.slice A1 s.aL.length k1,.slice A2 s.domains.length k2,.slice A3 s.bG.length k3,.slice A4 s.aG.length k4]]) 2 ⟨0,_,⟨w,fun _=>False⟩,aA,rfl,rfl,(fun _ h=>h.elim),rfl,rfl,rfl⟩ fun m e R H Z=>?_;obtain⟨i,I,k,hi2,rfl,j,f,rfl,rfl,rfl⟩:=Z;refine aF ?_;refine bP (fun h=>?_) (fun h=>?_)
 .
  refine sQ ?_;refine eR ?_;refine fO ?_;refine Gf ?_;refine fO ?_;refine jS ?_;refine jP rfl aE ?_;refine kC rfl aE ?_;refine iJ ?_;refine vA 15 aJ aJ ?_;refine iQ 0 rfl rfl rfl (rI rfl) ?_;refine iQ 1 rfl rfl rfl (Il (off:=1) aJ rfl) ?_;refine iQ 2 rfl rfl rfl (Nr rfl) ?_;refine iQ 3 rfl rfl rfl (Qz (el:=75) aJ rfl) ?_;refine iQ 5 rfl rfl rfl (Il (off:=0) aJ rfl) ?_;refine iQ 6 rfl rfl rfl (Nr rfl) ?_;refine iQ 7 rfl rfl rfl (Qz (el:=73) aJ rfl) ?_;refine iQ 9 rfl rfl rfl (Il (off:=2) aJ rfl) ?_;refine iQ 10 rfl rfl rfl (Nr rfl) ?_;refine iQ 11 rfl rfl rfl (Qz (el:=77) aJ rfl) ?_;refine iQ 14 rfl rfl rfl (Il (off:=0) aJ rfl) ?_;refine aLI (fuel:=3) [4,8,12] [[4,8,12]] (fun i=>match i with | 4=>⟨12,4,List.replicate s.domains.length (.bool false),fun g=>.slice (some ⟨g,0,none⟩) s.domains.length s.domains.length⟩ | 8=>⟨16,4,List.replicate s.aL.length (.bool false),fun g=>.slice (some ⟨g,0,none⟩) s.aL.length s.aL.length⟩ | _=>⟨20,4,List.replicate s.bG.length (.bool false),fun g=>.slice (some ⟨g,0,none⟩) s.bG.length s.bG.length⟩) (fun i r=>?_) (by show[12,16,20].Nodup;decide) aJ (fun _ h=>h) (fun sub T x g=>?_)
  .simp only[fT,pY,or_false] at r;rcases r with rfl | rfl | rfl
   .exact Jf.of rfl rfl rfl (Uk 1 (el:=4) (z:=.bool false) aJ aJ rfl rfl rfl aA aA) (Mp rfl) rfl
   .exact Jf.of rfl rfl rfl (Uk 1 (el:=4) (z:=.bool false) aJ aJ rfl rfl rfl aA aA) (Mp rfl) rfl
   .exact Jf.of rfl rfl rfl (Uk 1 (el:=4) (z:=.bool false) aJ aJ rfl rfl rfl aA aA) (Mp rfl) rfl
  have C:sub=[4,8,12]:=by simpa using x
  have er:∀n:Nat,List.replicate n (Value.bool false)=bO (List.replicate n false):=fun n=>by simp[bO]
  have r:i < 2:=by have h':(i:Int) < 2:=h;omega
  have U:=j.len
  subst C;dsimp only[vV,zR,nP,List.map,List.foldr,dW,dG,List.length_cons,List.length_nil,Nat.reduceAdd,Nat.reduceSub];refine nG 13 rfl rfl rfl aE (Im (zs:=[sn,sn,sn]) (L:=[(0,1),(1,1),(2,1)]) (sD aJ) aJ rfl (by simp[mR,qQ,Value.cells];rfl)) aJ (fun _ _ _ h=>h) (fun _ h=>h.tail.tail.tail) ?_;refine dB 15 ?_;refine Xo i (i*3) (el:=138) (sz:=3) aJ aJ rfl rfl rfl r aA aE ?_;refine fY ?_;refine dB 16 ?_;refine uJ 3 rfl rfl rfl aJ (by simp[Value.cells,Value.oneCell']) (by simp[Value.cells];omega) ?_;dsimp only[List.set];rw[show(Value.agg [.slice (some ⟨g 4,0,none⟩) s.domains.length s.domains.length,.slice (some ⟨g 8,0,none⟩) s.aL.length s.aL.length,.slice (some ⟨g 12,0,none⟩) s.bG.length s.bG.length].toArray).cells.toList=[.slice (some ⟨g 4,0,none⟩) s.domains.length s.domains.length,.slice (some ⟨g 8,0,none⟩) s.aL.length s.aL.length,.slice (some ⟨g 12,0,none⟩) s.bG.length s.bG.length] from rfl];refine fY ?_;refine kV ?_;refine eR ?_;refine jS ?_;refine aAH rfl rfl (qM aA) aE ?_;refine jP rfl aE ?_;refine iJ ?_;refine dX [k] [0,1,2] [3,4,5] fun o d t y=>?_
  have K:=y aB (fun p V=>by simp only[fT,pY,or_false] at V;subst V;exact f)
  have O:aO o 1 (some ⟨g 4,0,none⟩) (s.domains.length) (List.replicate (s.domains.length) (Value.bool false)):=uH (n:=s.domains.length) (sz:=1) (c:=0) (d 0 _ aB rfl).choose_spec.1 (d 0 _ aB rfl).choose_spec.2 aB
  have N:aO o 1 (some ⟨g 8,0,none⟩) (s.aL.length) (List.replicate (s.aL.length) (Value.bool false)):=uH (n:=s.aL.length) (sz:=1) (c:=0) (d 1 _ aB rfl).choose_spec.1 (d 1 _ aB rfl).choose_spec.2 aB
  have M:aO o 1 (some ⟨g 12,0,none⟩) (s.bG.length) (List.replicate (s.bG.length) (Value.bool false)):=uH (n:=s.bG.length) (sz:=1) (c:=0) (d 2 _ aB rfl).choose_spec.1 (d 2 _ aB rfl).choose_spec.2 aB
  rw[er] at O N M
  have D:Ek o (dV s) (.agg #[.slice (some ⟨g 4,0,none⟩) s.domains.length s.domains.length,.slice (some ⟨g 8,0,none⟩) s.aL.length s.aL.length,.slice (some ⟨g 12,0,none⟩) s.bG.length s.bG.length]):=by
   unfold Ek dV;simp only[List.length_replicate];exact⟨_,_,_,_,_,_,rfl,O,N,M⟩
  refine Ee (R':=[o,all w]) aB ?_;exact fX (2 - (i+1)) ⟨i+1,_,o,aA,rfl,Rw.next (t k aB) D r j,K,rfl,rfl,rfl⟩
 .
  refine aFS ?_;refine eR ?_;refine fO ?_
  have E:i=2:=by have h':¬(i:Int) < 2:=h;omega
  subst E;obtain⟨a,b,c,a',b',c',rfl,B,G⟩:=j;obtain⟨D1,d1,D2,d2,D3,d3,e1,x1,x2,x3⟩:=B;obtain⟨F1,f1,F2,f2,F3,f3,e2,y1,Y,y3⟩:=G;cases e1;cases e2;refine jS ?_;refine aMO 6 rfl ?_;refine Kj ?_;refine aF ?_
  exact aAt rfl aJ rfl rfl (cI.whole 1 rfl) fun w1 st=>⟨⟨_,rfl,by
   have l:=st.oA aB f
   exact⟨_,_,_,_,_,_,_,_,_,_,_,_,rfl,x1.le l,x2.le l,x3.le l,y1.le l,Y.le l,y3.le l⟩⟩,st.below aB⟩
def gR(k:Int):Prop:=k=117\/k=99\/k=114
instance(k:Int):Decidable (gR k):=by unfold gR;infer_instance
def xB(s:aI)(p:Int):Nat:=if p=17 then s.domains.length else if p=20 then s.aL.length else if p=22 then s.bG.length else 0
def Dn(k:Int)(v0 c d:Value):Value:=if k=117\/k=100\/k=107 then v0 else if k=99\/k=111 then c else if k=114\/k=97 then d else sn
def yK(k:Int)(x:bM):List Bool:=if k=117\/k=100\/k=107 then x.d else if k=99\/k=111 then x.c else if k=114\/k=97 then x.l else[]
def jW(x:bM)(k id:Int):Bool:=decide (0<=id)&&hasB (yK k x) id.toNat
def iD.thn{w w':World}{g o:Nat}{v:Value}(h:iD w g o v)(c:Below w.heap.size w w'):iD w' g o v:=⟨jC h.1 c.size,(c.cell (p:=⟨g,o,none⟩) h.1).trans h.2⟩
def aA2(w:World)(g o:Nat)(x:bM):Prop:=∃h i e k f j,iD w g o (.slice h x.d.length i)/\iD w g (o+1) (.slice e x.c.length k)/\iD w g (o+2) (.slice f x.l.length j)/\
 aO (all w) 1 h x.d.length (bO x.d)/\aO (all w) 1 e x.c.length (bO x.c)/\aO (all w) 1 f x.l.length (bO x.l)
def aR8{w:World}{x:bM}{A1 A2 A3:Option Addr}{k1 k2 k3:Nat}(e:aO (all w) 1 A1 x.d.length (bO x.d))(f:aO (all w) 1 A2 x.c.length (bO x.c))(h3:aO (all w) 1 A3 x.l.length (bO x.l))(k:Int):
  ∃A c,Dn k (.slice A1 x.d.length k1) (.slice A2 x.c.length k2) (.slice A3 x.l.length k3)=.slice A (yK k x).length c/\aO (all w) 1 A (yK k x).length (bO (yK k x)):=by
 unfold Dn yK;split
 .exact⟨_,_,rfl,e⟩
 .split
  .exact⟨_,_,rfl,f⟩
  .split
   .exact⟨_,_,rfl,h3⟩
   .exact⟨_,_,rfl,aO.nil _ _⟩
def aDZ(k:Int)(w:World):
  Cz 175 #[.int .u8 k] w (Rt (.bool (decide (gR k))) w):=by
 refine bQ func175 ntmps175 ?_;refine cH (t:=5) rfl (fun c=>?_) (fun c=>?_)
 .
  refine aF ?_;exact bK (h:=fun _ _=>by simp_all [gR])
 .
  refine aF ?_;refine cH (t:=9) rfl (fun c=>?_) (fun c=>?_)
  .
   refine aF ?_;exact bK (h:=fun _ _=>by simp_all [gR])
  .
   refine aF ?_;exact bK (h:=fun _ _=>by simp_all [gR])
def aQB(s:aI)(A1 A2 A3 A4:Option Addr)(k1 k2 k3 k4:Nat)(p:Int)(w:World):
  Cz 212 #[.agg #[.slice A1 s.aL.length k1,.slice A2 s.domains.length k2,.slice A3 s.bG.length k3,.slice A4 s.aG.length k4],iv p] w (Rt (iv (xB s p)) w):=by
 refine bQ func212 ntmps212 ?_;refine eI fun c=>?_
 repeat' (refine aF ?_;first | exact bK (h:=fun _ _=>by simp_all [xB]) | refine bP (fun h=>?_) (fun h=>?_))
def aEx(g o:Nat)(k:Int)(v0 c d:Value)(w:World)(f:iD w g o v0)(e:iD w g (o+1) c)(i:iD w g (o+2) d):
  Cz 180 #[.pointer (some ⟨g,o,none⟩),.int .u8 k] w (Rt (Dn k v0 c d) w):=by
 refine fP func180 ntmps180 ?_
 repeat' (refine aF ?_;first | exact bK (h:=fun _ _=>by simp_all [Dn]) | refine bP (fun h=>?_) (fun h=>?_))
def aDl(g ag:Nat)(x:bM)(k id:Int)(w:World)(r:ag < 2)(z:aA2 w g (ag*3) x):
  Cz 174 #[pt g,iv (ag:Int),.int .u8 k,iv id] w (Rt (.bool (jW x k id)) w):=by
 obtain⟨N,o,L,m,M,j,G,y,J,D,H,K⟩:=z;obtain⟨A,c,E,C⟩:=aR8 (k1:=o) (k2:=m) (k3:=j) D H K k;refine fP func174 ntmps174 ?_;refine aD ?_;refine Xo (ag) (ag*3) (n:=2) (el:=138) (sz:=3) aJ aJ rfl rfl aA aA aA aE ?_;refine aF ?_;refine gZ (fun F st=>aEx g (ag*3) k _ _ _ F (G.thn (st.below aB)) (y.thn (st.below aB)) (J.thn (st.below aB))) ?_;rw[E];refine aF ?_;refine cH (t:=19) rfl (fun e=>?_) (fun e=>?_)
 .
  refine aF ?_;refine cH (t:=25) rfl (fun e=>?_) (fun e=>?_)
  .
   obtain⟨i,rfl⟩:∃i:Nat,id=(i:Int):=⟨id.toNat,aA⟩
   have d:i < (yK k x).length:=by omega
   obtain⟨b,off,rfl,B,I⟩:=C.2 aA;obtain⟨v,l⟩:∃v,(yK k x)[i]? =some v:=⟨_,cX d⟩
   refine nK rfl rfl ?_;refine jP rfl aE ?_;refine nK rfl rfl ?_;refine jP rfl aE ?_;refine nK rfl rfl ?_;refine kd (dat (i) (off+i)) ?_;refine nK rfl rfl ?_;refine iF (Rd.ro (p:=all w) aB B (I i _ (aKM l))) ?_
   (first | refine Lx rfl rfl aE ?_ | refine Ly rfl rfl aE ?_)
   refine kC rfl aE ?_;refine iJ ?_;refine Rl ?_;refine eR ?_;exact bK (h:=fun _ _=>by simp[jW,hasB,l])
  .
   refine aF ?_
   have f:hasB (yK k x) id.toNat=false:=by rw[hasB,eW aA];rfl
   exact bK (h:=fun _ _=>by simp[jW,f])
 .
  refine aF ?_
  have f:decide (0<=id)=false:=by simp;omega
  exact bK (h:=fun _ _=>by simp[jW,f])
def StM(w:World)(g:Nat)(x y:bM):Prop:=∀i,i < 2->aA2 w g (i*3) (if i=0 then x else y)
def qN(x y:bM)(k id:Int):Bool:=jW x k id||jW y k id
def aA2.thn{w w':World}{g o:Nat}{x:bM}(h:aA2 w g o x)(c:Below w.heap.size w w'):aA2 w' g o x:=by
 obtain⟨r,f,p,z,j,i,n,m,k,l,t,y⟩:=h
 have e:(all w).Le (all w'):=fun b d=>⟨jC d c.size,c.block b d⟩
 exact⟨r,f,p,z,j,i,n.thn c,m.thn c,k.thn c,l.le e,t.le e,y.le e⟩
def aDn(g:Nat)(x y:bM)(k id:Int)(w:World)(z:StM w g x y):
  Cz 176 #[pt g,.int .u8 k,iv id] w (Rt (.bool (qN x y k id)) w):=by
 refine bQ func176 ntmps176 ?_;refine wC [(8,iv 0),(2,iv id),(1,.int .u8 k),(0,pt g)] ?_;refine gA (fun m e R H=>∃(i:Nat),i<=2/\m=2 - i/\(∀j,j < i->jW (if j=0 then x else y) k id=false)/\e=[(8,iv i),(2,iv id),(1,.int .u8 k),(0,pt g)]/\R=[all w]/\H=[]) 2 ⟨0,aA,rfl,(fun j p=>absurd p (Ju j)),rfl,rfl,rfl⟩ fun m e R H r=>?_;obtain⟨i,B,rfl,d,rfl,rfl,rfl⟩:=r;refine aF ?_;refine aCF rfl (fun h=>?_) (fun h=>?_)
 .
  have c:i < 2:=by have A:(i:Int) < 2:=h;omega
  refine cR (fun t st=>aDl g i (if i=0 then x else y) k id t c ((z i c).thn (st.below aB))) ?_;refine tI rfl (fun hw=>?_) (fun hw=>?_)
  .
   refine aF ?_
   have f:qN x y k id=true:=by
    unfold qN;rcases(by omega:i=0\/i=1) with rfl | rfl
    .simp at hw;simp[hw]
    .simp at hw;simp[hw]
   exact bK (h:=fun _ _=>by rw[f])
  .
   refine aF ?_
   exact fX (2 - (i+1)) ⟨i+1,aA,rfl,(fun j p=>by
    rcases dI j i with n | n
    .exact d j n
    .obtain rfl:j=i:=by omega
     exact hw),rfl,rfl,rfl⟩
 .
  have c:i=2:=by have A:¬(i:Int) < 2:=h;omega
  subst c
  have o:=d 0 aA
  have l:=d 1 aA
  have f:qN x y k id=false:=by
   unfold qN;simp at o l;simp[o,l]
  exact bK (h:=fun _ _=>by rw[f])
def aNP(k:Int)(A:Option Addr)(n c:Nat)(r m d l:Int)(w:World):
  Cz 213 #[.agg #[.int .u8 k,.slice A n c,.int .u64 r,iv m,iv d,iv l]] w (Rt (.bool (decide (k=112\/k=103))) w):=by
 refine bQ func213 ntmps213 ?_;refine iG fun f=>?_;refine cH (t:=6) rfl (fun e=>?_) (fun e=>?_)
 .
  refine aF ?_;exact bK (h:=fun _ _=>by simp_all)
 .
  refine aF ?_;exact bK (h:=fun _ _=>by simp_all)
def kP(p:Int×Int):Value:=.agg #[.int .i64 p.1,.int .i64 p.2]
def Oh(w:World)(r:Nat)(l:List ((Int×Int)×Value)):Prop:=∃d c,w.heap[r]? =some (.map d c)/\d.toList.map (fun x=>(x.key,x.val))=l.map fun p=>(kP p.1,p.2)
def nC(l:List ((Int×Int)×Value))(k:Int×Int):Option Value:=(l.find? fun p=>decide (p.1=k)).map (·.2)
def Qb(a:Int×Int)(b:Value)(l:List ((Int×Int)×Value))(k:Int×Int):nC ((a,b)::l) k=if a=k then some b else nC l k:=by
 unfold nC;rw[List.find?_cons]
 by_cases h:a=k<;>simp[h]
section
variable{P:Program}
def aTt(j:∀a b c d:Int,Vf P kt [.int .i64 a,.int .i64 b] [.int .i64 c,.int .i64 d]=true)(p q:Int×Int):(Op.equal kt (kP p) (kP q)).run P w=.ok (decide (q=p)) w:=by
 obtain⟨h,_⟩:=aOO (P:=P) (w:=w) (j p.1 p.2 q.1 q.2);rw[show kP p=.agg [Value.int .i64 p.1,.int .i64 p.2].toArray from rfl,show kP q=.agg [Value.int .i64 q.1,.int .i64 q.2].toArray from rfl,h]
 congr 1
 obtain⟨a,b⟩:=p;obtain⟨c,d⟩:=q;simp only[Vl,eqV,Ke]
 by_cases i:a=c
 .subst i
  by_cases f:b=d
  .subst f;simp
  .have k:¬d=b:=fun e=>f e.symm
   simp[f,k]
 .have k:¬c=a:=fun e=>i e.symm
  simp[i,k]
def aKQ(f:∀a b c d:Int,Vf P kt [.int .i64 a,.int .i64 b] [.int .i64 c,.int .i64 d]=true)(k:Int×Int):∀(es:List MapEntry) (l:List ((Int×Int)×Value)) (i:Nat),es.map (fun x=>(x.key,x.val))=l.map (fun p=>(kP p.1,p.2))->
  ∃q,(Instr.findAsking kt (kP k) es i).run P w=.ok q w/\q.map (·.2)=nC l k
 | [],l,i,h=>by
  cases l with
  | nil=>exact⟨none,by simp[Instr.findAsking],rfl⟩
  | cons _ _=>cases h
 | e :: es, l, i, h => by
  cases l with
  | nil=>cases h
  | cons p l =>
   simp only[vJ,List.cons.injEq,Ke] at h;obtain⟨⟨t,r⟩,h3⟩:=h;obtain⟨q,o,n⟩:=aKQ f k es l (i+1) h3;obtain⟨a,b⟩:=p
   have m:=aTt (w:=w) f k a
   rw[<-t] at m
   by_cases j:a=k
   .refine⟨some (i,e.val),?_,?_⟩
    .unfold Instr.findAsking;simp[Sem.run_bind,m,j]
    .rw[Qb,aH j];simp[r]
   .refine⟨q,?_,?_⟩
    .unfold Instr.findAsking;simp[Sem.run_bind,m,j,o]
    .rw[Qb,aC j];exact n
def aK9{d c:Field}{k0 k1:IntKind}(hk:P.underlying kt=some (.struct #[d,c]))(f:P.underlying d.type=some (.int k0))(e:P.underlying c.type=some (.int k1))(n:d.offset=0)(h:c.offset=1)(p:Int×Int)(b:Bool):(Instr.checkKey b 10000 kt (kP p)).run P w=.ok () w:=by
 have l:=aBc (P:=P) (w:=w) (cs:=#[.int .i64 p.1,.int .i64 p.2]) (i:=0) (v:=.int .i64 p.1) f (.inl ⟨_,rfl⟩) rfl
 have k:=aBc (P:=P) (w:=w) (cs:=#[.int .i64 p.1,.int .i64 p.2]) (i:=1) (v:=.int .i64 p.2) e (.inl ⟨_,rfl⟩) rfl
 have j:(Instr.checkKey b 9999 d.type (.int .i64 p.1)).run P w=.ok () w:=by
  unfold Instr.checkKey;simp[Sem.run_bind,run_underlying f]
 have r:(Instr.checkKey b 9999 c.type (.int .i64 p.2)).run P w=.ok () w:=by
  unfold Instr.checkKey;simp[Sem.run_bind,run_underlying e]
 unfold Instr.checkKey kP
 by_cases o:d.name= "_" <;>by_cases m:c.name= "_" <;>simp[Sem.run_bind,run_underlying hk,o,m,n,h,l,k,j,r]
end
structure Gk(P:Program)(kt:TypeId):Prop where
 st:∃f0 f1 k0 k1,P.underlying kt=some (.struct #[f0,f1])/\P.underlying f0.type=some (.int k0)/\P.underlying f1.type=some (.int k1)/\f0.offset=0/\f1.offset=1
 fl:∀a b c d:Int,Vf P kt [.int .i64 a,.int .i64 b] [.int .i64 c,.int .i64 d]=true
def Gk.of{P:Program}{kt:TypeId}{f e:Field}{k0 k1:IntKind}(h:P.underlying kt=some (.struct #[f,e]))(m:P.underlying f.type=some (.int k0))(j:P.underlying e.type=some (.int k1))(l:f.offset=0)(i:e.offset=1)(k:∀a b c d:Int,Vf P kt [.int .i64 a,.int .i64 b] [.int .i64 c,.int .i64 d]=true):Gk P kt:=⟨⟨f,e,k0,k1,h,m,j,l,i⟩,k⟩
section
variable{P:Program}{t et:TypeId}{r:Nat}{l:List ((Int×Int)×Value)}
def aJF(hk:Gk P kt)(k:Int×Int)(es:List MapEntry)(h:es.map (fun x=>(x.key,x.val))=l.map (fun p=>(kP p.1,p.2))):∃q,(Instr.findKey kt (kP k) es).run P w=.ok q w/\q.map (·.2)=nC l k:=by
 obtain⟨i,j,n,m,c,_⟩:=hk.st;obtain⟨q,f,d⟩:=aKQ (w:=w) hk.fl k es l 0 h;cases es with
 | nil=>
  cases l with
  | cons _ _=>cases h
  | nil=>exact⟨none,by simp[Instr.findKey,Sem.run_bind,run_underlying c,Instr.findNow],rfl⟩
 | cons e es =>
  refine⟨q,?_,d⟩;unfold Instr.findKey
  have:Instr.findNow (.struct #[i,j]) (kP k) (e::es) 0=none:=by
   unfold Instr.findNow Instr.sameNow;rfl
  simp[Sem.run_bind,run_underlying c,this,f]
def aOI{z:Value}(m:P.underlying t=some (.map kt et))(hk:Gk P kt)(D:∀w,(zeroValue et).run P w=.ok z w)(h:Oh w r l)(k:Int×Int)(ok:Bool):
  (Instr.lookup t (.map (some r)) (kP k) ok).run P w=.ok (if ok then .tuple #[(nC l k).getD z,.bool (nC l k).isSome] else(nC l k).getD z) w:=by
 obtain⟨o,c,f,y⟩:=h;obtain⟨q,i,d⟩:=aJF (w:=w) hk k o.toList y;obtain⟨F,H,G,E,C,n,B,p,A⟩:=hk.st
 have e:=fun b=>aK9 (w:=w) C n B p A k b
 unfold Instr.lookup;rw[<-d];cases q with
 | none=>cases ok<;>simp[Sem.run_bind,run_underlying m,run_getObj_map f,e,i,D]
 | some x=>obtain⟨j,v⟩:=x;cases ok<;>simp[Sem.run_bind,run_underlying m,run_getObj_map f,e,i]
def aOK(C:P.underlying t=some (.map kt et))(hk:Gk P kt)(h:Oh w r l)(k:Int×Int)(v:Value)(e:nC l k=none):
  ∃es c,(Instr.mapUpdate t (.map (some r)) (kP k) v).run P w=.ok () {w with heap:=w.heap.setIfInBounds r (.map es c)}/\es.toList.map (fun x=>(x.key,x.val))=(l++[(k,v)]).map fun p=>(kP p.1,p.2):=by
 obtain⟨es,c,i,f⟩:=h;obtain⟨q,A,d⟩:=aJF (w:=w) hk k es.toList f;obtain⟨E,G,F,D,B,j,z,n,y⟩:=hk.st
 have m:=fun b=>aK9 (w:=w) B j z n y k b
 have jE:∀o,(setObj r o).run P w=.ok () {w with heap:=w.heap.setIfInBounds r o}:=fun o=>by simp[setObj,Sem.run,i]
 rw[e] at d;obtain rfl:q=none:=by cases q with | none=>rfl | some x=>cases d
 refine⟨es.push {key:=kP k,val:=v,born:=c},c+1,?_,?_⟩
 .unfold Instr.mapUpdate;simp[Sem.run_bind,run_underlying C,run_getObj_map i,m,A,jE]
 .rw[Array.toList_push,Jw,f];simp
end
def HP.yI(r:Nat)(l:List ((Int×Int)×Value)):HP:=⟨fun F w=>F r/\Oh w r l,fun F w j h i=>⟨h.1,by
 obtain⟨f,c,e,d⟩:=h.2
 exact⟨f,c,(i r h.1).trans e,d⟩⟩⟩
def Oh.lt{w:World}{r:Nat}{l:List ((Int×Int)×Value)}(h:Oh w r l):r < w.heap.size:=by
 obtain⟨e,c,d,_⟩:=h;rcases dI r w.heap.size with h | h
 .exact h
 .rw[Pk h] at d;cases d
section
variable{P:Program}{H:List HP}
def St.yI(st:St w0 R H w){i r:Nat}{l:List ((Int×Int)×Value)}(hi:H[i]? =some (HP.yI r l)):Oh w r l:=(st.sat hi).choose_spec.2
def aMJ{t:TypeId}(hd:d < N.n)(k:∀g,XK N w0 (wpList P ops Q rest) ((d,.map (some g))::e) R (HP.yI g []::H)):XK N w0 (wpList P ops Q (⟨some d,.makeMap t none,ty,pos,aN,none⟩::rest)) e R H:=
 vF rfl fun a w c st=>⟨.map (some w.heap.size),w.alloc (.map #[] 0),by simp[execOp,Instr.makeMap],k w.heap.size _ _ (c.put hd _) (st.new (Wf w _) ⟨⟨gE _,aB⟩,#[],0,heap_alloc_new w _,rfl⟩)⟩
def aMN{x y:Operand}{t kt et:TypeId}{z:Value}{r:Nat}{l:List ((Int×Int)×Value)}{k:Int×Int}(ok:Bool)(h:P.underlying t=some (.map kt et))(hk:Gk P kt)(i:(P.info? et).bind (·.zero)=some z)
  (hx:e.ev x=some (.map (some r))) (hy:e.ev y=some (kP k)) (hm:∀w,St w0 R H w->Oh w r l) (hd:d < N.n)
  (f:XK N w0 (wpList P ops Q rest) ((d,if ok then .tuple #[(nC l k).getD z,.bool (nC l k).isSome] else(nC l k).getD z)::e) R H):XK N w0 (wpList P ops Q (⟨some d,.lookup t x y ok,ty,pos,aN,none⟩::rest)) e R H:=
 vF rfl fun a w c st=>⟨_,w,by simp only[execOp,c.ev hx,c.ev hy,Sem.run_bind,aOI h hk (zeroV i) (hm w st),Result.andThen_ok,Sem.run_pure],f _ _ (c.put hd _) st⟩
def aDc{x y:Operand}{t kt et:TypeId}{z v:Value}{r:Nat}{l:List ((Int×Int)×Value)}{k:Int×Int}{b:Bool}(i:P.underlying t=some (.map kt et))(hk:Gk P kt)(j:(P.info? et).bind (·.zero)=some z)
  (hx:e.ev x=some (.map (some r))) (hy:e.ev y=some (kP k)) (hm:∀w,St w0 R H w->Oh w r l) (c:(nC l k).getD z=v) (f:(nC l k).isSome=b) (hd:d < N.n)
  (h:XK N w0 (wpList P ops Q rest) ((d,.tuple #[v,.bool b])::e) R H):XK N w0 (wpList P ops Q (⟨some d,.lookup t x y true,ty,pos,aN,none⟩::rest)) e R H:=
 aMN true i hk j hx hy hm hd (by subst c;subst f;exact h)
def aMQ(i:Nat){x y u:Operand}{t kt et:TypeId}{r:Nat}{l:List ((Int×Int)×Value)}{k:Int×Int}{v:Value}(D:P.underlying t=some (.map kt et))(hk:Gk P kt)(hi:H[i]? =some (HP.yI r l))(n:nC l k=none)
  (hx:e.ev x=some (.map (some r))) (hy:e.ev y=some (kP k)) (B:e.ev u=some v) (C:XK N w0 (wpList P ops Q rest) e R (H.set i (HP.yI r (l++[(k,v)])))):XK N w0 (wpList P ops Q (⟨none,.insert t x y u,ty,pos,aN,none⟩::rest)) e R H:=
 aCZ rfl rfl fun a w f st=>by
  have o:=st.yI hi
  have j:=o.lt
  obtain⟨z,c,d,G⟩:=aOK (P:=P) D hk o k v n;refine⟨{w with heap:=w.heap.setIfInBounds r (.map z c)},by simp only[execOp,f.ev hx,f.ev hy,f.ev B,Sem.run_bind,d,Result.andThen_ok,Sem.run_pure],C _ _ f ?_⟩;refine st.yZ hi aB rfl rfl rfl fun F p A=>⟨F,⟨p.1,z,c,by simp[Yc,j],G⟩,fun b h=>⟨.inl h,by simpa using A b h⟩,fun b A m=>?_⟩
  rw[Yc];split
  .rename_i E;exact absurd (E▸p.1) m
  .rfl
end
variable{H:List HP}
def aID:∀(sub:List Nat) (l:Array Bool),(nP sub l).size=l.size
 | [],l=>rfl
 | i::sub,l=>by
  show((nP sub l).setIfInBounds i true).size=_
  rw[Array.size_setIfInBounds,aID sub l]
def aEr:∀(sub:List Nat) (l:Array Bool) (i:Nat) (b:Bool),i∈sub->i < l.size->(nP sub l).getD i b=true
 | j :: sub, l, i, b, h, hi => by
  show((nP sub l).setIfInBounds j true).getD i b=true
  by_cases e:j=i
  .subst e
   have:j < (nP sub l).size:=by rw[aID];exact hi
   simp[this]
  .rw[getD_set_ne b e];rcases fT.1 h with h | h
   .exact absurd h.symm e
   .exact aEr sub l i b h hi
def Yv:∀(sub:List Nat) (l:Array Bool) (i:Nat) (b:Bool),i∉sub->(nP sub l).getD i b=l.getD i b
 | [],l,i,b,_=>rfl
 | j::sub,l,i,b,h=>by
  show((nP sub l).setIfInBounds j true).getD i b=_
  have e:j≠i:=fun e=>h (by simp[e])
  rw[getD_set_ne b e];exact Yv sub l i b fun c=>h (by simp[c])
def aRo{sub:List Nat}{l:Array Bool}{i:Nat}(h:l.getD i false=true):(nP sub l).getD i false=true:=by
 by_cases d:i∈sub
 .refine aEr sub l i false d ?_;rcases dI i l.size with c | c
  .exact c
  .simp[Pk c] at h
 .rw[Yv sub l i false d];exact h
def aE5(ops:Array Oper)(I:List Nat)(listed:Array Bool):Bool:=
 I.all (fun i=>decide (i < listed.size)&& !(listed.getD i true)&&match ops[i]? with
  | some o=>o.after.toList.all fun x=> !(Region.binds .any x)||listed.getD x.on false
  | none=>false)&&
 (List.range ops.size).all fun j=>I.contains j||listed.getD j true||match ops[j]? with
  | some o=>I.all fun i=>o.after.toList.any fun x=>Region.binds .any x&&x.on==i
  | none=>true
def aP7{ops:Array Oper}{I sub:List Nat}{listed:Array Bool}(w:aE5 ops I listed=true)(l:∀i∈sub,i∈I){i0:Nat}(n:i0∈I)(m:i0∉sub):
  Region.ready .any ops (nP sub listed)≠[]/\∀j∈Region.ready .any ops (nP sub listed),j∈I/\j∉sub:=by
 unfold aE5 at w;rw[jY,mJ,mJ] at w;obtain⟨A,C⟩:=w
 have B:=A i0 n
 simp only[jY,decide_eq_true_eq,Ml] at B;obtain⟨⟨F,y⟩,f⟩:=B;constructor
 .cases d:ops[i0]? with
  | none=>rw[d] at f;cases f
  | some o =>
   rw[d] at f;simp only[mJ] at f
   have:i0∈Region.ready .any ops (nP sub listed):=mem_ready.2 ⟨by rw[Yv _ _ _ _ m];exact y,o,d,fun x z k=>by
    have:=f x (by simpa using z)
    rw[k] at this
    exact aRo (by simpa using this)⟩
   intro H;rw[H] at this;cases this
 .intro j G;obtain⟨r,o,d,E⟩:=mem_ready.1 G
  have p:j∉sub:=fun h=>by
   have e:=A j (l j h)
   simp only[jY,decide_eq_true_eq] at e;rw[aEr sub listed j true h e.1.1] at r;cases r
  refine⟨?_,p⟩;rw[Yv _ _ _ _ p] at r
  have t:j < ops.size:=(Mq.1 d).1
  have c:=C j (mI.2 t)
  rw[r,d] at c;simp only[Bool.or_false,yD] at c;rcases c with c | c
  .simpa using c
  .exfalso;rw[mJ] at c
   have:=c i0 n
   rw[Mt] at this;obtain⟨x,z,k⟩:=this;simp only[jY,beq_iff_eq] at k
   have:=E x (by simpa using z) k.1
   rw[k.2,Yv _ _ _ _ m] at this
   have D:listed.getD i0 true=listed.getD i0 false:=by simp[F]
   rw[D,this] at y;cases y
def aId{I sub:List Nat}(e:I.Nodup)(f:sub.Nodup)(d:∀i∈sub,i∈I):(I.filter fun i=>sub.contains i).Perm sub:=by
 rw[List.perm_iff_count];intro a;rw[(e.sublist Tu).count,f.count]
 by_cases c:a∈sub
 .rw[aH c,aH (by simp[c,d a c])]
 .rw[aC c,aC (by simp[c])]
def aRd{j m:List ((Int×Int)×Value)}(h:j.Perm m)(i:(j.map (·.1)).Nodup)(k:Int×Int):nC j k=nC m k:=by
 induction h with
 | nil=>rfl
 | cons x _ ih=>
  obtain⟨a,b⟩:=x;rw[Qb,Qb,ih (Bm.1 i).2]
 | swap x y s =>
  obtain⟨a,b⟩:=x;obtain⟨c,d⟩:=y
  have l:c≠a:=fun e=>(Bm.1 i).1 (by rw[e];simp)
  simp only[Qb]
  by_cases f:a=k
  .have:c≠k:=fun e=>l (e.trans f.symm)
   simp[f,this]
  .simp[f]
 | trans f h2 i1 i2=>exact(i1 i).trans (i2 ((f.map _).nodup_iff.1 i))
def aRe{l:List ((Int×Int)×Value)}{k:Int×Int}(h:k∉l.map (·.1)):nC l k=none:=by
 induction l with
 | nil=>rfl
 | cons x l ih=>
  obtain⟨a,b⟩:=x;rw[vJ,fT,not_or] at h;rw[Qb,aC (fun e=>h.1 e.symm)];exact ih h.2
section
variable{P:Program}{R0:List Piece}{H0:List HP}{m fuel:Nat}{listed:Array Bool}
def Lays(P:Program)(ops:Array Oper)(e:Env)(r:Nat)(i:Nat)(p:(Int×Int)×Value):Prop:=∃x y u f c d t kt h,ops[i]? =some ⟨none,.insert t x y u,f,c,d,none⟩/\P.underlying t=some (.map kt h)/\Gk P kt/\e.ev x=some (.map (some r))/\e.ev y=some (kP p.1)/\e.ev u=some p.2
def aXr(I:List Nat)(c:Nat->(Int×Int)×Value)(r:Nat)(hI:I.Nodup)(Z:∀i∈I,Lays P ops e r i (c i))(A:(I.map fun i=>(c i).1).Nodup)(hB:aE5 ops I listed=true)
  (hS:∀l w,St w0 R (HP.yI r l::H) w->St w0 R0 H0 w)
  (k:∀sub:List Nat,sub.Perm I->XA P N w0 ops Q R0 H0 m fuel (nP sub listed) e R (HP.yI r (sub.reverse.map c)::H)):XA P N w0 ops Q R0 H0 m (fuel+I.length) listed e R (HP.yI r []::H):=by
 have T : ∀ (n : Nat) (sub : List Nat), sub.Nodup -> (∀ i ∈ sub, i ∈ I) -> sub.length + n = I.length -> XA P N w0 ops Q R0 H0 m (fuel + n) (nP sub listed) e R (HP.yI r (sub.reverse.map c) :: H) := by
  intro n
  induction n with
  | zero=>
   intro sub O d hl
   have C:=aId hI O d
   have X:(I.filter fun i=>sub.contains i)=I:=Tu.eq_of_length (by have:=C.length_eq;omega)
   rw[X] at C;exact k sub C.symm
  | succ n ih =>
   intro sub O d hl
   obtain⟨i0,V,U⟩:∃i,i∈I/\i∉sub:=nO fun p=>by
    have C:=aId hI O d
    have X:(I.filter fun i=>sub.contains i)=I:=List.filter_eq_self.2 fun i M=>by
     rcases Classical.em (i∈sub) with h | h
     .simpa using h
     .exact absurd ⟨i,M,h⟩ p
    rw[X] at C
    have:=C.length_eq
    omega
   obtain⟨r1,r2⟩:=aP7 hB d V U;intro up a w Y st;refine⟨fun h=>absurd h r1,fun i M=>?_⟩;obtain⟨z,f⟩:=r2 i M;obtain⟨x,y,u,ty,G,F,t,kt,et,ho,ht,hk,hx,hy,hu⟩:=Z i z
   have p:nC (sub.reverse.map c) (c i).1=none:=aRe fun hm=>by
    simp only[Mr,fR,List.mem_reverse,Function.comp] at hm;obtain⟨j,D,he⟩:=hm
    have J:j≠i:=fun e=>f (e▸D)
    exact J (nO fun hne=>by
     have h1:=List.pairwise_map.1 A
     exact absurd he (by
      obtain⟨a,ha⟩:=lA (d j D);obtain⟨b,hb⟩:=lA z
      have E:=(cE.1 ha).1
      have L:=(cE.1 hb).1
      have o:=(cE.1 ha).2
      have B:=(cE.1 hb).2
      have h2:=List.pairwise_iff_getElem.1 h1
      rcases Nat.lt_trichotomy a b with h | h | h
      .have:=h2 a b E L h;rw[o,B] at this;exact this
      .subst h;exact absurd (o.symm.trans B) J
      .have:=h2 b a L E h;rw[o,B] at this;exact fun e=>this e.symm))
   refine He ho (fun a w h=>⟨h.1,h.2 (up.lZ M)⟩) (K:=wG P w0 ops Q R0 H0 m (fuel+n) (nP sub listed) i) ?_
   have:=aMQ (P:=P) (N:=N) (w0:=w0) (R:=R) (H:=HP.yI r (sub.reverse.map c)::H) (Q:=Exit.then (wG P w0 ops Q R0 H0 m (fuel+n) (nP sub listed) i) Q) (ops:=ops) (rest:=[]) (ty:=ty) (pos:=G) (aN:=F) 0 ht hk rfl p hx hy hu
    (jA (iU (mF (hS _) (by
     have:=ih (i::sub) (Bm.2 ⟨f,O⟩) (fun j D=>by
      rcases fT.1 D with rfl | D
      .exact z
      .exact d j D) (by simp only[mK];omega)
     rw[List.reverse_cons,Jw] at this
     exact this))))
   exact this a w Y st
 exact T I.length [] List.nodup_nil (fun _ h=>by cases h) aB
end
def aJG(L:List (Nat×Nat))(d:Nat->Option (Nat×Nat))(hp:∀i x,L[i]? =some x->d i=some x):∀(ps:List (Nat×Value)) (cs e:List Value),mR L cs ps=some e->Instr.fill d cs.toArray ps=some e.toArray
 | [],cs,e,h=>by cases h;rfl
 | (i, v) :: rest, cs, e, h => by
  unfold mR at h;unfold Instr.fill;split at h
  .rename_i off sz hL
   rw[hp _ _ hL];split at h
   .rename_i f
    have e1:(decide (v.cells.size≠sz)||decide (off+v.cells.size>cs.toArray.size))=false:=by simp;omega
    simp only[e1,Pt,if_false]
    have:=aD4 v.cells.toList cs off 0
    rw[show v.cells.zipIdx.foldl (fun cs (c,j)=>cs.setIfInBounds (off+j) c) cs.toArray=(qQ cs off v.cells.toList).toArray by
     rw[<-Array.foldl_toList,Array.toList_zipIdx];exact this]
    exact aJG L d hp rest _ e h
   .cases h
  .cases h
section
variable{P:Program}
def aFp{t el:TypeId}{n sz:Nat}{ps:List (Nat×Operand)}{vs:List (Nat×Value)}{zs cs:List Value}(B:Gw P t zs)(y:P.underlying t=some (.array n el))(l:(P.info? el).map (·.size)=some sz)(hp:e.parts ps=some vs)(hf:mR ((List.range n).map fun i=>(i*sz,sz)) zs vs=some cs):bY P N w0 e R H ⟨some d,.build t ps.toArray,ty,pos,aN,none⟩ (.agg cs.toArray):=
 jF (fun a w p => by
  have:=p.parts hp
  obtain⟨i,z,r,m,rfl⟩:=B;obtain⟨j,A,rfl⟩:=kS.1 l
  have c:=aJG _ (fun i=>some (i*j.size,j.size)) (fun i x o=>by
   rw[eO] at o;obtain⟨q,f,rfl⟩:=kS.1 o
   have k:i < n:=by
    rcases dI i n with h | h
    .exact h
    .rw[eW (by simpa using h)] at f;cases f
   rw[Hr k] at f;cases f
   rfl) vs z.cells.toList cs hf
  simp at c;simp only[execOp,List.map_toArray,this]
  simp[Instr.build,zeroValue,typeInfo,sizeOf,r,A,m,run_underlying y,c])
end
def uT(n m a b c:Int):Value:=.agg #[iv n,iv m,.int .u8 a,.int .u8 b,.int .u8 c]
def aB0:Gk Tryz.prog 325:=Gk.of Tryz.underlying325 Tryz.underlying3 Tryz.underlying3 rfl rfl (fun _ _ _ _=>by kernel_rfl)
def Dt:Nat->(Int×Int)×Value
 | 3=>((16,0),uT 0 0 0 0 0) | 6=>((17,0),uT 0 0 0 0 0) | 9=>((20,0),uT 0 0 0 0 0) | 12=>((22,0),uT 0 0 0 0 0) | 15=>((16,1),uT 0 0 0 0 0)
 | 19=>((17,4),uT 2 3 100 117 107) | 22=>((17,5),uT 1 0 0 0 0) | 25=>((20,6),uT 1 0 0 0 0) | 29=>((20,7),uT 2 2 111 99 0) | _=>((22,4),uT 2 2 114 97 0)
def Qr:List Nat:=[3,6,9,12,15,19,22,25,29,33]
def aES:List ((Int×Int)×Value):=Qr.map Dt
def aGn(v:Value)(hs:List HP)(_:Piece):Prop:=∃(g:Nat) (sub:List Nat),v=.map (some g)/\sub.Perm Qr/\hs=[HP.yI g (sub.reverse.map Dt)]
def aJ1(w:World):Cz 211 #[] w (fun y w'=>(∃v hs q,y=.returned v/\q.w=w'/\aGn v hs q/\iV w hs q)/\Below w.heap.size w w'):=by
 refine fP func211 ntmps211 ?_;refine fO ?_;refine jS ?_;refine kC rfl aE ?_;refine iJ ?_;refine fO ?_;refine vA 34 aJ aJ ?_;refine bE 1 ?_ (bL:=by exact fI rfl);refine bE 2 ?_ (bL:=by exact fI rfl);refine bE 4 ?_ (bL:=by exact fI rfl);refine bE 5 ?_ (bL:=by exact fI rfl);refine bE 7 ?_ (bL:=by exact fI rfl);refine bE 8 ?_ (bL:=by exact fI rfl);refine bE 10 ?_ (bL:=by exact fI rfl);refine bE 11 ?_ (bL:=by exact fI rfl);refine bE 13 ?_ (bL:=by exact fI rfl);refine bE 14 ?_ (bL:=by exact fI rfl);refine bE 16 ?_ (bL:=by exact fI rfl);refine nG 17 rfl rfl rfl aE (aFp (n:=3) (sz:=1) (el:=5) (zs:=[.int .u8 0,.int .u8 0,.int .u8 0]) (sD aJ) aJ aJ rfl (by simp[mR,qQ,Value.cells,zH,List.set];rfl)) aJ (fun _ _ _ h=>h) (fun _ h=>h) ?_;refine bE 18 ?_ (bL:=by exact fI rfl);refine bE 20 ?_ (bL:=by exact fI rfl);refine bE 21 ?_ (bL:=by exact fI rfl);refine bE 23 ?_ (bL:=by exact fI rfl);refine bE 24 ?_ (bL:=by exact fI rfl);refine bE 26 ?_ (bL:=by exact fI rfl);refine nG 27 rfl rfl rfl aE (aFp (n:=3) (sz:=1) (el:=5) (zs:=[.int .u8 0,.int .u8 0,.int .u8 0]) (sD aJ) aJ aJ rfl (by simp[mR,qQ,Value.cells,zH,List.set];rfl)) aJ (fun _ _ _ h=>h) (fun _ h=>h) ?_;refine bE 28 ?_ (bL:=by exact fI rfl);refine bE 30 ?_ (bL:=by exact fI rfl);refine nG 31 rfl rfl rfl aE (aFp (n:=3) (sz:=1) (el:=5) (zs:=[.int .u8 0,.int .u8 0,.int .u8 0]) (sD aJ) aJ aJ rfl (by simp[mR,qQ,Value.cells,zH,List.set];rfl)) aJ (fun _ _ _ h=>h) (fun _ h=>h) ?_;refine bE 32 ?_ (bL:=by exact fI rfl);refine dB 0 ?_;refine aMJ aE fun j=>?_;refine qH ?_;refine aXr (fuel:=2) Qr Dt j aE (fun i f=>?_) aE aJ (fun l e h=>h.tail) (fun sub c=>?_)
 .simp only[Qr,fT,pY,or_false] at f;rcases f with rfl | rfl | rfl | rfl | rfl | rfl | rfl | rfl | rfl | rfl
  all_goals exact⟨_,_,_,_,_,_,_,_,_,rfl,Tryz.underlying322,aB0,rfl,rfl,rfl⟩
 rw[aB7 c];refine dB 34 ?_;refine jP rfl aE ?_;refine fY ?_;refine dB 35 ?_;refine kC rfl aE ?_;refine fY ?_;refine kV ?_;refine eR ?_;refine Rl ?_;refine eR ?_;refine dX [] [] [0] fun q _ _ d=>?_;exact bK (h:=fun e st=>⟨_,_,⟨e,q.Z⟩,rfl,rfl,⟨j,sub,rfl,c,rfl⟩,st.newR aB aB (d aB aB)⟩)
def fB(w:Int):Int:=if cZ w 28 4≠0 then 0 else cZ w 0 8
def Ib(w:Int):Int:=if cZ w 28 4≠0 then 0 else cZ w 8 2
def eN(w:Int):Int:=if cZ w 28 4≠0 then 0 else cZ w 10 8
def aBQ(w:Int):Int:=if cZ w 28 4≠0 then 0 else cZ w 18 10
def aGR(w:Int):Jk w=Kq (fB w) (Ib w) (eN w) (aBQ w):=by
 unfold Jk fB Ib eN aBQ;split<;>rfl
structure mV where
 n:Int
 m:Int
 a:Int
 b:Int
 c:Int
def mV.v(f:mV):Value:=uT f.n f.m f.a f.b f.c
def mV.act(f:mV)(v:Int):Int:=if v=0 then f.a else if v=1 then f.b else f.c
def sP(p m:Int):Option mV:=
 if m=0 then(if p=16\/p=17\/p=20\/p=22 then some ⟨0,0,0,0,0⟩ else none)
 else if m=1 then(if p=16 then some ⟨0,0,0,0,0⟩ else none)
 else if m=4 then(if p=17 then some ⟨2,3,100,117,107⟩ else if p=22 then some ⟨2,2,114,97,0⟩ else none)
 else if m=5 then(if p=17 then some ⟨1,0,0,0,0⟩ else none)
 else if m=6 then(if p=20 then some ⟨1,0,0,0,0⟩ else none)
 else if m=7 then(if p=20 then some ⟨2,2,111,99,0⟩ else none)
 else none
def aSM(p m:Int):nC aES (p,m)=(sP p m).map mV.v:=by
 unfold aES Qr sP;simp only[vJ,List.map_nil,Dt,Qb,Ke]
 by_cases j:m=0
 .subst j
  by_cases e:p=16
  .subst e;simp[mV.v]
  .by_cases d:p=17
   .subst d;simp[mV.v]
   .by_cases c:p=20
    .subst c;simp[mV.v]
    .by_cases f:p=22
     .subst f;simp[mV.v]
     .simp[e,d,c,f,nC,fN e,fN d,fN c,fN f]
 .by_cases h:m=1
  .subst h
   by_cases e:p=16
   .subst e;simp[mV.v]
   .simp[e,fN e,nC]
  .by_cases l:m=4
   .subst l
    by_cases d:p=17
    .subst d;simp[mV.v]
    .by_cases f:p=22
     .subst f;simp[mV.v]
     .simp[d,f,fN d,fN f,nC]
   .by_cases k:m=5
    .subst k
     by_cases d:p=17
     .subst d;simp[mV.v]
     .simp[d,fN d,nC]
    .by_cases i:m=6
     .subst i
      by_cases c:p=20
      .subst c;simp[mV.v]
      .simp[c,fN c,nC]
     .by_cases h7:m=7
      .subst h7
       by_cases c:p=20
       .subst c;simp[mV.v]
       .simp[c,fN c,nC]
      .simp[j,h,l,k,i,h7,fN j,fN h,fN l,fN k,fN i,fN h7,nC]
def eP(p m:Int):mV:=(sP p m).getD ⟨0,0,0,0,0⟩
def aSL{sub:List Nat}(h:sub.Perm Qr)(p m:Int):nC (sub.reverse.map Dt) (p,m)=(sP p m).map mV.v:=by
 rw[<-aSM]
 have c:(sub.reverse.map Dt).Perm aES:=((List.reverse_perm sub).trans h).map Dt
 refine aRd c ?_ _;exact((c.map (·.1)).nodup_iff).2 aE
def Vc{sub:List Nat}(h:sub.Perm Qr)(p m:Int):(nC (sub.reverse.map Dt) (p,m)).getD (uT 0 0 0 0 0)=(eP p m).v/\(nC (sub.reverse.map Dt) (p,m)).isSome=(sP p m).isSome:=by
 rw[aSL h];unfold eP;cases sP p m<;>exact⟨rfl,rfl⟩
def aJx(p m : Int) : ((eP p m).n = 0 \/ (eP p m).n = 1 \/ (eP p m).n = 2) /\ 0 <= (eP p m).m /\ (eP p m).m <= 3 /\ (∀ v, 0 <= v -> v < (eP p m).m -> (eP p m).act v = 107 -> p = 17) /\
  ((eP p m).m≠0->p=17\/p=20\/p=22):=by
 unfold eP sP
 by_cases k:m=0
 .by_cases h:p=16\/p=17\/p=20\/p=22<;>simp[k,h]<;>omega
 .by_cases d:m=1
  .by_cases h:p=16<;>simp[d,h]<;>omega
  .by_cases e:m=4
   .by_cases h:p=17
    .simp[e,h]
    .by_cases i:p=22
     .subst e i;simp only[mV.act];refine⟨aB,aB,aB,fun v d f c=>?_,aB⟩;simp at f c;split at c
      .omega
      .split at c<;>omega
     .simp[e,h,i];omega
   .by_cases l:m=5
    .by_cases h:p=17<;>simp[l,h]<;>omega
    .by_cases j:m=6
     .by_cases h:p=20<;>simp[j,h]<;>omega
     .by_cases h7:m=7
      .by_cases h:p=20
       .subst h7 h;simp only[mV.act];refine⟨aB,aB,aB,fun v d f c=>?_,aB⟩;simp at f c;split at c
        .omega
        .split at c<;>omega
       .simp[h7,h];omega
      .simp[k,d,e,l,j,h7];omega
def Js(s:aI)(k:Nat):Bool:=(s.domains[k]?).any (·.ret)
def kindOf(s:aI)(k:Nat):Int:=((s.aL[k]?).map (·.kind)).getD 0
def rA(s:aI)(k:Nat):Prop:=kindOf s k=112\/kindOf s k=103
instance(s:aI)(k:Nat):Decidable (rA s k):=inferInstanceAs (Decidable (_\/_))
def Dj(s:aI)(p k:Int)(id:Nat):Prop:=(k=107/\Js s id=false)\/(p=20/\¬rA s id)
instance(s:aI)(p k:Int)(id:Nat):Decidable (Dj s p k id):=inferInstanceAs (Decidable (_\/_))
def xI(s:aI)(p:Int)(f:mV)(id v:Int):Int×Int×Int:=
 if(xB s p:Int)<=id then(-4,0,0) else if f.m=0 then(0,0,0) else if f.m<=v then(-2,0,0) else if Dj s p (f.act v) id.toNat then(-2,0,0) else(0,f.act v,id)
def bZ(s:aI)(l:List Int):Int×Int×Int:=
 match l with
 | []=>(-10,0,0)
 | w::r=>
  if wN w≠0\/Ib w≠0 then(-10,0,0)
  else if(sP (eN w) (fB w)).isSome=false then(-1,0,0)
  else if(r.length:Int)≠(eP (eN w) (fB w)).n then(-10,0,0)
  else if(eP (eN w) (fB w)).n=0 then(0,0,0)
  else xI s (eN w) (eP (eN w) (fB w)) (r.getD 0 0) (r.getD ((eP (eN w) (fB w)).n.toNat - 1) 0)
def aFI(a:Int×Int×Int):Value:=.tuple #[.int .i32 a.1,.agg #[.int .u8 a.2.1,iv a.2.2]]
def nH(l:List Int):Prop:=∀x∈l,0<=x/\x < 4294967296
def aO.u32{w:World}{A:Option Addr}{n:Nat}{l:List Int}(h:aO (all w) 1 A n (eB l))(e:0 < n):∃b off,A=some ⟨b,off,none⟩/\∀(i:Nat) (x:Int),l[i]? =some x->iD w b (off+i) (.int .u32 x):=by
 obtain⟨b,off,f,j,c⟩:=h.2 e;refine⟨b,off,f,fun i x d=>⟨j,c i _ ?_⟩⟩;simp only[eB,eO,d,lO]
section
variable{P:Program}{N:mV}
def aWG{nn:Nat}{fn:Func}{c:Ending->World->Prop}{t u n b:Nat}{s:TypeId}{vs:List Value}{f:Value}(k:fn.results=#[.tmp u,.cell t s])(hs:Fa P s n=true)(o:vs.length=n)(p:e.get t=some (pt b))(i:cI w0 R H b 0 vs)(m:e.get u=some f)(h:∀w,St w0 R H w->c (.returned (.tuple #[f,.agg vs.toArray])) w):XK ⟨nn,[]⟩ w0 (bodyPost P fn c .ret) e R H:=fun a w d st=>by
 have j:=Te (P:=P) hs o (i w st)
 refine bodyPost_ret (v:=.tuple #[f,.agg vs.toArray]) ?_ d.defers (h w st)
 have r:=d.get t _ p
 have l:=d.get u _ m
 simp only[Instr.loadAt,Instr.sureAddr,Sem.run_bind,Sem.run_pure,Result.andThen_ok] at j;simp only[results,k];simp[r,l,asAddr,j]
end
def aQC(s:aI)(A1 A2 A3 A4:Option Addr)(n1 k1 n2 k2 n3 k3 n4 k4:Nat)(p:Int){w0:World}(w:World)(hS:jH w0 s A1 n1 A2 n2 A3 n3 A4 n4):Cz 212 #[.agg #[.slice A1 n1 k1,.slice A2 n2 k2,.slice A3 n3 k3,.slice A4 n4 k4],iv p] w (Rt (iv (xB s p)) w):=by
 obtain⟨f,e,c,d⟩:=And.intro hS.vQ (And.intro hS.vP (And.intro hS.yJ hS.vO));subst f e c d;exact aQB s A1 A2 A3 A4 k1 k2 k3 k4 p w
def rY{nn:Nat}{w:World}{e:Env}{R:List Piece}{H:List HP}{fn:Func}{t u n b:Nat}{s:TypeId}{vs:List Value}{v d:Value}(h:v=.tuple #[d,.agg vs.toArray])(f:fn.results=#[.tmp u,.cell t s]:=by rfl)(hs:Fa Tryz.prog s n=true:=by kernel_rfl)(k:e.get t=some (pt b):=by rfl)(c:cI w R H b 0 vs:=by first | exact cI.whole 0 rfl | exact cI.whole 1 rfl | exact cI.whole 2 rfl | exact cI.whole 3 rfl)(j:vs.length=n:=by rfl)(i:e.get u=some d:=by rfl)(l:all w∈R:=by simp):XK ⟨nn,[]⟩ w (bodyPost Tryz.prog fn (Rt v w) .ret) e R H:=
 aWG f hs j k c i fun m st=>⟨by rw[h],st.below l⟩
def aPB(s:aI)(A1 A2 A3 A4:Option Addr)(n1 k1 n2 k2 n3 k3 n4 k4:Nat)(A:Option Addr)(n c:Nat)(l:List Int)(w:World)(hS:jH w s A1 n1 A2 n2 A3 n3 A4 n4)(hl:aO (all w) 1 A n (eB l))(hn:n=l.length)(hn2:n<=1000000)(hu:nH l):
  Cz 173 #[.agg #[.slice A1 n1 k1,.slice A2 n2 k2,.slice A3 n3 k3,.slice A4 n4 k4],.slice A n c] w (Rt (aFI (bZ s l)) w):=by
 refine fP func173 ntmps173 ?_;refine aF ?_;refine eI fun g1=>?_;refine aF ?_;refine eE fun g2=>?_;refine aF ?_;refine dD rfl (fun h=>?_) (fun h=>?_)
 .obtain rfl:l=[]:=Fh aA;refine aF ?_
  (refine rY ?_;rfl)
 obtain⟨b,off,rfl,hcell⟩:=hl.u32 aA
 obtain⟨e,r,rfl⟩:∃x r,l=x::r:=by
  cases l with
  | nil=>exact absurd (by simpa using hn) (show ¬n=0 by omega)
  | cons x r=>exact⟨x,r,rfl⟩
 have hw1:=hcell 0 e rfl
 have hlen:n=r.length+1:=by simpa using hn
 refine aF ?_;refine cM (v:=.tuple #[.agg #[iv (fB e),iv (Ib e),iv (eN e),iv (aBQ e)],iv (wN e)]) (fun B st=>(aGQ e B).mono fun x w3 hx=>aGe hx (by rw[aGR];rfl)) ?_;refine aF ?_;refine eE fun g3=>?_;refine aF ?_;refine cH (t:=26) rfl (fun D=>?_) (fun D=>?_)
 .refine aF ?_
  (refine rY ?_;rw[bZ,aH (.inl D)];rfl)
 refine aF ?_;refine dD rfl (fun O=>?_) (fun h5=>?_)
 .refine aF ?_
  (refine rY ?_;rw[bZ,aH (.inr O)];rfl)
 have O:¬(wN e≠0\/Ib e≠0):=fun hh=>hh.elim D h5
 refine sQ ?_;refine eR ?_;refine Ll (α:=Nat) (fun E=>[(9,.bool (sP (eN e) (fB e)).isSome),(8,pt E),(7,iv (wN e)),(6,pt g3),(5,pt g2),(2,pt g1),(1,.slice (some ⟨b,off,none⟩) n c)]) (fun E=>[HP.aK E 320 [iv (eP (eN e) (fB e)).n,iv (eP (eN e) (fB e)).m,.int .u8 (eP (eN e) (fB e)).a,.int .u8 (eP (eN e) (fB e)).b,.int .u8 (eP (eN e) (fB e)).c],HP.aK g3 67 [iv (fB e),iv (Ib e),iv (eN e),iv (aBQ e)],HP.aK g2 150 [.int .u8 0,iv 0],HP.aK g1 30 [.slice A1 n1 k1,.slice A2 n2 k2,.slice A3 n3 k3,.slice A4 n4 k4]]) (fun _=>True) ?_ fun E _=>?_
 .skip
  refine vA 12 aJ aJ ?_;refine iQ 1 rfl rfl rfl (Il (off:=2) aJ rfl) ?_;refine iQ 2 rfl rfl rfl (Nr rfl) ?_;refine iQ 3 rfl rfl rfl (Il (off:=0) aJ rfl) ?_;refine iQ 4 rfl rfl rfl (Nr rfl) ?_;refine iQ 5 rfl rfl rfl (Im (zs:=[iv 0,iv 0]) (L:=[(0,1),(1,1)]) (sD aJ) aJ rfl (by simp[mR,qQ,Value.cells];rfl)) ?_;refine Od 0 10 rfl rfl aJ ?_ ?_
  .refine gN aGn (fun B _=>aJ1 B) ?_;rintro _ _ q1 ⟨gm,sub,rfl,p,rfl⟩ _;simp only[sZ,sI];refine jA ?_;refine iU ?_;refine mF (fun _ h=>h.cN.tail) ?_;refine Od 6 10 rfl rfl aJ ?_ ?_
   .refine aDc (v:=.agg #[iv (eP (eN e) (fB e)).n,iv (eP (eN e) (fB e)).m,.int .u8 (eP (eN e) (fB e)).a,.int .u8 (eP (eN e) (fB e)).b,.int .u8 (eP (eN e) (fB e)).c]) (et:=320) (l:=sub.reverse.map Dt) Tryz.underlying322 aB0 (z:=uT 0 0 0 0 0) aJ rfl (k:=(eN e,fB e)) rfl (fun B st=>st.yI (i:=0) rfl) (Vc p _ _).1 (Vc p _ _).2 aE ?_;refine jA ?_;refine iU ?_;refine mF (fun _ h=>h.cN.tail) ?_;refine nG 7 rfl rfl rfl aE (rI rfl) aJ (fun _ _ _ h=>h) (fun _ h=>h.cN.tail) ?_;refine nG 8 rfl rfl rfl aE (Ra rfl rfl) aJ (fun _ _ _ h=>h) (fun _ h=>h.cN.tail) ?_;refine nG 9 rfl rfl rfl aE (Ra rfl rfl) aJ (fun _ _ _ h=>h) (fun _ h=>h.cN.tail) ?_;refine dB 10 ?_;refine eE fun E=>?_;refine jA ?_;refine iU ?_;refine mF (fun _ h=>h.cN.tail.tail) ?_;refine dB 11 ?_;refine Jg rfl rfl ?_;simp only[jR,Value.cells,List.set,List.take,List.drop,sI,nZ,mK,Bl,sZ,Nat.reduceAdd];refine jA ?_;refine iU ?_;refine mF (fun _ h=>h.cN.tail.tail) ?_;refine dB 12 ?_;refine kC rfl aE ?_;refine fY ?_;refine kV ?_;refine eR ?_;exact eF E
   .refine eE fun E=>?_;refine jA ?_;refine iU ?_;refine mF (fun _ h=>h.cN.tail.tail) ?_;refine dB 6 ?_;refine aDc (v:=.agg #[iv (eP (eN e) (fB e)).n,iv (eP (eN e) (fB e)).m,.int .u8 (eP (eN e) (fB e)).a,.int .u8 (eP (eN e) (fB e)).b,.int .u8 (eP (eN e) (fB e)).c]) (et:=320) (l:=sub.reverse.map Dt) Tryz.underlying322 aB0 (z:=uT 0 0 0 0 0) aJ rfl (k:=(eN e,fB e)) rfl (fun B st=>st.yI (i:=1) rfl) (Vc p _ _).1 (Vc p _ _).2 aE ?_;refine jA ?_;refine iU ?_;refine mF (fun _ h=>h.cN.tail.tail) ?_;refine nG 7 rfl rfl rfl aE (rI rfl) aJ (fun _ _ _ h=>h) (fun _ h=>h.cN.tail.tail) ?_;refine nG 8 rfl rfl rfl aE (Ra rfl rfl) aJ (fun _ _ _ h=>h) (fun _ h=>h.cN.tail.tail) ?_;refine nG 9 rfl rfl rfl aE (Ra rfl rfl) aJ (fun _ _ _ h=>h) (fun _ h=>h.cN.tail.tail) ?_;refine dB 11 ?_;refine Jg rfl rfl ?_;simp only[jR,Value.cells,List.set,List.take,List.drop,sI,nZ,mK,Bl,sZ,Nat.reduceAdd];refine jA ?_;refine iU ?_;refine mF (fun _ h=>h.cN.tail.tail) ?_;refine dB 12 ?_;refine kC rfl aE ?_;refine fY ?_;refine kV ?_;refine eR ?_;exact eF E
  .refine eE fun E=>?_;refine jA ?_;refine iU ?_;refine mF (fun _ h=>h.tail) ?_;refine dB 0 ?_;refine gN aGn (fun B _=>aJ1 B) ?_;rintro _ _ q1 ⟨gm,sub,rfl,p,rfl⟩ _;simp only[sZ,sI];refine jA ?_;refine iU ?_;refine mF (fun _ h=>h.cN.tail.tail) ?_;refine dB 6 ?_;refine aDc (v:=.agg #[iv (eP (eN e) (fB e)).n,iv (eP (eN e) (fB e)).m,.int .u8 (eP (eN e) (fB e)).a,.int .u8 (eP (eN e) (fB e)).b,.int .u8 (eP (eN e) (fB e)).c]) (et:=320) (l:=sub.reverse.map Dt) Tryz.underlying322 aB0 (z:=uT 0 0 0 0 0) aJ rfl (k:=(eN e,fB e)) rfl (fun B st=>st.yI (i:=0) rfl) (Vc p _ _).1 (Vc p _ _).2 aE ?_;refine jA ?_;refine iU ?_;refine mF (fun _ h=>h.cN.tail.tail) ?_;refine nG 7 rfl rfl rfl aE (rI rfl) aJ (fun _ _ _ h=>h) (fun _ h=>h.cN.tail.tail) ?_;refine nG 8 rfl rfl rfl aE (Ra rfl rfl) aJ (fun _ _ _ h=>h) (fun _ h=>h.cN.tail.tail) ?_;refine nG 9 rfl rfl rfl aE (Ra rfl rfl) aJ (fun _ _ _ h=>h) (fun _ h=>h.cN.tail.tail) ?_;refine dB 11 ?_;refine Jg rfl rfl ?_;simp only[jR,Value.cells,List.set,List.take,List.drop,sI,nZ,mK,Bl,sZ,Nat.reduceAdd];refine jA ?_;refine iU ?_;refine mF (fun _ h=>h.cN.tail.tail) ?_;refine dB 12 ?_;refine kC rfl aE ?_;refine fY ?_;refine kV ?_;refine eR ?_;exact eF E
 obtain⟨hF1,hF2,hF3,hF4,hF5⟩:=aJx (eN e) (fB e);refine aF ?_;cases h7:(sP (eN e) (fB e)).isSome
 .refine aF ?_
  (refine rY ?_;rw[bZ,aC O,aH h7];rfl)
 have H:¬(sP (eN e) (fB e)).isSome=false:=by rw[h7];simp
 refine aF ?_;refine dD rfl (fun h9=>?_) (fun h9=>?_)
 .refine aF ?_
  (refine rY ?_;rw[bZ,aC O,aC H,aH aA];rfl)
 have R:¬(r.length:Int)≠(eP (eN e) (fB e)).n:=by omega
 refine aF ?_;refine dD rfl (fun J=>?_) (fun J=>?_)
 .refine aF ?_
  (refine rY ?_;rw[bZ,aC O,aC H,aC R,aH J];rfl)
 obtain⟨id,K⟩:∃x,r[0]? =some x:=⟨r[0]' aA,cX _⟩
 obtain⟨v,Y⟩:∃x,r[(eP (eN e) (fB e)).n.toNat - 1]? =some x:=⟨r[(eP (eN e) (fB e)).n.toNat - 1]' aA,cX _⟩
 have X:r.getD 0 0=id:=by rw[mZ,K];rfl
 have hv':r.getD ((eP (eN e) (fB e)).n.toNat - 1) 0=v:=by rw[mZ,Y];rfl
 have aXW:=hu id (vL _ (dJ K))
 have hbv:=hu v (vL _ (dJ Y))
 have aXV:=hcell 1 id (by simpa using K)
 have hcv:=hcell (eP (eN e) (fB e)).n.toNat v (by
  obtain⟨t,ht⟩:∃t,(eP (eN e) (fB e)).n.toNat=t+1:=⟨(eP (eN e) (fB e)).n.toNat - 1,aA⟩
  rw[ht] at Y|-;simpa using Y)
 have f:bZ s (e::r)=xI s (eN e) (eP (eN e) (fB e)) id v:=by rw[bZ,aC O,aC H,aC R,aC J,X,hv']
 refine aF ?_;refine cM (fun B st=>aQC s A1 A2 A3 A4 n1 k1 n2 k2 n3 k3 n4 k4 (eN e) B hS) ?_;refine aF ?_;refine dD rfl (fun o=>?_) (fun o=>?_)
 .refine aF ?_
  (refine rY ?_;rw[f,xI,aH o];rfl)
 refine aF ?_;refine dD rfl (fun y=>?_) (fun y=>?_)
 .refine aF ?_
  (refine rY ?_;rw[f,xI,aC o,aH y];rfl)
 refine aF ?_;refine dD rfl (fun C=>?_) (fun C=>?_)
 .refine aF ?_
  (refine rY ?_;rw[f,xI,aC o,aC y,aH C];rfl)
 have V:([iv (eP (eN e) (fB e)).n,iv (eP (eN e) (fB e)).m,.int .u8 (eP (eN e) (fB e)).a,.int .u8 (eP (eN e) (fB e)).b,.int .u8 (eP (eN e) (fB e)).c]:List Value)[2+v.toNat]? =some (.int .u8 ((eP (eN e) (fB e)).act v)):=by
  unfold mV.act;rcases(by omega:v=0\/v=1\/v=2) with rfl | rfl | rfl<;>rfl
 have T:=hF4 v hbv.1 aA
 generalize hk:(eP (eN e) (fB e)).act v=k at *;refine aF ?_;refine kd (bT rfl (Rd.aK 0 rfl V)) ?_;refine aF ?_;refine eE fun g5=>?_;refine mO 0 rfl ?_;dsimp only[List.set];refine iJ ?_;refine Ll (α:=Unit) (fun _=>[(12,pt g5),(5,pt g2)]) (fun _=>[HP.aK g5 150 [.int .u8 k,iv id],HP.aK g2 150 [.int .u8 0,iv 0]]) (fun _=>¬Dj s (eN e) k id.toNat) ?_ fun _ hq'=>?_
 .refine aF ?_;refine cH (t:=91) rfl (fun D=>?_) (fun D=>?_)
  .have U:=T D
   obtain⟨dm,I⟩:∃d,s.domains[id.toNat]? =some d:=⟨s.domains[id.toNat]'(by rw[U] at o;simp only[xB,if_true] at o;omega),cX _⟩
   obtain⟨bD,oD,rD,rfl,_,rfl,hRD⟩:=hS.dom.row I
   have F:Js s id.toNat=dm.ret:=by rw[Js,I];rfl
   have hlD:=hS.vP
   have aXM:=(cE.1 I).1
   have Qp:=hRD.at_ (j:=2) rfl
   cases hr:dm.ret
   all_goals
    rw[hr] at Qp F;refine aF ?_
   ·(refine rY ?_;rw[f,xI,aC o,aC y,aC C,hk,aH (.inl ⟨D,F⟩)];rfl)
   .refine cH (t:=104) rfl (fun h20=>by omega) (fun h20=>?_);refine aF ?_;exact eF () (hg:=fun h=>by simp_all [Dj])
  .refine aF ?_;refine cH (t:=104) rfl (fun U=>?_) (fun U=>?_)
   .obtain⟨Z,G⟩:∃d,s.aL[id.toNat]? =some d:=⟨s.aL[id.toNat]'(by rw[U] at o;simp only[xB,if_true] at o;simp at o;omega),cX _⟩
    obtain⟨bC,oC,rC,rfl,_,⟨cA,cn,aYe,rfl,_⟩,hC⟩:=hS.iO.row G
    have M:kindOf s id.toNat=Z.kind:=by rw[kindOf,G];rfl
    have hlC:=hS.vQ
    have aXN:=(cE.1 G).1
    refine aF ?_;refine cM (fun B st=>aNP Z.kind _ _ _ _ _ _ _ B) ?_
    by_cases N:Z.kind=112\/Z.kind=103
    .rw[eM N];refine aF ?_;exact eF () (hg:=fun h=>by simp_all [Dj,rA])
    .rw[gW N];refine aF ?_
     (refine rY ?_;rw[f,xI,aC o,aC y,aC C,hk,aH (.inr ⟨U,fun hc=>N (by rw[<-M];exact hc)⟩)];rfl)
   .refine aF ?_;exact eF () (hg:=fun h=>by simp_all [Dj])
 refine aF ?_;refine Rm [2] ?_;refine aF ?_
 (refine rY ?_;rw[f,xI,aC o,aC y,aC C,hk,aC hq'];rfl)
def Lv(l:List Nat)(v:Value)(w w':World):Prop:=∃A c,v=.slice A l.length c/\aO (fresh w w') 1 A l.length (aU (eD l))
def aQL{l:List Nat}{k i:Nat}(h:l[k]? =some i):(aU (eD l))[k]? =some (iv (i:Int)):=by simp[aU,eD,h]
def aCl(q : Piece)(s : aI)(A1 A2 A3 A4 : Option Addr)(n1 k1 n2 k2 n3 k3 n4 k4 : Nat)(c : Nat)(w : World)(C : vB q s A1 n1 A2 n2 A3 n3 A4 n4)(hm : s.Bv)(hq : q.Le (all w))(hc : c < s.aL.length) :
    Cz 119 #[.agg #[.slice A1 n1 k1,.slice A2 n2 k2,.slice A3 n3 k3,.slice A4 n4 k4],iv (c:Int)] w (Wv (Lv (fV s c)) w):=by
  obtain⟨rfl,rfl,rfl,rfl⟩:=C.len;refine fP func119 ntmps119 ?_;refine Eg q aB hq ?_;refine aF ?_;refine eI fun I=>?_;refine aF ?_;refine oF 3 1 ?_;refine cF [(1,iv (c:Int)),(5,sn),(2,pt I)] ?_;refine aF ?_;refine gA (fun m e R H=>∃(d:Nat) (l:List Nat) (A:Option Addr) (k:Nat),d < s.aL.length/\l.length<=s.aL.length/\m=s.aL.length - l.length/\fV s c=l++mT s (s.aL.length - l.length) d/\e=[(1,iv (d:Int)),(5,.slice A l.length k),(2,pt I)]/\R=[q,all w]/\H=[HP.own 3 1 (.slice A l.length k) l.length (aU (eD l)),HP.aK I 30 [.slice A1 s.aL.length k1,.slice A2 s.domains.length k2,.slice A3 s.bG.length k3,.slice A4 s.aG.length k4]]) s.aL.length ⟨c,[],none,0,hc,aB,rfl,rfl,rfl,rfl,rfl⟩ fun m e R H hI=>?_;obtain⟨d,l,A,k,D,Qo,rfl,j,rfl,rfl,rfl⟩:=hI;refine fO ?_;refine Rn 22 (l.length < s.aL.length) ?_ ?_
  · skip
    refine jS ?_;refine jP rfl aE ?_;refine aMR rfl rfl aE ?_;refine jP rfl aE ?_;refine cH (t:=8) rfl (fun O=>?_) (fun O=>?_)
    .
      refine nK rfl rfl ?_;refine jP rfl aE ?_;refine nK rfl rfl ?_;refine Ma (off:=0) aJ rfl aE ?_;refine nK rfl rfl ?_;refine aAE rfl ?_;refine nK rfl rfl ?_;refine Ou (el:=73) aJ rfl aE ?_;refine nK rfl rfl ?_;refine aG3 rfl rfl aE ?_
      (first | refine Lx rfl rfl aE ?_ | refine Ly rfl rfl aE ?_)
      refine jP rfl aE ?_;refine cH (t:=15) rfl (fun O=>?_) (fun O=>?_)
      .
        refine nK rfl rfl ?_;refine jP rfl aE ?_;refine nK rfl rfl ?_;refine Ou (el:=3) aJ rfl aE ?_;refine nK rfl rfl ?_;refine Ma (off:=0) aJ rfl aE ?_;refine nK rfl rfl ?_;refine aAE rfl ?_;refine nK rfl rfl ?_;refine Ou (el:=73) aJ rfl aE ?_;refine nK rfl rfl ?_;refine aG3 rfl rfl aE ?_
        (first | refine Lx rfl rfl aE ?_ | refine Ly rfl rfl aE ?_)
        refine iJ ?_;exact Wk (by repeat (first | exact trivial | refine⟨rfl,?_⟩)) (Zq rfl aA)
      .
        refine qL rfl rfl rfl aE ?_;refine qL rfl rfl rfl aE ?_;refine qL rfl rfl rfl aE ?_;refine qL rfl rfl rfl aE ?_;refine qL rfl rfl rfl aE ?_;refine qL rfl rfl rfl aE ?_
        (first | refine Lx rfl rfl aE ?_ | refine Ly rfl rfl aE ?_)
        refine iJ ?_;exact Wk (by repeat (first | exact trivial | refine⟨rfl,?_⟩)) (aER rfl aA)
    .
      refine qL rfl rfl rfl aE ?_;refine qL rfl rfl rfl aE ?_;refine qL rfl rfl rfl aE ?_;refine qL rfl rfl rfl aE ?_;refine qL rfl rfl rfl aE ?_
      (first | refine Lx rfl rfl aE ?_ | refine Ly rfl rfl aE ?_)
      refine jP rfl aE ?_;refine qL rfl rfl rfl aE ?_;refine qL rfl rfl rfl aE ?_;refine qL rfl rfl rfl aE ?_;refine qL rfl rfl rfl aE ?_;refine qL rfl rfl rfl aE ?_;refine qL rfl rfl rfl aE ?_
      (first | refine Lx rfl rfl aE ?_ | refine Ly rfl rfl aE ?_)
      refine iJ ?_;exact Wk (by repeat (first | exact trivial | refine⟨rfl,?_⟩)) (aER rfl aA)
  refine dD rfl (fun h=>?_) (fun h=>?_)
  .
    refine aF ?_
    have hlt:l.length < s.aL.length:=h
    obtain⟨x,M⟩:∃x,s.aL[d]? =some x:=⟨_,cX D⟩
    obtain⟨U,hk0⟩:∃U,s.aL.length - l.length=U+1:=⟨s.aL.length - l.length - 1,aA⟩
    rw[hk0,aKD M] at j
    have hn9:=hm.nc
    have z:=(hm.aL d x M).1
    refine aF ?_;refine eX fun g2=>?_;refine jU 1 1 8 1 (n':=l.length+1) (el:=3) aJ aJ aE rfl rfl rfl (tU 0 rfl rfl) (by simp[Value.oneCell']) rfl aA aA aE fun A' k'=>?_;dsimp only[List.set];rw[show aU (eD l)++[Value.int .i64 (d:Int)]=aU (eD (l++[d])) by simp[aU,eD]];refine xL [1,2] rfl aE (R':=[q,all w]) aB ?_;refine kC rfl aE ?_;refine iJ ?_;refine fO ?_;refine fO ?_;obtain⟨bC,oC,rC,rfl,B,_,hR,E⟩:=C.iO.Dd M;obtain⟨As,ns,ks,rfl,rfl,K⟩:=hR;refine jS ?_;refine Ma (off:=0) aJ rfl aE ?_;refine aAE rfl ?_;refine jP rfl aE ?_;refine kd (dat (d) (oC+d*6)) ?_;refine Ma (off:=1) aJ rfl aE ?_;refine Jh aJ rfl (Rd.ro (p:=q) aB B (E 1 _ rfl)) aE ?_;refine Ou (el:=3) aJ rfl aE ?_;refine aG6 rfl rfl aE ?_;refine iJ ?_;refine dD rfl (fun h0=>?_) (fun h0=>?_)
    .
      refine aF ?_
      have i:x.src=[]:=Fh (by have:((x.src.length:Nat):Int)=0:=h0;omega)
      rw[i] at j
      have n:(l++[d])=fV s c:=j.symm
      refine aFL [] [0] [] aB rfl aE aE fun qf o _ r=>?_;obtain⟨Ff,T,V⟩:=o 0 _ aB rfl;obtain⟨N,cv,L,y⟩:=Em (Y:=qf.Z) T V
      exact xM rfl rfl fun w1 st=>⟨⟨_,rfl,by
        rw[<-n];unfold Lv;rw[L]
        exact⟨N,cv,aB,by simpa using aO.le y (st.oA aB (r aB aB))⟩⟩,st.below aB⟩
    .
      refine sQ ?_;refine eR ?_
      obtain⟨f,G,i⟩:∃f G,x.src=f::G:=by
        cases i:x.src with
        | nil=>exact absurd (by rw[i];rfl) h0
        | cons f G=>exact⟨f,G,rfl⟩
      have hf:=z f (by rw[i];simp)
      obtain⟨F,rfl⟩:∃F:Nat,f=(F:Int):=⟨f.toNat,aA⟩
      rw[i] at j;obtain⟨bS,oS,rfl,J,X⟩:=K.2 (by rw[i];simp);refine jS ?_;refine Ma (off:=0) aJ rfl aE ?_;refine aAE rfl ?_;refine jP rfl aE ?_;refine kd (dat (d) (oC+d*6)) ?_;refine Ma (off:=1) aJ rfl aE ?_;refine Jh aJ rfl (Rd.ro (p:=q) aB B (E 1 _ rfl)) aE ?_;refine aMU 0 oS (el:=3) (sz:=1) aJ aJ rfl rfl rfl (by rw[i];simp) aA aE ?_;refine Jh aJ rfl (Rd.ro (p:=q) aB J (X 0 _ (by rw[i];rfl))) aE ?_;refine aF ?_;exact cF [(1,iv (F:Int)),(5,.slice A' (l.length+1) k'),(2,pt I)] (iZ (s.aL.length - (l.length+1)) aA ⟨F,l++[d],A',k',aA,by simp;omega,aB,by rw[j];simp[show s.aL.length - (l.length+1)=U by omega],aB,rfl,aB⟩)
  .
    refine aF ?_
    have hge:¬l.length < s.aL.length:=h
    rw[show s.aL.length - l.length=0 by omega] at j
    have n:l=fV s c:=by rw[j];simp[mT]
    refine aFL [] [0] [] aB rfl aE aE fun qf o _ r=>?_;obtain⟨Ff,T,V⟩:=o 0 _ aB rfl;obtain⟨N,cv,L,y⟩:=Em (Y:=qf.Z) T V
    exact xM rfl rfl fun w1 st=>⟨⟨_,rfl,by
      rw[<-n];unfold Lv;rw[L]
      exact⟨N,cv,rfl,aO.le y (st.oA aB (r aB aB))⟩⟩,st.below aB⟩
 in
def Qi(l:List Int)(x:Int):Int:=if x∈l then(l.idxOf x:Int) else -1
def aRL{l:List Int}{x:Int}{i:Nat}(c:∀j y,j < i->l[j]? =some y->y≠x)(h:l[i]? =some x):Qi l x=i:=by
 have n:x∈l:=dJ h
 rw[Qi,aH n]
 have k:l.idxOf x=i:=by
  induction l generalizing i with
  | nil=>simp at h
  | cons a r ih =>
   cases i with
   | zero=>simp at h;subst h;simp
   | succ i=>
    have f:a≠x:=c 0 a aA rfl
    simp at h
    have d:x∈r:=dJ h
    have e:=ih (fun j y p m=>c (j+1) y aA (by simpa using m)) h d
    have o:(a==x)=false:=by simpa using f
    rw[List.idxOf_cons,o];simp[e]
 rw[k]
def aRJ{l:List Int}{x:Int}(c:∀(j:Nat) (y:Int),l[j]? =some y->y≠x):Qi l x= -1:=by
 rw[Qi,aC];intro e;obtain⟨j,d⟩:=lA e;exact c j x d rfl
def aRK(l:List Int)(x:Int):decide (0<=Qi l x)=decide (x∈l):=by
 unfold Qi
 by_cases h:x∈l<;>simp[h]
def zY(s:aI)(c id:Int):Bool:=decide (id∈eD (fV s c.toNat))
def Fm(s:aI)(k id:Int)(d:bR):Bool:=
 if k=100\/k=107 then decide (d.domain=id) else if k=111 then zY s d.clock id else if k=97 then decide (d.reset=id) else false
def Fz(s:aI)(wt:List Int)(k id:Int)(i:Nat):Bool:=decide (0 < (wt[i]?).getD 0)&&((s.aG[i]?).any fun d=>Fm s k id d)
def Is(s:aI)(wt:List Int)(k id:Int):Bool:=(List.range s.aG.length).any (Fz s wt k id)
def aCq{s:aI}{wt:List Int}{k id:Int}{i:Nat}(hi:i < s.aG.length)(h:Fz s wt k id i=true):Is s wt k id=true:=by
 rw[Is,Mt];exact⟨i,mI.2 hi,h⟩
def aF8{s:aI}{wt:List Int}{k id:Int}(h:∀i,i < s.aG.length->Fz s wt k id i=false):Is s wt k id=false:=by
 rw[Is,Yd];intro i c;simp[h i (mI.1 c)]
def yN(s:aI)(x y:bM)(k id:Int)(i:Nat):Bool:=
 if k=100\/k=107 then((s.domains[i]?).any fun d=>decide (d.above=id))&&qN x y k i
 else decide ((i:Int)≠id)&&(qN x y k i&&zY s i id)
def Hz(s:aI)(k:Int):Nat:=if k=100\/k=107 then s.domains.length else if k=111 then s.aL.length else 0
def Ia(s:aI)(x y:bM)(k id:Int):Bool:=(List.range (Hz s k)).any (yN s x y k id)
def aJs{s:aI}{x y:bM}{k id:Int}{i:Nat}(hi:i < Hz s k)(h:yN s x y k id i=true):Ia s x y k id=true:=by
 rw[Ia,Mt];exact⟨i,mI.2 hi,h⟩
def Zm{s:aI}{x y:bM}{k id:Int}(h:∀i,i < Hz s k->yN s x y k id i=false):Ia s x y k id=false:=by
 rw[Ia,Yd];intro i c;simp[h i (mI.1 c)]
def Cb(s:aI)(x y:bM)(ag:Nat)(k id:Int):Bool:=jW (if ag=0 then y else x) k id||Ia s x y k id
def eY(s:aI)(x y:bM)(wt:List Int)(ag:Nat)(l:List Int):Int×Int×Int:=
 if(bZ s l).1≠0\/(bZ s l).2.1=0\/jW (if ag=0 then x else y) (bZ s l).2.1 (bZ s l).2.2=decide (gR (bZ s l).2.1) then((bZ s l).1,0,0)
 else if gR (bZ s l).2.1 then
  (if(bZ s l).2.1=117/\(s.domains[(bZ s l).2.2.toNat]?).any (fun d=>decide (d.above≠ -1)&& !qN x y 117 d.above)=true then(-3,0,0) else(0,(bZ s l).2))
 else if Cb s x y ag (bZ s l).2.1 (bZ s l).2.2 then(-3,0,0)
 else if Is s wt (bZ s l).2.1 (bZ s l).2.2 then(-6,0,0)
 else(0,(bZ s l).2)
def yL(k:Int):Int:=if k=117\/k=100\/k=107 then 17 else if k=99\/k=111 then 20 else 22
def Dq(k:Int):Prop:=k=117\/k=100\/k=107\/k=99\/k=111\/k=114\/k=97
def aSN(p m:Int)(v:Int)(j:0<=v)(c:v < (eP p m).m):yL ((eP p m).act v)=p/\Dq ((eP p m).act v):=by
 have e:∀f:mV,sP p m=some f->v < f.m->yL (f.act v)=p/\Dq (f.act v):=by
  intro f d c;unfold sP at d
  have i:f.m<=3:=by
   have:=(aJx p m).2.2.1
   unfold eP sP at this;rw[d] at this;exact this
  rcases(by omega:v=0\/v=1\/v=2) with rfl | rfl | rfl<;>
  .repeat' split at d
   all_goals first
    | (cases d;done)
    | (cases d;simp at c;done)
    | (cases d;simp_all [yL,Dq,mV.act])
 unfold eP at c|-;cases h:sP p m with
 | none=>rw[h] at c;simp at c;omega
 | some f=>rw[h] at c;exact e f h c
def aBk{s : aI}{l : List Int}(m : nH l) : ((bZ s l).2.1 = 0 /\ (bZ s l).2.2 = 0) \/ ((bZ s l).1 = 0 /\ Dq (bZ s l).2.1 /\ 0 <= (bZ s l).2.2 /\ (bZ s l).2.2 < (xB s (yL (bZ s l).2.1) : Int) /\
  ((bZ s l).2.1=107->Js s (bZ s l).2.2.toNat=true)/\(yL (bZ s l).2.1=20->rA s (bZ s l).2.2.toNat)):=by
 unfold bZ;split
 .exact .inl ⟨rfl,rfl⟩
 .rename_i w r
  split
  .exact .inl ⟨rfl,rfl⟩
  .split
   .exact .inl ⟨rfl,rfl⟩
   .split
    .exact .inl ⟨rfl,rfl⟩
    .split
     .exact .inl ⟨rfl,rfl⟩
     .have hd : ∀ i, 0 <= r.getD i 0 := fun i => by
       rw[mZ];cases k:r[i]? with
       | none=>exact Br _
       | some x=>exact(m x (vL _ (dJ k))).1
      have d:=hd 0
      have j:=hd ((eP (eN w) (fB w)).n.toNat - 1)
      generalize r.getD 0 0=id at *;generalize r.getD ((eP (eN w) (fB w)).n.toNat - 1) 0=v at *;unfold xI;split
      .exact .inl ⟨rfl,rfl⟩
      .split
       .exact .inl ⟨rfl,rfl⟩
       .split
        .exact .inl ⟨rfl,rfl⟩
        .split
         .exact .inl ⟨rfl,rfl⟩
         .rename_i y t z e
          obtain⟨f,h⟩:=aSN (eN w) (fB w) v j aA;refine .inr ⟨rfl,h,d,by dsimp only;rw[f];omega,fun c=>?_,fun c=>?_⟩
          .dsimp only at c|-;cases o:Js s id.toNat with
           | true=>rfl
           | false=>exact absurd (.inl ⟨c,o⟩) e
          .dsimp only at c|-;rw[f] at c;exact Decidable.byContradiction fun p=>e (.inr ⟨c,p⟩)
def aO.int{w:World}{A:Option Addr}{n:Nat}{l:List Int}(h:aO (all w) 1 A n (aU l))(e:0 < n):∃b off,A=some ⟨b,off,none⟩/\∀(i:Nat) (x:Int),l[i]? =some x->iD w b (off+i) (iv x):=by
 obtain⟨b,off,f,j,c⟩:=h.2 e;refine⟨b,off,f,fun i x d=>⟨j,c i _ ?_⟩⟩;simp only[aU,eO,d,lO]
def aRI(A:Option Addr)(n c:Nat)(l:List Int)(x:Int)(w:World)(hs:aO (all w) 1 A n (aU l))(K:n=l.length)(I:n<=1000000):
  Cz 231 #[.slice A n c,iv x] w (Rt (iv (Qi l x)) w):=by
 refine bQ func231 ntmps231 ?_;refine wC [(8,iv 0),(7,iv n),(1,iv x),(0,.slice A n c)] ?_;refine gA (fun m e R H=>∃(i:Nat),i<=n/\m=n - i/\(∀(j:Nat) (y:Int),j < i->l[j]? =some y->y≠x)/\e=[(8,iv i),(7,iv n),(1,iv x),(0,.slice A n c)]/\R=[all w]/\H=[]) n ⟨0,aA,rfl,(fun j y z=>absurd z (Ju j)),rfl,rfl,rfl⟩ fun m e R H C=>?_;obtain⟨i,J,rfl,f,rfl,rfl,rfl⟩:=C;refine aF ?_;refine eG (fun h=>?_) (fun h=>?_)
 .
  have E:i < n:=by have G:(i:Int) < (n:Int):=h;omega
  obtain⟨y,k⟩:∃y,l[i]? =some y:=⟨l[i]' aA,cX _⟩
  obtain⟨b,off,rfl,B⟩:=hs.int aA
  have F:=B i y k
  refine aF ?_;refine eG (fun p=>?_) (fun p=>?_)
  .
   exact bK (h:=fun _ _=>by rw[aRL (i:=i) f (p▸k)])
  .
   exact fX (n - (i+1)) ⟨i+1,aA,rfl,(fun j D z d=>by
    rcases dI j i with t | t
    .exact f j D t d
    .have o:j=i:=aA
     subst o;rw[k] at d;cases d
     exact fun h=>p h.symm),rfl,rfl,rfl⟩
 .
  have r:i=n:=by have G:¬(i:Int) < (n:Int):=h;omega
  subst r;exact bK (h:=fun _ _=>by rw[aRJ (fun j y k=>f j y (by have:=(cE.1 k).1;omega) k)])
def aKw(A:Option Addr)(n c:Nat)(l:List Int)(x:Int)(w:World)(hs:aO (all w) 1 A n (aU l))(f:n=l.length)(d:n<=1000000):
  Cz 214 #[.slice A n c,iv x] w (Rt (.bool (decide (x∈l))) w):=by
 refine bQ func214 ntmps214 ?_;refine cR (fun e st=>aRI A n c l x e (hs.le (st.le aB)) f d) ?_;exact bK (h:=fun _ _=>by rw[<-aRK])
def aVC(q:Piece)(s:aI)(A1 A2 A3 A4:Option Addr)(n1 k1 n2 k2 n3 k3 n4 k4:Nat)(F:Option Addr)(A L:Nat)(wt:List Int)(k id:Int)(w:World)(o:vB q s A1 n1 A2 n2 A3 n3 A4 n4)(hm:s.Bv)(J:q.Le (all w))(hw:aO (all w) 1 F A (aU wt))(hnw:A=wt.length):
  Cz 178 #[.agg #[.slice A1 n1 k1,.slice A2 n2 k2,.slice A3 n3 k3,.slice A4 n4 k4],.slice F A L,.agg #[.int .u8 k,iv id]] w (Rt (.bool (Is s wt k id)) w):=by
 obtain⟨rfl,rfl,rfl,rfl⟩:=o.len;refine fP func178 ntmps178 ?_;refine Eg q aB J ?_;refine aF ?_;refine iG fun M=>?_;refine iG fun K=>?_;refine xO (α:=Unit) (fun _=>[]) (fun _=>[]) (fun _=>∀j,j < s.aG.length->Fz s wt k id j=false) ?_ fun _ m=>?_
 .refine wD (α:=Unit) (fun i _=>[(12,iv i),(11,iv s.aG.length),(10,.slice A4 s.aG.length k4),(5,pt K),(3,pt M),(1,.slice F A L)]) (fun _ _=>[HP.aK K 150 [.int .u8 k,iv id],HP.aK M 30 [.slice A1 s.aL.length k1,.slice A2 s.domains.length k2,.slice A3 s.bG.length k3,.slice A4 s.aG.length k4]]) (fun i _=>∀j,j < i->Fz s wt k id j=false) s.aG.length () (fun j x=>absurd x (Ju j)) fun i _ hi m=>?_
  have e:Fz s wt k id i=false->∀j,j < i+1->Fz s wt k id j=false:=fun h j x=>by
   rcases(by omega:j < i\/j=i) with x | rfl
   .exact m j x
   .exact h
  have hnc:=hm.nc
  have hnd:=hm.nd
  have N:=hm.nv
  refine aF ?_;refine bP (fun h=>?_) (fun h=>?_)
  .have f:i < s.aG.length:=aA
   obtain⟨d,hd⟩:=get_some f;obtain⟨hx1,hx2,V,hx4,O,hx6,_⟩:=hm.aG i d hd;obtain⟨bV,oV,rV,rfl,B,_,hR,z⟩:=o.dev.Dd hd;obtain⟨Ar,nr,kr,An,nn,kn,rfl,_⟩:=hR;obtain⟨r,C⟩:∃r:Nat,d.clock=(r:Int):=⟨d.clock.toNat,aA⟩
   rw[C] at z
   have hk:=eL.le B z J
   have c:Fz s wt k id i=(decide (0 < (wt[i]?).getD 0)&&Fm s k id d):=by rw[Fz,hd];rfl
   refine aF ?_;refine kK fun g3=>?_;refine cH (t:=21) rfl (fun U=>?_) (fun U=>?_)
   .refine aF ?_;exact oG () (hg:=e (by rw[c,eW aA];rfl))
   obtain⟨y,H⟩:=get_some (l:=wt) (i:=i) aA;obtain⟨bW,oW,rfl,D⟩:=hw.int aA
   have R:=D i y H
   rw[H] at c;refine aF ?_;refine bP (fun G=>?_) (fun G=>?_)
   .refine aF ?_;exact oG () (hg:=e (by rw[c,gW (by simpa using G)];rfl))
   rw[eM (show 0 < (some y).getD 0 by simpa using G)] at c;refine aF ?_;refine cH (t:=30) rfl (fun Y=>?_) (fun Y=>?_)
   .refine aF ?_;refine eG (fun n=>?_) (fun n=>?_)
    .exact dP (by rw[aCq f (by rw[c];unfold Fm zY;simp_all)])
    .exact oG () (hg:=e (by rw[c];unfold Fm zY;simp_all))
   refine aF ?_;refine cH (t:=30) rfl (fun Z=>?_) (fun Z=>?_)
   .refine aF ?_;refine eG (fun n=>?_) (fun n=>?_)
    .exact dP (by rw[aCq f (by rw[c];unfold Fm zY;simp_all)])
    .exact oG () (hg:=e (by rw[c];unfold Fm zY;simp_all))
   refine aF ?_;refine cH (t:=38) rfl (fun hC=>?_) (fun hC=>?_)
   .refine aF ?_;refine xN ?_;refine aR 3 ?_;refine jL [q] (Lv (fV s r)) (fun I st=>aCl q s _ _ _ _ _ k1 _ k2 _ k3 _ k4 r I o hm (st.le aB) aA) ?_;rintro _ I q1 ⟨Ac,cc,rfl,p⟩ hf X _
    have p:=p.le hf
    have E:=aCm s s.aL.length r
    refine bH ?_ (hS:=fun _ h=>h.cN);refine aR 6 ?_;refine cM (fun T st=>aKw Ac _ cc (eD (fV s r)) id T (p.le (st.le aB)) (by simp[eD]) (by unfold fV;omega)) ?_;refine cT ?_;refine kA ?_;refine eG (fun n=>?_) (fun n=>?_)
    .exact dP (by rw[aCq f (by rw[c];unfold Fm zY;simp_all)])
    .exact oG () (hg:=e (by rw[c];unfold Fm zY;simp_all))
   refine aF ?_;refine cH (t:=47) rfl (fun hD=>?_) (fun hD=>?_)
   .refine aF ?_;refine eG (fun n=>?_) (fun n=>?_)
    .exact dP (by rw[aCq f (by rw[c];unfold Fm zY;simp_all)])
    .exact oG () (hg:=e (by rw[c];unfold Fm zY;simp_all))
   refine aF ?_;exact oG () (hg:=e (by rw[c];unfold Fm zY;simp_all))
  .refine aF ?_;exact eF () (hg:=fun j x=>m j aA)
 .refine aF ?_;exact dP (by rw[aF8 m])
def xR.box{q:Piece}{x y:bM}{A1 A2 A3 l e d:Option Addr}{n1 k1 n2 k2 n3 k3 n f p h o k:Nat}{w:World}{g:Nat}
  (hx:xR q x y (.agg #[.slice A1 n1 k1,.slice A2 n2 k2,.slice A3 n3 k3,.slice l n f,.slice e p h,.slice d o k])) (c:q.Le (all w)) (hg:eL w g 0 [.slice A1 n1 k1,.slice A2 n2 k2,.slice A3 n3 k3,.slice l n f,.slice e p h,.slice d o k]):StM w g x y:=by
 obtain⟨O,G,E,M,R,H,L,J,D,N,K,I,m,A,t,C,r,B,z⟩:=hx;simp only[Value.agg.injEq,Array.mk.injEq,List.cons.injEq,Value.slice.injEq] at m;obtain⟨⟨rfl,rfl,rfl⟩,⟨rfl,rfl,rfl⟩,⟨rfl,rfl,rfl⟩,⟨rfl,rfl,rfl⟩,⟨rfl,rfl,rfl⟩,⟨rfl,rfl,rfl⟩,_⟩:=m;intro i F;rcases(by omega:i=0\/i=1) with rfl | rfl
 .exact⟨A1,k1,A2,k2,A3,k3,by simpa using hg.at_ (j:=0) rfl,by simpa using hg.at_ (j:=1) rfl,by simpa using hg.at_ (j:=2) rfl,A.le c,t.le c,C.le c⟩
 .exact⟨l,f,e,h,d,k,by simpa using hg.at_ (j:=3) rfl,by simpa using hg.at_ (j:=4) rfl,by simpa using hg.at_ (j:=5) rfl,r.le c,B.le c,z.le c⟩
def aUG(q qx:Piece)(s:aI)(A1 A2 A3 A4:Option Addr)(n1 k1 n2 k2 n3 k3 n4 k4:Nat)(T X2 R X V Z:Option Addr)(C B F o A l n z m r D E:Nat)(x y:bM)(ag:Nat)(k id:Int)(w:World)(Y:vB q s A1 n1 A2 n2 A3 n3 A4 n4)(hm:s.Bv)(hq:q.Le (all w))(U:xR qx x y (.agg #[.slice T C B,.slice X2 F o,.slice R A l,.slice X n z,.slice V m r,.slice Z D E]))(Zc:qx.Le (all w))(hag:ag < 2):
  Cz 177 #[.agg #[.slice A1 n1 k1,.slice A2 n2 k2,.slice A3 n3 k3,.slice A4 n4 k4],.agg #[.slice T C B,.slice X2 F o,.slice R A l,.slice X n z,.slice V m r,.slice Z D E],iv (ag:Int),.agg #[.int .u8 k,iv id]] w (Rt (.bool (Cb s x y ag k id)) w):=by
 obtain⟨rfl,rfl,rfl,rfl⟩:=Y.len
 have hnc:=hm.nc
 have hnd:=hm.nd
 have nx:∀{i:Nat} {p:Nat->Prop},(∀j,j < i->p j)->p i->∀j,j < i+1->p j:=fun {i p} J h2 j I=>by
  rcases(by omega:j < i\/j=i) with I | rfl
  .exact J j I
  .exact h2
 refine fP func177 ntmps177 ?_;refine Eg qx aB Zc ?_;refine Eg q aB hq ?_;refine aF ?_;refine iG fun N=>?_;refine iG fun H=>?_;refine iG fun M=>?_;refine xO (α:=Unit) (fun _=>[(7,pt M),(5,pt H),(4,pt N)]) (fun _=>[HP.aK M 150 [.int .u8 k,iv id],HP.aK H 145 [.slice T C B,.slice X2 F o,.slice R A l,.slice X n z,.slice V m r,.slice Z D E],HP.aK N 30 [.slice A1 s.aL.length k1,.slice A2 s.domains.length k2,.slice A3 s.bG.length k3,.slice A4 s.aG.length k4]]) (fun _=>jW (if ag=0 then y else x) k id=false) ?_ fun _ L=>?_
 .refine wD (α:=Unit) (fun i _=>[(13,iv i),(7,pt M),(5,pt H),(4,pt N),(2,iv (ag:Int))]) (fun _ _=>[HP.aK M 150 [.int .u8 k,iv id],HP.aK H 145 [.slice T C B,.slice X2 F o,.slice R A l,.slice X n z,.slice V m r,.slice Z D E],HP.aK N 30 [.slice A1 s.aL.length k1,.slice A2 s.domains.length k2,.slice A3 s.bG.length k3,.slice A4 s.aG.length k4]]) (fun i _=>∀j:Nat,j < i->¬(j:Int)=ag->jW (if j=0 then x else y) k id=false) 2 () (fun j I=>absurd I (Ju j)) fun i _ hi c=>?_;refine aF ?_;refine bP (fun h=>?_) (fun h=>?_)
  .have hi2:i < 2:=aA
   refine aF ?_;refine cH (t:=19) rfl (fun J=>?_) (fun J=>?_)
   .refine aF ?_;refine cM (fun w1 st=>aDl H i (if i=0 then x else y) k id w1 hi2 (xR.box U (st.le aB) (st.box (i:=1) rfl) i hi2)) ?_;cases hb:jW (if i=0 then x else y) k id
    .refine aF ?_;exact oG () (hg:=nx c fun _=>hb)
    .refine aF ?_;refine lD aB ?_
     have L:jW (if ag=0 then y else x) k id=true:=by
      rcases(by omega:(i=0/\ag=1)\/(i=1/\ag=0)) with⟨rfl,rfl⟩ | ⟨rfl,rfl⟩<;>simpa using hb
     rw[Cb,L];rfl
   .refine aF ?_;exact oG () (hg:=nx c fun hc=>absurd hc J)
  .obtain rfl:i=2:=by omega
   refine aF ?_;refine eF () (hg:=?_);rcases(by omega:ag=0\/ag=1) with rfl | rfl
   .simpa using c 1 aA aA
   .simpa using c 0 aA aA
 have f:Cb s x y ag k id=Ia s x y k id:=by rw[Cb,L,Bool.false_or]
 refine fO ?_;refine fO ?_;refine jS ?_;refine bN ?_;refine bN ?_;refine iJ ?_;refine Gf ?_;refine Ll (α:=Bool) (fun b=>[(30,.bool b),(29,.int .u8 k),(7,pt M),(5,pt H),(4,pt N)]) (fun _=>[HP.aK M 150 [.int .u8 k,iv id],HP.aK H 145 [.slice T C B,.slice X2 F o,.slice R A l,.slice X n z,.slice V m r,.slice Z D E],HP.aK N 30 [.slice A1 s.aL.length k1,.slice A2 s.domains.length k2,.slice A3 s.bG.length k3,.slice A4 s.aG.length k4]]) (fun b=>b=true↔k=100\/k=107) ?_ fun b hb=>?_
 .refine aF ?_;refine cH (t:=30) rfl (fun hA=>?_) (fun hA=>?_)
  .refine aF ?_;exact eF true (hg:=by simp[hA])
  .refine aF ?_;refine cH (t:=30) rfl (fun hB=>?_) (fun hB=>?_)
   .exact eF true (hg:=by simp[hB])
   .exact eF false (hg:=by simp[hA,hB])
 cases b
 .have G:¬(k=100\/k=107):=fun hh=>by simpa using hb.2 hh
  refine aF ?_;refine cH (t:=53) rfl (fun hC=>?_) (fun hC=>?_)
  .have K:Hz s k=s.aL.length:=by rw[Hz,aC G,aH hC]
   refine aF ?_;refine wD (α:=Unit) (fun i _=>[(58,iv i),(57,iv s.aL.length),(7,pt M),(5,pt H),(4,pt N)]) (fun _ _=>[HP.aK M 150 [.int .u8 k,iv id],HP.aK H 145 [.slice T C B,.slice X2 F o,.slice R A l,.slice X n z,.slice V m r,.slice Z D E],HP.aK N 30 [.slice A1 s.aL.length k1,.slice A2 s.domains.length k2,.slice A3 s.bG.length k3,.slice A4 s.aG.length k4]]) (fun i _=>∀j,j < i->yN s x y k id j=false) s.aL.length () (fun j I=>absurd I (Ju j)) fun i _ hi c=>?_;refine aF ?_;refine bP (fun h=>?_) (fun h=>?_)
   .have O:i < s.aL.length:=aA
    have e:yN s x y k id i=(decide ((i:Int)≠id)&&(qN x y k i&&decide (id∈eD (fV s i)))):=by rw[yN,aC G,zY,dL]
    refine aF ?_;refine Nz ?_;refine Ob 65 rfl (fun J=>?_) (fun J=>?_)
    .rw[eM J] at e;refine lJ 5 ?_;refine aR 8 ?_;refine aF ?_;refine cM (fun w1 st=>aDn H x y k i w1 (xR.box U (st.le aB) (st.box (i:=1) rfl))) ?_;cases hw:qN x y k i
     all_goals
      rw[hw] at e;refine bH ?_;refine lJ 9 ?_
     .refine Iz 13 ?_;refine lJ 14 ?_;refine Iz 16 ?_;refine lJ 17 ?_;refine kA ?_;exact oG () (hg:=nx c (by rw[e];rfl))
     .refine aR 13 ?_;refine aF ?_;refine jL [q] (Lv (fV s i)) (fun w2 st=>aCl q s _ _ _ _ _ k1 _ k2 _ k3 _ k4 i w2 Y hm (st.le aB) aA) ?_;rintro _ w2 q1 ⟨Ac,cc,rfl,Nf⟩ hf hle _
      have Nf:=Nf.le hf
      have aXU:=aCm s s.aL.length i
      refine bH ?_ (hS:=fun _ h=>h.cN);refine aR 16 ?_;refine aF ?_;refine cM (fun w3 st=>aKw Ac _ cc (eD (fV s i)) id w3 (Nf.le (st.le aB)) (by simp[eD]) (by unfold fV;omega)) ?_;refine bH ?_ (hS:=fun _ h=>h.cN);refine kG 17 ?_;refine kA ?_;refine eG (fun h4=>?_) (fun h4=>?_)
      .exact dP (by rw[f,aJs (by rw[K];exact O) (by rw[e,eM h4];rfl)])
      .exact oG () (hg:=nx c (by rw[e,gW h4];rfl))
    .refine lJ 5 ?_;refine Iz 8 ?_;refine lJ 9 ?_;refine Iz 13 ?_;refine lJ 14 ?_;refine Iz 16 ?_;refine lJ 17 ?_;refine kA ?_;exact oG () (hg:=nx c (by rw[e,gW J];rfl))
   .refine aF ?_;exact dP (by rw[f,Zm (by rw[K];exact fun j I=>c j aA)])
  .refine aF ?_;exact dP (by rw[f,Zm (by rw[Hz,aC G,aC hC];exact fun j I=>absurd I (Ju j))])
 .have G:k=100\/k=107:=hb.1 rfl
  have K:Hz s k=s.domains.length:=by rw[Hz,aH G]
  refine aF ?_;refine wD (α:=Unit) (fun i _=>[(36,iv i),(35,iv s.domains.length),(34,.slice A2 s.domains.length k2),(7,pt M),(5,pt H),(4,pt N)]) (fun _ _=>[HP.aK M 150 [.int .u8 k,iv id],HP.aK H 145 [.slice T C B,.slice X2 F o,.slice R A l,.slice X n z,.slice V m r,.slice Z D E],HP.aK N 30 [.slice A1 s.aL.length k1,.slice A2 s.domains.length k2,.slice A3 s.bG.length k3,.slice A4 s.aG.length k4]]) (fun i _=>∀j,j < i->yN s x y k id j=false) s.domains.length () (fun j I=>absurd I (Ju j)) fun i _ hi c=>?_;refine aF ?_;refine bP (fun h=>?_) (fun h=>?_)
  .have O:i < s.domains.length:=aA
   obtain⟨d,hd⟩:=get_some O;obtain⟨bD,oD,rD,rfl,Za,_,rfl,Qp⟩:=Y.dom.Dd hd
   have hk:=eL.le Za Qp hq
   have e:yN s x y k id i=(decide (d.above=id)&&qN x y k i):=by rw[yN,aH G,hd];rfl
   refine aF ?_;refine kK fun g4=>?_;refine cH (t:=46) rfl (fun J=>?_) (fun J=>?_)
   .rw[eM J] at e;refine aF ?_;refine cM (fun w1 st=>aDn H x y k i w1 (xR.box U (st.le aB) (st.box (i:=2) rfl))) ?_;cases hw:qN x y k i
    all_goals
     rw[hw] at e;refine aF ?_
    .exact oG () (hg:=nx c e)
    .exact dP (by rw[f,aJs (by rw[K];exact O) e])
   .refine aF ?_;exact oG () (hg:=nx c (by rw[e,gW J];rfl))
  .refine aF ?_;exact dP (by rw[f,Zm (by rw[K];exact fun j I=>c j aA)])
def aUN(q qx:Piece)(s:aI)(A1 A2 A3 A4:Option Addr)(n1 k1 n2 k2 n3 k3 n4 k4:Nat)(X1 X2 X3 Y1 Y2 Y3:Option Addr)(L K O E I r C H z G M N:Nat)(x y:bM)(Aw:Option Addr)(nw cw:Nat)(wt:List Int)(ag:Nat)(Al:Option Addr)(V cl:Nat)(l:List Int)(w:World)(n:vB q s A1 n1 A2 n2 A3 n3 A4 n4)(hm:s.Bv)(hq:q.Le (all w))(D:xR qx x y (.agg #[.slice X1 L K,.slice X2 O E,.slice X3 I r,.slice Y1 C H,.slice Y2 z G,.slice Y3 M N]))(Zc:qx.Le (all w))(hw:aO (all w) 1 Aw nw (aU wt))(hnw:nw=wt.length)(A:ag < 2)(hl:aO (all w) 1 Al V (eB l))(vT:V=l.length)(Z:V<=1000000)(hu:nH l):
  Cz 127 #[.agg #[.slice A1 n1 k1,.slice A2 n2 k2,.slice A3 n3 k3,.slice A4 n4 k4],.agg #[.slice X1 L K,.slice X2 O E,.slice X3 I r,.slice Y1 C H,.slice Y2 z G,.slice Y3 M N],.slice Aw nw cw,iv (ag:Int),.slice Al V cl] w (Rt (aFI (eY s x y wt ag l)) w):=by
 generalize c:bZ s l=rd;obtain⟨st,k,id⟩:=rd;refine fP func127 ntmps127 ?_;refine Eg qx aB Zc ?_;refine Eg q aB hq ?_;refine aF ?_;refine eI fun g1=>?_;refine aF ?_;refine eI fun g2=>?_;refine aF ?_;refine eE fun g3=>?_;refine aF ?_;refine cH (t:=17) rfl (fun h=>absurd h aA) (fun _=>?_);refine aF ?_;refine cH (t:=21) rfl (fun h=>absurd h aA) (fun _=>?_);refine aF ?_;refine cM (v:=iv 0) (fun m st=>(aAd s A1 A2 A3 A4 n1 k1 n2 k2 n3 k3 n4 k4 m (n.W (st.le aB) hm.small)).mono fun _ _ h=>aGe h (by rw[hm.Wa])) ?_;refine aF ?_;refine cM (v:=.tuple #[.int .i32 st,.agg #[.int .u8 k,iv id]]) (fun m st=>(aPB s A1 A2 A3 A4 n1 k1 n2 k2 n3 k3 n4 k4 Al V cl l m (n.W (st.le aB) hm.small) (hl.le (st.le aB)) vT Z hu).mono fun _ _ h=>aGe h (by rw[c];rfl)) ?_;refine aF ?_;refine eE fun g4=>?_;refine aF ?_;refine Nz ?_;refine Ob 35 rfl (fun h1=>?_) (fun h1=>?_)
 .refine lJ 3 ?_;refine Iz 13 ?_;refine lJ 14 ?_;refine Iz 16 ?_;refine lJ 17 ?_;refine lW ?_;refine aF ?_
  (refine rY ?_;rw[eY,c];dsimp only;rw[aH (.inl h1)];rfl)
 refine lJ 3 ?_;refine Ob 40 rfl (fun h2=>?_) (fun h2=>?_)
 .refine lJ 8 ?_;refine Iz 13 ?_;refine lJ 14 ?_;refine Iz 16 ?_;refine lJ 17 ?_;refine lW ?_;refine aF ?_
  (refine rY ?_;rw[eY,c];dsimp only;rw[aH (.inr (.inl h2))];rfl)
 refine lJ 8 ?_;refine aR 13 ?_;refine aF ?_;refine cM (fun m st=>aDl g2 ag (if ag=0 then x else y) k id m A (xR.box D (st.le aB) (st.box (i:=2) rfl) ag A)) ?_;refine bH ?_;refine lJ 14 ?_;refine aR 16 ?_;refine aF ?_;refine cM (fun m st=>aDZ k m) ?_;refine bH ?_;refine lJ 17 ?_;refine lW ?_;refine aF ?_;refine tI rfl (fun h3=>?_) (fun h3=>?_)
 .refine aF ?_
  (refine rY ?_;rw[eY,c];dsimp only;rw[aH (.inr (.inr (by simpa using h3)))];rfl)
 have R:st=0:=by omega
 have B:¬(st≠0\/k=0\/jW (if ag=0 then x else y) k id=decide (gR k)):=fun f=>by
  rcases f with f | f | f
  .exact f R
  .exact h2 f
  .rw[f] at h3;simp at h3
 refine aF ?_;refine cM (fun m st=>aDZ k m) ?_;refine aF ?_;refine dD rfl (fun p=>?_) (fun p=>?_)
 .refine aF ?_;refine dD rfl (fun h7=>?_) (fun h7=>?_)
  .subst h7
   have U:=aBk (s:=s) hu
   rw[c] at U
   have X:=U.resolve_left (fun f=>by have:=f.1;simp at this)
   have aXP:0<=id:=X.2.2.1
   have aXO:id < (s.domains.length:Int):=X.2.2.2.1
   obtain⟨d,hd⟩:=get_some (l:=s.domains) (i:=id.toNat) aA;obtain⟨rfl,rfl,rfl,rfl⟩:=n.len;obtain⟨bD,oD,rD,rfl,Za,_,rfl,Qp⟩:=n.dom.Dd hd
   have hk:=eL.le Za Qp hq
   have ha:=hk.at_ (j:=0) rfl
   have o:(s.domains[id.toNat]?).any (fun d=>decide (d.above≠ -1)&& !qN x y 117 d.above)=(decide (d.above≠ -1)&& !qN x y 117 d.above):=by rw[hd];rfl
   refine aF ?_;refine cH (t:=69) rfl (fun h8=>?_) (fun h8=>?_)
   .rw[eM h8] at o;refine aF ?_;refine cM (fun m st=>aDn g2 x y 117 d.above m (xR.box D (st.le aB) (st.box (i:=2) rfl))) ?_;cases hw9:qN x y 117 d.above
    all_goals
     rw[hw9] at o;refine aF ?_
    ·(refine rY ?_;rw[eY,c];dsimp only;rw[aC B,aH p,aH ⟨rfl,o⟩];rfl)
    .refine Rm [2] ?_;refine aF ?_
     (refine rY ?_;rw[eY,c];dsimp only;rw[aC B,aH p,aC (fun f=>by have T:=f.2;rw[o] at T;cases T)];rfl)
   .rw[gW h8] at o;refine aF ?_;refine Rm [2] ?_;refine aF ?_
    (refine rY ?_;rw[eY,c];dsimp only;rw[aC B,aH p,aC (fun f=>by have T:=f.2;rw[o] at T;cases T)];rfl)
  .refine aF ?_;refine Rm [2] ?_;refine aF ?_
   (refine rY ?_;rw[eY,c];dsimp only;rw[aC B,aH p,aC (fun f=>h7 f.1)];rfl)
 .refine aF ?_;refine cM (fun m st=>aUG q qx s A1 A2 A3 A4 n1 k1 n2 k2 n3 k3 n4 k4 X1 X2 X3 Y1 Y2 Y3 L K O E I r C H z G M N x y ag k id m n hm (st.le aB) D (st.le aB) A) ?_;cases J:Cb s x y ag k id
  .refine aF ?_;refine cM (fun m st=>aVC q s A1 A2 A3 A4 n1 k1 n2 k2 n3 k3 n4 k4 Aw nw cw wt k id m n hm (st.le aB) (hw.le (st.le aB)) hnw) ?_;cases Y:Is s wt k id
   .refine aF ?_;refine Rm [2] ?_;refine aF ?_
    (refine rY ?_;rw[eY,c];dsimp only;rw[aC B,aC p,J,aC aB,Y,aC aB];rfl)
   .refine aF ?_
    (refine rY ?_;rw[eY,c];dsimp only;rw[aC B,aC p,J,aC aB,Y,aH rfl];rfl)
  .refine aF ?_
   (refine rY ?_;rw[eY,c];dsimp only;rw[aC B,aC p,J,aH rfl];rfl)
def nY(l:List Bool)(id:Int)(b:Bool):List Bool:=if 0<=id/\id < (l.length:Int) then l.set id.toNat b else l
def aD5{l:List Bool}{id:Int}(b:Bool)(h:¬(0<=id/\id < (l.length:Int))):nY l id b=l:=aC h
def Tb(l:List Bool)(id:Int)(b:Bool):(nY l id b).length=l.length:=by unfold nY;split<;>simp
def iL(x:bM)(k id:Int):bM:=
 if k=117\/k=100\/k=107 then⟨nY x.d id (decide (gR k)),x.c,x.l⟩
 else if k=99\/k=111 then⟨x.d,nY x.c id (decide (gR k)),x.l⟩
 else if k=114\/k=97 then⟨x.d,x.c,nY x.l id (decide (gR k))⟩ else x
def fH(x:bM)(ag:Nat)(k id:Int):bM:=if ag=0 then iL x k id else x
def iI(y:bM)(ag:Nat)(k id:Int):bM:=if ag=0 then y else iL y k id
def aVO{l:List Bool}{id:Int}(b:Bool)(h:0<=id/\id < (l.length:Int)):(bO l).set id.toNat (.bool b)=bO (nY l id b):=by
 rw[nY,aH h];simp[bO,Fi]
def St.aQd(st:St w0 R H w){i n c sz:Nat}{t:TypeId}{A:Option Addr}{xs:List Value}(hi:H[i]? =some (HP.own t sz (.slice A n c) n xs))(l:0 < n):∃g,A=some ⟨g,0,none⟩:=by
 obtain⟨_,d⟩:=st.own hi;rcases d with⟨d,k⟩ | ⟨f,e,j,h,_⟩
 .omega
 .injection h with h4 h5 h6
  exact⟨f,h4⟩
def aFO(i:Nat){n c sz:Nat}{t:TypeId}{A:Option Addr}{xs:List Value}(hi:H[i]? =some (HP.own t sz (.slice A n c) n xs))(h:n<=c->XK N w0 K e R H):XK N w0 K e R H:=fun a w f st=>by
 obtain⟨_,l⟩:=st.own hi;refine h ?_ a w f st;rcases l with⟨_,j⟩ | ⟨o,d,m,k,_,_,j,_⟩
 .omega
 .injection k with h4 h5 h6
  omega
def aAv(i:Nat){n c sz:Nat}{t:TypeId}{A:Option Addr}{xs:List Value}(hi:H[i]? =some (HP.own t sz (.slice A n c) n xs))(d:0 < n)(h:(∃g,A=some ⟨g,0,none⟩)->XK N w0 K e R H):XK N w0 K e R H:=fun a w f st=>h (st.aQd hi d) a w f st
structure iT where
 a1:AC
 a2:AC
 a3:AC
 a4:AC
 x1:AC
 x2:AC
 x3:AC
 y1:AC
 y2:AC
 y3:AC
 b0:AC
 b1:AC
structure bX where
 x:bM
 y:bM
 h0:Int
 h1:Int
 w0:List Int
 w1:List Int
 last:Int
 at_:Int
 kind:Int
 id:Int
def xF(s:aI):bX:=⟨dV s,dV s,0,0,[],[],1,-1,0,0⟩
def Bh(a:AC)(n:Nat):Value:=.slice a.1 n a.2
def lB(h:Nat)(L:iT)(s:aI)(z:bX):List Value:=[pt h,.slice L.a1.1 s.aL.length L.a1.2,.slice L.a2.1 s.domains.length L.a2.2,.slice L.a3.1 s.bG.length L.a3.2,.slice L.a4.1 s.aG.length L.a4.2,
 .slice L.x1.1 z.x.d.length L.x1.2,.slice L.x2.1 z.x.c.length L.x2.2,.slice L.x3.1 z.x.l.length L.x3.2,.slice L.y1.1 z.y.d.length L.y1.2,.slice L.y2.1 z.y.c.length L.y2.2,.slice L.y3.1 z.y.l.length L.y3.2,
 iv z.h0,.slice L.b0.1 z.w0.length L.b0.2,iv z.h1,.slice L.b1.1 z.w1.length L.b1.2,iv z.last,iv z.at_,.int .u8 z.kind,iv z.id]
def yU(L:iT)(s:aI)(p:Piece):Prop:=vB p s L.a1.1 s.aL.length L.a2.1 s.domains.length L.a3.1 s.bG.length L.a4.1 s.aG.length
def yU.le{L:iT}{s:aI}(p q:Piece)(hl:p.Le q)(h:yU L s p):yU L s q:=vB.le h hl
def tK(L:iT)(x y:bM)(p:Piece):Prop:=aO p 1 L.x1.1 x.d.length (bO x.d)/\aO p 1 L.x2.1 x.c.length (bO x.c)/\aO p 1 L.x3.1 x.l.length (bO x.l)/\aO p 1 L.y1.1 y.d.length (bO y.d)/\aO p 1 L.y2.1 y.c.length (bO y.c)/\aO p 1 L.y3.1 y.l.length (bO y.l)
def tK.le{L:iT}{x y:bM}(p q:Piece)(hl:p.Le q)(h:tK L x y p):tK L x y q:=⟨h.1.le hl,h.2.1.le hl,h.2.2.1.le hl,h.2.2.2.1.le hl,h.2.2.2.2.1.le hl,h.2.2.2.2.2.le hl⟩
def fD(a:AC)(l:List Int)(p:Piece):Prop:=aO p 1 a.1 l.length (eB l)
def fD.le{a:AC}{l:List Int}(p q:Piece)(hl:p.Le q)(h:fD a l p):fD a l q:=aO.le h hl
def xR.P{q:Piece}{x y:bM}{v:Value}(h:xR q x y v):∃o t m n p r:AC,v=.agg #[Bh o x.d.length,Bh t x.c.length,Bh m x.l.length,Bh n y.d.length,Bh p y.c.length,Bh r y.l.length]/\∀k f i w F j:AC,tK ⟨k,f,i,w,o,t,m,n,p,r,F,j⟩ x y q:=by
 obtain⟨L,A,H,N,C,B,E,z,M,I,K,D,e,k,f,i,j,J,G⟩:=h;exact⟨(L,A),(H,N),(C,B),(E,z),(M,I),(K,D),e,fun _ _ _ _ _ _=>⟨k,f,i,j,J,G⟩⟩
def jO(f h:Nat)(L:iT)(s:aI)(z:bX):HP:=HP.many [HP.aK f 152 (lB h L s z),HP.cO (yU L s) (yU.le (L:=L) (s:=s)),HP.cO (tK L z.x z.y) (tK.le (L:=L) (x:=z.x) (y:=z.y)),HP.cO (fD L.b0 z.w0) (fD.le (a:=L.b0) (l:=z.w0)),HP.cO (fD L.b1 z.w1) (fD.le (a:=L.b1) (l:=z.w1))]
def Gq(f h:Nat)(s:aI)(z:bX):HP:=HP.ex fun L:iT=>jO f h L s z
structure Oj(w:World)(f h:Nat)(L:iT)(s:aI)(z:bX):Prop where
 r0:eL w f 0 (lB h L s z)
 so:yU L s (all w)
 st:tK L z.x z.y (all w)
 b0:fD L.b0 z.w0 (all w)
 b1:fD L.b1 z.w1 (all w)
def aMz{f h:Nat}{L:iT}{s:aI}{z:bX}{F:Nat->Prop}{w:World}(k:(jO f h L s z).sat F w)(hF:∀b,F b->b < w.heap.size):Oj w f h L s z:=by
 obtain⟨G,c,e,_⟩:=k
 have d:∀i,(⟨w,G i⟩:Piece).Le (all w):=fun i b j=>⟨hF b (e i b j),rfl⟩
 exact⟨yR (c 0 _ rfl).2,yU.le _ _ (d 1) (c 1 _ rfl),tK.le _ _ (d 2) (c 2 _ rfl),fD.le _ _ (d 3) (c 3 _ rfl),fD.le _ _ (d 4) (c 4 _ rfl)⟩
def St.Ii{w0 w:World}{R:List Piece}{H:List HP}{f h:Nat}{L:iT}{s:aI}{z:bX}(t:St w0 R H w)(i:Nat)(hi:H[i]? =some (jO f h L s z)):Oj w f h L s z:=by
 obtain⟨F,c,d,_⟩:=t.chunk hi;exact aMz c d
def aMy(h:Nat)(s:aI)(v:Value)(hs:List HP)(_:Piece):Prop:=∃f,v=.tuple #[pt f,iv 0]/\hs=[Gq f h s (xF s)]
def aBY{w:World}(a:AC)(c:a=(none,0)):(HP.cO (fD a []) (fD.le (a:=a) (l:=[]))).sat (fun _=>False) w:=by
 subst c;exact⟨rfl,fun h=>absurd h aB⟩
def aTf(h:Nat)(s:aI)(E:s.dM)(A1 A2 A3 A4:Option Addr)(n1 k1 n2 k2 n3 k3 n4 k4:Nat)(w:World)(hW:jH w s A1 n1 A2 n2 A3 n3 A4 n4):
  Cz 39 #[pt h,.agg #[.slice A1 n1 k1,.slice A2 n2 k2,.slice A3 n3 k3,.slice A4 n4 k4]] w (fun y w'=>(∃v hs q,y=.returned v/\q.w=w'/\aMy h s v hs q/\iV w hs q)/\Below w.heap.size w w'):=by
 obtain rfl:=hW.vQ;obtain rfl:=hW.vP;obtain rfl:=hW.yJ;obtain rfl:=hW.vO;refine bQ func39 ntmps39 ?_;refine iG fun g1=>?_;refine cR (fun i t=>Wb s A1 A2 A3 A4 _ k1 _ k2 _ k3 _ k4 i (hW.le (t.started aB)) E.t.Wa) ?_;refine kO [1,3] ?_;refine bU 0 ?_;refine aQ 1 ?_;refine aQ 3 ?_;refine aR 2 ?_
 refine jL [] (fun v w w'=>aCT s v w w') (fun i t=>aF1 s A1 A2 A3 A4 _ k1 _ k2 _ k3 _ k4 i (hW.le (t.started aB)) (fun d hd=>by
  obtain⟨j,T⟩:=lA hd
  have:=(E.t.aG j d T).2.2.2.2.2.2.2.2.1
  omega)) ?_
 rintro _ i X ⟨cs,rfl,I⟩ G _ k
 have k:=k aB
 obtain⟨z,Y,n,r,m2,B,o,m3,x,A,V,C,rfl,e⟩:=yT.P I
 have e:=e.le G
 obtain⟨rfl,rfl,rfl,rfl⟩:=e.len;refine Nx (Φ:=yU ⟨(z,n),(r,B),(o,x),(A,C),(none,0),(none,0),(none,0),(none,0),(none,0),(none,0),(none,0),(none,0)⟩ s) (hm:=yU.le) k (by simp[all]) e ?_;refine bH ?_;refine aR 4 ?_;refine jL [] (fun v w w'=>xR (fresh w w') (dV s) (dV s) v) (fun i st=>aNX s A1 A2 A3 A4 k1 k2 k3 k4 i E.t) ?_;rintro _ U q2 H F _ m
 have m:=m aB
 obtain⟨N,R,M,J,K,O,rfl,c⟩:=H.P
 have c:=tK.le _ _ F (c (z,n) (r,B) (o,x) (A,C) (none,0) (none,0))
 refine Nx (Φ:=tK ⟨(z,n),(r,B),(o,x),(A,C),N,R,M,J,K,O,(none,0),(none,0)⟩ (dV s) (dV s)) (hm:=tK.le) m (by simp[all]) c ?_;refine bH ?_;refine aR 5 ?_;refine kd (fI rfl) ?_;refine cT ?_;refine aR 6 ?_;refine eI fun f=>?_;refine cT ?_;refine aR 7 ?_;refine bN ?_;refine cT ?_;refine kA ?_;refine rZ (p:=HP.cO (fD (none,0) []) (fD.le (a:=(none,0)) (l:=[]))) (fun w=>aBY _ rfl) ?_;refine rZ (p:=HP.cO (fD (none,0) []) (fD.le (a:=(none,0)) (l:=[]))) (fun w=>aBY _ rfl) ?_;refine aZ [2,4,3,0,1] ?_ (R':=[all w]);refine oP ?_;refine uY ?_;refine uY ?_;refine uY ?_;refine wB 0 (f:=fun L:iT=>jO f h L s (xF s)) ⟨(z,n),(r,B),(o,x),(A,C),N,R,M,J,K,O,(none,0),(none,0)⟩ rfl ?_;dsimp only[List.set];refine dX [] [] [0] fun q _ _ D=>?_;exact kN fun i t=>⟨⟨_,_,⟨i,q.Z⟩,rfl,rfl,⟨f,rfl,rfl⟩,t.newR aB aB (D aB aB)⟩,t.below aB⟩
variable{z:bX}{L:iT}
def aAw(i:Nat)(hi:H[i]? =some (Gq f h s z))(k:∀L:iT,XK N w0 K e R (HP.aK f 152 (lB h L s z)::H.set i (HP.many [cS,HP.cO (yU L s) (yU.le (L:=L) (s:=s)),HP.cO (tK L z.x z.y) (tK.le (L:=L) (x:=z.x) (y:=z.y)),HP.cO (fD L.b0 z.w0) (fD.le (a:=L.b0) (l:=z.w0)),HP.cO (fD L.b1 z.w1) (fD.le (a:=L.b1) (l:=z.w1))]))):XK N w0 K e R H:=by
 have c:=By hi
 refine aCA i hi fun L=>?_;refine uX i 0 (by rw[kR c];rfl) rfl ?_
 simpa[sX] using k L
def Ej(L:iT)(i:Nat)(hi:H[i]? =some (HP.many [cS,HP.cO (yU L s) (yU.le (L:=L) (s:=s)),HP.cO (tK L z.x z.y) (tK.le (L:=L) (x:=z.x) (y:=z.y)),HP.cO (fD L.b0 z.w0) (fD.le (a:=L.b0) (l:=z.w0)),HP.cO (fD L.b1 z.w1) (fD.le (a:=L.b1) (l:=z.w1))]))(k:XK N w0 K e R (H.set i (Gq f h s z))):XK N w0 K e R (HP.aK f 152 (lB h L s z)::H):=by
 have c:=By hi
 refine uZ i 0 hi rfl ?_;refine wB i (f:=fun L:iT=>jO f h L s z) L (by rw[kR c];rfl) ?_;rw[sX];exact k
def fM(z:bX)(a:Int)(l:List Int):Int×bX:=
 if bJ 2 a=false then(4,z) else if a=0 then(if z.h0≠0 then(7,z) else(0,{z with h0:=1,w0:=l})) else(if z.h1≠0 then(7,z) else(0,{z with h1:=1,w1:=l}))
def aJ6(f h:Nat)(s:aI)(z:bX)(a:Int)(A:Option Addr)(n c:Nat)(l:List Int)(w:World)(F:Nat->Prop)(hp:(Gq f h s z).sat F w)(hF:∀b,F b->b < w.heap.size)(hs:aO ⟨w,fun b=>b < w.heap.size/\¬F b⟩ 1 A n (eB l))(x:n=l.length)(o:n<=1000000):
  Cz 84 #[pt f,iv a,.slice A n c] w (Wr (iv (fM z a l).1) (Gq f h s (fM z a l).2) w F):=by
 subst x;cases j:bJ 2 a
 .have e:fM z a l=(4,z):=by simp[fM,j]
  rw[e];refine fS func84 ntmps84 hp hF ?_;refine aD ?_;refine cM (fun d t=>Ur a d) ?_;rw[j];refine aD ?_;exact cJ 0 hF
 .obtain rfl | rfl:a=0\/a=1:=by have:=eV j;omega
  .refine fS func84 ntmps84 hp hF ?_;refine aAw 0 rfl fun L=>?_;dsimp only[List.set,lB];refine aD ?_;refine cM (fun d t=>Ur 0 d) ?_;refine aD ?_;refine kd (iA 0 11) ?_;refine aD ?_;refine bP (fun i=>?_) (fun i=>?_)
   .have e:fM z 0 l=(7,z):=by simp[fM,bJ,i]
    rw[e];refine aD ?_;refine Ej L 0 rfl ?_;dsimp only[List.set];exact cJ 0 hF
   .have e:fM z 0 l=(0,{z with h0:=1,w0:=l}):=by simp[fM,bJ];simpa using i
    rw[e];refine aD ?_;refine kO [5,6] ?_;refine bU 0 ?_;refine bU 1 ?_;refine bU 2 ?_;refine aQ 5 ?_;refine aQ 6 ?_;refine aR 3 ?_;refine gN (aAA l.length (eB l)) (fun d t=>aCj A _ c _ d (hs.le (t.le aB)) (Hi _) o) ?_;rintro _ _ r ⟨m,k,rfl,rfl⟩ _;dsimp only[dW,dG];refine bH ?_;refine aR 4 ?_;refine kd (fI rfl) ?_;refine bH ?_;refine aR 7 ?_;refine kd (iA 0 11) ?_;refine cT ?_;refine aR 8 ?_;refine uJ 1 (t:=152) rfl rfl rfl aJ (by simp[Value.cells,Value.oneCell']) (by simp[Value.cells]) ?_;dsimp only[List.set,Value.cells,jR];refine cT ?_;refine lW ?_;refine aD ?_;refine Ch 0 (Φ:=fD (m,k) l) (hm:=fD.le) rfl (fun p hp=>hp) ?_;refine bB 2 3 ?_;refine aZ [1,2,3] ?_;refine aP 1 3 ?_;refine Ej (h:=h) (s:=s) (z:={z with h0:=1,w0:=l}) {L with b0:=(m,k)} 0 rfl ?_;dsimp only[List.set];exact cJ 0 hF
  .refine fS func84 ntmps84 hp hF ?_;refine aAw 0 rfl fun L=>?_;dsimp only[List.set,lB];refine aD ?_;refine cM (fun d t=>Ur 1 d) ?_;refine aD ?_;refine kd (iA 1 13) ?_;refine aD ?_;refine bP (fun i=>?_) (fun i=>?_)
   .have e:fM z 1 l=(7,z):=by simp[fM,bJ,i]
    rw[e];refine aD ?_;refine Ej L 0 rfl ?_;dsimp only[List.set];exact cJ 0 hF
   .have e:fM z 1 l=(0,{z with h1:=1,w1:=l}):=by simp[fM,bJ];simpa using i
    rw[e];refine aD ?_;refine kO [5,6] ?_;refine bU 0 ?_;refine bU 1 ?_;refine bU 2 ?_;refine aQ 5 ?_;refine aQ 6 ?_;refine aR 3 ?_;refine gN (aAA l.length (eB l)) (fun d t=>aCj A _ c _ d (hs.le (t.le aB)) (Hi _) o) ?_;rintro _ _ r ⟨m,k,rfl,rfl⟩ _;dsimp only[dW,dG];refine bH ?_;refine aR 4 ?_;refine kd (fI rfl) ?_;refine bH ?_;refine aR 7 ?_;refine kd (iA 1 13) ?_;refine cT ?_;refine aR 8 ?_;refine uJ 1 (t:=152) rfl rfl rfl aJ (by simp[Value.cells,Value.oneCell']) (by simp[Value.cells]) ?_;dsimp only[List.set,Value.cells,jR];refine cT ?_;refine lW ?_;refine aD ?_;refine Ch 0 (Φ:=fD (m,k) l) (hm:=fD.le) rfl (fun p hp=>hp) ?_;refine bB 2 4 ?_;refine aZ [1,2,3] ?_;refine aP 1 4 ?_;refine Ej (h:=h) (s:=s) (z:={z with h1:=1,w1:=l}) {L with b1:=(m,k)} 0 rfl ?_;dsimp only[List.set];exact cJ 0 hF
def kZ(z:bX)(a:Int):Option (List Int):=if a=0 then(if z.h0=2 then some z.w0 else none) else if a=1 then(if z.h1=2 then some z.w1 else none) else none
def gL(z:bX)(a:Int):bX:=if a=0 then(if z.h0=2 then {z with h0:=0,w0:=[]} else z) else if a=1 then(if z.h1=2 then {z with h1:=0,w1:=[]} else z) else z
def Th(l:Option (List Int))(a:AC):Value:=match l with
 | some l=>.tuple #[.slice a.1 l.length a.2,.bool true]
 | none=>.tuple #[.slice none 0 0,.bool false]
def Jt(f h:Nat)(s:aI)(z:bX)(l:List Int)(c:AC):HP:=HP.many [Gq f h s z,HP.cO (fD c l) (fD.le (a:=c) (l:=l))]
def aEW(f h:Nat)(s:aI)(z:bX)(a:Int)(w:World)(F:Nat->Prop)(hp:(Gq f h s z).sat F w)(hF:∀b,F b->b < w.heap.size):
  Cz 48 #[pt f,iv a] w (fun y w'=>∃c:AC,y=.returned (Th (kZ z a) c)/\True/\∃A,(Jt f h s (gL z a) ((kZ z a).getD []) c).sat A w'/\jG w w' F A):=by
 have d:∀w:World,(HP.cO (fD (none,0) []) (fD.le (a:=(none,0)) (l:=[]))).sat (fun _=>False) w:=fun w=>aBY _ rfl
 cases k:bJ 2 a
 .have x:a≠0:=fun h=>by subst h;cases k
  have r:a≠1:=fun h=>by subst h;cases k
  have n:kZ z a=none:=by simp[kZ,x,r]
  have m:gL z a=z:=by simp[gL,x,r]
  rw[n,m];unfold Jt;refine fS func48 ntmps48 hp hF ?_;refine aD ?_;refine cM (fun e t=>Ur a e) ?_;rw[k];refine aD ?_;refine rZ (p:=HP.cO (fD (none,0) []) (fD.le (a:=(none,0)) (l:=[]))) d ?_;refine aZ [1,0] ?_;refine oP ?_;exact kN fun e t=>⟨(none,0),rfl,trivial,t.turns hF aB (i:=0) rfl⟩
 .obtain rfl | rfl:a=0\/a=1:=by have:=eV k;omega
  .refine fS func48 ntmps48 hp hF ?_;refine aAw 0 rfl fun L=>?_;dsimp only[List.set,lB];refine aD ?_;refine cM (fun e t=>Ur 0 e) ?_;refine aD ?_;refine kd (iA 0 11) ?_;refine aD ?_;refine bP (fun o=>?_) (fun o=>?_)
   .have n:kZ z 0=none:=by simp[kZ,o]
    have m:gL z 0=z:=by simp[gL,o]
    rw[n,m];unfold Jt;dsimp only[Option.getD];refine aD ?_;refine Ej L 0 rfl ?_;dsimp only[List.set];refine rZ (p:=HP.cO (fD (none,0) []) (fD.le (a:=(none,0)) (l:=[]))) d ?_;refine aZ [1,0] ?_;refine oP ?_;exact kN fun e t=>⟨(none,0),rfl,trivial,t.turns hF aB (i:=0) rfl⟩
   .have j:z.h0=2:=by simpa using o
    have n:kZ z 0=some z.w0:=by simp[kZ,j]
    have m:gL z 0={z with h0:=0,w0:=[]}:=by simp[gL,j]
    rw[n,m];unfold Jt;dsimp only[Option.getD];refine aD ?_;refine kd (iA 0 11) ?_;refine aD ?_;refine kd (fI rfl) ?_;refine aD ?_;refine kd (iA 0 11) ?_;refine uJ 0 (t:=152) rfl rfl rfl aJ (by simp[Value.cells,Value.oneCell']) (by simp[Value.cells]) ?_;dsimp only[List.set,Value.cells,jR];refine aD ?_;refine bB 1 3 ?_;refine rZ (p:=HP.cO (fD (none,0) []) (fD.le (a:=(none,0)) (l:=[]))) d ?_;refine aZ [0,2,3,1] ?_;refine aP 1 3 ?_;refine Ej (h:=h) (s:=s) (z:={z with h0:=0,w0:=[]}) {L with b0:=(none,0)} 0 rfl ?_;dsimp only[List.set];refine oP ?_;exact kN fun e t=>⟨L.b0,rfl,trivial,t.turns hF aB (i:=0) rfl⟩
  .refine fS func48 ntmps48 hp hF ?_;refine aAw 0 rfl fun L=>?_;dsimp only[List.set,lB];refine aD ?_;refine cM (fun e t=>Ur 1 e) ?_;refine aD ?_;refine kd (iA 1 13) ?_;refine aD ?_;refine bP (fun o=>?_) (fun o=>?_)
   .have n:kZ z 1=none:=by simp[kZ,o]
    have m:gL z 1=z:=by simp[gL,o]
    rw[n,m];unfold Jt;dsimp only[Option.getD];refine aD ?_;refine Ej L 0 rfl ?_;dsimp only[List.set];refine rZ (p:=HP.cO (fD (none,0) []) (fD.le (a:=(none,0)) (l:=[]))) d ?_;refine aZ [1,0] ?_;refine oP ?_;exact kN fun e t=>⟨(none,0),rfl,trivial,t.turns hF aB (i:=0) rfl⟩
   .have j:z.h1=2:=by simpa using o
    have n:kZ z 1=some z.w1:=by simp[kZ,j]
    have m:gL z 1={z with h1:=0,w1:=[]}:=by simp[gL,j]
    rw[n,m];unfold Jt;dsimp only[Option.getD];refine aD ?_;refine kd (iA 1 13) ?_;refine aD ?_;refine kd (fI rfl) ?_;refine aD ?_;refine kd (iA 1 13) ?_;refine uJ 0 (t:=152) rfl rfl rfl aJ (by simp[Value.cells,Value.oneCell']) (by simp[Value.cells]) ?_;dsimp only[List.set,Value.cells,jR];refine aD ?_;refine bB 1 4 ?_;refine rZ (p:=HP.cO (fD (none,0) []) (fD.le (a:=(none,0)) (l:=[]))) d ?_;refine aZ [0,2,3,1] ?_;refine aP 1 4 ?_;refine Ej (h:=h) (s:=s) (z:={z with h1:=0,w1:=[]}) {L with b1:=(none,0)} 0 rfl ?_;dsimp only[List.set];refine oP ?_;exact kN fun e t=>⟨L.b1,rfl,trivial,t.turns hF aB (i:=0) rfl⟩
def Fu(c:fK)(r:Int):Int:=if c.kind=112 then(if 1099511627776 < r*c.mul / c.div then 1099511627776 else r*c.mul / c.div) else if c.kind=100 then r / c.div else r
def Qw(s:aI):Nat->Nat->Int
 | 0,_=>0
 | k + 1, i => match s.aL[i]? with
  | none=>0
  | some c=>if c.kind=111 then c.rate else Fu c (match c.src with
   | []=>0
   | f::_=>Qw s k f.toNat)
def uE(s:aI)(i:Nat):Int:=Qw s (i+1) i
def Mk(s:aI)(st:List fE)(i:Int):Int:=if sG s st i then uE s i.toNat else 0
def aTk{s:aI}(hf:Fits fK.fit s.aL):∀(c k:Nat),c < k->Qw s k c=Qw s (c+1) c:=by
 intro c
 induction c using Nat.strongRecOn with
 | _ c ih =>
  intro k i;obtain⟨k,rfl⟩:=Nat.exists_eq_add_of_lt i;rw[show c+k+1=(c+k)+1 from rfl];unfold Qw;cases h:s.aL[c]? with
  | none=>rfl
  | some x =>
   dsimp only;cases j:x.src with
   | nil=>rfl
   | cons f fs=>
    have e:=(hf c x h).1 f (by rw[j];simp)
    have d:f.toNat < c:=by omega
    dsimp only;rw[ih f.toNat d (c+k) aA,ih f.toNat d c d]
def aJJ{s:aI}(hf:Fits fK.fit s.aL){i:Nat}{c:fK}(d:s.aL[i]? =some c):uE s i=if c.kind=111 then c.rate else Fu c (match c.src with
  | []=>0
  | f::_=>uE s f.toNat):=by
 unfold uE;rw[Qw,d];dsimp only;cases h:c.src with
 | nil=>rfl
 | cons f fs=>
  have e:=(hf i c d).1 f (by rw[h];simp)
  dsimp only;rw[aTk hf f.toNat i aA]
def aTj{s:aI}(hf:Fits fK.fit s.aL):∀i:Nat,0<=uE s i/\uE s i<=1099511627776:=by
 intro i
 induction i using Nat.strongRecOn with
 | _ i ih =>
  cases k:s.aL[i]? with
  | none=>unfold uE Qw;rw[k];exact⟨Br 0,by show(0:Int)<=1099511627776;omega⟩
  | some c =>
   rw[aJJ hf k];obtain⟨h,j⟩:=hf i c k
   have e:0<=(match c.src with | []=>0 | f::_=>uE s f.toNat)/\(match c.src with | []=>0 | f::_=>uE s f.toNat)<=1099511627776:=by
    cases n:c.src with
    | nil=>exact⟨Br 0,by show(0:Int)<=1099511627776;omega⟩
    | cons f fs=>
     have:=h f (by rw[n];simp)
     exact ih f.toNat aA
   generalize (match c.src with | []=>0 | f::_=>uE s f.toNat)=r at e;rcases j with⟨d,_,l,m,_⟩ | ⟨d,_,_,l,m,o,w,_⟩ | ⟨d,_,_,_,l,m,_⟩ | ⟨d,_⟩ | ⟨d,_⟩
   .rw[aH d];omega
   .rw[aC aA,Fu,aH d]
    have:0<=r*c.mul / c.div:=Tn (Int.mul_nonneg e.1 aA) aA
    split<;>omega
   .rw[aC aA,Fu,aC aA,aH d]
    have t:0<=r / c.div:=Tn e.1 aA
    have p:r / c.div<=r:=Int.ediv_le_self _ e.1
    omega
   .rw[aC aA,Fu,aC aA,aC aA];exact e
   .rw[aC aA,Fu,aC aA,aC aA];exact e
def aJK(n:Int)(c:1<=n)(d:n<=1000)(w:World):Cz 237 #[iv n] w (Rt (.bool true) w):=by
 refine bQ func237 ntmps237 ?_;refine cH (t:=5) rfl (fun _=>?_) (fun h=>absurd c h);refine aD ?_;refine lD aB ?_;rw[eM d]
def aO9(r m d:Int)(i:0<=r/\r<=1099511627776)(hm:1<=m/\m<=8)(hd:1<=d/\d<=4)(w:World):Cz 236 #[.int .u64 r,iv m,iv d] w (Rt (.tuple #[.int .u64 (if 1099511627776 < r*m / d then 0 else r*m / d),iv (if 1099511627776 < r*m / d then 3 else 0)]) w):=by
 have e:0<=r*m/\r*m<=1099511627776*8:=⟨Int.mul_nonneg i.1 aA,Int.mul_le_mul i.2 hm.2 aA aA⟩
 have j:0<=r*m / d/\r*m / d<=r*m:=⟨Tn e.1 aA,Int.ediv_le_self _ e.1⟩
 refine fP func236 ntmps236 ?_;refine aD ?_;refine cH (t:=11) rfl (fun h=>absurd h aA) (fun _=>?_);refine aD ?_;refine cM (fun f t=>aJK m hm.1 aA f) ?_;refine aD ?_;refine cM (fun f t=>aJK d hd.1 aA f) ?_;refine aD ?_;refine Gz (ds:=.int .i64) (kd:=.u64) aJ aJ rfl (wrap_u64 aA) aE ?_;refine aMH rfl rfl (c:=r*m) (wrap_u64 aA) aE ?_;refine aD ?_;refine Gz (ds:=.int .i64) (kd:=.u64) aJ aJ rfl (wrap_u64 aA) aE ?_;refine aG1 rfl rfl (c:=r*m / d) aA (by rw[Int.tdiv_eq_ediv_of_nonneg e.1];exact wrap_u64 aA) aE ?_;refine aD ?_;refine bP (fun h=>?_) (fun h=>?_)
 .rw[aH h,aH h];refine aD ?_;exact kN fun f t=>⟨rfl,t.below aB⟩
 .rw[aC h,aC h];refine aD ?_;exact kN fun f t=>⟨rfl,t.below aB⟩
def aVl(L:TL)(s:aI)(st:List fE)(U:s.dM)(y z:Nat):∀(i:Nat),i < s.aL.length->∀w,At w L s st->iD w y 0 (.pointer (some ⟨L.t,0,none⟩))->iD w z 0 (.func (.func 235) #[] #[pt y,pt z])->
  Cz 235 #[iv (i:Int),pt y,pt z] w (Rt (.int .u64 (uE s i)) w):=by
 intro i
 induction i using Nat.strongRecOn with
 | _ i ih =>
  intro M w K E F;obtain⟨b,off,c,a,x,Y,hx,hA,r,hs⟩:=K.node M
  have n:=aJJ U.t.aL Y
  have h0:=K.r0
  rw[hA] at h0
  have I:=r.at_ (j:=0) rfl
  have k2:=r.at_ (j:=2) rfl
  have k3:=r.at_ (j:=3) rfl
  have k4:=r.at_ (j:=4) rfl
  have R:=r.at_ (j:=10) rfl
  have N:∀{d},Below w.heap.size w d->iD d y 0 (.pointer (some ⟨L.t,0,none⟩)):=fun o=>⟨jC E.1 o.size,(o.cell (p:=⟨_,0,none⟩) E.1).trans E.2⟩
  have O:∀{d},Below w.heap.size w d->iD d z 0 (.func (.func 235) #[] #[pt y,pt z]):=fun o=>⟨jC F.1 o.size,(o.cell (p:=⟨_,0,none⟩) F.1).trans F.2⟩
  obtain⟨B,l⟩:=U.t.aL i c Y;refine fP func235 ntmps235 ?_;refine aD ?_;refine kd (dat i (off+i*11)) ?_;rcases l with⟨m,C,_⟩ | l
  .rw[m] at I;rw[aH m] at n;refine aD ?_;exact dP (by rw[n])
  obtain⟨f,J,T⟩:∃(f:Nat) (J:List Int),c.src=(f:Int)::J:=by
   cases C:c.src with
   | nil=>rw[C] at l;simp at l
   | cons f J=>exact⟨f.toNat,J,by have:=(B f (by rw[C];simp)).1;rw[Int.toNat_of_nonneg this]⟩
  have V:f < i:=by have:=(B f (by rw[T];simp)).2;omega
  have A:=aTj U.t.aL f
  have h:∀d,Below w.heap.size w d->Cz 197 #[.pointer (some ⟨L.t,0,none⟩),iv (i:Int)] d (Rt (iv (f:Int)) d):=fun d o=>Vz L s st i f c J d (K.below o) Y T
  have k:∀d,Below w.heap.size w d->Cz 235 #[iv (f:Int),pt y,pt z] d (Rt (.int .u64 (uE s f)) d):=fun d o=>ih f V aA d (K.below o) (N o) (O o)
  rw[T] at n
  have e:uE s i=if c.kind=111 then c.rate else Fu c (uE s f):=n
  clear n;rcases l with⟨m,_,_,hm1,X,G,H,_⟩ | ⟨m,_,_,_,G,H,_⟩ | ⟨m,_⟩ | ⟨m,_⟩
  .rw[m] at I;rw[aC aA,Fu,aH m] at e;refine aD ?_;refine oU ?_;refine kU ?_;refine xK (fun d t=>h d (t.below aB)) ?_;refine Li (fi:=[]) (vs:=[iv (f:Int)]) (ca:=[pt y,pt z]) (fun d t=>k d (t.below aB)) ?_;refine kM ?_;refine aD ?_;refine oU ?_;refine kU ?_;refine xK (fun d t=>aO9 _ c.mul c.div A ⟨hm1,X⟩ ⟨G,H⟩ d) ?_;refine kM ?_;refine aD ?_
   by_cases D:1099511627776 < uE s f*c.mul / c.div
   .rw[aH D] at e;rw[aH D,aH D];refine aD ?_;exact dP (by rw[e])
   .rw[aC D] at e;rw[aC D,aC D];refine aD ?_;exact dP (by rw[e])
  .rw[m] at I;rw[aC aA,Fu,aC aA,aH m] at e
   have Z:byF c=c.div:=by rw[byF,aH m]
   rw[Z] at R
   have D:0<=uE s f / c.div/\uE s f / c.div<=uE s f:=⟨Tn A.1 aA,Int.ediv_le_self _ A.1⟩
   refine aD ?_;refine oU ?_;refine kU ?_;refine xK (fun d t=>h d (t.below aB)) ?_;refine Li (fi:=[]) (vs:=[iv (f:Int)]) (ca:=[pt y,pt z]) (fun d t=>k d (t.below aB)) ?_;refine kM ?_;refine aD ?_;refine Gz (ds:=.int .i64) (kd:=.u64) aJ aJ rfl (wrap_u64 aA) aE ?_;refine aG1 rfl rfl (c:=uE s f / c.div) aA (by rw[Int.tdiv_eq_ediv_of_nonneg A.1];exact wrap_u64 aA) aE ?_;refine aD ?_;exact dP (by rw[e])
  .rw[m] at I;rw[aC aA,Fu,aC aA,aC aA] at e;refine aD ?_;refine oU ?_;refine kU ?_;refine xK (fun d t=>h d (t.below aB)) ?_;refine Li (fi:=[]) (vs:=[iv (f:Int)]) (ca:=[pt y,pt z]) (fun d t=>k d (t.below aB)) ?_;refine kM ?_;refine aD ?_;exact dP (by rw[e])
  .rw[m] at I;rw[aC aA,Fu,aC aA,aC aA] at e;refine aD ?_;refine oU ?_;refine kU ?_;refine xK (fun d t=>h d (t.below aB)) ?_;refine Li (fi:=[]) (vs:=[iv (f:Int)]) (ca:=[pt y,pt z]) (fun d t=>k d (t.below aB)) ?_;refine kM ?_;refine aD ?_;exact dP (by rw[e])
def aVi(L:TL)(s:aI)(st:List fE)(k:s.dM)(i:Int)(w:World)(l:At w L s st):
  Cz 224 #[.pointer (some ⟨L.t,0,none⟩),iv i] w (Rt (.int .u64 (Mk s st i)) w):=by
 unfold Mk;cases d:sG s st i
 .rw[aC aE];refine fP func224 ntmps224 ?_;refine aD ?_;refine eI fun e=>?_;refine aD ?_;refine cM (fun c t=>aAc L s st k i c (l.below (t.below aB))) ?_;rw[d];refine aD ?_;exact dP
 .rw[aH rfl]
  have m:bJ s.aL.length i=true:=by
   unfold sG at d;exact(jY _ _▸d).1
  obtain⟨n,rfl⟩:∃n:Nat,i=n:=⟨i.toNat,by have:=eV m;omega⟩
  have h:n < s.aL.length:=by have:=eV m;omega
  refine fP func224 ntmps224 ?_;refine aD ?_;refine eI fun e=>?_;refine aD ?_;refine cM (fun c t=>aAc L s st k n c (l.below (t.below aB))) ?_;rw[d];refine aD ?_;refine eE fun f=>?_;refine aD ?_;refine lH (vf:=[]) (vc:=[pt e,pt f]) rfl rfl aE ?_;refine aD ?_;refine aBG (fi:=[]) (vs:=[iv (n:Int)]) (ca:=[pt e,pt f]) (fun c t=>aVl L s st k e f n h c (l.below (t.below aB)) ((t.box (i:=1) rfl).at_ (j:=0) rfl) ((t.box (i:=0) rfl).at_ (j:=0) rfl)) ?_;refine aD ?_;exact dP
def qT(s:aI)(x:aS)(l:List Int):List Int:=
 let w:=l.headD 0
 if cZ w 0 8=0 then[131072]
 else if cZ w 10 8=16/\cZ w 0 8=1 then[IntKind.u32.wrap (s.domains.length+s.aL.length*256+s.bG.length*65536+s.aG.length*16777216)]
 else if cZ w 10 8=17/\cZ w 0 8=5 then[Mw (tY x.dm (l.getD 1 0))]
 else if cZ w 10 8=20/\cZ w 0 8=6 then[IntKind.u32.wrap (Mk s x.ck (l.getD 1 0)),IntKind.u32.wrap (Mk s x.ck (l.getD 1 0) / 4294967296)] else[]
def aSm(L:HL)(s:aI)(x:aS)(w:World)(e:s.dM)(i:Int)(d:xV w L s x):Cz 194 #[.pointer (some ⟨L.h,0,none⟩),iv i] w (Rt (.int .u64 (Mk s x.ck i)) w):=by
 have f:=d.r0.at_ (j:=0) rfl
 refine bQ func194 ntmps194 ?_;refine cR (fun c t=>Fp L s x c (d.below (t.below aB))) ?_;refine cR (fun c t=>aVi L.T s x.ck e i c (d.tree.below (t.below aB))) ?_;exact dP
def aKH{α:Type}{cs vs:List α}{o:Nat}(d:(cs.drop o).take vs.length=vs){j:Nat}{v:α}(hj:vs[j]? =some v):cs[o+j]? =some v:=by
 have c:=(cE.1 hj).1
 rw[<-d,wV c,Bp] at hj;exact hj
def aSZ(f:Nat)(L:iT)(s:aI)(z:bX)(hL:HL)(x:aS)(M:s.dM)(Zj:xY s x.dm)(A:Option Addr)(c:Nat)(v:Int)(l:List Int)(w:World)(hR:Oj w f hL.h L s z)(hh:xV w hL s x)(hs:aO (all w) 1 A (v::l).length (eB (v::l)))
  (hu:cZ v 28 4=0) (K:(cZ v 10 8=17/\cZ v 0 8=5)\/(cZ v 10 8=20/\cZ v 0 8=6)->∃i,l=[i]/\0<=i/\i < 4294967296):
  Cz 135 #[pt f,.slice A (v::l).length c] w (fun y w'=>(∃r,y=.returned r/\aCK (qT s x (v::l)) r w w')/\Below w.heap.size w w'):=by
 obtain⟨b,off,rfl,J⟩:=aO.u32 hs aB
 have k0:=J 0 v rfl
 have hlen:(v::l).length=l.length+1:=rfl
 have hE:wN v=0:=by rw[wN,aC (by simp[hu])]
 have hU:Jk v=Kq (cZ v 0 8) (cZ v 8 2) (cZ v 10 8) (cZ v 18 10):=by rw[Jk,aC (by simp[hu])]
 have kf:=hR.r0.at_ (j:=0) rfl
 have k4:eL w f 1 [.slice L.a1.1 s.aL.length L.a1.2,.slice L.a2.1 s.domains.length L.a2.2,.slice L.a3.1 s.bG.length L.a3.2,.slice L.a4.1 s.aG.length L.a4.2]:=⟨hR.r0.1,fun j v hj=>by
  have:=hR.r0.2 (1+j) v (aKH rfl hj)
  rwa [mA] at this⟩
 have hnc:=M.t.nc
 have hnd:=M.t.nd
 have Qm:=M.t.nr
 have Hw:=M.t.nv
 refine bQ func135 ntmps135 ?_;refine cM (fun C t=>aGQ v C) ?_;rw[hE,hU];dsimp only[Kq];refine aD ?_;refine eE fun g1=>?_;refine aD ?_;refine bP (fun U=>?_) (fun U=>?_)
 .have k:qT s x (v::l)=[131072]:=aH (by simpa using U)
  rw[k];refine aD ?_;refine eX fun T=>?_;refine aD ?_;refine dX [] [0] [] fun q F _ d=>?_;obtain⟨V,m,e⟩:=F 0 _ aB rfl
  have o:=uH (Y:=q.Z) (sz:=1) (n:=1) (c:=1) m e rfl
  exact bK (h:=fun C st=>⟨_,rfl,_,_,rfl,aO.le o (st.oA aB (d aB aB))⟩)
 .have G:cZ v 0 8≠0:=by simpa using U
  refine aD ?_;refine cH (t:=26) rfl (fun R=>?_) (fun R=>?_)
  .have B:cZ v 10 8=16:=by simpa using R
   refine aD ?_;refine bP (fun H=>?_) (fun H=>?_)
   .have p:cZ v 0 8=1:=by simpa using H
    have k:qT s x (v::l)=[IntKind.u32.wrap (s.domains.length+s.aL.length*256+s.bG.length*65536+s.aG.length*16777216)]:=(aC G).trans (aH ⟨B,p⟩)
    rw[k];refine aD ?_;refine eE fun T=>?_;refine aD ?_;refine Sh rfl rfl (c:=s.aL.length*256) aE (by show IntKind.i64.wrap ((s.aL.length:Int)*256)=_;exact qM aA) aE ?_;refine aD ?_;refine Sh rfl rfl (c:=s.bG.length*65536) aE (by show IntKind.i64.wrap ((s.bG.length:Int)*65536)=_;exact qM aA) aE ?_;refine aD ?_;refine Sh rfl rfl (c:=s.aG.length*16777216) aE (by show IntKind.i64.wrap ((s.aG.length:Int)*16777216)=_;exact qM aA) aE ?_;refine aD ?_;refine Gz (ds:=.int .i64) (kd:=.u32) aJ aJ rfl rfl aE ?_;refine eX fun g3=>?_;refine aD ?_;refine dX [] [0] [] fun q F _ d=>?_;obtain⟨V,m,e⟩:=F 0 _ aB rfl
    have o:=uH (Y:=q.Z) (sz:=1) (n:=1) (c:=1) m e rfl
    exact bK (h:=fun C st=>⟨_,rfl,_,_,rfl,aO.le o (st.oA aB (d aB aB))⟩)
   .have p:cZ v 0 8≠1:=by simpa using H
    have k:qT s x (v::l)=[]:=(aC G).trans ((aC fun h=>p h.2).trans ((aC fun h=>by have:=h.1;simp[B] at this).trans (aC fun h=>by have:=h.1;simp[B] at this)))
    rw[k];refine aD ?_;refine cH (t:=60) rfl (fun D=>absurd D (by simp[B])) (fun _=>?_);refine aD ?_;refine cH (t:=80) rfl (fun D=>absurd D (by simp[B])) (fun _=>?_);refine aD ?_;exact bK (h:=fun _ _=>⟨_,rfl,_,_,rfl,rfl,fun h=>absurd h aB⟩)
  .have B:cZ v 10 8≠16:=by simpa using R
   refine aD ?_;refine cH (t:=60) rfl (fun H=>?_) (fun H=>?_)
   .have E:cZ v 10 8=17:=by simpa using H
    refine aD ?_;refine bP (fun D=>?_) (fun D=>?_)
    .have p:cZ v 0 8=5:=by simpa using D
     obtain⟨i,rfl,X,O⟩:=K (.inl ⟨E,p⟩)
     have I:[v,i].length=2:=rfl
     have k:qT s x [v,i]=[Mw (tY x.dm i)]:=(aC G).trans ((aC fun h=>B h.1).trans (aH ⟨E,p⟩))
     have k1:=J 1 i rfl
     rw[k];refine aD ?_;refine kO [1,2,3,5,6,7] ?_;refine bU 0 ?_;refine bU 4 ?_;refine aQ 1 ?_;refine aQ 2 ?_;refine aQ 3 ?_;refine aQ 5 ?_ (bL:=dat (sz:=1) 1 (off+1));refine aQ 6 ?_;refine aQ 7 ?_ (bL:=Nt (ds:=.int .u32) aJ aJ rfl (qM aA));refine aR 8 ?_;refine cM (fun C t=>aEH hL s x C Zj i (hh.below (t.below aB))) ?_;refine cT ?_;refine aR 9 ?_;refine cM (fun C t=>aSY _ C) ?_;refine cT ?_;refine aR 10 ?_;refine eX fun T=>?_;refine cT ?_;refine aR 11 ?_;refine bN ?_;refine cT ?_;refine lW ?_;refine aD ?_;refine dX [] [0] [] fun q F _ d=>?_;obtain⟨V,m,e⟩:=F 0 _ aB rfl
     have o:=uH (Y:=q.Z) (sz:=1) (n:=1) (c:=1) m e rfl
     exact bK (h:=fun C st=>⟨_,rfl,_,_,rfl,aO.le o (st.oA aB (d aB aB))⟩)
    .have p:cZ v 0 8≠5:=by simpa using D
     have k:qT s x (v::l)=[]:=(aC G).trans ((aC fun h=>B h.1).trans ((aC fun h=>p h.2).trans (aC fun h=>by have:=h.1;simp[E] at this)))
     rw[k];refine aD ?_;refine cH (t:=80) rfl (fun D=>absurd D (by simp[E])) (fun _=>?_);refine aD ?_;exact bK (h:=fun _ _=>⟨_,rfl,_,_,rfl,rfl,fun h=>absurd h aB⟩)
   .have E:cZ v 10 8≠17:=by simpa using H
    refine aD ?_;refine cH (t:=80) rfl (fun h5=>?_) (fun h5=>?_)
    .have N:cZ v 10 8=20:=by simpa using h5
     refine aD ?_;refine bP (fun h6=>?_) (fun h6=>?_)
     .have p:cZ v 0 8=6:=by simpa using h6
      obtain⟨i,rfl,X,O⟩:=K (.inr ⟨N,p⟩)
      have I:[v,i].length=2:=rfl
      have k:qT s x [v,i]=[IntKind.u32.wrap (Mk s x.ck i),IntKind.u32.wrap (Mk s x.ck i / 4294967296)]:=(aC G).trans ((aC fun h=>B h.1).trans ((aC fun h=>E h.1).trans (aH ⟨N,p⟩)))
      have k1:=J 1 i rfl
      rw[k];refine aD ?_;refine kO [1,2,3,5,6,7] ?_;refine bU 0 ?_;refine bU 4 ?_;refine aQ 1 ?_;refine aQ 2 ?_;refine aQ 3 ?_;refine aQ 5 ?_ (bL:=dat (sz:=1) 1 (off+1));refine aQ 6 ?_;refine aQ 7 ?_ (bL:=Nt (ds:=.int .u32) aJ aJ rfl (qM aA));refine aR 8 ?_;refine cM (fun C t=>aSm hL s x C M i (hh.below (t.below aB))) ?_;refine cT ?_;refine aR 9 ?_;refine bN ?_;refine cT ?_;refine lW ?_;refine aD ?_;refine Gz (ds:=.int .u64) (kd:=.u32) aJ aJ rfl rfl aE ?_;refine aD ?_;refine aMF rfl rfl (c:=Mk s x.ck i / 4294967296) aE (by show Int.fdiv _ (2 ^ 32)=_;rw[Int.fdiv_eq_ediv_of_nonneg _ aE];rfl) aE ?_;refine Gz (ds:=.int .u64) (kd:=.u32) aJ aJ rfl rfl aE ?_;refine eX fun T=>?_;refine aD ?_;refine dX [] [0] [] fun q F _ d=>?_;obtain⟨V,m,e⟩:=F 0 _ aB rfl
      have o:=uH (Y:=q.Z) (sz:=1) (n:=2) (c:=2) m e rfl
      exact bK (h:=fun C st=>⟨_,rfl,_,_,rfl,aO.le o (st.oA aB (d aB aB))⟩)
     .have p:cZ v 0 8≠6:=by simpa using h6
      have k:qT s x (v::l)=[]:=(aC G).trans ((aC fun h=>B h.1).trans ((aC fun h=>E h.1).trans (aC fun h=>p h.2)))
      rw[k];refine aD ?_;exact bK (h:=fun _ _=>⟨_,rfl,_,_,rfl,rfl,fun h=>absurd h aB⟩)
    .have N:cZ v 10 8≠20:=by simpa using h5
     have k:qT s x (v::l)=[]:=(aC G).trans ((aC fun h=>B h.1).trans ((aC fun h=>E h.1).trans (aC fun h=>N h.1)))
     rw[k];refine aD ?_;exact bK (h:=fun _ _=>⟨_,rfl,_,_,rfl,rfl,fun h=>absurd h aB⟩)
def iW(f:Nat)(hL:HL)(s:aI)(z:bX)(x:aS):HP:=HP.many [Gq f hL.h s z,eH hL s x]
def jM(z:bX)(a:Nat):List Int:=if a=0 then z.w0 else z.w1
def vZ(s:aI)(x:aS)(l:List Int)(st:Int):List Int:=l.headD 0::IntKind.u32.wrap st::(if st=0 then qT s x l else[])
def aDO(z:bX)(a:Nat)(hs:Int)(l:List Int):bX:=if a=0 then {z with h0:=hs,w0:=l} else {z with h1:=hs,w1:=l}
def rB(s:aI)(x:aS)(z:bX)(a:Nat)(st:Int):bX:=aDO z a 2 (vZ s x (jM z a) st)
structure wH(l:List Int):Prop where
 ne:∃v r,l=v::r/\cZ v 28 4=0/\((cZ v 10 8=17/\cZ v 0 8=5)\/(cZ v 10 8=20/\cZ v 0 8=6)->∃i,r=[i]/\0<=i/\i < 4294967296)
def aI7(s:aI)(x:aS)(l:List Int):(qT s x l).length<=2:=by
 unfold qT;dsimp only;split
 .simp
 .split
  .simp
  .split
   .simp
   .split<;>simp
section
variable{v:Int}
def fD.at_{a:AC}{w:World}(e:fD a (v::r) (all w)):∃b off,a.1=some ⟨b,off,none⟩/\w.cell? ⟨b,off,none⟩=some (.int .u32 v):=by
 obtain⟨b,off,d,c⟩:=aO.u32 e aB;exact⟨b,off,d,by have:=(c 0 v rfl).2;simpa using this⟩
end
section
variable{P:Program}
def Rd.dH(i:Nat){o:Nat}{v:Value}(hi:H[i]? =some (jO f h L s z))(c:(lB h L s z)[o]? =some v):Rd w0 R H f o v:=fun w t=>by
 have:=((t.Ii i hi).r0.at_ c).2
 rwa [mA] at this
def cI.dH(i:Nat){o:Nat}{vs:List Value}(hi:H[i]? =some (jO f h L s z))(d:((lB h L s z).drop o).take vs.length=vs):cI w0 R H f o vs:=.of fun _ _ c=>Rd.dH i hi (aKH d c)
end
def zZ(L:iT)(b:Nat):AC:=if b=0 then L.b0 else L.b1
def aJ9{b:Nat}(c:b < 2):(lB h L s z)[12+b*2]? =some (.slice (zZ L b).1 (jM z b).length (zZ L b).2):=by
 obtain rfl | rfl:b=0\/b=1:=by omega
 .rfl
 .rfl
def Oj.box{w:World}{f:Nat}(k:Oj w f h L s z){b:Nat}(c:b < 2):aO (all w) 1 (zZ L b).1 (jM z b).length (eB (jM z b)):=by
 obtain rfl | rfl:b=0\/b=1:=by omega
 .exact k.b0
 .exact k.b1
def Oj.stR{w:World}{f:Nat}(k:Oj w f h L s z):xR (all w) z.x z.y (.agg #[.slice L.x1.1 z.x.d.length L.x1.2,.slice L.x2.1 z.x.c.length L.x2.2,.slice L.x3.1 z.x.l.length L.x3.2,.slice L.y1.1 z.y.d.length L.y1.2,.slice L.y2.1 z.y.c.length L.y2.2,.slice L.y3.1 z.y.l.length L.y3.2]):=
 ⟨_,_,_,_,_,_,_,_,_,_,_,_,rfl,k.st.1,k.st.2.1,k.st.2.2.1,k.st.2.2.2.1,k.st.2.2.2.2.1,k.st.2.2.2.2.2⟩
section
variable{v:Int}
def aWW{a:Nat}(l:a < 2)(i:Nat)(hi:H[i]? =some (jO f h L s z))(hw:jM z a=v::r)(k:∀b off,(zZ L a).1=some ⟨b,off,none⟩->Rd w0 R H b off (.int .u32 v)->XK N w0 K e R H):XK N w0 K e R H:=fun a w n st=>by
 obtain⟨b,off,j,_⟩:=fD.at_ (hw▸(st.Ii i hi).box l);refine k b off j (fun o t=>?_) a w n st;obtain⟨p,d,c,m⟩:=fD.at_ (hw▸(t.Ii i hi).box l);rw[j] at c;cases c;exact m
end
def aEV(f:Nat)(hL:HL)(s:aI)(z:bX)(x:aS)(K:s.dM)(n:iS hL s)(i:dF s x)(a:Nat)(D:a < 2)(st:Int)(j:st=0->wH (jM z a))(w:World)(F:Nat->Prop)(hp:(iW f hL s z x).sat F w)(hF:∀b,F b->b < w.heap.size):
  Cz 80 #[pt f,iv (a:Int),.int .i32 st] w (Wr (.tuple #[]) (iW f hL s (rB s x z a st) x) w F):=by
 unfold rB vZ;generalize e:jM z a=l at j|-;refine fS func80 ntmps80 hp hF ?_;refine bB 0 0 ?_;refine kF 0 fun L=>?_;refine aD ?_;refine cG (iA a (11+a*2)) ?_;refine cG (bT rfl (Rd.dH 0 rfl (v:=.slice (zZ L a).1 l.length (zZ L a).2) (by rw[show 11+a*2+1=12+a*2 by omega,<-e];exact aJ9 D))) ?_;refine Ro (α:=Unit) (fun _=>[(7,.int .u32 (l.headD 0)),(6,.slice (zZ L a).1 l.length (zZ L a).2),(2,.int .i32 st),(1,iv (a:Int)),(0,pt f)]) (fun _=>[jO f hL.h L s z,HP.many [cS,eH hL s x]]) (fun _=>True) ?_ fun _ _=>?_
 .refine dD rfl (fun h=>?_) (fun h=>?_)
  .cases l with
   | nil=>simp at h
   | cons v r=>
    refine aWW D 0 rfl e fun b off m R=>?_;rw[m];refine aF ?_;exact eF ()
  .cases l with
   | nil=>
    refine aF ?_;exact eF ()
   | cons v r=>simp at h
 refine aF ?_;refine Ro (α:=AC) (fun q=>[(8,.slice q.1 (if st=0 then qT s x l else[]).length q.2),(7,.int .u32 (l.headD 0)),(2,.int .i32 st),(1,iv (a:Int)),(0,pt f)]) (fun q=>[HP.cO (fD q (if st=0 then qT s x l else[])) (fD.le (a:=q) (l:=if st=0 then qT s x l else[])),jO f hL.h L s z,HP.many [cS,eH hL s x]]) (fun _=>True) ?_ fun q _=>?_
 .refine dD rfl (fun h=>?_) (fun h=>?_)
  .rw[aH h];obtain⟨v,r,rfl,J,A⟩:=(j h).ne;refine bB 1 1 ?_;refine aF ?_
   refine jL [] (fun O w N=>aCK (qT s x (v::r)) O w N) (fun k t=>by
    have H:=t.Ii 1 rfl
    have c:=H.box D
    obtain⟨b,off,m,_⟩:=fD.at_ (e▸c);rw[e,m] at c
    have:=aSZ f _ s z hL x K i.dm _ (zZ L a).2 v r k H (t.pN 0 rfl n i) c J A
    rw[<-m] at this
    exact this) ?_
   rintro _ T V ⟨G,I,rfl,d⟩ y _ o
   have d:=d.le y
   refine aP 1 1 ?_;refine Nx (Φ:=fD (G,I) (qT s x (v::r))) (hm:=fD.le) (o aB) (fun p hp b e=>by simp at hp;subst hp;exact e.1) d ?_;refine aF ?_;exact eF (G,I)
  .rw[aC h];refine rZ (p:=HP.cO (fD (none,0) []) (fD.le (a:=(none,0)) (l:=[]))) (fun w=>aBY _ rfl) ?_;refine aF ?_;exact eF (none,0)
 have E:(if st=0 then qT s x l else[]).length<=2:=by
  split
  .exact aI7 s x l
  .simp
 generalize U:(if st=0 then qT s x l else[])=M at E|-;refine bB 1 0 ?_;refine kO [7,8] ?_;refine bU 0 ?_;refine bU 1 ?_;refine bU 2 ?_;refine bU 3 ?_;refine bU 4 ?_;refine aQ 7 ?_;refine aQ 8 ?_;refine aR 5 ?_;refine gN (aCL (l.headD 0::IntKind.u32.wrap st::M)) (fun k t=>aWc _ st _ rfl q.1 M.length q.2 M k (t.cO 1 rfl) rfl aA) ?_;rintro _ _ X ⟨C,B,rfl,rfl⟩ _;dsimp only[dW,dG];refine bH ?_;refine aR 6 ?_;refine kd (fI rfl) ?_;refine bH ?_;refine aR 9 ?_;refine kd (iA a (11+a*2)) ?_;refine cT ?_;refine aR 10 ?_;refine uJ 1 (t:=152) rfl rfl rfl aJ (by simp[Value.cells,Value.oneCell']) (by simp[Value.cells,lB];omega) ?_;dsimp only[List.set];refine cT ?_;refine lW ?_;refine Ch 0 (Φ:=fD (C,B) (l.headD 0::IntKind.u32.wrap st::M)) (hm:=fD.le) rfl (fun p hp=>hp) ?_;obtain rfl | rfl:a=0\/a=1:=by omega
 .refine bB 3 3 ?_;refine aZ [1,2,4,5] ?_ (R':=[⟨w,fun b=>b < w.heap.size/\¬F b⟩]);refine aP 1 3 ?_;refine Ej (h:=hL.h) (s:=s) (z:={z with h0:=2,w0:=l.headD 0::IntKind.u32.wrap st::M}) {L with b0:=(C,B)} 0 rfl ?_;dsimp only[List.set];refine aP 0 0 ?_;exact gF 0 hF
 .refine bB 3 4 ?_;refine aZ [1,2,4,5] ?_ (R':=[⟨w,fun b=>b < w.heap.size/\¬F b⟩]);refine aP 1 4 ?_;refine Ej (h:=hL.h) (s:=s) (z:={z with h1:=2,w1:=l.headD 0::IntKind.u32.wrap st::M}) {L with b1:=(C,B)} 0 rfl ?_;dsimp only[List.set];refine aP 0 0 ?_;exact gF 0 hF
def zT(z:bX)(a:Nat):Int:=if a=0 then z.h0 else z.h1
def rG(z:bX):Option Nat:=if zT z (1 - z.last).toNat=1 then some (1 - z.last).toNat else if zT z z.last.toNat=1 then some z.last.toNat else none
def kI(s:aI)(x:aS):List Int:=(List.range s.aG.length).map fun i=>(pE x.wt i:Int)
def aSR(f:Nat)(hL:HL)(s:aI)(z:bX)(x:aS)(hl:z.last=0\/z.last=1)(d:rG z=none)(w:World)(F:Nat->Prop)(hp:(iW f hL s z x).sat F w)(hF:∀b,F b->b < w.heap.size):
  Cz 78 #[pt f] w (Wr (.bool false) (iW f hL s z x) w F):=by
 have c:z.h0≠1/\z.h1≠1:=by
  unfold rG at d;rcases hl with h | h<;>rw[h] at d<;>simp[zT] at d<;>by_cases p:z.h0=1<;>by_cases q:z.h1=1<;>simp[p,q] at d|-
 refine fS func78 ntmps78 hp hF ?_;refine bB 0 0 ?_;refine aAw 0 rfl fun L=>?_;dsimp only[List.set,lB];rcases hl with hl | hl<;>rw[hl]
 .refine aD ?_;refine cG (iA 1 13) ?_;refine dD rfl (fun _=>?_) (fun h=>absurd h (by simp[c.2]));refine aD ?_;refine cG (iA 0 11) ?_;refine dD rfl (fun _=>?_) (fun h=>absurd h (by simp[c.1]));refine aD ?_;rw[<-hl];refine Ej (h:=hL.h) (s:=s) (z:=z) L 0 rfl ?_;dsimp only[List.set];refine aP 0 0 ?_;exact cJ 0 hF
 .refine aD ?_;refine cG (iA 0 11) ?_;refine dD rfl (fun _=>?_) (fun h=>absurd h (by simp[c.1]));refine aD ?_;refine cG (iA 1 13) ?_;refine dD rfl (fun _=>?_) (fun h=>absurd h (by simp[c.2]));refine aD ?_;rw[<-hl];refine Ej (h:=hL.h) (s:=s) (z:=z) L 0 rfl ?_;dsimp only[List.set];refine aP 0 0 ?_;exact cJ 0 hF
def aA7(P:Program)(c:Code)(Q:Exit->Act->World->Prop):Nat->Act->World->Prop
 | 0=>fun _ _=>False
 | n+1=>c.wp P (Exit.then (aA7 P c Q n) Q)
section
variable{P:Program}{c:Code}{n:Nat}
def aWE(n:Nat)(h:XK N w0 (aA7 P c Q n) e R H):XK N w0 ((Code.loop c).wp P Q) e R H:=fun a w i st=>by
 refine aDg (aA7 P c Q) n (h a w i st) fun n a w d=>?_;cases n with
 | zero=>exact absurd d (fun h=>h)
 | succ n=>
  refine wp_mono d fun x k j f=>?_;cases x with
  | normal=>exact⟨n,Nat.lt_succ_self n,f⟩
  | _=>exact f
def aCH{y:Code}{x:Code}(M:Env->List Piece->List HP->Prop)(h:XK N w0 (x.wp P (Exit.then (fun d w'=>∃e' R' H',M e' R' H'/\eT N e' d/\St w0 R' H' w') Q)) e R H)
  (hy:∀e' R' H',M e' R' H'->XK N w0 (y.wp P Q) e' R' H'):XK N w0 (x.wp P (Exit.then (y.wp P Q) Q)) e R H:=fun a w k st=>
 wp_mono (h a w k st) fun x d w' i=>by
  cases x with
  | normal=>
   obtain⟨e',R',H',j,f,c⟩:=i;exact hy e' R' H' j d w' f c
  | _=>exact i
def aFM(h:XK N w0 (c.wp P (Exit.then (aA7 P c Q n) Q)) e R H):XK N w0 (aA7 P c Q (n+1)) e R H:=h
end
def aTT(x y:bM)(ag:Nat)(k id:Int):(fH x ag k id).d.length=x.d.length/\(fH x ag k id).c.length=x.c.length/\(fH x ag k id).l.length=x.l.length/\(iI y ag k id).d.length=y.d.length/\(iI y ag k id).c.length=y.c.length/\(iI y ag k id).l.length=y.l.length:=by
 have h:∀z:bM,(iL z k id).d.length=z.d.length/\(iL z k id).c.length=z.c.length/\(iL z k id).l.length=z.l.length:=fun z=>by
  unfold iL;split
  .exact⟨Tb _ _ _,rfl,rfl⟩
  .split
   .exact⟨rfl,Tb _ _ _,rfl⟩
   .split
    .exact⟨rfl,rfl,Tb _ _ _⟩
    .exact⟨rfl,rfl,rfl⟩
 unfold fH iI;split
 .exact⟨(h x).1,(h x).2.1,(h x).2.2,rfl,rfl,rfl⟩
 .exact⟨rfl,rfl,rfl,(h y).1,(h y).2.1,(h y).2.2⟩
def aHq(k id:Int)(z:bM):((∀a b c,Dn k a b c=sn)/\iL z k id=z)\/((∀a b c,Dn k a b c=a)/\iL z k id=⟨nY z.d id (decide (gR k)),z.c,z.l⟩)\/((∀a b c,Dn k a b c=b)/\iL z k id=⟨z.d,nY z.c id (decide (gR k)),z.l⟩)\/((∀a b c,Dn k a b c=c)/\iL z k id=⟨z.d,z.c,nY z.l id (decide (gR k))⟩):=by
 by_cases e:k=117\/k=100\/k=107
 .exact .inr (.inl ⟨fun a b c=>by rw[Dn,aH e],by rw[iL,aH e]⟩)
 by_cases f:k=99\/k=111
 .exact .inr (.inr (.inl ⟨fun a b c=>by rw[Dn,aC e,aH f],by rw[iL,aC e,aH f]⟩))
 by_cases h:k=114\/k=97
 .exact .inr (.inr (.inr ⟨fun a b c=>by rw[Dn,aC e,aC f,aH h],by rw[iL,aC e,aC f,aH h]⟩))
 exact .inl ⟨fun a b c=>by rw[Dn,aC e,aC f,aC h],by rw[iL,aC e,aC f,aC h]⟩
def aQc{l:List Bool}{id:Int}{n:Nat}{cs:List Value}{b:Bool}(h:cs.take n=bO l)(hi:0<=id/\id < (l.length:Int)):(cs.set id.toNat (.bool b)).take (n*1)=bO (nY l id b):=by
 rw[zG,<-aVO _ hi,<-h,List.take_set]
def Wl{N:cQ}{w0:World}{e:Env}{R:List Piece}{H H':List HP}{K:Act->World->Prop}{t:TypeId}{A:Option Addr}{n c:Nat}{xs:List Value}(i:Nat)(j:e.get 10=some (.slice A n c))(f:zB (i::(List.range 9).filter (· !=i)) H=some (HP.own t 1 (.slice A n c) n xs::H'))(d:(i::(List.range 9).filter (· !=i)).Nodup)(h:XK N w0 K e R (HP.own t 1 (.slice A n c) n xs::H')):XK N w0 K e R H:=xL _ f d (fun _ h=>h) h
def aTW(qx:Piece)(X1 X2 X3 Y1 Y2 Y3:Option Addr)(xk1 xk2 xk3 yk1 yk2 yk3:Nat)(x y:bM)(ag:Nat)(k id:Int)(w:World)(Zc:qx.Le (all w))(hag:ag < 2)(hbx:x.sm)(hby:y.sm)(s0:aO qx 1 X1 x.d.length (bO x.d))(s1:aO qx 1 X2 x.c.length (bO x.c))(s2:aO qx 1 X3 x.l.length (bO x.l))(s3:aO qx 1 Y1 y.d.length (bO y.d))(s4:aO qx 1 Y2 y.c.length (bO y.c))(s5:aO qx 1 Y3 y.l.length (bO y.l)):
  Cz 128 #[.agg #[.slice X1 x.d.length xk1,.slice X2 x.c.length xk2,.slice X3 x.l.length xk3,.slice Y1 y.d.length yk1,.slice Y2 y.c.length yk2,.slice Y3 y.l.length yk3],iv (ag:Int),.agg #[.int .u8 k,iv id]] w (Wv (fun v w w'=>xR (fresh w w') (fH x ag k id) (iI y ag k id) v) w):=by
 obtain⟨h0,h1,p⟩:=hbx;obtain⟨h3,h4,h5⟩:=hby;refine fP func128 ntmps128 ?_;refine Eg qx aB Zc ?_;refine aD ?_;refine eI fun g1=>?_;refine eI fun g2=>?_;refine kK fun g3=>?_;refine kK fun I=>?_;refine aWE 3 ?_;refine aFM ?_;refine aD ?_;refine aG5 0 (len:=2) (n:=3) aJ rfl rfl rfl aE rfl aE ?_;refine kK fun g5=>?_;refine kO [1,2,4,5,7,8,11] ?_;refine bU 0 ?_;refine aQ 1 ?_;refine aQ 2 ?_;refine aQ 4 ?_;refine aQ 5 ?_;refine aQ 7 ?_;refine aQ 8 ?_;refine aQ 11 ?_;refine aR 3 ?_;refine gN (Se x.d.length (bO x.d)) (fun f st=>Vx _ _ _ _ f (s0.le (st.le aB)) (Wd _) (by have:=h0;omega)) ?_;rintro _ _ q0 ⟨D,C,rfl,rfl⟩ _;dsimp only[dW,dG];refine bH ?_ (hS:=fun _ h=>h.cN.tail);refine aR 6 ?_;refine gN (Se x.c.length (bO x.c)) (fun f st=>Vx _ _ _ _ f (s1.le (st.le aB)) (Wd _) (by have:=h1;omega)) ?_;rintro _ _ q1 ⟨U,V,rfl,rfl⟩ _;dsimp only[dW,dG];refine bH ?_ (hS:=fun _ h=>h.cN.cN.tail.tail);refine aR 9 ?_;refine gN (Se x.l.length (bO x.l)) (fun f st=>Vx _ _ _ _ f (s2.le (st.le aB)) (Wd _) (by have:=p;omega)) ?_;rintro _ _ q2 ⟨L,c2,rfl,rfl⟩ _;dsimp only[dW,dG];refine bH ?_ (hS:=fun _ h=>h.cN.cN.cN.tail.tail.tail);refine aR 10 ?_;refine kd (fI rfl) ?_;refine bH ?_ (hS:=fun _ h=>h.cN.cN.cN.tail.tail.tail);refine aR 12 ?_;refine kd (iA (sz:=3) 0 0) ?_;refine cT ?_;refine aR 13 ?_;refine Jg rfl rfl ?_;simp only[jR,Value.cells,List.set,List.take,List.drop,sI,nZ,mK,Bl,sZ,Nat.reduceAdd];refine cT ?_;refine kA ?_;refine aZ [2,1,0,4,5,6,7] ?_ (R':=[qx,all w]);refine aFM ?_;refine aD ?_;refine aG5 1 (len:=2) (n:=3) aJ rfl rfl rfl aE rfl aE ?_;refine kK fun g6=>?_;refine kO [1,2,4,5,7,8,11] ?_;refine bU 0 ?_;refine aQ 1 ?_;refine aQ 2 ?_;refine aQ 4 ?_;refine aQ 5 ?_;refine aQ 7 ?_;refine aQ 8 ?_;refine aQ 11 ?_;refine aR 3 ?_;refine gN (Se y.d.length (bO y.d)) (fun f st=>Vx _ _ _ _ f (s3.le (st.le aB)) (Wd _) (by have:=h3;omega)) ?_;rintro _ _ q3 ⟨K,T,rfl,rfl⟩ _;dsimp only[dW,dG];refine bH ?_ (hS:=fun _ h=>h.cN.tail);refine aR 6 ?_;refine gN (Se y.c.length (bO y.c)) (fun f st=>Vx _ _ _ _ f (s4.le (st.le aB)) (Wd _) (by have:=h4;omega)) ?_;rintro _ _ q4 ⟨G,E,rfl,rfl⟩ _;dsimp only[dW,dG];refine bH ?_ (hS:=fun _ h=>h.cN.cN.tail.tail);refine aR 9 ?_;refine gN (Se y.l.length (bO y.l)) (fun f st=>Vx _ _ _ _ f (s5.le (st.le aB)) (Wd _) (by have:=h5;omega)) ?_;rintro _ _ q5 ⟨N,J,rfl,rfl⟩ _;dsimp only[dW,dG];refine bH ?_ (hS:=fun _ h=>h.cN.cN.cN.tail.tail.tail);refine aR 10 ?_;refine kd (fI rfl) ?_;refine bH ?_ (hS:=fun _ h=>h.cN.cN.cN.tail.tail.tail);refine aR 12 ?_;refine kd (iA (sz:=3) 1 3) ?_;refine cT ?_;refine aR 13 ?_;refine Jg rfl rfl ?_;simp only[jR,Value.cells,List.set,List.take,List.drop,sI,nZ,mK,Bl,sZ,Nat.reduceAdd];refine cT ?_;refine kA ?_;refine aZ [4,5,6,2,1,0,9,7,8] ?_ (R':=[qx,all w]);refine aFM ?_;refine aD ?_;refine cH (t:=33) rfl (fun h=>absurd h aA) (fun _=>?_);refine aD ?_;refine dD rfl (fun h=>absurd h aA) (fun _=>?_);refine aD ?_;obtain⟨X,hX⟩:∃z,z=fH x ag k id:=⟨_,rfl⟩
 obtain⟨Y,hY⟩:∃z,z=iI y ag k id:=⟨_,rfl⟩
 have hl:=aTT x y ag k id
 rw[<-hX,<-hY] at hl|-;obtain rfl | rfl:ag=0\/ag=1:=by omega
 have hc:=aHq k id x
 refine kO [1,2,3,4] ?_;refine bU 0 ?_;refine aQ 1 ?_;refine aQ 2 ?_ (bL:=iA (sz:=3) 0 0);refine aQ 3 ?_;refine aQ 4 ?_;refine aR 5 ?_;refine cM (fun f t=>aEx I 0 k (.slice D x.d.length C) (.slice U x.c.length V) (.slice L x.l.length c2) f (by simpa using(t.box (i:=7) rfl).at_ (j:=0) rfl) (by simpa using(t.box (i:=7) rfl).at_ (j:=1) rfl) (by simpa using(t.box (i:=7) rfl).at_ (j:=2) rfl)) ?_
 rotate_left
 have hc:=aHq k id y
 refine kO [1,2,3,4] ?_;refine bU 0 ?_;refine aQ 1 ?_;refine aQ 2 ?_ (bL:=iA (sz:=3) 1 3);refine aQ 3 ?_;refine aQ 4 ?_;refine aR 5 ?_;refine cM (fun f t=>aEx I 3 k (.slice K y.d.length T) (.slice G y.c.length E) (.slice N y.l.length J) f (by simpa using(t.box (i:=7) rfl).at_ (j:=3) rfl) (by simpa using(t.box (i:=7) rfl).at_ (j:=4) rfl) (by simpa using(t.box (i:=7) rfl).at_ (j:=5) rfl)) ?_
 all_goals
  refine cT ?_;refine aR 6 ?_;refine bN ?_;refine cT ?_;refine lW ?_;refine eR ?_;refine aZ [0,1,2,3,4,5,6,7,8] ?_;refine cF [(10,_),(7,pt I),(6,pt g3),(5,pt g2)] ?_;refine aCH (fun e R H=>e=[(7,pt I),(6,pt g3)]/\R=[qx,all w]/\H=[HP.own 4 1 (.slice D x.d.length C) x.d.length (bO X.d),HP.own 4 1 (.slice U x.c.length V) x.c.length (bO X.c),HP.own 4 1 (.slice L x.l.length c2) x.l.length (bO X.l),HP.own 4 1 (.slice K y.d.length T) y.d.length (bO Y.d),HP.own 4 1 (.slice G y.c.length E) y.c.length (bO Y.c),HP.own 4 1 (.slice N y.l.length J) y.l.length (bO Y.l),HP.aK g2 150 [.int .u8 k,iv id],HP.aK I 145 [.slice D x.d.length C,.slice U x.c.length V,.slice L x.l.length c2,.slice K y.d.length T,.slice G y.c.length E,.slice N y.l.length J],HP.aK g3 145 [sn,sn,sn,sn,sn,sn]]) ?_ ?_
  .clear hl;simp only[fH,iI,if_true,if_false,Nat.one_ne_zero] at hX hY;subst hX hY;obtain⟨h,p⟩ | hc:=hc
   .rw[h,p];refine aD ?_;refine cH (t:=47) rfl (fun o=>?_) (fun o=>?_)
    .refine aD ?_;refine dD rfl (fun h=>absurd h aA) (fun _=>?_);refine aD ?_;exact rK ⟨rfl,rfl,rfl⟩
    .refine aD ?_;exact rK ⟨rfl,rfl,rfl⟩
   rcases hc with⟨h,p⟩ | ⟨h,p⟩ | ⟨h,p⟩
   all_goals
    rw[h,p];dsimp only
    first | refine Wl 0 rfl rfl aE ?_ | refine Wl 1 rfl rfl aE ?_ | refine Wl 2 rfl rfl aE ?_ | refine Wl 3 rfl rfl aE ?_ | refine Wl 4 rfl rfl aE ?_ | refine Wl 5 rfl rfl aE ?_
    refine aD ?_;refine cH (t:=47) rfl (fun o=>?_) (fun o=>?_)
    .refine aD ?_;refine dD rfl (fun m=>?_) (fun m=>?_)
     .have hin:=And.intro o m
      refine aAv 0 rfl aA ?_;rintro⟨gb,rfl⟩;refine Iv 0 rfl fun cs O M hnc hcm=>?_;simp only[zG] at O M;dsimp only[List.set];refine kO [1,2,3,4] ?_;refine bU 0 ?_;refine aQ 1 ?_;refine aQ 2 ?_;refine aQ 3 ?_;refine aQ 4 ?_;refine aR 5 ?_;refine cM (fun f t=>aDZ k f) ?_;refine bH ?_;refine aR 6 ?_;refine kd (dat id.toNat id.toNat) ?_;refine cT ?_;refine aR 7 ?_;refine vR ?_;refine cT ?_;refine kA ?_;refine Aj 0 (sz:=1) rfl (by simpa using O) (aQc M hin) hnc hcm ?_;dsimp only[List.set];exact rK ⟨rfl,rfl,rfl⟩
     .rw[aD5 _ fun h=>m h.2];refine aD ?_;exact rK ⟨rfl,rfl,rfl⟩
    .rw[aD5 _ fun h=>o h.1];refine aD ?_;exact rK ⟨rfl,rfl,rfl⟩
  .rintro _ _ _ ⟨rfl,rfl,rfl⟩;refine aZ [7,8,0,1,2,3,4,5] ?_;refine aD ?_;refine dX [] [2,3,4,5,6,7] [0,1] fun q r _ hfr=>?_;refine aAt rfl (n:=6) (vs:=[.slice D x.d.length C,.slice U x.c.length V,.slice L x.l.length c2,.slice K y.d.length T,.slice G y.c.length E,.slice N y.l.length J]) aJ rfl rfl (cI.whole 1 rfl) fun f st=>⟨⟨_,rfl,?_⟩,st.below aB⟩
   have hle:=st.oA aB (hfr aB aB)
   obtain⟨l1,l2,l3,l4,l5,l6⟩:=hl
   have B:∀{A n c xs},(∃F,(HP.own 4 1 (.slice A n c) n xs).sat F q.w/\∀b,F b->q.Z b)->aO (fresh w f) 1 A n xs:=fun h=>(aO.own h).le hle
   refine⟨D,C,U,V,L,c2,K,T,G,E,N,J,?_,?_,?_,?_,?_,?_,?_⟩
   .rw[l1,l2,l3,l4,l5,l6]
   .rw[l1];exact B (r 2 _ aB rfl)
   .rw[l2];exact B (r 3 _ aB rfl)
   .rw[l3];exact B (r 4 _ aB rfl)
   .rw[l4];exact B (r 5 _ aB rfl)
   .rw[l5];exact B (r 6 _ aB rfl)
   .rw[l6];exact B (r 7 _ aB rfl)
def aJ8{b:Nat}(c:b < 2):(lB h L s z)[11+b*2]? =some (iv (zT z b)):=by
 obtain rfl | rfl:b=0\/b=1:=by omega
 .rfl
 .rfl
structure Jd(s:aI)(z:bX):Prop where
 la:z.last=0\/z.last=1
 u0:nH z.w0
 u1:nH z.w1
 n0:z.w0.length<=1000000
 n1:z.w1.length<=1000000
 sx:z.x.sm
 sy:z.y.sm
def Jd.box{s:aI}{z:bX}(h:Jd s z)(b:Nat):nH (jM z b)/\(jM z b).length<=1000000:=by
 unfold jM;split
 .exact⟨h.u0,h.n0⟩
 .exact⟨h.u1,h.n1⟩
def cY(s:aI)(x:aS)(z:bX)(a:Nat):Int×Int×Int:=eY s z.x z.y (kI s x) a (jM z a)
def nX(s:aI)(x:aS)(z:bX)(a:Nat):bX×Bool:=
 let d:=cY s x z a
 if d.2.1=0 then(rB s x {z with last:=a} a d.1,false)
 else({z with last:=a,x:=fH z.x a d.2.1 d.2.2,y:=iI z.y a d.2.1 d.2.2,at_:=a,kind:=d.2.1,id:=d.2.2},true)
def kX(s:aI)(x:aS)(z:bX):bX×Bool:=match rG z with
 | none=>(z,false)
 | some a=>nX s x z a
def aJ4(f:Nat)(hL:HL)(s:aI)(z:bX)(x:aS)(hH:s.dM)(hLo:iS hL s)(X:dF s x)(hz:Jd s z)(l a:Nat)(hl:z.last=(l:Int))(hl1:l<=1)(T:a < 2)(hab:(zT z (1 - l)=1/\a=1 - l)\/(zT z (1 - l)≠1/\a=l))(h1:zT z a=1)
  (J:(cY s x z a).2.1=0->(cY s x z a).1=0->wH (jM z a)) (w:World) (F:Nat->Prop) (hp:(iW f hL s z x).sat F w) (hF:∀b,F b->b < w.heap.size):
  Cz 78 #[pt f] w (Wr (.bool (nX s x z a).2) (iW f hL s (nX s x z a).1 x) w F):=by
 have Hw:=hH.t.nv
 unfold nX;generalize hdz:cY s x z a=dz at J|-;obtain⟨st,k,id⟩:=dz;dsimp only at J|-;obtain⟨hbu,hbn⟩:=hz.box a;refine fS func78 ntmps78 hp hF ?_;refine bB 0 0 ?_;refine kF 0 fun L=>?_
 have G:(lB hL.h L s z)[15]? =some (iv (l:Int)):=by rw[<-hl];rfl
 refine fO ?_;refine jS ?_;refine bN ?_;refine iJ ?_;refine fO ?_;refine jS ?_;refine bN ?_;refine bN ?_;refine bN ?_;refine kd (bT rfl (Rd.dH 0 rfl G)) ?_;refine kd (aCf rfl rfl (c:=((1 - l:Nat):Int)) (by rw[show(1:Int) - (l:Int)=((1 - l:Nat):Int) by omega];exact qM aA)) ?_;refine bN ?_;refine iJ ?_;refine Wn (fun e R H=>e=[(3,iv (a:Int)),(0,pt f)]/\R=[⟨w,fun b=>b < w.heap.size/\¬F b⟩]/\H=[jO f hL.h L s z,HP.many [cS,eH hL s x]]) ?_ ?_
 .refine fO ?_;refine jS ?_;refine bN ?_;refine bN ?_;refine bN ?_;refine bN ?_;refine kd (iA (1 - l) (11+(1 - l)*2)) ?_;refine bN ?_;refine kd (bT rfl (Rd.dH 0 rfl (aJ8 aA))) ?_;refine bN ?_;refine iJ ?_;rcases hab with⟨K,rfl⟩ | ⟨K,rfl⟩
  .refine bP (fun h=>absurd K h) (fun _=>?_);refine sQ ?_;refine eR ?_;exact rK ⟨rfl,rfl,rfl⟩
  .refine bP (fun _=>?_) (fun h=>absurd K h);refine jS ?_;refine bN ?_;refine bN ?_;refine bN ?_;refine kd (bT rfl (Rd.dH 0 rfl G)) ?_;refine bN ?_;refine iJ ?_;exact rK ⟨rfl,rfl,rfl⟩
 rintro _ _ _ ⟨rfl,rfl,rfl⟩;refine aD ?_;refine kd (iA a (11+a*2)) ?_;refine aD ?_;refine kd (bT rfl (Rd.dH 0 rfl (aJ8 T))) ?_;refine aD ?_;refine bP (fun h=>absurd h1 h) (fun _=>?_);refine aD ?_;refine bB 0 0 ?_;refine jD rfl rfl ?_ (hs:=dR.mk 0 rfl dK.h rfl (by simp[lB]));dsimp only[List.set];rw[show(lB hL.h L s z).set (0+15) (iv (a:Int))=lB hL.h L s {z with last:=(a:Int)} from rfl];refine aP 0 0 ?_
 change XK _ _ _ _ _ [jO f hL.h L s {z with last:=(a:Int)},HP.many [cS,eH hL s x]]
 generalize E:({z with last:=(a:Int)}:bX)=z1
 have e1:z1.x=z.x:=by rw[<-E]
 have e2:z1.y=z.y:=by rw[<-E]
 have e3:jM z1 a=jM z a:=by rw[<-E];rfl
 refine aD ?_;refine kd (bT rfl (Rd.dH 0 rfl rfl)) ?_;refine aD ?_;refine oZ (n:=s.aG.length) 8 (el:=3) (z:=iv 0) aJ aJ rfl rfl rfl aA aA aE fun O=>?_;refine aD ?_;refine bB 2 1 ?_
 rw[show List.replicate s.aG.length (Value.int .i64 0)=aU (mN (kI s x) ((kI s x).map fun _=>0) 0) by
  rw[Yr];refine qR fun j=>?_;simp only[aU,kI,Mr,zJ,eO]
  by_cases h:j < s.aG.length
  .rw[aH h,Hr h];rfl
  .rw[aC h,eW (by simp;omega)];rfl]
 refine cF [(46,iv 0),(45,iv s.aG.length),(4,.slice (some ⟨O,0,none⟩) s.aG.length s.aG.length),(3,iv (a:Int)),(0,pt f)] ?_
 have C:(kI s x).length=s.aG.length:=by simp[kI]
 refine gA (fun m e R H=>∃i:Nat,i<=s.aG.length/\m=s.aG.length - i/\e=[(46,iv i),(45,iv s.aG.length),(4,.slice (some ⟨O,0,none⟩) s.aG.length s.aG.length),(3,iv (a:Int)),(0,pt f)]/\R=[⟨w,fun b=>b < w.heap.size/\¬F b⟩]/\H=[eH hL s x,HP.aK O 3 (aU (mN (kI s x) ((kI s x).map fun _=>0) i)),jO f hL.h L s z1,HP.many [cS,cS]]) s.aG.length ⟨0,aA,rfl,rfl,rfl,rfl⟩ fun m e R H hI=>?_;obtain⟨i,hi,rfl,rfl,rfl,rfl⟩:=hI
 have aRU:=Yt (vs:=kI s x) (old:=(kI s x).map fun _=>0) (n:=s.aG.length) C (by simp[kI]) hi
 have vU:(aU (mN (kI s x) ((kI s x).map fun _=>0) i)).length=s.aG.length:=by simp[aU,aRU]
 refine aD ?_;refine bP (fun D=>?_) (fun hge=>?_)
 .have D:i < s.aG.length:=aA
  have hwi:(kI s x)[i]? =some (pE x.wt i:Int):=by simp[kI,D]
  have jE:(aU (mN (kI s x) ((kI s x).map fun _=>0) i)).set i (iv (pE x.wt i:Nat))=aU (mN (kI s x) ((kI s x).map fun _=>0) (i+1)):=by
   rw[<-Ys aB hwi,aU,aU,Fi]
  refine aD ?_;refine kd (bT rfl (Rd.dH 2 rfl rfl)) ?_;refine aD ?_;refine cM (fun o t=>aSj hL s x o i D (t.pN 0 rfl hLo X)) ?_;refine aD ?_;refine kd (dat i i) ?_;refine vR ?_;rw[jE];refine aD ?_;exact fX (s.aG.length - (i+1)) ⟨i+1,D,rfl,rfl,rfl,rfl⟩
 obtain rfl:i=s.aG.length:=by omega
 rw[Yu C (by simp[kI])];refine aP 2 1 ?_;refine aD ?_;refine aCH (fun e R H=>∃I:Nat,e=[(7,pt I),(6,.int .i32 st),(3,iv (a:Int)),(0,pt f)]/\R=[⟨w,fun b=>b < w.heap.size/\¬F b⟩]/\H=[HP.aK I 150 [.int .u8 k,iv id],jO f hL.h L s z1,HP.many [cS,eH hL s x]]) ?_ ?_
 .refine kO [1,2,3,5,6,7,12,13,14,15,16,19,20] ?_;refine bU 0 ?_;refine bU 4 ?_;refine bU 8 ?_;refine bU 9 ?_;refine bU 10 ?_;refine bU 11 ?_;refine aQ 1 ?_;refine aQ 2 ?_;refine aQ 3 ?_ (bL:=nQ rfl (cI.dH 1 rfl (vs:=[.slice L.a1.1 s.aL.length L.a1.2,.slice L.a2.1 s.domains.length L.a2.2,.slice L.a3.1 s.bG.length L.a3.2,.slice L.a4.1 s.aG.length L.a4.2]) rfl));refine aQ 5 ?_;refine aQ 6 ?_;refine aQ 7 ?_ (bL:=nQ rfl (cI.dH 1 rfl (vs:=[.slice L.x1.1 z1.x.d.length L.x1.2,.slice L.x2.1 z1.x.c.length L.x2.2,.slice L.x3.1 z1.x.l.length L.x3.2,.slice L.y1.1 z1.y.d.length L.y1.2,.slice L.y2.1 z1.y.c.length L.y2.2,.slice L.y3.1 z1.y.l.length L.y3.2]) rfl));refine aQ 12 ?_;refine aQ 13 ?_;refine aQ 14 ?_ (bL:=iA (sz:=2) a (11+a*2));refine aQ 15 ?_;refine aQ 16 ?_ (bL:=bT rfl (Rd.dH 1 rfl (v:=.slice (zZ L a).1 (jM z1 a).length (zZ L a).2) (by rw[show 11+a*2+1=12+a*2 by omega];exact aJ9 T)))
  have A:∀H:List HP,H[H.length - 2]? =some (jO f hL.h L s z1)->(H.length=3\/H.length=4)->H[H.length - 3]? =some (HP.aK O 3 (aU (kI s x)))->∀o,St w [⟨w,fun b=>b < w.heap.size/\¬F b⟩] H o->Cz 127 #[.agg #[.slice L.a1.1 s.aL.length L.a1.2,.slice L.a2.1 s.domains.length L.a2.2,.slice L.a3.1 s.bG.length L.a3.2,.slice L.a4.1 s.aG.length L.a4.2],.agg #[.slice L.x1.1 z1.x.d.length L.x1.2,.slice L.x2.1 z1.x.c.length L.x2.2,.slice L.x3.1 z1.x.l.length L.x3.2,.slice L.y1.1 z1.y.d.length L.y1.2,.slice L.y2.1 z1.y.c.length L.y2.2,.slice L.y3.1 z1.y.l.length L.y3.2],.slice (some ⟨O,0,none⟩) s.aG.length s.aG.length,iv (a:Int),.slice (zZ L a).1 (jM z1 a).length (zZ L a).2] o (Rt (aFI (st,k,id)) o):=fun H K _ h3 o t=>by
   have B:=t.Ii _ K
   have:=aUN (all o) (all o) s _ _ _ _ _ L.a1.2 _ L.a2.2 _ L.a3.2 _ L.a4.2 _ _ _ _ _ _ _ L.x1.2 _ L.x2.2 _ L.x3.2 _ L.y1.2 _ L.y2.2 _ L.y3.2 z1.x z1.y (some ⟨O,0,none⟩) s.aG.length s.aG.length (kI s x) a _ _ (zZ L a).2 (jM z1 a) o B.so hH.t (Piece.Le.refl _) B.stR (Piece.Le.refl _) (t.wP h3 (by simp[aU,C])) C.symm T (B.box T) rfl (by rw[e3];exact hbn) (by rw[e3];exact hbu)
   rw[show eY s z1.x z1.y (kI s x) a (jM z1 a)=(st,k,id) by rw[e1,e2,e3];exact hdz] at this;exact this
  refine Ap 17 21 rfl rfl aJ ?_ ?_
  .refine cM (fun o t=>A _ rfl (.inl rfl) rfl o t) ?_;refine bH ?_;refine bU 18 ?_;refine aQ 19 ?_;refine aQ 20 ?_;refine aR 21 ?_;refine eE fun I=>?_;refine bH ?_;refine aR 22 ?_;refine bN ?_;refine bH ?_;refine aR 23 ?_;refine mO 0 rfl ?_;dsimp only[List.set];refine cT ?_;refine lW ?_;refine eR ?_;refine aZ [0,2,3] ?_;exact rK ⟨I,rfl,rfl,rfl⟩
  .refine eE fun I=>?_;refine bH ?_;refine aR 17 ?_;refine cM (fun o t=>A _ rfl (.inr rfl) rfl o t) ?_;refine bH ?_;refine bU 18 ?_;refine aQ 19 ?_;refine aQ 20 ?_;refine aR 22 ?_;refine bN ?_;refine bH ?_;refine aR 23 ?_;refine mO 0 rfl ?_;dsimp only[List.set];refine cT ?_;refine lW ?_;refine eR ?_;refine aZ [0,2,3] ?_;exact rK ⟨I,rfl,rfl,rfl⟩
 rintro _ _ _ ⟨I,rfl,rfl,rfl⟩;refine aD ?_;refine bP (fun N=>?_) (fun N=>?_)
 .have N:k=0:=N
  rw[aH N];refine dN 1 (fun L:iT=>jO f hL.h L s z1) L ?_;refine aZ [1,0,2] ?_;refine aP 1 0 ?_;refine aD ?_;refine gM 1 (iW f hL s (rB s x z1 a st) x) (fun o F1 t h1 K h3=>aEV f hL s z1 x hH hLo X a T st (fun h0=>by rw[e3];exact J N h0) o F1 h1 K) ?_;refine aD ?_;exact cJ 1 hF
 .rw[aC N];rw[show({z with last:=(a:Int),x:=fH z.x a k id,y:=iI z.y a k id,at_:=(a:Int),kind:=k,id:=id}:bX)={z1 with x:=fH z1.x a k id,y:=iI z1.y a k id,at_:=(a:Int),kind:=k,id:=id} by rw[<-E]];refine aD ?_;refine kO [2,3,4,6] ?_;refine bU 0 ?_;refine bU 1 ?_;refine bU 5 ?_;refine aQ 2 ?_;refine aQ 3 ?_;refine aQ 4 ?_ (bL:=nQ rfl (cI.dH 1 rfl (vs:=[.slice L.x1.1 z1.x.d.length L.x1.2,.slice L.x2.1 z1.x.c.length L.x2.2,.slice L.x3.1 z1.x.l.length L.x3.2,.slice L.y1.1 z1.y.d.length L.y1.2,.slice L.y2.1 z1.y.c.length L.y2.2,.slice L.y3.1 z1.y.l.length L.y3.2]) rfl));refine aQ 6 ?_;refine aR 7 ?_
  refine jL [] (fun v w w'=>xR (fresh w w') (fH z1.x a k id) (iI z1.y a k id) v) (fun o t=>by
   have B:=t.Ii 1 rfl
   exact aTW (all o) _ _ _ _ _ _ L.x1.2 L.x2.2 L.x3.2 L.y1.2 L.y2.2 L.y3.2 z1.x z1.y a k id o (Piece.Le.refl _) T (by rw[e1];exact hz.sx) (by rw[e2];exact hz.sy) B.st.1 B.st.2.1 B.st.2.2.1 B.st.2.2.2.1 B.st.2.2.2.2.1 B.st.2.2.2.2.2) ?_
  rintro _ w2 q2 U hq2 _ M
  have M:=M aB
  obtain⟨Z,x2,V,y1,Y,y3,rfl,r⟩:=U.P
  have r:=tK.le _ _ hq2 (r L.a1 L.a2 L.a3 L.a4 L.b0 L.b1)
  refine Nx (Φ:=tK ⟨L.a1,L.a2,L.a3,L.a4,Z,x2,V,y1,Y,y3,L.b0,L.b1⟩ (fH z1.x a k id) (iI z1.y a k id)) (hm:=tK.le) M (fun p hp b hb=>by simp at hp;subst hp;exact hb.1) r ?_;refine cT ?_;refine aR 8 ?_;refine bN ?_;refine cT ?_;refine aR 9 ?_;refine bN ?_;refine cT ?_;refine aR 10 ?_;refine bB 2 0 ?_;refine uJ 0 (t:=152) rfl rfl rfl aJ (by simp[Value.cells,Value.oneCell',Bh]) (by simp[Value.cells,lB]) ?_;dsimp only[List.set];rw[show jR (lB hL.h L s z1) (0+5) (Value.agg #[Bh Z (fH z1.x a k id).d.length,Bh x2 (fH z1.x a k id).c.length,Bh V (fH z1.x a k id).l.length,Bh y1 (iI z1.y a k id).d.length,Bh Y (iI z1.y a k id).c.length,Bh y3 (iI z1.y a k id).l.length]).cells.toList=lB hL.h ⟨L.a1,L.a2,L.a3,L.a4,Z,x2,V,y1,Y,y3,L.b0,L.b1⟩ s {z1 with x:=fH z1.x a k id,y:=iI z1.y a k id} from rfl];refine cT ?_;refine lW ?_;refine eR ?_;refine bB 3 2 ?_;refine aZ [1,2,3,4,5] ?_ (R':=[⟨w,fun b=>b < w.heap.size/\¬F b⟩]);refine aZ [1,0,2,3,4] ?_;refine aP 2 2 ?_;generalize hz2:({z1 with x:=fH z1.x a k id,y:=iI z1.y a k id}:bX)=z2;rw[show({z1 with x:=fH z1.x a k id,y:=iI z1.y a k id,at_:=(a:Int),kind:=k,id:=id}:bX)={z2 with at_:=(a:Int),kind:=k,id:=id} by rw[<-hz2]];generalize hL2:(⟨L.a1,L.a2,L.a3,L.a4,Z,x2,V,y1,Y,y3,L.b0,L.b1⟩:iT)=L2;refine fO ?_;refine aCH (fun e R H=>e=[(0,pt f)]/\R=[⟨w,fun b=>b < w.heap.size/\¬F b⟩]/\H=[HP.aK f 152 (lB hL.h L2 s {z2 with at_:=(a:Int),kind:=k,id:=id}),HP.aK I 150 [.int .u8 k,iv id],HP.many [cS,HP.cO (yU L s) (yU.le (L:=L) (s:=s)),HP.cO (tK L2 (fH z1.x a k id) (iI z1.y a k id)) (tK.le (L:=L2) (x:=fH z1.x a k id) (y:=iI z1.y a k id)),HP.cO (fD L.b0 z1.w0) (fD.le (a:=L.b0) (l:=z1.w0)),HP.cO (fD L.b1 z1.w1) (fD.le (a:=L.b1) (l:=z1.w1))],HP.many [cS,eH hL s x]]) ?_ ?_
  .refine kO [] ?_;refine bU 0 ?_;refine bU 1 ?_;refine bU 2 ?_
   repeat' (first
    | (refine lW ?_;refine eR ?_;exact rK ⟨rfl,rfl,rfl⟩)
    | refine Ap 3 4 rfl rfl (by decide+kernel) ?_ ?_
    | refine Ap 3 5 rfl rfl (by decide+kernel) ?_ ?_
    | refine Ap 3 6 rfl rfl (by decide+kernel) ?_ ?_
    | refine aR 3 ?_
    | refine aR 4 ?_
    | refine aR 5 ?_
    | refine aR 6 ?_
    | refine aR 7 ?_
    | refine aR 8 ?_
    | refine aR 9 ?_
    | refine cT ?_
    | refine bN ?_
    | (refine jD rfl rfl ?_ (hs:=dR.mk 0 rfl dK.h rfl (by simp[lB]));dsimp only[List.set];rw[show(lB hL.h L2 s z2).set (0+16) (iv (a:Int))=lB hL.h L2 s {z2 with at_:=(a:Int)} from rfl])
    | (refine uJ 0 (t:=152) rfl rfl rfl aJ (by simp[Value.cells,Value.oneCell']) (by simp[Value.cells,lB]) ?_;dsimp only[List.set];rw[show jR (lB hL.h L2 s {z2 with at_:=(a:Int)}) (0+17) (Value.agg #[.int .u8 k,iv id]).cells.toList=lB hL.h L2 s {z2 with at_:=(a:Int),kind:=k,id:=id} from rfl]))
  rintro _ _ _ ⟨rfl,rfl,rfl⟩;refine aP 1 0 ?_;subst hL2;subst hz2;refine wB 1 (f:=fun L:iT=>jO f hL.h L s {({z1 with x:=fH z1.x a k id,y:=iI z1.y a k id}:bX) with at_:=(a:Int),kind:=k,id:=id}) ⟨L.a1,L.a2,L.a3,L.a4,Z,x2,V,y1,Y,y3,L.b0,L.b1⟩ rfl ?_;dsimp only[List.set];refine aZ [1,0,2] ?_;refine aP 1 0 ?_;refine aD ?_;exact cJ 1 hF
def aJ5(f:Nat)(hL:HL)(s:aI)(z:bX)(x:aS)(p:s.dM)(e:iS hL s)(d:dF s x)(n:Jd s z)(j:∀a,rG z=some a->(cY s x z a).2.1=0->(cY s x z a).1=0->wH (jM z a))(w:World)(F:Nat->Prop)(hp:(iW f hL s z x).sat F w)(hF:∀b,F b->b < w.heap.size):
  Cz 78 #[pt f] w (Wr (.bool (kX s x z).2) (iW f hL s (kX s x z).1 x) w F):=by
 unfold kX;cases c:rG z with
 | none=>exact aSR f hL s z x n.la c w F hp hF
 | some a =>
  obtain⟨l,r,i⟩:∃l:Nat,z.last=(l:Int)/\l<=1:=by
   rcases n.la with h | h
   .exact⟨0,h,aA⟩
   .exact⟨1,h,aA⟩
  have m:=c
  unfold rG at c;rw[show(1 - z.last).toNat=1 - l by omega,show z.last.toNat=l by omega] at c
  by_cases k:zT z (1 - l)=1
  .rw[aH k] at c;obtain rfl:=sJ c;exact aJ4 f hL s z x p e d n l _ r i aA (.inl ⟨k,rfl⟩) k (j _ m) w F hp hF
  .rw[aC k] at c
   by_cases o:zT z l=1
   .rw[aH o] at c;obtain rfl:=sJ c;exact aJ4 f hL s z x p e d n l _ r i aA (.inr ⟨k,rfl⟩) o (j _ m) w F hp hF
   .rw[aC o] at c;cases c
section
variable{P:Program}{H':List HP}
def aCG{nn:Nat}{F:Nat->Prop}{p:HP}{f:FuncId}{fn:Func}{c:Code}{vs:List Value}{d:Ending->World->Prop}(hf:P.funcs[f]? =some fn)(k:fn.body=some c)(l:fn.ntmps=nn)(hl:vs.length<=nn)(hp:p.sat F w)(hF:∀b,F b->b < w.heap.size)
  (h:XK ⟨nn,[]⟩ w (c.wp P (bodyPostD P fn d)) (Eb 0 vs) [⟨w,fun b=>b < w.heap.size/\¬F b⟩] [p]):Calls P f vs.toArray w d:=by
 refine calls_of_wp_defers hf k (h _ _ ⟨?_,rfl,fun t v j=>?_⟩ (aGd hp hF))
 .simp;omega
 .obtain⟨_,e⟩:=aAj vs 0 t v j;rw[Nat.sub_zero] at e
  have i:t < vs.length:=by
   rcases dI t vs.length with h | h
   .exact h
   .rw[eW h] at e;cases e
  rw[aBn (by simpa using i)]
  simpa using e
def Ge{nn:Nat}{f:FuncId}{fi ca:List Value}{fn:Func}{c:Ending->World->Prop}{x:Exit}(hx:x=.ret\/x=.normal)(hf:fW P f=true)
  (i:∀w,CallsD P f (fi++ca).toArray .returning w fun y k w'=>y=.returned (.tuple #[])/\k=.returning/\w'=w) (l:fn.results=#[])
  (h:∀w,St w0 R H w->c (.returned (.tuple #[])) w):XK ⟨nn,[Nu f fi ca]⟩ w0 (bodyPostD P fn c x) e R H:=by
 have d:XK ⟨nn,[Nu f fi ca]⟩ w0 (bodyPostD P fn c .ret) e R H:=aWM (H':=H) hf (fun j st=>(i j).mono fun y k w' h=>by
  obtain⟨n,m,rfl⟩:=h
  exact⟨⟨_,n⟩,m,st⟩) fun a j _ st=>⟨.tuple #[],results_none l _ _ _,h j st⟩
 rcases hx with rfl | rfl
 .exact d
 .exact d
end
def Zx(w:World):CallsD Tryz.prog 77 #[] .returning w fun e f w'=>e=.returned (.tuple #[])/\f=.returning/\w'=w:=by
 refine callsD_of_wpS func77 rfl fun c h d=>?_;apply wpS_region;simp[wpOpsS,go_sem,recoverD,d,ntmps77,Exit.thenS];cases c;simp_all [bodyPostS,results,Tryz.results77]
section
variable{hL:HL}
def Lu(i:Nat){o:Nat}{v:Value}(hi:H[i]? =some (iW f hL s z x))(k:∀L,(lB hL.h L s z)[o]? =some v):Rd w0 R H f o v:=fun w t=>by
 obtain⟨F,⟨G,j,d,_⟩,e,_⟩:=t.chunk hi;obtain⟨L,c⟩:=j 0 _ rfl
 have:=((aMz c fun b l=>e b (d 0 b l)).r0.at_ (k L)).2
 rwa [mA] at this
end
def aSV(f:Nat)(hL:HL)(s:aI)(z:bX)(x:aS)(r:s.dM)(d:iS hL s)(c:dF s x)(y:Jd s z)(e:∀a,rG z=some a->(cY s x z a).2.1=0->(cY s x z a).1=0->wH (jM z a))(k:z.at_ < 0)(j:(kX s x z).2=false)(w:World)(F:Nat->Prop)(hp:(iW f hL s z x).sat F w)(hF:∀b,F b->b < w.heap.size):
  Cz 45 #[pt f] w (Wr (.tuple #[]) (iW f hL s (kX s x z).1 x) w F):=by
 refine aCG (vs:=[pt f]) (p:=iW f hL s z x) func45 rfl ntmps45 aB hp hF ?_;refine aD ?_;refine aAG (f:=77) (fi:=[]) (ca:=[]) rfl ?_;refine aD ?_;refine cG (bT rfl (Lu 0 rfl fun _=>rfl)) ?_;refine cH (t:=8) rfl (fun _=>?_) (fun h=>absurd k h);refine aD ?_;refine gM 0 (iW f hL s (kX s x z).1 x) (fun l m t o n A=>aJ5 f hL s z x r d c y e l m o n) ?_;rw[j];refine aD ?_;exact Ge (.inl rfl) aJ Zx rfl fun l t=>⟨rfl,t.turns hF aB (i:=0) rfl⟩
def aEF(m p k:Int):Bool:=decide ((dQ m 0 p k).2=0/\cZ (dQ m 0 p k).1 28 4=0/\cZ (dQ m 0 p k).1 0 8=m/\cZ (dQ m 0 p k).1 8 2=0/\cZ (dQ m 0 p k).1 10 8=p/\cZ (dQ m 0 p k).1 18 10=k)
def aSd:([4,7]:List Int).all (fun m=>([17,20,22]:List Int).all fun p=>(List.range 64).all fun k=>aEF m p k)=true:=by decide+kernel
def aSe{m p:Int}{k:Nat}(hm:m=4\/m=7)(hp:p=17\/p=20\/p=22)(hk:k < 64):(dQ m 0 p k).2=0/\wN (dQ m 0 p k).1=0/\Jk (dQ m 0 p k).1=Kq m 0 p k:=by
 have h:=aSd
 rw[mJ] at h
 have d:=h m (by rcases hm with rfl | rfl<;>simp)
 rw[mJ] at d
 have c:=d p (by rcases hp with rfl | rfl | rfl<;>simp)
 rw[mJ] at c
 have n:=eV (c k (mI.2 hk))
 obtain⟨f,e,o,j,i,l⟩:=n;refine⟨f,?_,?_⟩
 .rw[wN,aC (fun h=>h e)]
 .rw[Jk,aC (fun h=>h e),o,j,i,l]
def aIz:(List.range 256).all (fun v=>decide (Ga (IntKind.u32.wrap v) (zN 8 0)=0))=true:=by decide+kernel
def aQG:(List.range 4).all (fun v=>decide (Ga (IntKind.u32.wrap v) (zN 2 0)=0))=true:=by decide+kernel
def aQH:(List.range 1024).all (fun v=>decide (Ga (IntKind.u32.wrap v) (zN 10 0)=0))=true:=by decide+kernel
def aBw{n:Nat}{many v:Int}(h:(List.range n).all (fun v=>decide (Ga (IntKind.u32.wrap v) (zN many 0)=0))=true)(d:0<=v)(c:v < n):Ga (IntKind.u32.wrap v) (zN many 0)=0:=by
 rw[mJ] at h
 have:=eV (h v.toNat (mI.2 aA))
 rwa [show((v.toNat:Nat):Int)=v by omega] at this
def aBq{w c many v:Int}(hm:Ga (IntKind.u32.wrap v) (zN many 0)=0)(e:0<=v)(d:v < IntKind.i64.wrap (1*2 ^ min many.toNat 64)):(iM w c many v).2=0:=by
 unfold iM;rw[aC aA,aC (by rw[Bs,aC (fun h=>h hm)];exact fun h=>h rfl)]
def aQa{m p k:Int}(hm:0<=m/\m < 256)(hp:0<=p/\p < 256)(hk:0<=k/\k < 1024):(dQ m 0 p k).2=0:=by
 have e:IntKind.i64.wrap (1*2 ^ min (8:Int).toNat 64)=256:=by decide+kernel
 have n:IntKind.i64.wrap (1*2 ^ min (2:Int).toNat 64)=4:=by decide+kernel
 have d:IntKind.i64.wrap (1*2 ^ min (10:Int).toNat 64)=1024:=by decide+kernel
 have l:∀w c,(iM w c 8 m).2=0:=fun w c=>aBq (aBw aIz hm.1 hm.2) hm.1 (by rw[e];exact hm.2)
 have j:∀w c,(iM w c 2 0).2=0:=fun w c=>aBq (aBw aQG aE aE) aE (by rw[n];decide)
 have i:∀w c,(iM w c 8 p).2=0:=fun w c=>aBq (aBw aIz hp.1 hp.2) hp.1 (by rw[e];exact hp.2)
 have f:∀w c,(iM w c 10 k).2=0:=fun w c=>aBq (aBw aQH hk.1 hk.2) hk.1 (by rw[d];exact hk.2)
 unfold dQ;rw[aC (fun h=>h (l _ _)),aC (fun h=>h (j _ _)),aC (fun h=>h (i _ _)),aC (fun h=>h (f _ _))]
def aDX(a b:Int):0<=Fj a b/\Fj a b < 4294967296:=Sq _
def aHV(w c many v:Int):0<=(iM w c many v).1/\(iM w c many v).1 < 4294967296:=by
 unfold iM;split
 .exact⟨aE,aE⟩
 .split
  .exact⟨aE,aE⟩
  .unfold Bs;split
   .exact⟨aE,aE⟩
   .exact aDX _ _
def aQb(m t p k:Int):0<=(dQ m t p k).1/\(dQ m t p k).1 < 4294967296:=by
 unfold dQ;split
 .exact⟨by dsimp only;decide,by dsimp only;decide⟩
 .split
  .exact⟨by dsimp only;decide,by dsimp only;decide⟩
  .split
   .exact⟨by dsimp only;decide,by dsimp only;decide⟩
   .split
    .exact⟨by dsimp only;decide,by dsimp only;decide⟩
    .exact aHV _ _ _ _
def aMc(l:List Int)(v:Value)(hs:List HP)(_:Piece):Prop:=∃A c,v=.slice A l.length c/\hs=[HP.own 36 1 (.slice A l.length c) l.length (eB l)]
def aM7(l:List Int)(v:Value)(hs:List HP)(_:Piece):Prop:=∃A c,v=.tuple #[.slice A l.length c,iv 0]/\hs=[HP.own 36 1 (.slice A l.length c) l.length (eB l)]
def aN2(l:List Int)(x:Int):eB l++[.int .u32 x]=eB (l++[x]):=by simp[eB]
def aGS(l:List Int)(i:Nat)(x:Int):(eB l).set i (.int .u32 x)=eB (l.set i x):=by simp[eB,Fi]
def aH5(P:Program)(a b:Int)(w:World):(Op.intBits .or .u32 a b).run P w=.ok (.int .u32 (Fj a b)) w:=by rfl
section
variable{l:Int}{b:Nat}{m a:List Int}
end
def Yo{s:aI}{st:List fE}(j:s.dM)(h:tQ s st)(i:Int)(b:Bool):tQ s (lI s st i b).2:=by
 unfold lI;split
 .exact h
 .split
  .rename_i c x e f
   split
   .exact h
   .refine⟨by simp[h.len],fun y d=>?_⟩;rcases Bq d with d | rfl
    .exact h.left y d
    .have l:=(j.t.aL i.toNat c e).2
     have k:=h.left x (dJ f)
     unfold Py;dsimp only;split
     .omega
     .exact k
  .exact h
def aGP{s:aI}{st:List gK}(j:s.dM)(h:xY s st)(i:Int):xY s (wM s st i).2:=by
 unfold wM;split
 .exact h
 .split
  .rename_i c x e k
   split
   .exact h
   .have f:=(j.domains i.toNat c e).2
    refine⟨by simp[h.len],fun y d=>?_,fun y d=>?_⟩
    .rcases Bq d with d | rfl
     .exact h.left y d
     .exact f
    .rcases Bq d with d | rfl
     .exact h.phase y d
     .exact⟨by show(0:Int)<=114;omega,by show(114:Int) < 256;omega⟩
  .exact h
end Go.Proofs.YtmpkkaknjkffpaaGreatDoor
