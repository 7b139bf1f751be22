/- A chip that is drawn: how it lies. -/
import Derived.Test.YtdcdccmpcmjmhaaGreatDoorRpmOneK7
namespace Go.Proofs.YtdcdccmpcmjmhaaGreatDoor
set_option linter.all false
open Go.RowKit
section
set_option maxHeartbeats 4000000
set_option maxRecDepth 20000
def Kf(cs:List dV)(rows:List (List Value))(p:Piece):Prop:=Rows (pV (eN p)) 6 cs rows
theorem Kf.le{cs:List dV}{rows:List (List Value)}(p q:Piece)(h:p.Le q)(k:Kf cs rows p):Kf cs rows q:=Rows.mono (fun _ _=>pV.mono (lH h)) k
def Kc(vs:List bK)(rows:List (List Value))(p:Piece):Prop:=Rows (oY (eN p)) 6 vs rows
theorem Kc.le{vs:List bK}{rows:List (List Value)}(p q:Piece)(h:p.Le q)(k:Kc vs rows p):Kc vs rows q:=Rows.mono (fun _ _=>oY.mono (lH h)) k
def vG(sz:Nat)(A:Option Addr)(n:Nat)(xs:List Value)(p:Piece):Prop:=aE p sz A n xs
theorem vG.le{sz n:Nat}{A:Option Addr}{xs:List Value}(p q:Piece)(h:p.Le q)(k:vG sz A n xs p):vG sz A n xs q:=aE.le k h
def nQ(cs:List dV)(rows:List (List Value)):HP:=HP.bH (Kf cs rows) (Kf.le (cs:=cs) (rows:=rows))
def yV(vs:List bK)(rows:List (List Value)):HP:=HP.bH (Kc vs rows) (Kc.le (vs:=vs) (rows:=rows))
section
variable{N:bO}{w0:World}{K:Act→World→Prop}{e:Env}{R:List Piece}{H:List HP}
theorem XK.bU{p:HP}(hp:∀w,p.sat (fun _=>False) w)(h:XK N w0 K e R (p::H)):XK N w0 K e R H:=fun a w hr st=>by
 obtain⟨Z,F,hz,bM,hs,cE,eA⟩:=st.ex
 refine h a w hr ⟨st.os,st.tape,st.output,st.size,Z,fun i=>match i with | 0=>fun _=>False | i+1=>F i,hz,bM,fun i r hi=>?_,fun i b hb=>?_,fun i j b hij hi=>?_⟩
 ·cases i with
  | zero=>simp at hi;subst hi;exact hp w
  | succ i=>exact hs i r (by simpa using hi)
 ·cases i with
  | zero=>exact hb.elim
  | succ i=>exact cE i b hb
 ·cases i with
  | zero=>exact hi.elim
  | succ i=>cases j with
   | zero=>exact id
   | succ j=>exact eA i j b (by omega) hi
theorem XK.aNH{cs:List dV}{rows:List (List Value)}{cl:dV}{A:Option Addr}{c:Nat}(h:XK N w0 K e R (nQ (cs++[cl]) (rows++[[.int .u8 cl.kind,.slice A cl.src.length c,.int .u64 cl.rate,iv cl.mul,iv cl.div,iv cl.lock]])::H)):XK N w0 K e R (HP.own 3 1 (.slice A cl.src.length c) cl.src.length (aG cl.src)::nQ cs rows::H):=
 XK.rN 0 (Φ:=vG 1 A cl.src.length (aG cl.src)) (hm:=vG.le) rfl (fun _ h=>h) (XK.Lv (X:=Kf (cs++[cl]) (rows++[_])) (h3:=Kf.le) (fun p h1 h2=>h2.snoc rfl ⟨A,_,c,rfl,rfl,h1⟩) h)
theorem XK.aMA{vs:List bK}{rows:List (List Value)}{d:bK}{A A':Option Addr}{c c':Nat}(h:XK N w0 K e R (yV (vs++[d]) (rows++[[iv d.clock,iv d.domain,iv d.reset,.int .u32 d.gB,.slice A d.aI.length c,.slice A' d.gH.length c']])::H)):XK N w0 K e R (HP.own 48 2 (.slice A d.aI.length c) d.aI.length (d.aI.flatMap Rg.cells)::HP.own 3 1 (.slice A' d.gH.length c') d.gH.length (aG d.gH)::yV vs rows::H):=
 XK.rN 0 (Φ:=vG 2 A d.aI.length (d.aI.flatMap Rg.cells)) (hm:=vG.le) rfl (fun _ h=>h) (XK.rN 1 (Φ:=vG 1 A' d.gH.length (aG d.gH)) (hm:=vG.le) rfl (fun _ h=>h) (XK.Lv (X:=fun p=>vG 2 A d.aI.length (d.aI.flatMap Rg.cells) p∧vG 1 A' d.gH.length (aG d.gH) p) (h3:=fun p q hl h=>⟨vG.le p q hl h.1,vG.le p q hl h.2⟩) (fun p h1 h2=>⟨h1,h2⟩) (XK.Lv (X:=Kc (vs++[d]) (rows++[_])) (h3:=Kc.le) (fun p h1 h2=>h2.snoc rfl ⟨A,_,c,A',_,c',rfl,rfl,rfl,h1.1,h1.2⟩) h)))
end
def aGr(v:Value)(hs:List HP)(_:Piece):Prop:=∃(s:aA) (A1 A2 A3 A4:Option Addr×Nat) (r1 r2 r3 r4:List (List Value)),v=.agg #[.slice A1.1 s.aD.length A1.2,.slice A2.1 s.domains.length A2.2,.slice A3.1 s.aL.length A3.2,.slice A4.1 s.aC.length A4.2]∧s.made∧Rows pU 3 s.domains r2∧Rows tM 1 s.aL r3∧
 hs=[HP.own 86 6 (.slice A1.1 s.aD.length A1.2) s.aD.length r1.flatten,nQ s.aD r1,HP.own 50 3 (.slice A2.1 s.domains.length A2.2) s.domains.length r2.flatten,HP.own 88 1 (.slice A3.1 s.aL.length A3.2) s.aL.length r3.flatten,HP.own 38 6 (.slice A4.1 s.aC.length A4.2) s.aC.length r4.flatten,yV s.aC r4]
end
section
set_option maxHeartbeats 4000000
set_option maxRecDepth 20000
theorem St.aNI{w0 w:World}{R:List Piece}{H:List HP}(st:St w0 R H w){s:aA}{A1 A2 A3 A4:Option Addr}{n1 n2 n3 n4 k1 k2 k3 k4:Nat}{r1 r2 r3 r4:List (List Value)}(i1 i2 i3 i4 i5 i6:Nat)(h1:H[i1]? =some (HP.own 86 6 (.slice A1 n1 k1) n1 r1.flatten))(h2:H[i2]? =some (nQ s.aD r1))(h3:H[i3]? =some (HP.own 50 3 (.slice A2 n2 k2) n2 r2.flatten))(h4:H[i4]? =some (HP.own 88 1 (.slice A3 n3 k3) n3 r3.flatten))(h5:H[i5]? =some (HP.own 38 6 (.slice A4 n4 k4) n4 r4.flatten))(h6:H[i6]? =some (yV s.aC r4))
  (e1:n1=s.aD.length) (e2:n2=s.domains.length) (e3:n3=s.aL.length) (e4:n4=s.aC.length) (eW:Rows pU 3 s.domains r2) (pJ:Rows tM 1 s.aL r3) (hs:s.small):eI w s A1 n1 A2 n2 A3 n3 A4 n4:=
 ⟨⟨r1,st.bH i2 h2,e1,st.Ov h1⟩,⟨r2,eW,e2,st.Ov h3⟩,⟨r3,pJ,e3,st.Ov h4⟩,⟨r4,st.bH i6 h6,e4,st.Ov h5⟩,hs⟩
end
section
set_option maxHeartbeats 4000000
set_option maxRecDepth 20000
theorem aJk(c n:Int)(w:World)(hc: -9223372036854775808≤c∧c≤9223372036854775807)(hn:0 < n):
  Calls Tryz.prog 11 #[iv c,iv n] w fun x w'=>(∃v,x=.returned v∧∃r:Int,v=iv r∧0≤r∧r < n)∧Below w.heap.size w w':=by
 refine XK.en Tryz.func11 Tryz.ntmps11 ?_
 refine XK.gw ?_
 refine XK.cu (α:=Int) (fun c=>[(0,iv c),(1,iv n)]) (fun _=>[]) (fun c=>0≤c) ?_ fun c hc0=>?_
 ·refine XK.gw ?_
  refine XK.if_ rfl (fun h=>?_) (fun h=>?_)
  ·refine XK.gw ?_
   exact XK.mt _
  ·refine XK.gw ?_
   exact XK.mt _
 refine XK.gw ?_
 exact XK.jQ rfl rfl fun w' st=>⟨⟨_,rfl,_,rfl,Int.emod_nonneg _ (by omega),Int.emod_lt_of_pos _ hn⟩,st.below (by simp)⟩
set_option maxRecDepth 100000 in
theorem aNJ(A : Option Addr)(n c : Nat)(zs : List Int)(w : World)(h0 : aE (all w) 1 A n (aG zs))(hz : aCi zs)(hn : n = zs.length)(hn2 : n ≤ 9223372036854775807) :
    Calls Tryz.prog 9 #[.slice A n c] w fun x w'=>(∃v hs q,x=.returned v∧q.w=w'∧(∃p hs',hs=p::hs'∧aGr v hs' q)∧iY w hs q)∧Below w.heap.size w w':=by
  refine XK.en Tryz.func9 Tryz.ntmps9 ?_
  refine XK.gw ?_
  refine bB fun g1=>?_
  refine XK.gw ?_
  refine jG 8 (n:=120) (el:=3) (z:=iv 0) (by kernel_rfl) (by kernel_rfl) rfl rfl rfl (by omega) (by omega) (by decide) fun g2=>?_
  refine XK.gw ?_
  refine XK.cb (α:=List Int) (fun _=>[(4,.slice (some ⟨g2,0,none⟩) 120 120),(2,pt g1)]) (fun ds=>[HP.aB g2 3 (aG ds),HP.aB g1 30 [sn,sn,sn,sn]]) vK ?_ fun ds hd=>?_
  · refine XK.lp (α:=List Int) (fun i _=>[(5,iv i),(4,.slice (some ⟨g2,0,none⟩) 120 120),(2,pt g1),(0,.slice A n c)]) (fun _ ds=>[HP.aB g2 3 (aG ds),HP.aB g1 30 [sn,sn,sn,sn]]) (fun _ ds=>vK ds) 120 (List.replicate 120 0) vK.zero fun k ds hk hd=>?_
    refine XK.gw ?_
    refine aW (t:=23) rfl (fun hg=>?_) (fun hg=>?_)
    · refine XK.gw ?_
      refine XK.if_ rfl (fun h=>?_) (fun h=>?_)
      · have hk2:k < 120:=by omega
        have hn0:0 < n:=by omega
        obtain⟨b,off,rfl,fC,hc⟩:=h0.2 hn0
        have hkb:=Da (k:Int) (n:=(n:Int)) (by omega)
        have hdb:0≤(k:Int) / (n:Int)∧(k:Int) / (n:Int)≤k:=⟨Int.ediv_nonneg (by omega) (by omega),Int.ediv_le_self _ (by omega)⟩
        have k0:eS w b (off+((k:Int) % (n:Int)).toNat) (iv (zs[((k:Int) % (n:Int)).toNat]?.getD 0)):=⟨fC,hc _ _ (aAV zs _ (by omega))⟩
        have Wq:=aHg (z:=zs[((k:Int) % (n:Int)).toNat]?.getD 0) (d:=1+(k:Int) / (n:Int)) (lo:= -9223372036854775808) (hi:=9223372036854775807) (by omega) (by omega) (by omega) (hz _)
        refine XK.gw ?_
        refine XK.dr ?_
        refine XB.nx 15 ?_
        refine qJ (fun v=>∃r:Int,v=iv r∧0≤r∧r < 1000000) (fun w1 st=>aJk _ _ w1 Wq (by omega)) fun v hv=>?_
        obtain⟨r,rfl,Ab,dH⟩:=hv
        refine XB.bk ?_
        refine XB.tl [16,17] ?_
        refine XK.gw ?_
        refine dL rfl rfl ?_ (hs:=dK.mk 0 rfl bL.h rfl (by simp[aG,hd.1];omega))
        dsimp only[List.set]
        rw[Wm]
        refine XK.gw ?_
        exact XK.ag _ (hg:=hd.jK k Ab dH)
      · refine XK.gw ?_
        exact XK.mt _
    · refine XK.gw ?_
      exact XK.mt _
  refine XK.gw ?_
  refine dF fun g3=>?_
  refine XK.gw ?_
  refine bB fun g4=>?_
  refine XK.gw ?_
  refine XK.wW 1 6 1 rfl rfl (by omega) ?_
  dsimp only[List.set]
  refine XK.bU (p:=nQ [⟨111,[],1+dv ds 0 % 1000000,0,0,0⟩] [[.int .u8 111,sn,.int .u64 (1+dv ds 0 % 1000000),iv 0,iv 0,iv 0]]) (fun w=>⟨rfl,⟨none,0,0,rfl,rfl,rfl,fun h=>absurd h (by omega)⟩,trivial⟩) ?_
  refine XK.cb (α:=(List dV×List (List Value))×(Option Addr×Nat)×Nat) (fun _=>[(6,pt g4),(4,.slice (some ⟨g2,0,none⟩) 120 120),(2,pt g1)]) (fun x=>[nQ x.1.1 x.1.2,HP.own 86 6 (.slice x.2.1.1 x.2.2 x.2.1.2) x.2.2 x.1.2.flatten,HP.aB g4 30 [.slice x.2.1.1 x.2.2 x.2.1.2,sn,sn,sn],HP.aB g2 3 (aG ds),HP.aB g1 30 [sn,sn,sn,sn]]) (fun x=>x.1.1.length=x.2.2∧1≤x.2.2∧x.2.2≤9∧Fits dV.fit x.1.1) ?_ fun x hx=>?_
  · refine XK.lp (α:=(List dV×List (List Value))×(Option Addr×Nat)×List Value) (fun i _=>[(8,iv i),(7,.string ⟨#[112,100,103,109,103]⟩),(6,pt g4),(4,.slice (some ⟨g2,0,none⟩) 120 120),(3,iv 1),(2,pt g1)]) (fun i x=>[nQ x.1.1 x.1.2,HP.own 86 6 (.slice x.2.1.1 (i+1) x.2.1.2) (i+1) x.2.2,HP.aB g4 30 [.slice x.2.1.1 (i+1) x.2.1.2,sn,sn,sn],HP.aB g2 3 (aG ds),HP.aB g1 30 [sn,sn,sn,sn]]) (fun i x=>x.1.1.length=i+1∧i≤8∧Fits dV.fit x.1.1∧x.2.2=x.1.2.flatten) 9 (([⟨111,[],1+dv ds 0 % 1000000,0,0,0⟩],[[.int .u8 111,sn,.int .u64 (1+dv ds 0 % 1000000),iv 0,iv 0,iv 0]]),(_,_),_) ⟨rfl,by omega,(Fits.nil dV.fit).snoc ⟨by simp,.inl ⟨rfl,rfl,by dsimp only;omega,by dsimp only;omega,rfl,rfl,rfl⟩⟩,rfl⟩ fun i x hi hx=>?_
    obtain⟨⟨cs,rows⟩,⟨B,cB⟩,xs⟩:=x
    dsimp only at hx⊢
    obtain⟨fK,hi8,Rz,rfl⟩:=hx
    refine XK.gw ?_
    refine XK.if_ rfl (fun h=>?_) (fun h=>?_)
    · obtain⟨kb,hkb,aKV⟩:=aK4 (q:=(dv ds (10+3*(i:Int)).toNat % 1000000 % 5).toNat) (by omega)
      have f0:=Da (dv ds ((10+3*(i:Int))+1).toNat % 1000000) (n:=((i+1:Nat):Int)) (by omega)
      refine XK.gw ?_
      refine XK.cu (α:=Nat×Nat) (fun x=>[(10,.pointer (some ⟨x.2,0,none⟩)),(9,iv (10+3*(i:Int))),(8,iv i),(7,.string ⟨#[112,100,103,109,103]⟩),(6,pt g4),(4,.slice (some ⟨g2,0,none⟩) 120 120),(3,iv 1),(2,pt g1)]) (fun x=>[HP.aB x.2 86 [.int .u8 kb.toNat,.slice (some ⟨x.1,0,none⟩) 1 1,.int .u64 0,iv 0,iv 0,iv 0],HP.aB x.1 3 [iv (dv ds ((10+3*(i:Int))+1).toNat % 1000000 % ((i+1:Nat):Int))],nQ cs rows,HP.own 86 6 (.slice B (i+1) cB) (i+1) rows.flatten,HP.aB g4 30 [.slice B (i+1) cB,sn,sn,sn],HP.aB g2 3 (aG ds),HP.aB g1 30 [sn,sn,sn,sn]]) (fun _=>True) ?_ fun x _=>?_
      · refine XK.dr ?_
        refine XB.either 16 18 rfl rfl (by kernel_rfl) ?_ ?_
        · refine dF fun g5=>?_
          refine XB.bk ?_
          refine XB.qz 17 ?_
          refine XB.nx 18 ?_
          refine bB fun g6=>?_
          refine XB.bk ?_
          refine XB.tl [19] ?_
          refine XK.gw ?_
          exact XK.mt (_,_)
        · refine bB fun g6=>?_
          refine XB.bk ?_
          refine XB.nx 16 ?_
          refine dF fun g5=>?_
          refine XB.bk ?_
          refine XB.qz 17 ?_
          refine XB.tl [19] ?_
          refine aAT ?_
          refine lM 1 rfl ?_
          dsimp only[List.set]
          refine XK.gw ?_
          exact XK.mt (_,_)
      obtain⟨g5,g6⟩:=x
      dsimp only
      have f1:=Da (dv ds ((10+3*(i:Int))+2).toNat % 1000000) (n:=((i+1:Nat):Int)) (by omega)
      refine XK.wW 1 1 1 rfl rfl (by omega) ?_
      dsimp only[List.set]
      refine XK.gw ?_
      refine XK.cb (α:=dV×(Option Addr×Nat)) (fun _=>[(10,pt g6),(8,iv i),(7,.string ⟨#[112,100,103,109,103]⟩),(6,pt g4),(4,.slice (some ⟨g2,0,none⟩) 120 120),(3,iv 1),(2,pt g1)]) (fun x=>[HP.aB g6 86 [.int .u8 x.1.kind,.slice x.2.1 x.1.src.length x.2.2,.int .u64 x.1.rate,iv x.1.mul,iv x.1.div,iv x.1.lock],HP.own 3 1 (.slice x.2.1 x.1.src.length x.2.2) x.1.src.length (aG x.1.src),nQ cs rows,HP.own 86 6 (.slice B (i+1) cB) (i+1) rows.flatten,HP.aB g4 30 [.slice B (i+1) cB,sn,sn,sn],HP.aB g2 3 (aG ds),HP.aB g1 30 [sn,sn,sn,sn]]) (fun x=>x.1.fit (i+1)) ?_ fun x hx=>?_
      · refine XK.if_ rfl (fun h1=>?_) (fun h1=>?_)
        · refine XK.gw ?_
          exact XK.mt (⟨_,[dv ds ((10+3*(i:Int))+1).toNat % 1000000 % ((i+1:Nat):Int)],_,_,_,_⟩,_,_) (hg:=⟨(fun f hf=>by rcases List.mem_singleton.1 hf with rfl;exact f0),.inr (.inl ⟨h1,rfl,rfl,by dsimp only;omega,by dsimp only;omega,by dsimp only;omega,by dsimp only;omega,by dsimp only;omega,by dsimp only;omega⟩)⟩)
        refine XK.gw ?_
        refine XK.if_ rfl (fun h2=>?_) (fun h2=>?_)
        · refine XK.gw ?_
          exact XK.mt (⟨_,[dv ds ((10+3*(i:Int))+1).toNat % 1000000 % ((i+1:Nat):Int)],_,_,_,_⟩,_,_) (hg:=⟨(fun f hf=>by rcases List.mem_singleton.1 hf with rfl;exact f0),.inr (.inr (.inl ⟨h2,rfl,rfl,rfl,by dsimp only;omega,by dsimp only;omega,rfl⟩))⟩)
        refine XK.gw ?_
        refine XK.if_ rfl (fun h3=>?_) (fun h3=>?_)
        · refine XK.dr ?_
          refine XB.nx 11 ?_
          refine dF fun g7=>?_
          refine XB.bk ?_
          refine XB.tl [12,13,14] ?_
          refine XK.gw ?_
          refine oO 2 fun A' k'=>?_
          dsimp only[List.set]
          refine XK.gw ?_
          exact XK.mt (⟨_,[dv ds ((10+3*(i:Int))+1).toNat % 1000000 % ((i+1:Nat):Int),dv ds ((10+3*(i:Int))+2).toNat % 1000000 % ((i+1:Nat):Int)],_,_,_,_⟩,_,_) (hg:=⟨(fun f hf=>by simp only[List.mem_cons,List.not_mem_nil,or_false] at hf;rcases hf with rfl | rfl;exact f0;exact f1),.inr (.inr (.inr (.inr ⟨h3,rfl,rfl,rfl,rfl,rfl⟩)))⟩)
        · refine XK.gw ?_
          exact XK.mt (⟨_,[dv ds ((10+3*(i:Int))+1).toNat % 1000000 % ((i+1:Nat):Int)],_,_,_,_⟩,_,_) (hg:=⟨(fun f hf=>by rcases List.mem_singleton.1 hf with rfl;exact f0),.inr (.inr (.inr (.inl ⟨by rcases aKV with h | h | h | h<;>simp_all,rfl,rfl,rfl,rfl,rfl⟩)))⟩)
      obtain⟨cl,Af,cf⟩:=x
      dsimp only at hx⊢
      refine XK.gw ?_
      refine dF fun g7=>?_
      refine XK.gw ?_
      refine oO 4 fun A' k'=>?_
      dsimp only[List.set]
      refine XK.gw ?_
      refine XK.weak [2,3,4,5,6,7] rfl (by decide) (fun _ h=>h) ?_
      refine XK.aNH ?_
      exact XK.ag ((_,_),(_,_),_) (hg:=⟨by simp[fK],by omega,Rz.snoc (by rw[fK];exact hx),by simp⟩)
    · refine XK.gw ?_
      exact XK.mt ((_,_),(_,_),_) (hg:=⟨fK,Nat.succ_pos i,Nat.succ_le_succ hi8,Rz⟩)
  obtain⟨⟨cs,rows⟩,⟨B,cB⟩,nc⟩:=x
  dsimp only at hx⊢
  obtain⟨fK,Sc,hc9,Rz⟩:=hx
  refine XK.gw ?_
  refine XK.fY 50 3 ?_
  refine XK.cb (α:=(List Dom×List (List Value))×(Option Addr×Nat)×Nat) (fun _=>[(6,pt g4),(4,.slice (some ⟨g2,0,none⟩) 120 120),(2,pt g1)]) (fun x=>[HP.own 50 3 (.slice x.2.1.1 x.2.2 x.2.1.2) x.2.2 x.1.2.flatten,nQ cs rows,HP.own 86 6 (.slice B nc cB) nc rows.flatten,HP.aB g4 30 [.slice B nc cB,.slice x.2.1.1 x.2.2 x.2.1.2,sn,sn],HP.aB g2 3 (aG ds),HP.aB g1 30 [sn,sn,sn,sn]]) (fun x=>x.1.1.length=x.2.2∧1≤x.2.2∧x.2.2≤4∧Fits Dom.fit x.1.1∧Rows pU 3 x.1.1 x.1.2) ?_ fun x hx=>?_
  · refine XK.lp (α:=(List Dom×List (List Value))×(Option Addr×Nat)×List Value) (fun i _=>[(11,iv i),(6,pt g4),(4,.slice (some ⟨g2,0,none⟩) 120 120),(2,pt g1)]) (fun i x=>[HP.own 50 3 (.slice x.2.1.1 i x.2.1.2) i x.2.2,nQ cs rows,HP.own 86 6 (.slice B nc cB) nc rows.flatten,HP.aB g4 30 [.slice B nc cB,.slice x.2.1.1 i x.2.1.2,sn,sn],HP.aB g2 3 (aG ds),HP.aB g1 30 [sn,sn,sn,sn]]) (fun i x=>x.1.1.length=i∧Fits Dom.fit x.1.1∧Rows pU 3 x.1.1 x.1.2∧x.2.2=x.1.2.flatten) 4 (([],[]),(none,0),[]) ⟨rfl,Fits.nil _,trivial,rfl⟩ fun i x hi hx=>?_
    obtain⟨⟨dm,wQ⟩,⟨D,cD⟩,xs⟩:=x
    dsimp only at hx⊢
    obtain⟨kA,hdf,wJ,rfl⟩:=hx
    refine XK.gw ?_
    refine XK.if_ rfl (fun h=>?_) (fun h=>?_)
    · refine XK.gw ?_
      refine XK.dr ?_
      refine XB.nx 15 ?_
      refine bB fun g5=>?_
      refine XB.bk ?_
      refine XB.tl [16] ?_
      refine aAT ?_
      refine lM 0 rfl ?_
      dsimp only[List.set]
      refine aEc ?_
      refine XK.dD ?_
      refine XK.ct (α:=Int) (fun _=>[(12,pt g5),(11,iv i),(6,pt g4),(4,.slice (some ⟨g2,0,none⟩) 120 120),(2,pt g1)]) (fun v=>[HP.aB g5 50 [iv v,iv (dv ds (40+(i:Int)).toNat % 4),.bool (decide (dv ds (40+(i:Int)).toNat % 1000000 / 4 % 2=1))],HP.own 50 3 (.slice D i cD) i wQ.flatten,nQ cs rows,HP.own 86 6 (.slice B nc cB) nc rows.flatten,HP.aB g4 30 [.slice B nc cB,.slice D i cD,sn,sn],HP.aB g2 3 (aG ds),HP.aB g1 30 [sn,sn,sn,sn]]) (fun v=>v= -1∨(0≤v∧v < i)) ?_ fun v hv=>?_
      · refine XK.gw ?_
        refine aW (t:=172) rfl (fun hg=>?_) (fun hg=>?_)
        · have f2:=Da (dv ds (44+(i:Int)).toNat % 1000000 / 3) (n:=(i:Int)) hg
          refine XK.gw ?_
          refine XK.if_ rfl (fun h3=>?_) (fun h3=>?_)
          · refine XK.gw ?_
            exact XK.mt _ (hg:=.inr f2)
          · refine XK.gw ?_
            exact XK.mt _ (hg:=.inl rfl)
        · refine XK.gw ?_
          exact XK.mt _ (hg:=.inl rfl)
      refine XK.gw ?_
      refine dF fun g7=>?_
      refine XK.gw ?_
      refine oO 2 fun A' k'=>?_
      dsimp only[List.set]
      refine XK.gw ?_
      exact XK.ag ((dm++[⟨v,dv ds (40+(i:Int)).toNat % 4,decide (dv ds (40+(i:Int)).toNat % 1000000 / 4 % 2=1)⟩],wQ++[_]),(_,_),_) (hg:=⟨by simp[kA],hdf.snoc ⟨by rw[kA];exact hv,by dsimp only;omega,by dsimp only;omega⟩,wJ.snoc rfl rfl,by simp⟩)
    · refine XK.gw ?_
      exact XK.mt ((_,_),(_,_),_) (hg:=⟨kA,by show 1≤i;omega,hi,hdf,wJ⟩)
  obtain⟨⟨dm,wQ⟩,⟨D,cD⟩,nd⟩:=x
  dsimp only at hx⊢
  obtain⟨kA,cF,hd4,hdf,wJ⟩:=hx
  refine XK.gw ?_
  refine XK.fY 88 1 ?_
  refine XK.cb (α:=(List Int×List (List Value))×(Option Addr×Nat)×Nat) (fun _=>[(6,pt g4),(4,.slice (some ⟨g2,0,none⟩) 120 120),(2,pt g1)]) (fun x=>[HP.own 88 1 (.slice x.2.1.1 x.2.2 x.2.1.2) x.2.2 x.1.2.flatten,HP.own 50 3 (.slice D nd cD) nd wQ.flatten,nQ cs rows,HP.own 86 6 (.slice B nc cB) nc rows.flatten,HP.aB g4 30 [.slice B nc cB,.slice D nd cD,.slice x.2.1.1 x.2.2 x.2.1.2,sn],HP.aB g2 3 (aG ds),HP.aB g1 30 [sn,sn,sn,sn]]) (fun x=>x.1.1.length=x.2.2∧1≤x.2.2∧x.2.2≤3∧(∀r∈x.1.1,0≤r∧r≤3)∧Rows tM 1 x.1.1 x.1.2) ?_ fun x hx=>?_
  · refine XK.lp (α:=(List Int×List (List Value))×(Option Addr×Nat)×List Value) (fun i _=>[(13,iv i),(6,pt g4),(4,.slice (some ⟨g2,0,none⟩) 120 120),(2,pt g1)]) (fun i x=>[HP.own 88 1 (.slice x.2.1.1 i x.2.1.2) i x.2.2,HP.own 50 3 (.slice D nd cD) nd wQ.flatten,nQ cs rows,HP.own 86 6 (.slice B nc cB) nc rows.flatten,HP.aB g4 30 [.slice B nc cB,.slice D nd cD,.slice x.2.1.1 i x.2.1.2,sn],HP.aB g2 3 (aG ds),HP.aB g1 30 [sn,sn,sn,sn]]) (fun i x=>x.1.1.length=i∧(∀r∈x.1.1,0≤r∧r≤3)∧Rows tM 1 x.1.1 x.1.2∧x.2.2=x.1.2.flatten) 3 (([],[]),(none,0),[]) ⟨rfl,by simp,trivial,rfl⟩ fun i x hi hx=>?_
    obtain⟨⟨rs,rrs⟩,⟨L,cL⟩,xs⟩:=x
    dsimp only at hx⊢
    obtain⟨hrl,Cg,bM,rfl⟩:=hx
    refine XK.gw ?_
    refine XK.if_ rfl (fun h=>?_) (fun h=>?_)
    · refine XK.gw ?_
      refine XK.dr ?_
      refine XB.nx 9 ?_
      refine dF fun g7=>?_
      refine XB.bk ?_
      refine XB.tl [10,11,12] ?_
      refine XK.gw ?_
      refine oO 1 fun A' k'=>?_
      dsimp only[List.set]
      refine XK.gw ?_
      exact XK.ag ((rs++[dv ds (50+(i:Int)).toNat % 4],rrs++[_]),(_,_),_) (hg:=⟨by simp[hrl],(fun r hr=>by
        rcases List.mem_append.1 hr with hr | hr
        · exact Cg r hr
        · rcases List.mem_singleton.1 hr with rfl
          omega),bM.snoc rfl rfl,by simp⟩)
    · refine XK.gw ?_
      exact XK.mt ((_,_),(_,_),_) (hg:=⟨hrl,by show 1≤i;omega,hi,Cg,bM⟩)
  obtain⟨⟨rs,rrs⟩,⟨L,cL⟩,nr⟩:=x
  dsimp only at hx⊢
  obtain⟨hrl,dH,pJ,Cg,bM⟩:=hx
  refine XK.gw ?_
  refine XK.fY 38 6 ?_
  refine XK.bU (p:=yV [] []) (fun w=>trivial) ?_
  refine XK.cb (α:=(List bK×List (List Value))×(Option Addr×Nat)×Nat) (fun _=>[(6,pt g4),(4,.slice (some ⟨g2,0,none⟩) 120 120),(2,pt g1)]) (fun x=>[yV x.1.1 x.1.2,HP.own 38 6 (.slice x.2.1.1 x.2.2 x.2.1.2) x.2.2 x.1.2.flatten,HP.own 88 1 (.slice L nr cL) nr rrs.flatten,HP.own 50 3 (.slice D nd cD) nd wQ.flatten,nQ cs rows,HP.own 86 6 (.slice B nc cB) nc rows.flatten,HP.aB g4 30 [.slice B nc cB,.slice D nd cD,.slice L nr cL,.slice x.2.1.1 x.2.2 x.2.1.2],HP.aB g2 3 (aG ds),HP.aB g1 30 [sn,sn,sn,sn]]) (fun x=>x.1.1.length=x.2.2∧1≤x.2.2∧x.2.2≤4∧Fits (bK.fit nc nd nr) x.1.1) ?_ fun x hx=>?_
  · refine XK.lp (α:=(List bK×List (List Value))×(Option Addr×Nat)×List Value) (fun i _=>[(14,iv i),(6,pt g4),(4,.slice (some ⟨g2,0,none⟩) 120 120),(2,pt g1)]) (fun i x=>[yV x.1.1 x.1.2,HP.own 38 6 (.slice x.2.1.1 i x.2.1.2) i x.2.2,HP.own 88 1 (.slice L nr cL) nr rrs.flatten,HP.own 50 3 (.slice D nd cD) nd wQ.flatten,nQ cs rows,HP.own 86 6 (.slice B nc cB) nc rows.flatten,HP.aB g4 30 [.slice B nc cB,.slice D nd cD,.slice L nr cL,.slice x.2.1.1 i x.2.1.2],HP.aB g2 3 (aG ds),HP.aB g1 30 [sn,sn,sn,sn]]) (fun i x=>x.1.1.length=i∧Fits (bK.fit nc nd nr) x.1.1∧x.2.2=x.1.2.flatten) 4 (([],[]),(none,0),[]) ⟨rfl,Fits.nil _,rfl⟩ fun i x hi hx=>?_
    obtain⟨⟨vs,r4⟩,⟨V,cV⟩,xs⟩:=x
    dsimp only at hx⊢
    obtain⟨hvl,Ww,rfl⟩:=hx
    refine XK.gw ?_
    refine XK.if_ rfl (fun h=>?_) (fun h=>?_)
    · have q0 := Da (dv ds (60 + 12 * (i : Int)).toNat % 1000000) (n := (nc : Int)) (by omega)
      have q1:=Da (dv ds (60+12*(i:Int)+1).toNat % 1000000) (n:=(nd:Int)) (by omega)
      have q2:=Da (dv ds (60+12*(i:Int)+2).toNat % 1000000) (n:=(nr:Int)) (by omega)
      refine XK.gw ?_
      refine XK.dr ?_
      refine XB.nx 34 ?_
      refine bB fun g5=>?_
      refine XB.bk ?_
      refine XB.tl [35] ?_
      refine XK.gw ?_
      refine XK.fY 48 2 ?_
      refine XK.cb (α:=List Rg×(Option Addr×Nat)×Nat) (fun _=>[(16,pt g5),(15,iv (60+12*(i:Int))),(14,iv i),(6,pt g4),(4,.slice (some ⟨g2,0,none⟩) 120 120),(2,pt g1)]) (fun x=>[HP.own 48 2 (.slice x.2.1.1 x.2.2 x.2.1.2) x.2.2 (x.1.flatMap Rg.cells),HP.aB g5 38 [iv (dv ds (60+12*(i:Int)).toNat % 1000000 % (nc:Int)),iv (dv ds (60+12*(i:Int)+1).toNat % 1000000 % (nd:Int)),iv (dv ds (60+12*(i:Int)+2).toNat % 1000000 % (nr:Int)),.int .u32 (dv ds (60+12*(i:Int)+3).toNat % 1000000 % 3),.slice x.2.1.1 x.2.2 x.2.1.2,sn],yV vs r4,HP.own 38 6 (.slice V i cV) i r4.flatten,HP.own 88 1 (.slice L nr cL) nr rrs.flatten,HP.own 50 3 (.slice D nd cD) nd wQ.flatten,nQ cs rows,HP.own 86 6 (.slice B nc cB) nc rows.flatten,HP.aB g4 30 [.slice B nc cB,.slice D nd cD,.slice L nr cL,.slice V i cV],HP.aB g2 3 (aG ds),HP.aB g1 30 [sn,sn,sn,sn]]) (fun x=>x.1.length=x.2.2∧x.2.2≤4∧∀r∈x.1,0≤r.reset∧r.reset≤6) ?_ fun x hx=>?_
      · refine XK.lp (α:=List Rg×(Option Addr×Nat)×List Value) (fun j _=>[(17,iv j),(16,pt g5),(15,iv (60+12*(i:Int))),(14,iv i),(6,pt g4),(4,.slice (some ⟨g2,0,none⟩) 120 120),(2,pt g1)]) (fun j x=>[HP.own 48 2 (.slice x.2.1.1 j x.2.1.2) j x.2.2,HP.aB g5 38 [iv (dv ds (60+12*(i:Int)).toNat % 1000000 % (nc:Int)),iv (dv ds (60+12*(i:Int)+1).toNat % 1000000 % (nd:Int)),iv (dv ds (60+12*(i:Int)+2).toNat % 1000000 % (nr:Int)),.int .u32 (dv ds (60+12*(i:Int)+3).toNat % 1000000 % 3),.slice x.2.1.1 j x.2.1.2,sn],yV vs r4,HP.own 38 6 (.slice V i cV) i r4.flatten,HP.own 88 1 (.slice L nr cL) nr rrs.flatten,HP.own 50 3 (.slice D nd cD) nd wQ.flatten,nQ cs rows,HP.own 86 6 (.slice B nc cB) nc rows.flatten,HP.aB g4 30 [.slice B nc cB,.slice D nd cD,.slice L nr cL,.slice V i cV],HP.aB g2 3 (aG ds),HP.aB g1 30 [sn,sn,sn,sn]]) (fun j x=>x.1.length=j∧(∀r∈x.1,0≤r.reset∧r.reset≤6)∧x.2.2=x.1.flatMap Rg.cells) 4 ([],(none,0),[]) ⟨rfl,by simp,rfl⟩ fun j x hj hx=>?_
        obtain⟨rg,⟨W,cW⟩,xs⟩:=x
        dsimp only at hx⊢
        obtain⟨iG,Xm,rfl⟩:=hx
        refine XK.gw ?_
        refine XK.if_ rfl (fun h5=>?_) (fun h5=>?_)
        · refine XK.gw ?_
          refine XK.dr ?_
          refine XB.nx 22 ?_
          refine dF fun g7=>?_
          refine XB.bk ?_
          refine XB.tl [23,24,25] ?_
          refine XK.gw ?_
          refine oO 1 fun A' k'=>?_
          dsimp only[List.set]
          refine XK.gw ?_
          exact XK.ag (rg++[⟨dv ds (60+12*(i:Int)+5+(j:Int)).toNat % 1000000 % 7,decide (dv ds (60+12*(i:Int)+5+(j:Int)).toNat % 1000000 / 7 % 2=0)⟩],(_,_),_) (hg:=⟨by simp[iG],(fun r hr=>by
            rcases List.mem_append.1 hr with hr | hr
            · exact Xm r hr
            · rcases List.mem_singleton.1 hr with rfl
              dsimp only
              omega),by simp[Rg.cells]⟩)
        · refine XK.gw ?_
          exact XK.mt (_,(_,_),_) (hg:=⟨iG,hj,Xm⟩)
      obtain⟨rg,⟨W,cW⟩,ng⟩:=x
      dsimp only at hx⊢
      obtain⟨rfl,hg4,Xm⟩:=hx
      refine XK.fY 3 1 ?_
      refine XK.ct (α:=(List Int×List Value)×(Option Addr×Nat)×Nat) (fun _=>[(16,pt g5),(15,iv (60+12*(i:Int))),(14,iv i),(6,pt g4),(4,.slice (some ⟨g2,0,none⟩) 120 120),(2,pt g1)]) (fun x=>[HP.own 3 1 (.slice x.2.1.1 x.2.2 x.2.1.2) x.2.2 x.1.2,HP.own 48 2 (.slice W rg.length cW) rg.length (rg.flatMap Rg.cells),HP.aB g5 38 [iv (dv ds (60+12*(i:Int)).toNat % 1000000 % (nc:Int)),iv (dv ds (60+12*(i:Int)+1).toNat % 1000000 % (nd:Int)),iv (dv ds (60+12*(i:Int)+2).toNat % 1000000 % (nr:Int)),.int .u32 (dv ds (60+12*(i:Int)+3).toNat % 1000000 % 3),.slice W rg.length cW,.slice x.2.1.1 x.2.2 x.2.1.2],yV vs r4,HP.own 38 6 (.slice V i cV) i r4.flatten,HP.own 88 1 (.slice L nr cL) nr rrs.flatten,HP.own 50 3 (.slice D nd cD) nd wQ.flatten,nQ cs rows,HP.own 86 6 (.slice B nc cB) nc rows.flatten,HP.aB g4 30 [.slice B nc cB,.slice D nd cD,.slice L nr cL,.slice V i cV],HP.aB g2 3 (aG ds),HP.aB g1 30 [sn,sn,sn,sn]]) (fun x=>x.1.1.length=x.2.2∧x.2.2≤1∧x.1.2=aG x.1.1∧∀f∈x.1.1,0≤f∧f < i) ?_ fun x hx=>?_
      · refine XK.gw ?_
        refine aW (t:=300) rfl (fun hg=>?_) (fun hg=>?_)
        · have f2:=Da (dv ds (60+12*(i:Int)+10).toNat % 1000000) (n:=(i:Int)) hg
          refine XK.gw ?_
          refine XK.if_ rfl (fun h3=>?_) (fun h3=>?_)
          · refine XK.dr ?_
            refine XB.nx 9 ?_
            refine dF fun g7=>?_
            refine XB.bk ?_
            refine XB.tl [10,11,12] ?_
            refine XK.gw ?_
            refine oO 1 fun A' k'=>?_
            dsimp only[List.set]
            refine XK.gw ?_
            exact XK.mt (([_],_),(_,_),_) (hg:=⟨rfl,Nat.le_refl _,rfl,fun f hf=>by rcases List.mem_singleton.1 hf with rfl;exact f2⟩)
          · refine XK.gw ?_
            exact XK.mt (([],_),(_,_),_) (hg:=⟨rfl,Nat.zero_le _,rfl,by simp⟩)
        · refine XK.gw ?_
          exact XK.mt (([],_),(_,_),_) (hg:=⟨rfl,Nat.zero_le _,rfl,by simp⟩)
      obtain⟨⟨ns,xs⟩,⟨U,cU⟩,nn⟩:=x
      dsimp only at hx⊢
      obtain⟨fV,lX,rfl,hnf⟩:=hx
      refine XK.ct (α:=(List Int×List Value)×(Option Addr×Nat)×Nat) (fun _=>[(16,pt g5),(15,iv (60+12*(i:Int))),(14,iv i),(6,pt g4),(4,.slice (some ⟨g2,0,none⟩) 120 120),(2,pt g1)]) (fun x=>[HP.own 3 1 (.slice x.2.1.1 x.2.2 x.2.1.2) x.2.2 x.1.2,HP.own 48 2 (.slice W rg.length cW) rg.length (rg.flatMap Rg.cells),HP.aB g5 38 [iv (dv ds (60+12*(i:Int)).toNat % 1000000 % (nc:Int)),iv (dv ds (60+12*(i:Int)+1).toNat % 1000000 % (nd:Int)),iv (dv ds (60+12*(i:Int)+2).toNat % 1000000 % (nr:Int)),.int .u32 (dv ds (60+12*(i:Int)+3).toNat % 1000000 % 3),.slice W rg.length cW,.slice x.2.1.1 x.2.2 x.2.1.2],yV vs r4,HP.own 38 6 (.slice V i cV) i r4.flatten,HP.own 88 1 (.slice L nr cL) nr rrs.flatten,HP.own 50 3 (.slice D nd cD) nd wQ.flatten,nQ cs rows,HP.own 86 6 (.slice B nc cB) nc rows.flatten,HP.aB g4 30 [.slice B nc cB,.slice D nd cD,.slice L nr cL,.slice V i cV],HP.aB g2 3 (aG ds),HP.aB g1 30 [sn,sn,sn,sn]]) (fun x=>x.1.1.length=x.2.2∧x.2.2≤2∧x.1.2=aG x.1.1∧∀f∈x.1.1,0≤f∧f < i) ?_ fun x hx=>?_
      · refine XK.gw ?_
        refine aW (t:=323) rfl (fun hg=>?_) (fun hg=>?_)
        · have f2:=Da (dv ds (60+12*(i:Int)+11).toNat % 1000000 / 3) (n:=(i:Int)) (by omega)
          refine XK.gw ?_
          refine XK.if_ rfl (fun h3=>?_) (fun h3=>?_)
          · refine XK.dr ?_
            refine XB.nx 10 ?_
            refine dF fun g7=>?_
            refine XB.bk ?_
            refine XB.tl [11,12,13] ?_
            refine XK.gw ?_
            refine oO 1 fun A' k'=>?_
            dsimp only[List.set]
            refine XK.gw ?_
            exact XK.mt ((ns++[dv ds (60+12*(i:Int)+11).toNat % 1000000 / 3 % (i:Int)],_),(_,_),_) (hg:=⟨by simp[fV],by show nn+1≤2;omega,by simp[aG],fun f hf=>by
              rcases List.mem_append.1 hf with hf | hf
              · exact hnf f hf
              · rcases List.mem_singleton.1 hf with rfl
                exact f2⟩)
          · refine XK.gw ?_
            exact XK.mt ((_,_),(_,_),_) (hg:=⟨fV,Nat.le_succ_of_le lX,rfl,hnf⟩)
        · refine XK.gw ?_
          exact XK.mt ((_,_),(_,_),_) (hg:=⟨fV,Nat.le_succ_of_le lX,rfl,hnf⟩)
      obtain⟨⟨ns,xs⟩,⟨U,cU⟩,nn⟩:=x
      dsimp only at hx⊢
      obtain⟨rfl,hn2,rfl,hnf⟩:=hx
      refine XK.gw ?_
      refine dF fun g7=>?_
      refine XK.gw ?_
      refine oO 5 fun A' k'=>?_
      dsimp only[List.set]
      refine XK.gw ?_
      refine XK.weak [2,1,4,5,6,7,8,9,10,11,12] rfl (by decide) (fun _ h=>h) ?_
      refine XK.aMA (d:=⟨dv ds (60+12*(i:Int)).toNat % 1000000 % (nc:Int),dv ds (60+12*(i:Int)+1).toNat % 1000000 % (nd:Int),dv ds (60+12*(i:Int)+2).toNat % 1000000 % (nr:Int),dv ds (60+12*(i:Int)+3).toNat % 1000000 % 3,rg,ns⟩) ?_
      exact XK.ag ((_,_),(_,_),_) (hg:=⟨by simp[hvl],Ww.snoc ⟨q0.1,q0.2,q1.1,q1.2,q2.1,q2.2,by dsimp only;omega,by dsimp only;omega,hg4,Xm,hn2,by rw[hvl];exact hnf⟩,by simp⟩)
    · refine XK.gw ?_
      exact XK.mt ((_,_),(_,_),_) (hg:=⟨hvl,by show 1≤i;omega,hi,Ww⟩)
  obtain⟨⟨vs,r4⟩,⟨V,cV⟩,nv⟩:=x
  dsimp only at hx⊢
  obtain⟨rfl,Hz,hv4,Ww⟩:=hx
  subst fK;subst kA;subst hrl
  refine XK.gw ?_
  refine lM 8 rfl ?_
  dsimp only[List.set]
  refine XK.gw ?_
  refine XK.weak [8,5,4,3,2,1,0] rfl (by decide) (fun _ h=>h) ?_
  refine XK.still [] [] [0,1,2,3,4,5,6] (by simp) rfl (by decide) (by decide) fun q _ _ hfr=>?_
  exact XK.By rfl (by kernel_rfl) rfl rfl (aH.whole 0 rfl) fun w1 t=>⟨⟨_,_,⟨w1,q.Z⟩,rfl,rfl,⟨_,_,rfl,⟨⟨cs,dm,rs,vs⟩,(B,cB),(D,cD),(L,cL),(V,cV),rows,wQ,rrs,r4,rfl,⟨Rz,hdf,Cg,Ww,⟨Sc,hc9⟩,⟨cF,hd4⟩,⟨dH,pJ⟩,⟨Hz,hv4⟩⟩,wJ,bM,rfl⟩⟩,t.newR (by simp) (by simp) (hfr (by simp) (by simp))⟩,t.below (by simp)⟩
end
section
set_option maxHeartbeats 4000000
set_option maxRecDepth 20000
section
variable{s:aA}{n:Nat}{m:iJ}
theorem eV.cH(h:eV s n m):m.z.cH= -1∨((m.z.cH=0∨m.z.cH=1∨m.z.cH=2)∧oU m.z m.z.cH=true):=by
 rcases h.vX.cH with⟨h1,_⟩ | ⟨j,hj,h1,h2,_⟩
 ·exact .inl h1
 ·have h3:(m.z.tk j).st=2:=(h2 j hj).2 rfl
  rw[h1]
  refine .inr ⟨by rcases hj with rfl | rfl | rfl<;>simp,?_⟩
  unfold oU
  rw[Int.toNat_natCast,h3]
  rcases hj with rfl | rfl | rfl<;>rfl
theorem Jm{z:aU}{j:Nat}(hj:T3 j):oU z (j:Int)=decide ((z.tk j).st≠0):=by
 unfold oU
 rw[Int.toNat_natCast]
 rcases hj with rfl | rfl | rfl<;>rfl
theorem aJH{z:aU}{j:Nat}(hj:T3 j)(k d r v:Int):∃e z',sW z j k d r v=(e,z')∧z'.cH=z.cH∧((e=7∧oU z j=true∧oU z' j=true)∨(e=1∧oU z j=false∧oU z' j=false)∨(e=0∧oU z j=false∧oU z' j=true)):=by
 have hin:bE 3 (j:Int)=true:=by rcases hj with rfl | rfl | rfl<;>rfl
 unfold sW
 rw[hin,if_neg (by simp),Int.toNat_natCast]
 split
 ·rename_i h0
  refine⟨_,_,rfl,rfl,.inl ⟨rfl,?_,?_⟩⟩<;>rw[Jm hj]<;>exact decide_eq_true h0
 ·rename_i h0
  have h0:(z.tk j).st=0:=Classical.byContradiction h0
  split
  ·refine⟨_,_,rfl,rfl,.inr (.inl ⟨rfl,?_,?_⟩)⟩<;>rw[Jm hj]<;>exact decide_eq_false (fun hc=>hc h0)
  ·refine⟨_,_,rfl,rfl,.inr (.inr ⟨rfl,?_,?_⟩)⟩
   ·rw[Jm hj]
    exact decide_eq_false (fun hc=>hc h0)
   ·rw[Jm hj,vT hj hj,if_pos rfl]
    rfl
theorem aJI{z:aU}{j:Nat}(hj:T3 j):∃e v b z',mB z j=((e,v,b),z')∧mB z' j=((0,0,false),z')∧z'.cH=z.cH∧((b=true∧oU z j=true∧oU z' j=false)∨(b=false∧z'=z)):=by
 have hin:bE 3 (j:Int)=true:=by rcases hj with rfl | rfl | rfl<;>rfl
 by_cases h3:(z.tk j).st=3
 ·refine⟨(z.tk j).err,(z.tk j).res,true,z.iC j {z.tk j with st:=0,kind:=0,dev:=0,bF:=0,val:=0,err:=0,res:=0},?_,?_,rfl,.inl ⟨rfl,?_,?_⟩⟩
  ·unfold mB
   rw[hin,if_neg (by simp),Int.toNat_natCast,if_neg (fun hc=>hc h3)]
  ·unfold mB
   rw[hin,if_neg (by simp),Int.toNat_natCast,vT hj hj,if_pos rfl,if_pos (by simp)]
  ·rw[Jm hj,h3]
   rfl
  ·rw[Jm hj,vT hj hj,if_pos rfl]
   rfl
 ·have h4:mB z j=((0,0,false),z):=by
   unfold mB
   rw[hin,if_neg (by simp),Int.toNat_natCast,if_pos h3]
  exact⟨0,0,false,z,h4,h4,rfl,.inr ⟨rfl,rfl⟩⟩
theorem aJG(h:eV s n m){j:Nat}(hj:T3 j):(oU m.z j=false→m.step s j=m)∧(0≤m.z.cH→m.z.cH≠j→m.step s j=m):=by
 have hin:bE 3 (j:Int)=true:=by rcases hj with rfl | rfl | rfl<;>rfl
 refine⟨fun hb=>?_,fun h0 hne=>?_⟩
 ·rw[Jm hj] at hb
  have hst:(m.z.tk j).st=0:=by simpa using hb
  unfold iJ.step zN
  rw[hin,if_neg (by simp),Int.toNat_natCast,hst,if_neg (by decide),if_neg (by decide)]
 ·have h2:(m.z.tk j).st≠2:=fun hst=>by
   obtain⟨h1,_⟩:=(h.vX.go h.fw.toGt).work j hj hst
   exact hne h1
  unfold iJ.step zN
  rw[hin,if_neg (by simp),Int.toNat_natCast,if_neg h2]
  by_cases h1:(m.z.tk j).st=1
  ·rw[if_pos h1,if_neg (by omega)]
  ·rw[if_neg h1]
theorem aJF(h:eV s n m)(bZ:Int):(m.tick s bZ).z.cH=m.z.cH∨(m.tick s bZ).z.cH= -1:=by
 obtain⟨h1,h2⟩:=h.ans bZ
 cases hp:m.z.aQ with
 | false=>
  refine .inl ?_
  show(sF m.z (mR s m.x bZ).2).cH=_
  rw[h1 hp]
  rfl
 | true=>
  obtain⟨a,h3,h4⟩:=h2 hp
  refine .inr ?_
  show(sF m.z (mR s m.x bZ).2).cH=_
  rw[h3]
  show(wX m.z a).cH=_
  unfold wX
  rw[if_neg (by rw[hp];simp),if_neg (fun hc=>hc h4)]
  split<;>rfl
end
theorem aOH{wY:List mG}{i k:Nat}{a:mG}{v:Value}(h:wY[i]? =some a)(hv:a.cells[k]? =some v):(wY.flatMap mG.cells)[i*12+k]? =some v:=by
 have hk:k < 12:=by
  have:=(List.getElem?_eq_some_iff.1 hv).1
  rwa [mG.len] at this
 exact(Jc mG.cells 12 wY (fun _ _=>rfl) i k a h hk).trans hv
section
variable{g f:Nat}{hL:HL}{s:aA}{n:Nat}{m:iJ}{w:World}{F:Nat→Prop}
theorem aKi{t k d r v e:Int}{z':aU}(hs:sW m.z t k d r v=(e,z'))(hp:(jU g f hL s m).sat F w)(hF:∀b,F b→b < w.heap.size):
  Calls Tryz.prog 17 #[pt g,iv t,.agg #[.int .u8 k,iv d,iv r,.int .u32 v]] w (fun y w'=>y=.returned (iv e)∧∃F',(jU g f hL s ⟨z',m.y,m.x⟩).sat F' w'∧aV w w' F F'):=by
 have:=aKj g f hL s m w F t k d r v hp hF
 unfold iJ.start at this
 rw[hs] at this
 exact this
theorem eV.aHq(h:eV s n m){t k d r v e:Int}{z':aU}(hs:sW m.z t k d r v=(e,z'))(hv:0≤v∧v < 4294967296):eV s n ⟨z',m.y,m.x⟩:=by
 have:=h.start t k d r v hv
 unfold iJ.start at this
 rw[hs] at this
 exact this
theorem aDL{t e v:Int}{b:Bool}{z':aU}(hs:mB m.z t=((e,v,b),z'))(hp:(jU g f hL s m).sat F w)(hF:∀b,F b→b < w.heap.size):
  Calls Tryz.prog 23 #[pt g,iv t] w (fun y w'=>y=.returned (.tuple #[.agg #[iv e,.int .u32 v],.bool b])∧∃F',(jU g f hL s ⟨z',m.y,m.x⟩).sat F' w'∧aV w w' F F'):=by
 have:=aKm g f hL s m w F t hp hF
 unfold iJ.done at this
 rw[hs] at this
 exact this
theorem eV.aMH(h:eV s n m){t e v:Int}{b:Bool}{z':aU}(hs:mB m.z t=((e,v,b),z')):eV s n ⟨z',m.y,m.x⟩:=by
 have:=h.done t
 unfold iJ.done at this
 rw[hs] at this
 exact this
theorem Qm{t:Int}{b:Bool}(hb:oU m.z t=b){w0:World}{R:List Piece}{H:List HP}(i:Nat)(st:St w0 R H w)(hi:H[i]? =some (jU g f hL s m)):Calls Tryz.prog 16 #[pt g,iv t] w (Rt (.bool b) w):=by
 rw[←hb]
 exact aKn g f hL s m w t i st hi
theorem xZ{h:Int}(hb:m.z.cH=h){w0:World}{R:List Piece}{H:List HP}(i:Nat)(st:St w0 R H w)(hi:H[i]? =some (jU g f hL s m)):Calls Tryz.prog 15 #[pt g] w (Rt (iv h) w):=by
 rw[←hb]
 exact aKk g f hL s m w i st hi
end
set_option maxRecDepth 100000 in
theorem aHQ(A:Option Addr)(n c:Nat)(zs:List Int)(B:Option Addr)(nb cb:Nat)(wY:List mG)(w:World)(h0:aE (all w) 1 A n (aG zs))(hz:aCi zs)(hn:n=zs.length)(hn2:n≤9223372036854775807)(h1:aE (all w) 12 B nb (wY.flatMap mG.cells))(hac:∀a∈wY,a.ok)(hnb:nb=wY.length)(aOY:nb≤9223372036854775807)(eB:iZ (all w)):
    Calls Tryz.prog 5 #[.slice A n c,.slice B nb cb] w (Rt (.bool true) w):=by
  refine XK.en Tryz.func5 Tryz.ntmps5 ?_
  refine XK.gw ?_
  refine aJ (fun w1 t=>aHv w1) ?_
  refine XK.gw ?_
  refine fB (fun v hs q=>∃p hs',hs=p::hs'∧aGr v hs' q) (fun w1 t=>aNJ A n c zs w1 (h0.le (t.le (by simp))) hz hn hn2) ?_
  rintro _ _ q1 ⟨pB,_,rfl,s,⟨A1,k1⟩,⟨A2,k2⟩,⟨A3,k3⟩,⟨A4,k4⟩,y1,y2,y3,y4,rfl,hm,eW,pJ,rfl⟩ _
  dsimp only[List.cons_append,List.nil_append]
  have lD:=hm.nv
  refine bB fun gS=>?_
  refine XK.gw ?_
  refine fB (aCf s) (fun w1 t=>aDi s A1 A2 A3 A4 _ k1 _ k2 _ k3 _ k4 w1 (t.aNI 2 3 4 5 6 7 rfl rfl rfl rfl rfl rfl rfl rfl rfl rfl eW pJ (Qo hm)) hm) ?_
  rintro _ _ q2 ⟨gR,f,r,hL,pX,rfl,rfl,aM⟩ _
  dsimp only[List.cons_append,List.nil_append]
  refine XK.weak [1,2,3,0,4] rfl (by decide) (R':=[all w]) (by simp) ?_
  refine XK.three ?_
  refine XK.gw ?_
  refine XK.if_ rfl (fun hg=>?_) (fun hg=>?_)
  · refine XK.gw ?_
    exact XK.rE
  refine XK.gw ?_
  refine XK.cb (α:=Unit) (fun _=>[]) (fun _=>[]) (fun _=>True) ?_ fun _ _=>?_
  · refine XK.lp (α:=iJ) (fun i _=>[(7,pt gR),(9,iv i),(1,.slice B nb cb),(6,pt gS)]) (fun _ m=>[jU r f hL s m,HP.aB gR 58 [.pointer (some ⟨hL.h,0,none⟩),pt f,pt r,.pointer pX],HP.aB gS 30 [.slice A1 s.aD.length k1,.slice A2 s.domains.length k2,.slice A3 s.aL.length k3,.slice A4 s.aC.length k4]]) (fun i m=>eV s i m) nb (aDU s) (aKv hm) fun i m hi hok=>?_
    refine XK.gw ?_
    refine XK.if_ rfl (fun hlt=>?_) (fun hge=>?_)
    · have hlt:i < wY.length:=by omega
      obtain⟨a,ha⟩:=get_some hlt
      have Xx:=hac a (List.mem_of_getElem? ha)
      obtain⟨b,off,rfl,fC,hc⟩:=h1.2 (by omega)
      have ka:cZ w b (off+i*12) a.cells:=⟨fC,fun k v hv=>by rw[Nat.add_assoc];exact hc _ _ (aOH ha hv)⟩
      obtain⟨a0,a1,a2,a3,a4,a5,q0,q1,q2,q3,q4,q5⟩:=a
      have hv5:0≤a5∧a5 < 4294967296:=Xx.v
      have aKX:i≤1000000000:=by omega
      obtain⟨hv,Fe⟩:∃v,m.z.cH=v:=⟨_,rfl⟩
      refine XK.gw ?_
      refine bB fun ga=>?_
      refine XK.gw ?_
      refine aJ (fun w1 t=>Qc _ 3 w1 Xx.task (by decide)) ?_
      obtain⟨p0,p1⟩:=aA1 a1 3 (by decide)
      dsimp only
      generalize uK a1 3=tt at p0 p1⊢
      obtain⟨j,rfl,hj⟩:=Ev (t:=tt) (decide_eq_true ⟨p0,p1⟩)
      obtain⟨bz,hbz⟩:∃b,oU m.z (j:Int)=b:=⟨_,rfl⟩
      refine XK.gw ?_
      refine aJ (fun w1 t=>xZ Fe 1 t rfl) ?_
      refine XK.gw ?_
      refine aJ (fun w1 t=>Qm hbz 1 t rfl) ?_
      refine XK.gw ?_
      refine aJ (fun w1 t=>Qc _ 30 w1 Xx.op (by decide)) ?_
      dsimp only
      generalize uK a0 30=op
      refine XK.gw ?_
      refine XK.cb (α:=iJ) (fun _=>[(7,pt gR),(9,iv i),(1,.slice (some ⟨b,off,none⟩) nb cb),(6,pt gS)]) (fun m=>[jU r f hL s m,HP.aB gR 58 [.pointer (some ⟨hL.h,0,none⟩),pt f,pt r,.pointer pX],HP.aB gS 30 [.slice A1 s.aD.length k1,.slice A2 s.domains.length k2,.slice A3 s.aL.length k3,.slice A4 s.aC.length k4]]) (fun m=>eV s (i+1) m) ?_ fun m' Ik=>?_
      · refine XK.if_ rfl (fun _=>?_) (fun _=>?_)
        · refine XK.gw ?_
          refine XK.dr ?_
          refine XB.nx 9 ?_
          refine aJ (fun w1 t=>aOe ⟨a0,a1,a2,a3,a4,a5,q0,q1,q2,q3,q4,q5⟩ s.aC.length w1 Xx ⟨by omega,by omega⟩) ?_
          refine XB.bk ?_
          generalize aF3 ⟨a0,a1,a2,a3,a4,a5,q0,q1,q2,q3,q4,q5⟩=kk
          generalize aF4 ⟨a0,a1,a2,a3,a4,a5,q0,q1,q2,q3,q4,q5⟩ s.aC.length=dd
          generalize aF2 ⟨a0,a1,a2,a3,a4,a5,q0,q1,q2,q3,q4,q5⟩=rr
          obtain⟨e,z',hs,Il,Sa⟩:=aJH (z:=m.z) hj kk dd rr a5
          have iO:eV s (i+1) ⟨z',m.y,m.x⟩:=(hok.aHq hs hv5).le (by omega)
          refine XB.nx 10 ?_
          refine cX 1 (jU r f hL s ⟨z',m.y,m.x⟩) (fun w1 F1 t h1 h2 h3=>aKi hs h1 h2) ?_
          dsimp only[List.set]
          refine XB.bt ?_
          refine XB.tl [11] ?_
          rcases Sa with⟨rfl,hb,hb'⟩ | ⟨rfl,hb,hb'⟩ | ⟨rfl,hb,hb'⟩
          all_goals
            obtain rfl:=hbz.symm.trans hb
            refine XK.gw ?_
            refine aJ (fun w1 t=>Qm hb' 1 t rfl) ?_
            refine XK.gw ?_
            refine aJ (fun w1 t=>xZ (Il.trans Fe) 1 t rfl) ?_
            refine XK.gw ?_
            refine XK.if_ rfl (fun h=>absurd rfl h) (fun _=>?_)
            refine XK.gw ?_
            exact XK.mt _
        refine XK.norm ?_
        refine XK.gw ?_
        refine XK.if_ rfl (fun _=>?_) (fun _=>?_)
        · have iO:=hok.step hm (j:Int)
          obtain⟨s1,s2⟩:=aJG hok hj
          refine XK.gw ?_
          refine cX 1 (jU r f hL s (m.step s j)) (fun w1 F1 t h1 h2 h3=>aKh r f hL s i m w1 F1 hm aM hok aKX j h1 h2 (iZ.le eB (h3 _ (by simp)))) ?_
          dsimp only[List.set]
          rcases hok.cH with hh | ⟨hh,hb⟩
          · obtain rfl:=Fe.symm.trans hh
            cases bz
            · rw[s1 hbz] at iO⊢
              refine XK.gw ?_
              refine aJ (fun w1 t=>xZ hh 1 t rfl) ?_
              refine XK.gw ?_
              exact XK.mt _
            · refine XK.gw ?_
              exact XK.mt _
          · have hv0:0≤hv:=by omega
            by_cases he:m.z.cH=(j:Int)
            · rw[he,hbz] at hb
              subst hb
              obtain rfl:=Fe.symm.trans he
              refine XK.gw ?_
              refine aW (t:=171) rfl (fun _=>?_) (fun h=>absurd hv0 h)
              refine XK.gw ?_
              refine aW (t:=176) rfl (fun h=>absurd rfl h) (fun _=>?_)
              refine XK.gw ?_
              exact XK.mt _
            · rw[s2 (by omega) he] at iO⊢
              refine XK.gw ?_
              refine aW (t:=171) rfl (fun _=>?_) (fun h=>absurd hv0 h)
              refine XK.gw ?_
              refine aW (t:=176) rfl (fun _=>?_) (fun h=>absurd (by omega) h)
              refine XK.gw ?_
              refine aJ (fun w1 t=>xZ Fe 1 t rfl) ?_
              refine XK.gw ?_
              refine aW (t:=185) rfl (fun h=>absurd rfl h) (fun _=>?_)
              cases bz
              · refine XK.gw ?_
                refine aJ (fun w1 t=>xZ Fe 1 t rfl) ?_
                refine XK.gw ?_
                refine XK.if_ rfl (fun h=>absurd rfl h) (fun _=>?_)
                refine XK.gw ?_
                exact XK.mt _
              · refine XK.gw ?_
                exact XK.mt _
        refine XK.gw ?_
        refine XK.if_ rfl (fun _=>?_) (fun _=>?_)
        · have iO:eV s (i+1) (m.fL s):=(hok.fL hm).le (by omega)
          refine XK.gw ?_
          refine cX 1 (jU r f hL s (m.fL s)) (fun w1 F1 t h1 h2 h3=>aKl r f hL s i m w1 F1 hm aM hok h1 h2 (iZ.le eB (h3 _ (by simp)))) ?_
          dsimp only[List.set]
          refine XK.gw ?_
          refine aJ (fun w1 t=>xZ (show(m.fL s).z.cH=hv from Fe) 1 t rfl) ?_
          refine XK.gw ?_
          refine XK.if_ rfl (fun h=>absurd rfl h) (fun _=>?_)
          refine XK.gw ?_
          exact XK.mt _
        refine XK.gw ?_
        refine XK.if_ rfl (fun _=>?_) (fun _=>?_)
        · have iO:eV s (i+1) (m.tick s a5):=(hok.tick hm a5).le (by omega)
          have Ak:(mR s m.x a5).2.length≤1000:=Nat.le_trans (aBV (s:=s) (x:=m.x) s.aC.length) (by omega)
          refine XK.gw ?_
          refine XK.weak [1,0,2,3] rfl (by decide) (fun _ h=>h) ?_
          refine XK.Nb [1,2,3,5,6,7,8,9] ?_
          refine XB.mv 0 ?_ (hsub:=fun _ h=>h.bU)
          refine XB.q 1 ?_ (hsub:=fun _ h=>h.bU)
          refine XB.q 2 ?_ (hsub:=fun _ h=>h.bU)
          refine XB.q 3 ?_ (hsub:=fun _ h=>h.bU)
          refine XB.mv 4 ?_ (hsub:=fun _ h=>h.bU)
          refine XB.q 5 ?_ (hsub:=fun _ h=>h.bU)
          refine XB.q 6 ?_ (hsub:=fun _ h=>h.bU)
          refine XB.q 7 ?_ (hsub:=fun _ h=>h.bU)
          refine XB.q 8 ?_ (hsub:=fun _ h=>h.bU)
          refine XB.q 9 ?_ (hsub:=fun _ h=>h.bU)
          refine XB.nx 10 ?_
          refine vP (α:=Option Addr×Nat) 0 (f:=22) (fi:=[]) (ca:=[]) (fun a=>.slice a.1 (mR s m.x a5).2.length a.2) (fun a=>aCd r f hL s ⟨m.z,m.y,(mR s m.x a5).1⟩ (mR s m.x a5).2 a) (fun _=>True) (by kernel_rfl) rfl rfl rfl (by decide) (fun w1 F1 t h1 h2 h3=>by simpa using aKg r f hL s i m w1 F1 hm aM hok a5 hv5 h1 h2) fun aa _=>?_
          dsimp only[List.set]
          refine XB.bk ?_ (hS:=fun _ h=>h.bU)
          refine XB.nx 11 ?_
          refine cX 0 (jU r f hL s (m.tick s a5)) (fun w1 F1 t h1 h2 h3=>aKo r f hL s ⟨m.z,m.y,(mR s m.x a5).1⟩ w1 F1 hok.vX _ Ak aa h1 h2) ?_
          dsimp only[List.set]
          refine XB.bk ?_ (hS:=fun _ h=>h.bU)
          refine XB.fin ?_
          refine XK.gw ?_
          rcases aJF hok a5 with hh | hh
          · refine aJ (fun w1 t=>xZ (hh.trans Fe) 0 t rfl) ?_
            refine XK.gw ?_
            refine aW (t:=235) rfl (fun h=>absurd rfl h) (fun _=>?_)
            refine XK.gw ?_
            exact XK.mt _
          · refine aJ (fun w1 t=>xZ hh 0 t rfl) ?_
            refine XK.gw ?_
            refine aW (t:=235) rfl (fun _=>?_) (fun _=>?_)
            · refine XK.gw ?_
              refine aJ (fun w1 t=>xZ hh 0 t rfl) ?_
              refine XK.gw ?_
              exact XK.mt _
            · refine XK.gw ?_
              exact XK.mt _
        obtain⟨e,v,bd,z',d1,d2,Il,Sa⟩:=aJI (z:=m.z) hj
        have iO:eV s (i+1) ⟨z',m.y,m.x⟩:=(hok.aMH d1).le (by omega)
        refine XK.gw ?_
        refine cX 1 (jU r f hL s ⟨z',m.y,m.x⟩) (fun w1 F1 t h1 h2 h3=>aDL d1 h1 h2) ?_
        dsimp only[List.set]
        refine XK.gw ?_
        refine bB fun gb=>?_
        refine XK.gw ?_
        refine cX 2 (jU r f hL s ⟨z',m.y,m.x⟩) (fun w1 F1 t h1 h2 h3=>aDL (m:=⟨z',m.y,m.x⟩) d2 h1 h2) ?_
        dsimp only[List.set]
        refine XK.gw ?_
        refine bB fun gc=>?_
        rcases Sa with⟨rfl,hb,hb'⟩ | ⟨rfl,rfl⟩
        · obtain rfl:=hbz.symm.trans hb
          refine XK.gw ?_
          refine aJ (fun w1 t=>Qm (m:=⟨z',m.y,m.x⟩) hb' 3 t rfl) ?_
          refine XK.gw ?_
          exact XK.mt _
        · refine XK.gw ?_
          refine aJ (fun w1 t=>Qm (m:=⟨m.z,m.y,m.x⟩) hbz 3 t rfl) ?_
          cases bz
          all_goals
            refine XK.gw ?_
            exact XK.mt _
      · refine XK.gw ?_
        rcases Ik.cH with hh | ⟨hh,hb⟩
        · refine aJ (fun w1 t=>xZ hh 0 t rfl) ?_
          refine XK.gw ?_
          exact XK.ag m'
        · obtain⟨hu,hhu⟩:∃v,m'.z.cH=v:=⟨_,rfl⟩
          rw[hhu] at hb hh
          refine aJ (fun w1 t=>xZ hhu 0 t rfl) ?_
          refine XK.gw ?_
          refine aW (t:=250) rfl (fun h=>absurd h (by omega)) (fun _=>?_)
          refine XK.gw ?_
          refine aW (t:=254) rfl (fun h=>absurd h (by omega)) (fun _=>?_)
          refine XK.gw ?_
          refine aW (t:=257) rfl (fun _=>?_) (fun h=>absurd (by omega) h)
          refine XK.gw ?_
          refine aJ (fun w1 t=>Qm hb 0 t rfl) ?_
          refine XK.gw ?_
          exact XK.ag m'
    · refine XK.gw ?_
      exact XK.mt ()
  · refine XK.gw ?_
    exact XK.rE
end
section
set_option maxHeartbeats 4000000
set_option maxRecDepth 20000
section
variable{H:Type}{enc:TypeId×Value→H}{w:World}{fuel:Nat}{cs:List Value}{x:DataW H×List MemPlace}
theorem uJ{α:Type}{l:List α}{n i:Nat}(h:l.length=n)(hi:i < n):∃y,l[i]? =some y:=⟨l[i]'(by omega),List.getElem?_eq_getElem _⟩
theorem aOo{a:Int}(h:(Lit.int .u32 a).wf=true):0≤a∧a < 4294967296:=by
 simp[Lit.wf,IntKind.min,IntKind.max,IntKind.signed,IntKind.bits] at h
 omega
theorem aFQ:Tryz.prog.cellsOf 65=12:=by kernel_rfl
theorem aFT:Tryz.prog.cellsOf 63=6:=by kernel_rfl
theorem aFS:Tryz.prog.cellsOf 3=1:=by kernel_rfl
theorem aFR:Tryz.prog.cellsOf 23=1:=by kernel_rfl
theorem aGV{l:List Value}(h:l.length=12):∃a b c d e f g i j k m n,l=[a,b,c,d,e,f,g,i,j,k,m,n]:=by
 match l,h with
 | [a,b,c,d,e,f,g,i,j,k,m,n],_=>exact⟨a,b,c,d,e,f,g,i,j,k,m,n,rfl⟩
theorem aHu{l:List Value}(h:l.length=6):∃a b c d e f,l=[a,b,c,d,e,f]:=by
 match l,h with
 | [a,b,c,d,e,f],_=>exact⟨a,b,c,d,e,f,rfl⟩
theorem aOr(h:DataW.trod enc Tryz.prog w 0 (fun _=>true) true fuel 63 cs=some x):
  ∃a b c d e f:Int,cs=[iv a,iv b,iv c,iv d,iv e,iv f]∧(-9223372036854775808≤b∧b≤9223372036854775807)∧(-9223372036854775808≤c∧c≤9223372036854775807)∧(-9223372036854775808≤d∧d≤9223372036854775807)∧(-9223372036854775808≤e∧e≤9223372036854775807)∧(-9223372036854775808≤f∧f≤9223372036854775807):=by
 obtain⟨xs,n,rfl,_,hl,hxl,hf⟩:=DataW.trod_struct Tryz.underlying63 h
 rw[aFT] at hl
 obtain⟨a,b,c,d,e,f,rfl⟩:=aHu hl
 have h0:=hf 0 _ rfl
 have h1:=hf 1 _ rfl
 have h2:=hf 2 _ rfl
 have h3:=hf 3 _ rfl
 have h4:=hf 4 _ rfl
 have h5:=hf 5 _ rfl
 simp only[List.getElem_toArray,List.getElem_cons_zero,List.getElem_cons_succ,List.drop_succ_cons,List.drop_zero,aFS,aFR,List.take_succ_cons,List.take_zero] at h0 h1 h2 h3 h4 h5
 obtain⟨y0,e0⟩:=uJ hxl (i:=0) (by simp)
 obtain⟨y1,e1⟩:=uJ hxl (i:=1) (by simp)
 obtain⟨y2,e2⟩:=uJ hxl (i:=2) (by simp)
 obtain⟨y3,e3⟩:=uJ hxl (i:=3) (by simp)
 obtain⟨y4,e4⟩:=uJ hxl (i:=4) (by simp)
 obtain⟨y5,e5⟩:=uJ hxl (i:=5) (by simp)
 rw[e0] at h0
 rw[e1] at h1
 rw[e2] at h2
 rw[e3] at h3
 rw[e4] at h4
 rw[e5] at h5
 obtain⟨z0,g0,_,_⟩:=DataW.trod_int Tryz.underlying3 h0
 obtain⟨z1,g1,_,w1⟩:=DataW.trod_int Tryz.underlying3 h1
 obtain⟨z2,g2,_,w2⟩:=DataW.trod_int Tryz.underlying3 h2
 obtain⟨z3,g3,_,w3⟩:=DataW.trod_int Tryz.underlying3 h3
 obtain⟨z4,g4,_,w4⟩:=DataW.trod_int Tryz.underlying3 h4
 obtain⟨z5,g5,_,w5⟩:=DataW.trod_int Tryz.underlying3 h5
 simp at g0 g1 g2 g3 g4 g5
 subst g0;subst g1;subst g2;subst g3;subst g4;subst g5
 exact⟨_,_,_,_,_,_,rfl,yZ w1,yZ w2,yZ w3,yZ w4,yZ w5⟩
theorem aOI(h:DataW.trod enc Tryz.prog w 0 (fun _=>true) true fuel 65 cs=some x):∃v:mG,cs=v.cells∧v.ok:=by
 obtain⟨xs,n,rfl,_,hl,hxl,hf⟩:=DataW.trod_struct Tryz.underlying65 h
 rw[aFQ] at hl
 obtain⟨a,b,c,d,e,f,g,i,j,k,m,n',rfl⟩:=aGV hl
 have h0:=hf 0 _ rfl
 have h1:=hf 1 _ rfl
 have h2:=hf 2 _ rfl
 have h3:=hf 3 _ rfl
 have h4:=hf 4 _ rfl
 have h5:=hf 5 _ rfl
 have h6:=hf 6 _ rfl
 simp only[List.getElem_toArray,List.getElem_cons_zero,List.getElem_cons_succ,List.drop_succ_cons,List.drop_zero,aFS,aFR,aFT,List.take_succ_cons,List.take_zero] at h0 h1 h2 h3 h4 h5 h6
 obtain⟨y0,e0⟩:=uJ hxl (i:=0) (by simp)
 obtain⟨y1,e1⟩:=uJ hxl (i:=1) (by simp)
 obtain⟨y2,e2⟩:=uJ hxl (i:=2) (by simp)
 obtain⟨y3,e3⟩:=uJ hxl (i:=3) (by simp)
 obtain⟨y4,e4⟩:=uJ hxl (i:=4) (by simp)
 obtain⟨y5,e5⟩:=uJ hxl (i:=5) (by simp)
 obtain⟨y6,e6⟩:=uJ hxl (i:=6) (by simp)
 rw[e0] at h0
 rw[e1] at h1
 rw[e2] at h2
 rw[e3] at h3
 rw[e4] at h4
 rw[e5] at h5
 rw[e6] at h6
 obtain⟨z0,g0,_,w0⟩:=DataW.trod_int Tryz.underlying3 h0
 obtain⟨z1,g1,_,w1⟩:=DataW.trod_int Tryz.underlying3 h1
 obtain⟨z2,g2,_,w2⟩:=DataW.trod_int Tryz.underlying3 h2
 obtain⟨z3,g3,_,w3⟩:=DataW.trod_int Tryz.underlying3 h3
 obtain⟨z4,g4,_,w4⟩:=DataW.trod_int Tryz.underlying3 h4
 obtain⟨z5,g5,_,w5⟩:=DataW.trod_int Tryz.underlying23 h5
 obtain⟨q0,q1,q2,q3,q4,q5,g6,u1,u2,u3,u4,u5⟩:=aOr h6
 simp at g0 g1 g2 g3 g4 g5 g6
 obtain⟨rfl,rfl,rfl,rfl,rfl,rfl⟩:=g6
 subst g0;subst g1;subst g2;subst g3;subst g4;subst g5
 exact⟨⟨z0,z1,z2,z3,z4,z5,q0,q1,q2,q3,q4,q5⟩,rfl,yZ w0,yZ w1,yZ w2,yZ w3,yZ w4,aOo w5,u1,u2,u3,u4,u5⟩
open Go.ChangeShapes Go.WideShapes Go.ChangeAt in
set_option maxRecDepth 100000 in
theorem aJ5{v:Value}{d:DataW H}{ps:List MemPlace}{base:Nat}(hval:Value.okWide Tryz.prog w .any base 61 v)(h:DataW.Trod enc Tryz.prog w 0 (fun _=>true) true 61 v d ps):
    ∃(A:Option Addr) (n c:Nat) (wY:List mG),v=.slice A n c∧Sl w w.heap.size 12 A n (wY.flatMap mG.cells)∧(∀a∈wY,a.ok)∧n=wY.length∧n≤9223372036854775807:=by
  obtain⟨a0,len,cap,rfl⟩:=okWide_slice Tryz.underlying61 hval
  obtain⟨fuel,hf⟩:=h
  obtain⟨A,n,c,ys,hcs,mV,hn,hm,hR⟩:=aHt mG.cells mG.ok Tryz.underlying61 aFQ (by omega) mG.len (fun _ _ _ h=>aOI h) hf
  simp[Value.cells] at hcs
  obtain⟨rfl,rfl,rfl⟩:=hcs
  subst hn
  exact⟨_,_,_,ys,rfl,mV,hR,rfl,hm⟩
end
end
end Go.Proofs.YtdcdccmpcmjmhaaGreatDoor
