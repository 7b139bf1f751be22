/- chip: a description that is right, of any raw numbers. No condition of ours. -/
import Derived.Test.YtmpkkaknjkffpaaGreatDoorRows
import Derived.Test.YtmpkkaknjkffpaaGreatDoorWorldEndsK7
namespace Go.Proofs.YtmpkkaknjkffpaaGreatDoor
set_option linter.all false
set_option maxHeartbeats 4000000
set_option maxRecDepth 20000
open Go.RowKit Go.Proofs.Tryz
variable{s:aG}{A B X P:bL}{bd bc bl:Option Nat}{x:aP}{n j k i L:Nat}{y:bN}{z:bB}{m:eC}{d q v:Int}{w:aU}
section
theorem aLz(c n:Int)(w:World)(d: -9223372036854775808≤c∧c≤9223372036854775807)(a:0 < n):
  Cz 8 #[iv c,iv n] w fun x w'=>(∃v,x=.returned v∧∃r:Int,v=iv r∧0≤r∧r < n)∧Below w.heap.size w w':=by
 refine aT func8 ntmps8 ?_;refine aE ?_;refine Nr (α:=Int) (fun c=>[(0,iv c),(1,iv n)]) (fun _=>[]) (fun c=>0≤c) ?_ fun c b=>?_
 ·refine aE ?_;refine aK rfl (fun h=>?_) (fun h=>?_)
  ·refine aE ?_;exact dO _
  ·refine aE ?_;exact dO _
 refine aE ?_;exact nB rfl rfl fun w' st=>⟨⟨_,rfl,_,rfl,Int.emod_nonneg _ aA,Int.emod_lt_of_pos _ a⟩,st.below aD⟩
set_option maxRecDepth 100000 in
theorem aQ0(A : Option Addr)(n c : Nat)(zs : List Int)(w : World)(h0 : aM (all w) 1 A n (aR zs))(hz : Zk zs)(hn : n = zs.length)(hn2 : n ≤ 9223372036854775807) :
    Cz 6 #[.slice A n c] w fun x w'=>(∃v hs q,x=.returned v∧q.w=w'∧(∃p hs',hs=p::hs'∧aDa v hs' q)∧gX w hs q)∧Below w.heap.size w w':=by
  refine aT func6 ntmps6 ?_;refine aE ?_;refine cQ fun g1=>?_;refine aE ?_;refine mN 8 (n:=120) (el:=3) (z:=iv 0) (by kernel_rfl) (by kernel_rfl) rfl rfl rfl (by omega) (by omega) (by decide) fun g2=>?_;refine aE ?_;refine sH (α:=List Int) (fun _=>[(4,.slice (some ⟨g2,0,none⟩) 120 120),(2,pt g1)]) (fun ds=>[HP.aI g2 3 (aR ds),HP.aI g1 30 [sn,sn,sn,sn]]) xF ?_ fun ds hd=>?_
  · refine rI (α:=List Int) (fun i _=>[(5,iv i),(4,.slice (some ⟨g2,0,none⟩) 120 120),(2,pt g1),(0,.slice A n c)]) (fun _ ds=>[HP.aI g2 3 (aR ds),HP.aI g1 30 [sn,sn,sn,sn]]) (fun _ ds=>xF ds) 120 (List.replicate 120 0) xF.zero fun k ds hk hd=>?_
    refine aE ?_;refine cN (t:=23) rfl (fun hg=>?_) (fun hg=>?_)
    · refine aE ?_
      refine aK rfl (fun h=>?_) (fun h=>?_)
      · have hk2:k < 120:=by omega
        have hn0:0 < n:=by omega
        obtain⟨b,off,rfl,qK,hc⟩:=h0.2 hn0
        have hkb:=Dv (k:Int) (n:=(n:Int)) (by omega)
        have hdb:0≤(k:Int) / (n:Int)∧(k:Int) / (n:Int)≤k:=⟨Int.ediv_nonneg (by omega) (by omega),Int.ediv_le_self _ (by omega)⟩
        have k0:gG w b (off+((k:Int) % (n:Int)).toNat) (iv (zs[((k:Int) % (n:Int)).toNat]?.getD 0)):=⟨qK,hc _ _ (aBs zs _ (by omega))⟩
        have hyb:=aJz (z:=zs[((k:Int) % (n:Int)).toNat]?.getD 0) (d:=1+(k:Int) / (n:Int)) (lo:= -9223372036854775808) (hi:=9223372036854775807) (by omega) (by omega) (by omega) (hz _)
        refine aE ?_;refine uT ?_;refine aQ 15 ?_;refine kcV (fun v=>∃r:Int,v=iv r∧0≤r∧r < 1000000) (fun w1 st=>aLz _ _ w1 hyb (by omega)) fun v hv=>?_;obtain⟨r,rfl,hr0,Fz⟩:=hv;refine bH ?_;refine uU [16,17] ?_;refine aE ?_;refine eZ rfl rfl ?_ (hs:=eS.mk 0 rfl cZ.h rfl (by simp[aR,hd.1];omega));dsimp only[List.set];rw[Wg];refine aE ?_;exact lM _ (hg:=hd.lS k hr0 Fz)
      · refine aE ?_
        exact dO _
    · refine aE ?_
      exact dO _
  refine aE ?_;refine eT fun g3=>?_;refine aE ?_;refine cQ fun g4=>?_;refine aE ?_;refine Jj 1 6 1 rfl rfl (by omega) ?_;dsimp only[List.set];refine aHz (p:=qM [⟨111,[],1+dv ds 0 % 1000000,0,0,0⟩] [[.int .u8 111,sn,.int .u64 (1+dv ds 0 % 1000000),iv 0,iv 0,iv 0]]) (fun w=>⟨rfl,⟨none,0,0,rfl,rfl,rfl,fun h=>absurd h (by omega)⟩,trivial⟩) ?_;refine sH (α:=(List eN×List (List Value))×(Option Addr×Nat)×Nat) (fun _=>[(6,pt g4),(4,.slice (some ⟨g2,0,none⟩) 120 120),(2,pt g1)]) (fun x=>[qM x.1.1 x.1.2,HP.own 73 6 (.slice x.2.1.1 x.2.2 x.2.1.2) x.2.2 x.1.2.flatten,HP.aI g4 30 [.slice x.2.1.1 x.2.2 x.2.1.2,sn,sn,sn],HP.aI g2 3 (aR ds),HP.aI g1 30 [sn,sn,sn,sn]]) (fun x=>x.1.1.length=x.2.2∧1≤x.2.2∧x.2.2≤9∧Fits eN.fit x.1.1) ?_ fun x hx=>?_
  · refine rI (α:=(List eN×List (List Value))×(Option Addr×Nat)×List Value) (fun i _=>[(8,iv i),(7,.string ⟨#[112,100,103,109,103]⟩),(6,pt g4),(4,.slice (some ⟨g2,0,none⟩) 120 120),(3,iv 1),(2,pt g1)]) (fun i x=>[qM x.1.1 x.1.2,HP.own 73 6 (.slice x.2.1.1 (i+1) x.2.1.2) (i+1) x.2.2,HP.aI g4 30 [.slice x.2.1.1 (i+1) x.2.1.2,sn,sn,sn],HP.aI g2 3 (aR ds),HP.aI g1 30 [sn,sn,sn,sn]]) (fun i x=>x.1.1.length=i+1∧i≤8∧Fits eN.fit x.1.1∧x.2.2=x.1.2.flatten) 9 (([⟨111,[],1+dv ds 0 % 1000000,0,0,0⟩],[[.int .u8 111,sn,.int .u64 (1+dv ds 0 % 1000000),iv 0,iv 0,iv 0]]),(_,_),_) ⟨rfl,by omega,(Fits.nil eN.fit).snoc ⟨by simp,.inl ⟨rfl,rfl,by dsimp only;omega,by dsimp only;omega,rfl,rfl,rfl⟩⟩,rfl⟩ fun i x hi hx=>?_
    obtain⟨⟨cs,rows⟩,⟨B,cB⟩,xs⟩:=x;dsimp only at hx⊢;obtain⟨vL,hi8,Wz,rfl⟩:=hx;refine aE ?_;refine aK rfl (fun h=>?_) (fun h=>?_)
    · obtain⟨kb,hkb,aNv⟩:=aNd (q:=(dv ds (10+3*(i:Int)).toNat % 1000000 % 5).toNat) (by omega)
      have f0:=Dv (dv ds ((10+3*(i:Int))+1).toNat % 1000000) (n:=((i+1:Nat):Int)) (by omega)
      refine aE ?_;refine Nr (α:=Nat×Nat) (fun x=>[(10,.pointer (some ⟨x.2,0,none⟩)),(9,iv (10+3*(i:Int))),(8,iv i),(7,.string ⟨#[112,100,103,109,103]⟩),(6,pt g4),(4,.slice (some ⟨g2,0,none⟩) 120 120),(3,iv 1),(2,pt g1)]) (fun x=>[HP.aI x.2 73 [.int .u8 kb.toNat,.slice (some ⟨x.1,0,none⟩) 1 1,.int .u64 0,iv 0,iv 0,iv 0],HP.aI x.1 3 [iv (dv ds ((10+3*(i:Int))+1).toNat % 1000000 % ((i+1:Nat):Int))],qM cs rows,HP.own 73 6 (.slice B (i+1) cB) (i+1) rows.flatten,HP.aI g4 30 [.slice B (i+1) cB,sn,sn,sn],HP.aI g2 3 (aR ds),HP.aI g1 30 [sn,sn,sn,sn]]) (fun _=>True) ?_ fun x _=>?_
      · refine uT ?_
        refine yN 16 18 rfl rfl (by kernel_rfl) ?_ ?_
        · refine eT fun g5=>?_
          refine bH ?_;refine nZ 17 ?_;refine aQ 18 ?_;refine cQ fun g6=>?_;refine bH ?_;refine uU [19] ?_;refine aE ?_;exact dO (_,_)
        · refine cQ fun g6=>?_
          refine bH ?_;refine aQ 16 ?_;refine eT fun g5=>?_;refine bH ?_;refine nZ 17 ?_;refine uU [19] ?_;refine aBr ?_;refine mF 1 rfl ?_;dsimp only[List.set];refine aE ?_;exact dO (_,_)
      obtain⟨g5,g6⟩:=x;dsimp only
      have f1:=Dv (dv ds ((10+3*(i:Int))+2).toNat % 1000000) (n:=((i+1:Nat):Int)) (by omega)
      refine Jj 1 1 1 rfl rfl (by omega) ?_;dsimp only[List.set];refine aE ?_;refine sH (α:=eN×(Option Addr×Nat)) (fun _=>[(10,pt g6),(8,iv i),(7,.string ⟨#[112,100,103,109,103]⟩),(6,pt g4),(4,.slice (some ⟨g2,0,none⟩) 120 120),(3,iv 1),(2,pt g1)]) (fun x=>[HP.aI g6 73 [.int .u8 x.1.kind,.slice x.2.1 x.1.src.length x.2.2,.int .u64 x.1.rate,iv x.1.mul,iv x.1.div,iv x.1.lock],HP.own 3 1 (.slice x.2.1 x.1.src.length x.2.2) x.1.src.length (aR x.1.src),qM cs rows,HP.own 73 6 (.slice B (i+1) cB) (i+1) rows.flatten,HP.aI g4 30 [.slice B (i+1) cB,sn,sn,sn],HP.aI g2 3 (aR ds),HP.aI g1 30 [sn,sn,sn,sn]]) (fun x=>x.1.fit (i+1)) ?_ fun x hx=>?_
      · refine aK rfl (fun h1=>?_) (fun h1=>?_)
        · refine aE ?_
          exact dO (⟨_,[dv ds ((10+3*(i:Int))+1).toNat % 1000000 % ((i+1:Nat):Int)],_,_,_,_⟩,_,_) (hg:=⟨(fun f hf=>by rcases List.mem_singleton.1 hf with rfl;exact f0),.inr (.inl ⟨h1,rfl,rfl,by dsimp only;omega,by dsimp only;omega,by dsimp only;omega,by dsimp only;omega,by dsimp only;omega,by dsimp only;omega⟩)⟩)
        refine aE ?_;refine aK rfl (fun h2=>?_) (fun h2=>?_)
        · refine aE ?_
          exact dO (⟨_,[dv ds ((10+3*(i:Int))+1).toNat % 1000000 % ((i+1:Nat):Int)],_,_,_,_⟩,_,_) (hg:=⟨(fun f hf=>by rcases List.mem_singleton.1 hf with rfl;exact f0),.inr (.inr (.inl ⟨h2,rfl,rfl,rfl,by dsimp only;omega,by dsimp only;omega,rfl⟩))⟩)
        refine aE ?_;refine aK rfl (fun h3=>?_) (fun h3=>?_)
        · refine uT ?_
          refine aQ 11 ?_;refine eT fun g7=>?_;refine bH ?_;refine uU [12,13,14] ?_;refine aE ?_;refine Fy 2 fun A' k'=>?_;dsimp only[List.set];refine aE ?_;exact dO (⟨_,[dv ds ((10+3*(i:Int))+1).toNat % 1000000 % ((i+1:Nat):Int),dv ds ((10+3*(i:Int))+2).toNat % 1000000 % ((i+1:Nat):Int)],_,_,_,_⟩,_,_) (hg:=⟨(fun f hf=>by simp only[List.mem_cons,List.not_mem_nil,or_false] at hf;rcases hf with rfl | rfl;exact f0;exact f1),.inr (.inr (.inr (.inr ⟨h3,rfl,rfl,rfl,rfl,rfl⟩)))⟩)
        · refine aE ?_
          exact dO (⟨_,[dv ds ((10+3*(i:Int))+1).toNat % 1000000 % ((i+1:Nat):Int)],_,_,_,_⟩,_,_) (hg:=⟨(fun f hf=>by rcases List.mem_singleton.1 hf with rfl;exact f0),.inr (.inr (.inr (.inl ⟨by rcases aNv with h | h | h | h<;>simp_all,rfl,rfl,rfl,rfl,rfl⟩)))⟩)
      obtain⟨cl,Af,cf⟩:=x;dsimp only at hx⊢;refine aE ?_;refine eT fun g7=>?_;refine aE ?_;refine Fy 4 fun A' k'=>?_;dsimp only[List.set];refine aE ?_;refine aY [2,3,4,5,6,7] rfl (by decide) (fun _ h=>h) ?_;refine aSg ?_;exact lM ((_,_),(_,_),_) (hg:=⟨by simp[vL],by omega,Wz.snoc (by rw[vL];exact hx),by simp⟩)
    · refine aE ?_
      exact dO ((_,_),(_,_),_) (hg:=⟨vL,Nat.succ_pos i,Nat.succ_le_succ hi8,Wz⟩)
  obtain⟨⟨cs,rows⟩,⟨B,cB⟩,nc⟩:=x;dsimp only at hx⊢;obtain⟨vL,hc1,hc9,Wz⟩:=hx;refine aE ?_;refine mH 75 3 ?_;refine sH (α:=(List Dom×List (List Value))×(Option Addr×Nat)×Nat) (fun _=>[(6,pt g4),(4,.slice (some ⟨g2,0,none⟩) 120 120),(2,pt g1)]) (fun x=>[HP.own 75 3 (.slice x.2.1.1 x.2.2 x.2.1.2) x.2.2 x.1.2.flatten,qM cs rows,HP.own 73 6 (.slice B nc cB) nc rows.flatten,HP.aI g4 30 [.slice B nc cB,.slice x.2.1.1 x.2.2 x.2.1.2,sn,sn],HP.aI g2 3 (aR ds),HP.aI g1 30 [sn,sn,sn,sn]]) (fun x=>x.1.1.length=x.2.2∧1≤x.2.2∧x.2.2≤4∧Fits Dom.fit x.1.1∧Rows tX 3 x.1.1 x.1.2) ?_ fun x hx=>?_
  · refine rI (α:=(List Dom×List (List Value))×(Option Addr×Nat)×List Value) (fun i _=>[(11,iv i),(6,pt g4),(4,.slice (some ⟨g2,0,none⟩) 120 120),(2,pt g1)]) (fun i x=>[HP.own 75 3 (.slice x.2.1.1 i x.2.1.2) i x.2.2,qM cs rows,HP.own 73 6 (.slice B nc cB) nc rows.flatten,HP.aI g4 30 [.slice B nc cB,.slice x.2.1.1 i x.2.1.2,sn,sn],HP.aI g2 3 (aR ds),HP.aI g1 30 [sn,sn,sn,sn]]) (fun i x=>x.1.1.length=i∧Fits Dom.fit x.1.1∧Rows tX 3 x.1.1 x.1.2∧x.2.2=x.1.2.flatten) 4 (([],[]),(none,0),[]) ⟨rfl,Fits.nil _,trivial,rfl⟩ fun i x hi hx=>?_
    obtain⟨⟨dm,yA⟩,⟨D,cD⟩,xs⟩:=x;dsimp only at hx⊢;obtain⟨pM,hdf,Qs,rfl⟩:=hx;refine aE ?_;refine aK rfl (fun h=>?_) (fun h=>?_)
    · refine aE ?_
      refine uT ?_;refine aQ 15 ?_;refine cQ fun g5=>?_;refine bH ?_;refine uU [16] ?_;refine aBr ?_;refine mF 0 rfl ?_;dsimp only[List.set];refine aFl ?_;refine iC ?_;refine El (α:=Int) (fun _=>[(12,pt g5),(11,iv i),(6,pt g4),(4,.slice (some ⟨g2,0,none⟩) 120 120),(2,pt g1)]) (fun v=>[HP.aI g5 75 [iv v,iv (dv ds (40+(i:Int)).toNat % 4),.bool (decide (dv ds (40+(i:Int)).toNat % 1000000 / 4 % 2=1))],HP.own 75 3 (.slice D i cD) i yA.flatten,qM cs rows,HP.own 73 6 (.slice B nc cB) nc rows.flatten,HP.aI g4 30 [.slice B nc cB,.slice D i cD,sn,sn],HP.aI g2 3 (aR ds),HP.aI g1 30 [sn,sn,sn,sn]]) (fun v=>v= -1∨(0≤v∧v < i)) ?_ fun v hv=>?_
      · refine aE ?_
        refine cN (t:=172) rfl (fun hg=>?_) (fun hg=>?_)
        · have f2:=Dv (dv ds (44+(i:Int)).toNat % 1000000 / 3) (n:=(i:Int)) hg
          refine aE ?_;refine aK rfl (fun h3=>?_) (fun h3=>?_)
          · refine aE ?_
            exact dO _ (hg:=.inr f2)
          · refine aE ?_
            exact dO _ (hg:=.inl rfl)
        · refine aE ?_
          exact dO _ (hg:=.inl rfl)
      refine aE ?_;refine eT fun g7=>?_;refine aE ?_;refine Fy 2 fun A' k'=>?_;dsimp only[List.set];refine aE ?_;exact lM ((dm++[⟨v,dv ds (40+(i:Int)).toNat % 4,decide (dv ds (40+(i:Int)).toNat % 1000000 / 4 % 2=1)⟩],yA++[_]),(_,_),_) (hg:=⟨by simp[pM],hdf.snoc ⟨by rw[pM];exact hv,by dsimp only;omega,by dsimp only;omega⟩,Qs.snoc rfl rfl,by simp⟩)
    · refine aE ?_
      exact dO ((_,_),(_,_),_) (hg:=⟨pM,by show 1≤i;omega,hi,hdf,Qs⟩)
  obtain⟨⟨dm,yA⟩,⟨D,cD⟩,nd⟩:=x;dsimp only at hx⊢;obtain⟨pM,hd1,hd4,hdf,Qs⟩:=hx;refine aE ?_;refine mH 77 1 ?_;refine sH (α:=(List Int×List (List Value))×(Option Addr×Nat)×Nat) (fun _=>[(6,pt g4),(4,.slice (some ⟨g2,0,none⟩) 120 120),(2,pt g1)]) (fun x=>[HP.own 77 1 (.slice x.2.1.1 x.2.2 x.2.1.2) x.2.2 x.1.2.flatten,HP.own 75 3 (.slice D nd cD) nd yA.flatten,qM cs rows,HP.own 73 6 (.slice B nc cB) nc rows.flatten,HP.aI g4 30 [.slice B nc cB,.slice D nd cD,.slice x.2.1.1 x.2.2 x.2.1.2,sn],HP.aI g2 3 (aR ds),HP.aI g1 30 [sn,sn,sn,sn]]) (fun x=>x.1.1.length=x.2.2∧1≤x.2.2∧x.2.2≤3∧(∀r∈x.1.1,0≤r∧r≤3)∧Rows wY 1 x.1.1 x.1.2) ?_ fun x hx=>?_
  · refine rI (α:=(List Int×List (List Value))×(Option Addr×Nat)×List Value) (fun i _=>[(13,iv i),(6,pt g4),(4,.slice (some ⟨g2,0,none⟩) 120 120),(2,pt g1)]) (fun i x=>[HP.own 77 1 (.slice x.2.1.1 i x.2.1.2) i x.2.2,HP.own 75 3 (.slice D nd cD) nd yA.flatten,qM cs rows,HP.own 73 6 (.slice B nc cB) nc rows.flatten,HP.aI g4 30 [.slice B nc cB,.slice D nd cD,.slice x.2.1.1 i x.2.1.2,sn],HP.aI g2 3 (aR ds),HP.aI g1 30 [sn,sn,sn,sn]]) (fun i x=>x.1.1.length=i∧(∀r∈x.1.1,0≤r∧r≤3)∧Rows wY 1 x.1.1 x.1.2∧x.2.2=x.1.2.flatten) 3 (([],[]),(none,0),[]) ⟨rfl,by simp,trivial,rfl⟩ fun i x hi hx=>?_
    obtain⟨⟨rs,rrs⟩,⟨L,cL⟩,xs⟩:=x;dsimp only at hx⊢;obtain⟨hrl,Ws,tJ,rfl⟩:=hx;refine aE ?_;refine aK rfl (fun h=>?_) (fun h=>?_)
    · refine aE ?_
      refine uT ?_;refine aQ 9 ?_;refine eT fun g7=>?_;refine bH ?_;refine uU [10,11,12] ?_;refine aE ?_;refine Fy 1 fun A' k'=>?_;dsimp only[List.set];refine aE ?_
      exact lM ((rs++[dv ds (50+(i:Int)).toNat % 4],rrs++[_]),(_,_),_) (hg:=⟨by simp[hrl],(fun r hr=>by
        rcases List.mem_append.1 hr with hr | hr
        · exact Ws r hr
        · rcases List.mem_singleton.1 hr with rfl
          omega),tJ.snoc rfl rfl,by simp⟩)
    · refine aE ?_
      exact dO ((_,_),(_,_),_) (hg:=⟨hrl,by show 1≤i;omega,hi,Ws,tJ⟩)
  obtain⟨⟨rs,rrs⟩,⟨L,cL⟩,nr⟩:=x;dsimp only at hx⊢;obtain⟨hrl,Fz,hr3,Ws,tJ⟩:=hx;refine aE ?_;refine mH 80 6 ?_;refine aHz (p:=Bv [] []) (fun w=>trivial) ?_;refine sH (α:=(List cH×List (List Value))×(Option Addr×Nat)×Nat) (fun _=>[(6,pt g4),(4,.slice (some ⟨g2,0,none⟩) 120 120),(2,pt g1)]) (fun x=>[Bv x.1.1 x.1.2,HP.own 80 6 (.slice x.2.1.1 x.2.2 x.2.1.2) x.2.2 x.1.2.flatten,HP.own 77 1 (.slice L nr cL) nr rrs.flatten,HP.own 75 3 (.slice D nd cD) nd yA.flatten,qM cs rows,HP.own 73 6 (.slice B nc cB) nc rows.flatten,HP.aI g4 30 [.slice B nc cB,.slice D nd cD,.slice L nr cL,.slice x.2.1.1 x.2.2 x.2.1.2],HP.aI g2 3 (aR ds),HP.aI g1 30 [sn,sn,sn,sn]]) (fun x=>x.1.1.length=x.2.2∧1≤x.2.2∧x.2.2≤4∧Fits (cH.fit nc nd nr) x.1.1) ?_ fun x hx=>?_
  · refine rI (α := (List cH × List (List Value)) × (Option Addr × Nat) × List Value) (fun i _ => [(14, iv i), (6, pt g4), (4, .slice (some ⟨g2, 0, none⟩) 120 120), (2, pt g1)]) (fun i x => [Bv x.1.1 x.1.2, HP.own 80 6 (.slice x.2.1.1 i x.2.1.2) i x.2.2, HP.own 77 1 (.slice L nr cL) nr rrs.flatten, HP.own 75 3 (.slice D nd cD) nd yA.flatten, qM cs rows, HP.own 73 6 (.slice B nc cB) nc rows.flatten, HP.aI g4 30 [.slice B nc cB, .slice D nd cD, .slice L nr cL, .slice x.2.1.1 i x.2.1.2], HP.aI g2 3 (aR ds), HP.aI g1 30 [sn, sn, sn, sn]]) (fun i x => x.1.1.length = i ∧ Fits (cH.fit nc nd nr) x.1.1 ∧ x.2.2 = x.1.2.flatten) 4 (([], []), (none, 0), []) ⟨rfl, Fits.nil _, rfl⟩ fun i x hi hx => ?_
    obtain⟨⟨vs,r4⟩,⟨V,cV⟩,xs⟩:=x;dsimp only at hx⊢;obtain⟨hvl,Wj,rfl⟩:=hx;refine aE ?_;refine aK rfl (fun h=>?_) (fun h=>?_)
    · have q0 := Dv (dv ds (60 + 12 * (i : Int)).toNat % 1000000) (n := (nc : Int)) (by omega)
      have q1:=Dv (dv ds (60+12*(i:Int)+1).toNat % 1000000) (n:=(nd:Int)) (by omega)
      have q2:=Dv (dv ds (60+12*(i:Int)+2).toNat % 1000000) (n:=(nr:Int)) (by omega)
      refine aE ?_;refine uT ?_;refine aQ 34 ?_;refine cQ fun g5=>?_;refine bH ?_;refine uU [35] ?_;refine aE ?_;refine mH 82 2 ?_;refine sH (α:=List Rg×(Option Addr×Nat)×Nat) (fun _=>[(16,pt g5),(15,iv (60+12*(i:Int))),(14,iv i),(6,pt g4),(4,.slice (some ⟨g2,0,none⟩) 120 120),(2,pt g1)]) (fun x=>[HP.own 82 2 (.slice x.2.1.1 x.2.2 x.2.1.2) x.2.2 (x.1.flatMap Rg.cells),HP.aI g5 80 [iv (dv ds (60+12*(i:Int)).toNat % 1000000 % (nc:Int)),iv (dv ds (60+12*(i:Int)+1).toNat % 1000000 % (nd:Int)),iv (dv ds (60+12*(i:Int)+2).toNat % 1000000 % (nr:Int)),.int .u32 (dv ds (60+12*(i:Int)+3).toNat % 1000000 % 3),.slice x.2.1.1 x.2.2 x.2.1.2,sn],Bv vs r4,HP.own 80 6 (.slice V i cV) i r4.flatten,HP.own 77 1 (.slice L nr cL) nr rrs.flatten,HP.own 75 3 (.slice D nd cD) nd yA.flatten,qM cs rows,HP.own 73 6 (.slice B nc cB) nc rows.flatten,HP.aI g4 30 [.slice B nc cB,.slice D nd cD,.slice L nr cL,.slice V i cV],HP.aI g2 3 (aR ds),HP.aI g1 30 [sn,sn,sn,sn]]) (fun x=>x.1.length=x.2.2∧x.2.2≤4∧∀r∈x.1,0≤r.reset∧r.reset≤6) ?_ fun x hx=>?_
      · refine rI (α:=List Rg×(Option Addr×Nat)×List Value) (fun j _=>[(17,iv j),(16,pt g5),(15,iv (60+12*(i:Int))),(14,iv i),(6,pt g4),(4,.slice (some ⟨g2,0,none⟩) 120 120),(2,pt g1)]) (fun j x=>[HP.own 82 2 (.slice x.2.1.1 j x.2.1.2) j x.2.2,HP.aI g5 80 [iv (dv ds (60+12*(i:Int)).toNat % 1000000 % (nc:Int)),iv (dv ds (60+12*(i:Int)+1).toNat % 1000000 % (nd:Int)),iv (dv ds (60+12*(i:Int)+2).toNat % 1000000 % (nr:Int)),.int .u32 (dv ds (60+12*(i:Int)+3).toNat % 1000000 % 3),.slice x.2.1.1 j x.2.1.2,sn],Bv vs r4,HP.own 80 6 (.slice V i cV) i r4.flatten,HP.own 77 1 (.slice L nr cL) nr rrs.flatten,HP.own 75 3 (.slice D nd cD) nd yA.flatten,qM cs rows,HP.own 73 6 (.slice B nc cB) nc rows.flatten,HP.aI g4 30 [.slice B nc cB,.slice D nd cD,.slice L nr cL,.slice V i cV],HP.aI g2 3 (aR ds),HP.aI g1 30 [sn,sn,sn,sn]]) (fun j x=>x.1.length=j∧(∀r∈x.1,0≤r.reset∧r.reset≤6)∧x.2.2=x.1.flatMap Rg.cells) 4 ([],(none,0),[]) ⟨rfl,by simp,rfl⟩ fun j x hj hx=>?_
        obtain⟨rg,⟨W,cW⟩,xs⟩:=x;dsimp only at hx⊢;obtain⟨Lv,Wu,rfl⟩:=hx;refine aE ?_;refine aK rfl (fun h5=>?_) (fun h5=>?_)
        · refine aE ?_
          refine uT ?_;refine aQ 22 ?_;refine eT fun g7=>?_;refine bH ?_;refine uU [23,24,25] ?_;refine aE ?_;refine Fy 1 fun A' k'=>?_;dsimp only[List.set];refine aE ?_
          exact lM (rg++[⟨dv ds (60+12*(i:Int)+5+(j:Int)).toNat % 1000000 % 7,decide (dv ds (60+12*(i:Int)+5+(j:Int)).toNat % 1000000 / 7 % 2=0)⟩],(_,_),_) (hg:=⟨by simp[Lv],(fun r hr=>by
            rcases List.mem_append.1 hr with hr | hr
            · exact Wu r hr
            · rcases List.mem_singleton.1 hr with rfl
              dsimp only
              omega),by simp[Rg.cells]⟩)
        · refine aE ?_
          exact dO (_,(_,_),_) (hg:=⟨Lv,hj,Wu⟩)
      obtain⟨rg,⟨W,cW⟩,ng⟩:=x;dsimp only at hx⊢;obtain⟨rfl,hg4,Wu⟩:=hx;refine mH 3 1 ?_;refine El (α:=(List Int×List Value)×(Option Addr×Nat)×Nat) (fun _=>[(16,pt g5),(15,iv (60+12*(i:Int))),(14,iv i),(6,pt g4),(4,.slice (some ⟨g2,0,none⟩) 120 120),(2,pt g1)]) (fun x=>[HP.own 3 1 (.slice x.2.1.1 x.2.2 x.2.1.2) x.2.2 x.1.2,HP.own 82 2 (.slice W rg.length cW) rg.length (rg.flatMap Rg.cells),HP.aI g5 80 [iv (dv ds (60+12*(i:Int)).toNat % 1000000 % (nc:Int)),iv (dv ds (60+12*(i:Int)+1).toNat % 1000000 % (nd:Int)),iv (dv ds (60+12*(i:Int)+2).toNat % 1000000 % (nr:Int)),.int .u32 (dv ds (60+12*(i:Int)+3).toNat % 1000000 % 3),.slice W rg.length cW,.slice x.2.1.1 x.2.2 x.2.1.2],Bv vs r4,HP.own 80 6 (.slice V i cV) i r4.flatten,HP.own 77 1 (.slice L nr cL) nr rrs.flatten,HP.own 75 3 (.slice D nd cD) nd yA.flatten,qM cs rows,HP.own 73 6 (.slice B nc cB) nc rows.flatten,HP.aI g4 30 [.slice B nc cB,.slice D nd cD,.slice L nr cL,.slice V i cV],HP.aI g2 3 (aR ds),HP.aI g1 30 [sn,sn,sn,sn]]) (fun x=>x.1.1.length=x.2.2∧x.2.2≤1∧x.1.2=aR x.1.1∧∀f∈x.1.1,0≤f∧f < i) ?_ fun x hx=>?_
      · refine aE ?_
        refine cN (t:=300) rfl (fun hg=>?_) (fun hg=>?_)
        · have f2:=Dv (dv ds (60+12*(i:Int)+10).toNat % 1000000) (n:=(i:Int)) hg
          refine aE ?_;refine aK rfl (fun h3=>?_) (fun h3=>?_)
          · refine uT ?_
            refine aQ 9 ?_;refine eT fun g7=>?_;refine bH ?_;refine uU [10,11,12] ?_;refine aE ?_;refine Fy 1 fun A' k'=>?_;dsimp only[List.set];refine aE ?_;exact dO (([_],_),(_,_),_) (hg:=⟨rfl,Nat.le_refl _,rfl,fun f hf=>by rcases List.mem_singleton.1 hf with rfl;exact f2⟩)
          · refine aE ?_
            exact dO (([],_),(_,_),_) (hg:=⟨rfl,Nat.zero_le _,rfl,by simp⟩)
        · refine aE ?_
          exact dO (([],_),(_,_),_) (hg:=⟨rfl,Nat.zero_le _,rfl,by simp⟩)
      obtain⟨⟨ns,xs⟩,⟨U,cU⟩,nn⟩:=x;dsimp only at hx⊢;obtain⟨zL,Ga,rfl,hnf⟩:=hx;refine El (α:=(List Int×List Value)×(Option Addr×Nat)×Nat) (fun _=>[(16,pt g5),(15,iv (60+12*(i:Int))),(14,iv i),(6,pt g4),(4,.slice (some ⟨g2,0,none⟩) 120 120),(2,pt g1)]) (fun x=>[HP.own 3 1 (.slice x.2.1.1 x.2.2 x.2.1.2) x.2.2 x.1.2,HP.own 82 2 (.slice W rg.length cW) rg.length (rg.flatMap Rg.cells),HP.aI g5 80 [iv (dv ds (60+12*(i:Int)).toNat % 1000000 % (nc:Int)),iv (dv ds (60+12*(i:Int)+1).toNat % 1000000 % (nd:Int)),iv (dv ds (60+12*(i:Int)+2).toNat % 1000000 % (nr:Int)),.int .u32 (dv ds (60+12*(i:Int)+3).toNat % 1000000 % 3),.slice W rg.length cW,.slice x.2.1.1 x.2.2 x.2.1.2],Bv vs r4,HP.own 80 6 (.slice V i cV) i r4.flatten,HP.own 77 1 (.slice L nr cL) nr rrs.flatten,HP.own 75 3 (.slice D nd cD) nd yA.flatten,qM cs rows,HP.own 73 6 (.slice B nc cB) nc rows.flatten,HP.aI g4 30 [.slice B nc cB,.slice D nd cD,.slice L nr cL,.slice V i cV],HP.aI g2 3 (aR ds),HP.aI g1 30 [sn,sn,sn,sn]]) (fun x=>x.1.1.length=x.2.2∧x.2.2≤2∧x.1.2=aR x.1.1∧∀f∈x.1.1,0≤f∧f < i) ?_ fun x hx=>?_
      · refine aE ?_
        refine cN (t:=323) rfl (fun hg=>?_) (fun hg=>?_)
        · have f2:=Dv (dv ds (60+12*(i:Int)+11).toNat % 1000000 / 3) (n:=(i:Int)) (by omega)
          refine aE ?_;refine aK rfl (fun h3=>?_) (fun h3=>?_)
          · refine uT ?_
            refine aQ 10 ?_;refine eT fun g7=>?_;refine bH ?_;refine uU [11,12,13] ?_;refine aE ?_;refine Fy 1 fun A' k'=>?_;dsimp only[List.set];refine aE ?_
            exact dO ((ns++[dv ds (60+12*(i:Int)+11).toNat % 1000000 / 3 % (i:Int)],_),(_,_),_) (hg:=⟨by simp[zL],by show nn+1≤2;omega,by simp[aR],fun f hf=>by
              rcases List.mem_append.1 hf with hf | hf
              · exact hnf f hf
              · rcases List.mem_singleton.1 hf with rfl
                exact f2⟩)
          · refine aE ?_
            exact dO ((_,_),(_,_),_) (hg:=⟨zL,Nat.le_succ_of_le Ga,rfl,hnf⟩)
        · refine aE ?_
          exact dO ((_,_),(_,_),_) (hg:=⟨zL,Nat.le_succ_of_le Ga,rfl,hnf⟩)
      obtain⟨⟨ns,xs⟩,⟨U,cU⟩,nn⟩:=x;dsimp only at hx⊢;obtain⟨rfl,hn2,rfl,hnf⟩:=hx;refine aE ?_;refine eT fun g7=>?_;refine aE ?_;refine Fy 5 fun A' k'=>?_;dsimp only[List.set];refine aE ?_;refine aY [2,1,4,5,6,7,8,9,10,11,12] rfl (by decide) (fun _ h=>h) ?_;refine aSe (d:=⟨dv ds (60+12*(i:Int)).toNat % 1000000 % (nc:Int),dv ds (60+12*(i:Int)+1).toNat % 1000000 % (nd:Int),dv ds (60+12*(i:Int)+2).toNat % 1000000 % (nr:Int),dv ds (60+12*(i:Int)+3).toNat % 1000000 % 3,rg,ns⟩) ?_;exact lM ((_,_),(_,_),_) (hg:=⟨by simp[hvl],Wj.snoc ⟨q0.1,q0.2,q1.1,q1.2,q2.1,q2.2,by dsimp only;omega,by dsimp only;omega,hg4,Wu,hn2,by rw[hvl];exact hnf⟩,by simp⟩)
    · refine aE ?_
      exact dO ((_,_),(_,_),_) (hg:=⟨hvl,by show 1≤i;omega,hi,Wj⟩)
  obtain⟨⟨vs,r4⟩,⟨V,cV⟩,nv⟩:=x;dsimp only at hx⊢;obtain⟨rfl,hv1,hv4,Wj⟩:=hx;subst vL;subst pM;subst hrl;refine aE ?_;refine mF 8 rfl ?_;dsimp only[List.set];refine aE ?_;refine aY [8,5,4,3,2,1,0] rfl (by decide) (fun _ h=>h) ?_;refine dK [] [] [0,1,2,3,4,5,6] (by simp) rfl (by decide) (by decide) fun q _ _ hfr=>?_;exact Ji rfl (by kernel_rfl) rfl rfl (aV.whole 0 rfl) fun w1 t=>⟨⟨_,_,⟨w1,q.Z⟩,rfl,rfl,⟨_,_,rfl,⟨⟨cs,dm,rs,vs⟩,(B,cB),(D,cD),(L,cL),(V,cV),rows,yA,rrs,r4,rfl,⟨Wz,hdf,Ws,Wj,⟨Nat.zero_le _,hc9⟩,⟨Nat.zero_le _,hd4⟩,⟨Nat.zero_le _,hr3⟩,⟨Nat.zero_le _,hv4⟩⟩,Qs,tJ,rfl⟩⟩,t.newR (by simp) (by simp) (hfr (by simp) (by simp))⟩,t.below (by simp)⟩
theorem aQ1(A:Option Addr)(n c:Nat)(zs:List Int)(w:World)(h:aM (all w) 1 A n (aR zs))(e:Zk zs)(d:n=zs.length)(a:n≤9223372036854775807):
  Cz 6 #[.slice A n c] w fun x w'=>(∃v,x=.returned v∧∃cs s,v=.agg cs∧uV (fT (fresh w w')) s cs∧s.made)∧Below w.heap.size w w':=
 (aQ0 A n c zs w h e d a).mono fun x w' ⟨⟨v,o,q,l,m,⟨p,i,f,j⟩,b⟩,k⟩=>⟨⟨v,l,j.weak m (by subst f;exact b.tail)⟩,k⟩
end
def gW(A B:bL)(i:Nat):Bool:=hasB A.d i||hasB B.d i
structure dU(s:aG)(A B:bL)(bd bc bl:Option Nat)(x:aP):Prop where
 ok:cR s x
 mR:A.of s
 pK:B.of s
 dom:∀i m,x.dm[i]? =some m→bd≠some i→(gW A B i=true→m.phase=49)∧(gW A B i=false→m.phase=48∨m.phase=116)
 nR:∀i d,s.domains[i]? =some d→gW A B i=true→0≤d.above→gW A B d.above.toNat=true
 iA:∀i c y,s.aJ[i]? =some c→x.ck[i]? =some y→hasB A.c i=true→bc≠some i→y.on=true∧(c.kind=112→y.left=0)
 lV:∀i,hasB A.c i=true→∀j∈eW s i,pJ s j→hasB A.c j=true
 rW:∀c,bc=some c→∀i,hasB A.c i=true→i≠c→c∉eW s i
 kM:∀i y,x.ln[i]? =some y→hasB A.l i=true→bl≠some i→y.held=false
 mQ:∀(i:Nat) (p:dB×dN) (d:cH),x.dv[i]? =some p→s.aH[i]? =some d→(p.2.at_=0∨p.2.at_=2∨bd=some d.domain.toNat)∧(gW A B d.domain.toNat=true→bd≠some d.domain.toNat→p.2.at_=0)
theorem dU.up(h:dU s A B bd bc bl x){i j:Nat}(hi:hasB A.c i=true)(hj:j∈eW s i)(k:bc≠some j):Oy s x.ck j=true:=by
 have d:=aGG hj
 obtain⟨c,a⟩:=get_some d;obtain⟨y,f⟩:=get_some (l:=x.ck) (i:=j) (by have:=h.ok.ck.len;omega);unfold Oy;rw[a,f];dsimp only;unfold pQ
 by_cases b:c.kind=112
 ·rw[if_pos b];obtain⟨n,m⟩:=h.iA j c y a f (h.lV i hi j hj (.inl (by rw[Qk a];exact b))) k;rw[n,m b];rfl
 ·rw[if_neg b]
  by_cases e:c.kind=103
  ·rw[if_pos e];exact(h.iA j c y a f (h.lV i hi j hj (.inr (by rw[Qk a];exact e))) k).1
  ·rw[if_neg e]
theorem dU.src(hm:s.made)(h:dU s A B bd bc bl x){i f:Nat}{c:eN}{l:List Int}(k:s.aJ[i]? =some c)(hs:c.src=(f:Int)::l)(hi:hasB A.c i=true)(e:∀j,bc=some j→j∉eW s f):runs s x.ck f=true:=by
 have a:=Jf hm.aJ k
 rw[hs] at a;dsimp only at a;unfold runs;rw[List.all_eq_true];intro j d;refine h.up hi (j:=j) (by rw[a];exact List.mem_cons_of_mem _ (by simpa using d)) fun b=>e j b d
theorem dU.aMg(hm:s.made)(h:dU s A B bd bc bl x){i f:Nat}{c:eN}{k:List Int}(d:s.aJ[i]? =some c)(hs:c.src=(f:Int)::k)(hf:f < i)(hi:hasB A.c i=true):∀j,bc=some j→j∉eW s f:=fun j l a=>by
 have e:=Xx hm a
 have b:=Jf hm.aJ d
 rw[hs] at b;dsimp only at b;refine h.rW j l i hi aA ?_;rw[b];exact List.mem_cons_of_mem _ (by simpa using a)
theorem dU.Bf(hm:s.made)(h:dU s A B bd bc bl x)(l:Int):dU s A B bd bc bl (jA s x l):=by
 refine⟨aDH hm.dF h.ok l,h.mR,h.pK,fun i m b j=>?_,h.nR,fun i c y o k b j=>?_,h.lV,h.rW,fun i y k b j=>?_,fun i p d I hd=>?_⟩
 ·simp only[jA,pI,List.getElem?_map] at b;cases n:x.dm[i]? with
  | none=>rw[n] at b;cases b
  | some m0 =>
   rw[n] at b;simp only[Option.map_some,Option.some.injEq] at b;obtain⟨e,a⟩:=h.dom i m0 n j
   have C:m0.phase=49∨m0.phase=48∨m0.phase=116:=by
    cases E:gW A B i
    ·exact .inr (a E)
    ·exact .inl (e E)
   rw[aJu C] at b;subst b;exact⟨e,a⟩
 ·obtain⟨z,u,rfl⟩:=aJw o k;obtain⟨e,a⟩:=h.iA i c z o u b j;unfold uC
  by_cases r:c.kind=112
  ·obtain⟨f,L,w,F⟩:=aDN hm o (.inl (by rw[Qk o];exact r))
   have C:=h.src hm o w b (h.aMg hm o w F b)
   have t:Fh c=f:=by
    unfold Fh;rw[w];simp
   rw[if_pos ⟨r,e⟩,t,C,if_neg aD,if_neg (by have:=a r;omega)];exact⟨e,a⟩
  ·rw[if_neg (by simp[r])];exact⟨e,a⟩
 ·simp only[jA,yX,List.getElem?_map] at k;cases n:x.ln[i]? with
  | none=>rw[n] at k;cases k
  | some z=>
   rw[n] at k;simp only[Option.map_some,Option.some.injEq] at k
   have e:=h.kM i z n b j
   subst k;unfold lP;rw[if_pos e];exact e
 ·obtain⟨D,H,e,_⟩:=Ui I;obtain⟨a,G⟩:=h.mQ i D d H hd
  by_cases K:D.2.at_=1
  ·have j:bd=some d.domain.toNat:=by
    rcases a with a | a | a
    ·omega
    ·omega
    ·exact a
   exact⟨.inr (.inr j),fun _ J=>absurd j J⟩
  ·rw[e K];exact⟨a,G⟩
theorem aH8{i:Nat}(h:dU s A B bd bc bl x)(f:cR s (eP s x i).1):dU s A B bd bc bl (eP s x i).1:=by
 have e : ∀ (k : Nat) (p : dB × dN), (eP s x i).1.dv[k]? = some p → ∃ b, x.dv[k]? = some b ∧ p.2 = b.2 := fun k p a => by
  unfold eP at a;split at a
  ·rename_i t d q _ _ l
   split at a
   ·dsimp only at a;rw[List.getElem?_set] at a;split at a
    ·rename_i c
     subst c;split at a
     ·cases a;refine⟨q,l,?_⟩;unfold vY;split<;>rfl
     ·cases a
    ·exact⟨p,a,rfl⟩
   ·exact⟨p,a,rfl⟩
  ·exact⟨p,a,rfl⟩
 have j:(eP s x i).1.ck=x.ck∧(eP s x i).1.dm=x.dm∧(eP s x i).1.ln=x.ln:=by
  unfold eP;split
  ·split<;>exact⟨rfl,rfl,rfl⟩
  ·exact⟨rfl,rfl,rfl⟩
 refine⟨f,h.mR,h.pK,by rw[j.2.1];exact h.dom,h.nR,by rw[j.1];exact h.iA,h.lV,h.rW,by rw[j.2.2];exact h.kM,fun k p d a hd=>?_⟩;obtain⟨b,m,n⟩:=e k p a;rw[n];exact h.mQ k b d m hd
section
variable{D:Nat}
theorem aNM{l:List Bool}{i:Nat}(hi:i < l.length)(j:Nat):hasB (lZ l i false) j=if j=i then false else hasB l j:=by
 rw[lZ,if_pos ⟨aA,aA⟩,Int.toNat_natCast,Dp,Dp,List.getElem?_set]
 by_cases h:i=j
 ·subst h;rw[if_pos rfl,if_pos hi,if_pos rfl];rfl
 ·rw[if_neg h,if_neg (Ne.symm h)]
theorem aBv{x:aP}{D:Int}{n i:Nat}{p':dB×dN}{d:cH}(hd:s.aH[i]? =some d)(h:(jU s x D n)[i]? =some p'):∃p,x.dv[i]? =some p∧p'.2=if i < n∧d.domain=D then(if p.2.at_=3 then(mT p.2).2 else if p.2.at_=0 then(rF p.2).2 else p.2) else p.2:=by
 rw[jU,List.getElem?_mapIdx] at h;cases c:x.dv[i]? with
 | none=>rw[c] at h;cases h
 | some q =>
  rw[c] at h;simp only[Option.map_some,Option.some.injEq] at h;refine⟨q,rfl,?_⟩;subst h
  by_cases a:i < n
  ·rw[if_pos a];unfold Dk;rw[hd];dsimp only
   by_cases b:d.domain=D
   ·rw[if_pos b,if_pos (show i < n∧d.domain=D from⟨a,b⟩)]
   ·rw[if_neg b,if_neg fun h=>b h.2]
  ·rw[if_neg a,if_neg fun h=>a h.1]
theorem aEy{n:Nat}:qZ s x (D:Int) n=true↔∀(i:Nat) (p:dB×dN) (d:cH),i < n→x.dv[i]? =some p→s.aH[i]? =some d→d.domain=(D:Int)→p.2.at_=2:=by
 unfold qZ;rw[List.all_eq_true];constructor
 ·intro h i p d a c hd b
  have:=h i (List.mem_range.2 a)
  unfold Ib at this;rw[hd,c] at this
  simpa[b] using this
 ·intro h i a
  have a:=List.mem_range.1 a
  unfold Ib;split
  ·rename_i d p hd c
   by_cases b:d.domain=(D:Int)
   ·rw[h i p d a c hd b];simp
   ·simp[b]
  ·rfl
end
theorem dU.hw(h:dU s A B bd bc bl x){x':aP}(a:cR s x')(b:x'.ck=x.ck)(c:x'.dm=x.dm)(h3:x'.ln=x.ln)(d:x'.dv=x.dv):dU s A B bd bc bl x':=
 ⟨a,h.mR,h.pK,by rw[c];exact h.dom,h.nR,by rw[b];exact h.iA,h.lV,h.rW,by rw[h3];exact h.kM,by rw[d];exact h.mQ⟩
def Oe(s:aG)(d:Nat)(x:aP):Prop:=∀(i:Nat) (p:dB×dN) (v:cH),x.dv[i]? =some p→s.aH[i]? =some v→v.domain=(d:Int)→p.2.at_≠1
structure Ai(s:aG)(A B:bL)(d:Nat)(x:aP):Prop where
 two:dU s A B (some d) none none x
 qG:gW A B d=true
 Dg:∃y,x.dm[d]? =some y∧(y.phase=49∨y.phase=104∨y.phase=114∨y.phase=48∨y.phase=116)
 ask:Oe s d x
theorem Oe.tick{d:Nat}{a:Int}(h:Oe s d x):Oe s d (jA s x a):=fun i p v c e hd=>by
 obtain⟨k,f,j,_⟩:=Ui c
 have b:=h i k v f e hd
 rw[j b];exact b
theorem Sb{d:Nat}{y:fH}{a:Int}(h:x.dm[d]? =some y):(jA s x a).dm[d]? =some (fD y).2:=by
 simp only[jA,pI,List.getElem?_map,h,Option.map_some]
theorem Ai.tick(hm:s.made){d:Nat}(h:Ai s A B d x)(b:Int):Ai s A B d (jA s x b):=by
 obtain⟨y,c,a⟩:=h.Dg;refine⟨h.two.Bf hm b,h.qG,⟨_,Sb c,?_⟩,h.ask.tick⟩;unfold fD;rcases a with a | a | a | a | a
 ·rw[if_neg aA,if_neg aA,if_neg aA];exact .inl a
 ·rw[if_neg aA,if_pos a];exact .inl rfl
 ·rw[if_pos a];split
  ·exact .inr (.inr (.inl rfl))
  ·exact .inr (.inl rfl)
 ·rw[if_neg aA,if_neg aA,if_neg aA];exact .inr (.inr (.inr (.inl a)))
 ·rw[if_neg aA,if_neg aA,if_neg aA];exact .inr (.inr (.inr (.inr a)))
theorem Ai.step(hm:s.made){d:Nat}(h:Ai s A B d x):((lE s x d).2=true→dU s A B none none none (lE s x d).1)∧((lE s x d).2=false→Ai s A B d (lE s x d).1):=by
 obtain⟨y,D,X⟩:=h.Dg
 have a:=h.two
 have H:=(List.getElem?_eq_some_iff.1 D).1
 have f:=Qa D
 obtain⟨c,L⟩:=get_some (l:=s.domains) (i:=d) (by have:=a.ok.dm.len;omega)
 by_cases o:y.phase=49
 ·have b:lE s x d=({x with dv:=tI s x d s.aH.length},true):=by
   rw[lE,f,if_neg aA,if_pos o]
  rw[b];refine⟨fun _=>?_,fun h=>by cases h⟩;refine⟨aBo hm.dF a.ok _ _,a.mR,a.pK,fun i K j _=>?_,a.nR,a.iA,a.lV,(fun _ h=>by cases h),a.kM,fun i p' p J e=>?_⟩
  ·by_cases k:i=d
   ·subst k;cases D.symm.trans j;exact⟨fun _=>o,fun R=>by rw[h.qG] at R;cases R⟩
   ·exact a.dom i K j (by simp[Ne.symm k])
  ·have t:=(List.getElem?_eq_some_iff.1 e).1
   obtain⟨w,u,I⟩:=aNa e J;obtain⟨m,U⟩:=a.mQ i w p u e
   have Y:=(hm.aH i p e).2.2.1
   rw[I]
   by_cases E:p.domain=(d:Int)
   ·rw[if_pos ⟨t,E⟩]
    have O:=(a.ok.each i p w e u).2
    have G:=h.ask i w p u e E
    have F:(mT w.2).2.at_=0:=by
     unfold mT
     by_cases V:w.2.at_=0
     ·rw[if_pos aA];exact V
     ·rw[if_neg (by have:=O.1;have:=O.2;omega)]
    exact⟨.inl F,fun _ _=>F⟩
   ·rw[if_neg fun h=>E h.2]
    have C:some d≠some p.domain.toNat:=fun G=>E (by have G:=Option.some.inj G;omega)
    refine⟨?_,fun F _=>U F C⟩;rcases m with m | m | m
    ·exact .inl m
    ·exact .inr (.inl m)
    ·exact absurd m C
 ·by_cases n:y.phase=48∨y.phase=116
  ·have z:(qS s x.dm d).2=x.dm.set d ⟨114,c.delay,decide (y.phase=116),y.keep⟩:=by
    unfold qS;rw[show bO x.dm.length (d:Int)=true from decide_eq_true aA];simp only[Bool.true_eq_false,if_false,Int.toNat_natCast,L,D]
    have I:Dy y=true:=decide_eq_true n
    have m:Eh x.dm c.above=true:=by
     unfold Eh
     have T:=(hm.domains d c L).1
     by_cases u:0≤c.above
     ·have M:c.above.toNat < x.dm.length:=aA
      obtain⟨Z,r⟩:=get_some M
      have:=(a.dom _ Z r (by simp;omega)).1 (a.nR d c L h.qG u)
      rw[r];simp[this]
     ·rw[show c.above= -1 by omega];rfl
    rw[I,m];simp
   have b:lE s x d=({x with dm:=x.dm.set d ⟨114,c.delay,decide (y.phase=116),y.keep⟩},false):=by
    rw[lE,f,if_pos n,z]
   rw[b];refine⟨(fun h=>by cases h),fun _=>?_⟩;refine⟨⟨?_,a.mR,a.pK,fun i K j N=>?_,a.nR,a.iA,a.lV,a.rW,a.kM,a.mQ⟩,h.qG,⟨_,List.getElem?_set_self H,.inr (.inr (.inl rfl))⟩,h.ask⟩
   ·have:=aD8 hm.dF a.ok.dm d
    rw[z] at this;exact⟨a.ok.ck,this,a.ok.ln,a.ok.dv,a.ok.each,a.ok.wt⟩
   ·have k:d≠i:=fun h=>N (by rw[h])
    rw[List.getElem?_set_ne k] at j;exact a.dom i K j N
  ·have b:lE s x d=(x,false):=by
    rw[lE,f,if_neg n,if_neg o]
   rw[b];exact⟨(fun h=>by cases h),fun _=>h⟩
def Ol(s:aG)(d:Nat)(x:aP):Prop:=∀(i:Nat) (p:dB×dN) (v:cH),x.dv[i]? =some p→s.aH[i]? =some v→v.domain=(d:Int)→p.2.at_=2
structure Ci(s:aG)(A B:bL)(d:Nat)(keep:Bool)(x:aP):Prop where
 two:dU s A B (some d) none none x
 qG:gW A B d=false
 low:∀(j:Nat) (c:Dom),s.domains[j]? =some c→c.above=(d:Int)→gW A B j=false
 ret:keep=true→∀c,s.domains[d]? =some c→c.ret=true
 Dg:∃y,x.dm[d]? =some y∧(y.phase=49∨((y.phase=99∨y.phase=48∨y.phase=116)∧Ol s d x))
theorem Ol.tick{d:Nat}{a:Int}(h:Ol s d x):Ol s d (jA s x a):=fun i p v b c hd=>by
 obtain⟨k,f,j,_⟩:=Ui b
 have e:=h i k v f c hd
 rw[j aA];exact e
theorem Ci.tick(hm:s.made){d:Nat}{keep:Bool}(h:Ci s A B d keep x)(b:Int):Ci s A B d keep (jA s x b):=by
 obtain⟨y,c,a⟩:=h.Dg;refine⟨h.two.Bf hm b,h.qG,h.low,h.ret,⟨_,Sb c,?_⟩⟩;unfold fD;rcases a with a | ⟨a | a | a,hs⟩
 ·rw[if_neg aA,if_neg aA,if_neg aA];exact .inl a
 ·rw[if_neg aA,if_neg aA,if_pos a];split
  ·exact .inr ⟨.inr (.inr rfl),hs.tick⟩
  ·exact .inr ⟨.inr (.inl rfl),hs.tick⟩
 ·rw[if_neg aA,if_neg aA,if_neg aA];exact .inr ⟨.inr (.inl a),hs.tick⟩
 ·rw[if_neg aA,if_neg aA,if_neg aA];exact .inr ⟨.inr (.inr a),hs.tick⟩
theorem dU.aEI(hm:s.made){d:Nat}(hi:dU s A B (some d) none none x)(i:∀(j:Nat) (e:Dom),s.domains[j]? =some e→e.above=(d:Int)→gW A B j=false):Bm s x.dm (d:Int)=false:=by
 unfold Bm;rw[Bool.eq_false_iff];intro h;rw[List.any_eq_true] at h;obtain⟨b,m,f⟩:=h;obtain⟨j,a⟩:=List.getElem?_of_mem m;rw[List.getElem?_zipWith] at a;cases c:s.domains[j]? with
 | none=>rw[c] at a;simp at a
 | some e =>
  cases k:x.dm[j]? with
  | none=>rw[c,k] at a;simp at a
  | some yj=>
   rw[c,k] at a;simp only[Option.some.injEq] at a;subst a;unfold Dq at f;simp only[id_eq,Bool.and_eq_true,decide_eq_true_eq,Bool.not_eq_true'] at f
   have n:=(hm.domains j e c).1
   have o:=(hi.dom j yj k (by simp;omega)).2 (i j e c f.1)
   have l:=f.2
   unfold Dy at l;simp at l;omega
theorem dU.aFs(hm:s.made){d:Nat}(hi:dU s A B (some d) none none x):dU s A B (some d) none none {x with dv:=jU s x d s.aH.length}:=by
 refine⟨Wk hm.dF hi.ok _ _,hi.mR,hi.pK,hi.dom,hi.nR,hi.iA,hi.lV,hi.rW,hi.kM,fun i p e c a=>?_⟩
 have f:=(List.getElem?_eq_some_iff.1 a).1
 obtain⟨o,m,n⟩:=aBv a c;obtain⟨l,k⟩:=hi.mQ i o e m a
 by_cases j:e.domain=(d:Int)
 ·have b:e.domain.toNat=d:=aA
  exact⟨.inr (.inr (by rw[b])),fun _ h=>absurd (by rw[b]) h⟩
 ·rw[n,if_neg fun h=>j h.2];exact⟨l,k⟩
theorem Ci.step(hm:s.made){d:Nat}{keep:Bool}(h:Ci s A B d keep x):((lF s x d keep).2=true→dU s A B none none none (lF s x d keep).1)∧((lF s x d keep).2=false→Ci s A B d keep (lF s x d keep).1):=by
 obtain⟨y,u,L⟩:=h.Dg
 have a:=h.two
 have K:=(List.getElem?_eq_some_iff.1 u).1
 have e:=Qa u
 obtain⟨c,U⟩:=get_some (l:=s.domains) (i:=d) (by have:=a.ok.dm.len;omega);rcases L with r | ⟨Qu,hs⟩
 ·cases I:qZ s x (d:Int) s.aH.length
  ·have t:lF s x (d:Int) keep=({x with dv:=jU s x (d:Int) s.aH.length},false):=by
    unfold lF;rw[e,if_pos r,I];simp
   rw[t];exact⟨(fun h=>by cases h),fun _=>⟨a.aFs hm,h.qG,h.low,h.ret,⟨y,u,.inl r⟩⟩⟩
  ·have m:(sB s x.dm (d:Int) keep).2=x.dm.set d ⟨99,y.left,y.kept,keep⟩:=by
    unfold sB;rw[show bO x.dm.length (d:Int)=true from decide_eq_true aA];simp only[Bool.true_eq_false,if_false,Int.toNat_natCast,U,u];rw[if_neg aA,if_neg (fun M=>by have:=h.ret M.1 c U;rw[this] at M;simp at M),a.aEI hm h.low];simp
   have t:lF s x (d:Int) keep=({x with dv:=jU s x (d:Int) s.aH.length,dm:=x.dm.set d ⟨99,y.left,y.kept,keep⟩},false):=by
    unfold lF;rw[e,if_pos r,I,m];simp
   rw[t];refine⟨(fun h=>by cases h),fun _=>?_⟩
   have b:=a.aFs hm
   refine⟨⟨⟨b.ok.ck,⟨by simp[b.ok.dm.len],fun z o=>?_,fun z o=>?_⟩,b.ok.ln,b.ok.dv,b.ok.each,b.ok.wt⟩,b.mR,b.pK,fun i N f O=>?_,b.nR,b.iA,b.lV,b.rW,b.kM,b.mQ⟩,h.qG,h.low,h.ret,⟨_,List.getElem?_set_self K,.inr ⟨.inl rfl,fun i p v F n w=>?_⟩⟩⟩
   ·rcases List.mem_or_eq_of_mem_set o with o | rfl
    ·exact a.ok.dm.left z o
    ·exact a.ok.dm.left y (List.mem_of_getElem? u)
   ·rcases List.mem_or_eq_of_mem_set o with o | rfl
    ·exact a.ok.dm.phase z o
    ·exact⟨by show(0:Int)≤99;omega,by show(99:Int) < 256;omega⟩
   ·have j:d≠i:=fun h=>O (by rw[h])
    rw[List.getElem?_set_ne j] at f;exact a.dom i N f O
   ·have C:=(List.getElem?_eq_some_iff.1 n).1
    obtain⟨Y,X,k⟩:=aBv n F
    have H:=aEy.1 I i Y v C X n w
    rw[k,if_pos ⟨C,w⟩,if_neg aA,if_neg aA];exact H
 ·by_cases V:y.phase=99
  ·have t:lF s x (d:Int) keep=(x,false):=by
    unfold lF;rw[e,if_neg aA,if_neg aA]
   rw[t];exact⟨(fun h=>by cases h),fun _=>h⟩
  ·have D:y.phase=48∨y.phase=116:=aA
   have t:lF s x (d:Int) keep=(x,true):=by
    unfold lF;rw[e,if_neg aA,if_pos D]
   rw[t];refine⟨fun _=>?_,fun h=>by cases h⟩;refine⟨a.ok,a.mR,a.pK,fun i N f _=>?_,a.nR,a.iA,a.lV,(fun _ h=>by cases h),a.kM,fun i p v F n=>?_⟩
   ·by_cases j:i=d
    ·subst j;cases u.symm.trans f;exact⟨(fun T=>by rw[h.qG] at T;cases T),fun _=>D⟩
    ·exact a.dom i N f (by simp[Ne.symm j])
   ·obtain⟨k,H⟩:=a.mQ i p v F n
    have Z:=(hm.aH i v n).2.2.1
    by_cases w:v.domain=(d:Int)
    ·have J:v.domain.toNat=d:=aA
     exact⟨.inr (.inl (hs i p v F n w)),fun G _=>by rw[J,h.qG] at G;cases G⟩
    ·have E:some d≠some v.domain.toNat:=fun R=>w (by have R:=Option.some.inj R;omega)
     refine⟨?_,fun G _=>H G E⟩;rcases k with k | k | k
     ·exact .inl k
     ·exact .inr (.inl k)
     ·exact absurd k E
theorem aEE{st:List eE}{c i:Nat}{b:Bool}{y':eE}(h:(gL s st (c:Int) b).2[i]? =some y'):∃y,st[i]? =some y∧(y'=y∨(i=c∧∃a,s.aJ[c]? =some a∧y'=Fs a y b)):=by
 unfold gL at h;split at h
 ·exact⟨y',h,.inl rfl⟩
 ·rw [Int.toNat_natCast] at h;split at h
  ·rename_i a y d f
   split at h
   ·exact⟨y',h,.inl rfl⟩
   ·dsimp only at h;rw[List.getElem?_set] at h;split at h
    ·rename_i e
     subst e;split at h
     ·cases h;exact⟨y,f,.inr ⟨rfl,a,d,rfl⟩⟩
     ·cases h
    ·exact⟨y',h,.inl rfl⟩
  ·exact⟨y',h,.inl rfl⟩
theorem dU.gate(hm:s.made)(h:dU s A B bd bc bl x)(c:Nat):dU s A B bd bc bl {x with ck:=(gL s x.ck (c:Int) true).2}:=by
 refine⟨⟨Qc hm.dF h.ok.ck (c:Int) true,h.ok.dm,h.ok.ln,h.ok.dv,h.ok.each,h.ok.wt⟩,h.mR,h.pK,h.dom,h.nR,fun i f o a b k e=>?_,h.lV,h.rW,h.kM,h.mQ⟩;obtain⟨y,j,rfl | ⟨rfl,d,m,rfl⟩⟩:=aEE b
 ·exact h.iA i f _ a j k e
 ·obtain⟨p,n⟩:=h.iA _ f y a j k e;refine⟨rfl,fun l=>?_⟩
  show(if d.kind=112∧true=false then d.lock else y.left)=0
  rw[if_neg aD];exact n l
theorem dU.aOg(hm:s.made)(h:dU s A B bd bc bl x){c:Nat}(j:hasB A.c c=false):dU s A B bd bc bl {x with ck:=(gL s x.ck (c:Int) false).2}:=by
 refine⟨⟨Qc hm.dF h.ok.ck (c:Int) false,h.ok.dm,h.ok.ln,h.ok.dv,h.ok.each,h.ok.wt⟩,h.mR,h.pK,h.dom,h.nR,fun i f l b a d e=>?_,h.lV,h.rW,h.kM,h.mQ⟩;obtain⟨y,k,rfl | ⟨rfl,_⟩⟩:=aEE a
 ·exact h.iA i f _ b k d e
 ·rw[j] at d;cases d
structure Hh(s:aG)(A B:bL)(c:Nat)(x:aP):Prop where
 two:dU s A B none (some c) none x
 sw:pJ s c
 qG:hasB A.c c=true
theorem Hh.tick(hm:s.made){c:Nat}(h:Hh s A B c x)(a:Int):Hh s A B c (jA s x a):=⟨h.two.Bf hm a,h.sw,h.qG⟩
theorem Hh.step(hm:s.made){c:Nat}(h:Hh s A B c x):((pE s x c).2=true→dU s A B none none none (pE s x c).1)∧((pE s x c).2=false→Hh s A B c (pE s x c).1):=by
 have e:=h.two
 have K:c < s.aJ.length:=by
  have:=Bl h.qG
  rw[e.mR.c] at this;exact this
 obtain⟨m,o⟩:=get_some K;obtain⟨y,L⟩:=get_some (l:=x.ck) (i:=c) (by have:=e.ok.ck.len;omega)
 have I:=(List.getElem?_eq_some_iff.1 L).1
 have H:m.kind=112∨m.kind=103:=by rw[←Qk o];exact h.sw
 obtain⟨f,V,J,U⟩:=aDN hm o h.sw
 have k:=Jf hm.aJ o
 rw[J] at k;dsimp only at k;rw[Int.toNat_natCast] at k
 have p:c∉eW s f:=fun h=>by have:=Xx hm h;omega
 have n:(gL s x.ck c true).2=x.ck.set c ⟨true,y.left⟩:=by
  unfold gL;rw[show bO s.aJ.length (c:Int)=true from decide_eq_true aA];simp only[Bool.true_eq_false,if_false,Int.toNat_natCast,o,L];rw[if_neg aA];simp[Fs]
 have a:dU s A B none (some c) none {x with ck:=x.ck.set c ⟨true,y.left⟩}:=by
  have:=e.gate hm c
  rw[n] at this;exact this
 have D:(x.ck.set c ⟨true,y.left⟩)[c]? =some ⟨true,y.left⟩:=List.getElem?_set_self I
 have z:runs s (x.ck.set c ⟨true,y.left⟩) f=true:=a.src hm o J h.qG (fun j T=>by cases T;exact p)
 have F:oG s (x.ck.set c ⟨true,y.left⟩) c=pQ m ⟨true,y.left⟩:=by
  unfold oG;rw[show bO s.aJ.length (c:Int)=true from decide_eq_true aA,Int.toNat_natCast,aA4 hm.aJ o D,J];dsimp only;rw[Int.toNat_natCast,z];simp
 by_cases b:pQ m ⟨true,y.left⟩=true
 ·have d:pE s x c=({x with ck:=x.ck.set c ⟨true,y.left⟩},true):=by
   rw[pE,n,F,b];rfl
  rw[d];refine⟨fun _=>?_,(fun h=>by cases h)⟩;refine⟨a.ok,e.mR,e.pK,e.dom,e.nR,fun i N M r E O _=>?_,e.lV,(fun _ h=>by cases h),e.kM,e.mQ⟩
  by_cases w:i=c
  ·subst w;cases o.symm.trans r;cases D.symm.trans E;refine⟨rfl,fun C=>?_⟩;unfold pQ at b;rw[if_pos C] at b
   simpa using b
  ·exact a.iA i N M r E O (by simp[Ne.symm w])
 ·have t:pQ m ⟨true,y.left⟩=false:=by simpa using b
  obtain⟨X,G⟩:=get_some (l:=s.aJ) (i:=f) aA
  have u:=Jf hm.aJ G
  have d:pE s x c=({x with ck:=x.ck.set c ⟨true,y.left⟩},false):=by
   rw[pE,n,F,t,k,u]
   have R:oG s (x.ck.set c ⟨true,y.left⟩) (f:Int)=true:=by
    unfold oG;rw[show bO s.aJ.length (f:Int)=true from decide_eq_true aA,Int.toNat_natCast,z];rfl
   simp[R]
  rw[d];exact⟨(fun h=>by cases h),fun _=>⟨a,h.sw,h.qG⟩⟩
theorem aKQ{r i:Nat}{y':jX}(h:(rU x.ln (r:Int)).2[i]? =some y'):∃y,x.ln[i]? =some y∧(y.held=false→y'.held=false):=by
 unfold rU at h;split at h
 ·exact⟨y',h,id⟩
 ·rw [Int.toNat_natCast] at h;split at h
  ·rename_i y b
   split at h
   ·exact⟨y',h,id⟩
   ·dsimp only at h;rw[List.getElem?_set] at h;split at h
    ·rename_i a
     subst a;split at h
     ·cases h;exact⟨y,b,id⟩
     ·cases h
    ·exact⟨y',h,id⟩
  ·exact⟨y',h,id⟩
theorem dU.rel(h:dU s A B bd bc bl x)(r:Nat):dU s A B bd bc bl (qH x r).1:=by
 unfold qH;split
 ·refine⟨⟨h.ok.ck,h.ok.dm,aEs h.ok.ln r,h.ok.dv,h.ok.each,h.ok.wt⟩,h.mR,h.pK,h.dom,h.nR,h.iA,h.lV,h.rW,fun i f b e a=>?_,h.mQ⟩;obtain⟨y,c,d⟩:=aKQ b;exact d (h.kM i y c e a)
 ·exact h
theorem dU.aKR{r:Nat}(h:dU s A B bd bc (some r) x)(hd:(qH x r).2=true):dU s A B bd bc none (qH x r).1:=by
 have a:=h.rel r
 refine⟨a.ok,a.mR,a.pK,a.dom,a.nR,a.iA,a.lV,a.rW,fun i y c e _=>?_,a.mQ⟩
 by_cases d:i=r
 ·subst d;unfold qH at hd c;split at hd
  ·cases hd
  ·rename_i b
   rw[if_neg b] at c;unfold zN at b;rw[Int.toNat_natCast] at b;dsimp only at c;rw[c] at b;simp only[Option.map_some,Option.getD_some,Bool.or_eq_true,not_or,Bool.not_eq_true] at b;exact b.2
 ·exact a.kM i y c e (by simp[Ne.symm d])
theorem dU.aRf(hm:s.made)(h:dU s A B bd bc bl x){l:Nat}(b:cR s (yF s x l))(hl:hasB A.l l=false):dU s A B bd bc bl (yF s x l):=by
 unfold yF at b⊢;split
 ·rename_i f
  rw[if_pos f] at b;refine⟨b,h.mR,h.pK,h.dom,h.nR,h.iA,h.lV,h.rW,fun i y c k m=>?_,fun i p d a hd=>?_⟩
  ·unfold rE at c;rw[if_neg (by rw[f];simp),Int.toNat_natCast] at c;dsimp only at c;rw[List.getElem?_set] at c;split at c
   ·rename_i e
    subst e;rw[hl] at k;cases k
   ·exact h.kM i y c k m
  ·dsimp only at a;rw[Bz,List.getElem?_mapIdx] at a;cases j:x.dv[i]? with
   | none=>rw[j] at a;cases a
   | some q =>
    rw[j] at a;simp only[Option.map_some,Option.some.injEq] at a
    have n:p.2=q.2:=by
     subst a;split
     ·unfold Ed;split
      ·split<;>rfl
      ·rfl
     ·rfl
    rw[n];exact h.mQ i q d j hd
 ·exact h
theorem dU.upA{n:Nat}(h:dU s A B none none none x)(o:n < s.domains.length)(hw:gW A B n=true):Ai s A B n x∧(lE s x n).2=true:=by
 obtain⟨y,c⟩:=get_some (l:=x.dm) (i:=n) (by have:=h.ok.dm.len;omega)
 have b:=(h.dom n y c aD).1 hw
 refine⟨⟨⟨h.ok,h.mR,h.pK,fun i m k _=>h.dom i m k aD,h.nR,h.iA,h.lV,h.rW,h.kM,fun i p d b hd=>?_⟩,hw,⟨y,c,.inl b⟩,fun i p v b f _=>?_⟩,?_⟩
 ·obtain⟨a,j⟩:=h.mQ i p d b hd;refine⟨?_,fun e _=>j e aD⟩;rcases a with a | a | a
  ·exact .inl a
  ·exact .inr (.inl a)
  ·cases a
 ·rcases(h.mQ i p v b f).1 with a | a | a
  ·omega
  ·omega
  ·cases a
 ·rw[lE,Qa c,if_neg aA,if_pos b]
def tP(s:aG)(A B:bL)(a:Nat)(k id:Int)(x:aP):Prop:=∃n:Nat,id=(n:Int)∧
  ((k=117∧(a≠0→hasB A.d n=false)∧Ai s A B n x)∨((k=100∨k=107)∧Ci s A B n (decide (k=107)) x)∨
   (k=99∧a=0∧Hh s A B n x)∨(k=99∧a≠0∧dU s A B none none none x)∨
   (k=114∧a=0∧dU s A B none none (some n) x)∨(k=114∧a≠0∧dU s A B none none none x)∨
   (k=111∧hasB A.c n=false∧dU s A B none none none x)∨(k=97∧hasB A.l n=false∧dU s A B none none none x)∨(k=117∧a≠0∧hasB A.d n=true∧dU s A B none none none x))
theorem tP.ok{a:Nat}{k id:Int}(h:tP s A B a k id x):cR s x:=by
 obtain⟨n,_,h⟩:=h;rcases h with⟨_,_,h⟩ | ⟨_,h⟩ | ⟨_,_,h⟩ | ⟨_,_,h⟩ | ⟨_,_,h⟩ | ⟨_,_,h⟩ | ⟨_,_,h⟩ | ⟨_,_,h⟩ | ⟨_,_,_,h⟩
 ·exact h.two.ok
 ·exact h.two.ok
 ·exact h.two.ok
 all_goals exact h.ok
theorem tP.act(hm:s.made){a:Nat}{k id:Int}(h:tP s A B a k id x):((fX s x k id).2=true→dU s A B none none none (fX s x k id).1)∧((fX s x k id).2=false→tP s A B a k id (fX s x k id).1):=by
 have f:=Ym hm.dF h.ok k id
 obtain⟨n,rfl,h⟩:=h;rcases h with⟨rfl,c,h⟩ | ⟨j,h⟩ | ⟨rfl,c,h⟩ | ⟨rfl,c,h⟩ | ⟨rfl,c,h⟩ | ⟨rfl,c,h⟩ | ⟨rfl,m,h⟩ | ⟨rfl,l,h⟩ | ⟨rfl,c,hw,h⟩
 ·have e:fX s x 117 n=lE s x n:=rfl
  rw[e];exact⟨(h.step hm).1,fun b=>⟨n,rfl,.inl ⟨rfl,c,(h.step hm).2 b⟩⟩⟩
 ·have e:fX s x k n=lF s x n (decide (k=107)):=by
   unfold fX;rw[if_neg aA,if_neg aA,if_neg aA,if_pos j]
  rw[e];exact⟨(h.step hm).1,fun b=>⟨n,rfl,.inr (.inl ⟨j,(h.step hm).2 b⟩)⟩⟩
 ·have e:fX s x 99 n=pE s x n:=rfl
  rw[e];exact⟨(h.step hm).1,fun b=>⟨n,rfl,.inr (.inr (.inl ⟨rfl,c,(h.step hm).2 b⟩))⟩⟩
 ·have e:fX s x 99 n=pE s x n:=rfl
  rw[e]
  have i:dU s A B none none none (pE s x n).1:=h.gate hm n
  exact⟨fun _=>i,fun _=>⟨n,rfl,.inr (.inr (.inr (.inl ⟨rfl,c,i⟩)))⟩⟩
 ·have e:fX s x 114 n=qH x n:=rfl
  rw[e];exact⟨h.aKR,fun _=>⟨n,rfl,.inr (.inr (.inr (.inr (.inl ⟨rfl,c,h.rel n⟩))))⟩⟩
 ·have e:fX s x 114 n=qH x n:=rfl
  rw[e];exact⟨fun _=>h.rel n,fun _=>⟨n,rfl,.inr (.inr (.inr (.inr (.inr (.inl ⟨rfl,c,h.rel n⟩)))))⟩⟩
 ·have e:fX s x 111 n=({x with ck:=(gL s x.ck n false).2},true):=rfl
  rw[e];exact⟨fun _=>h.aOg hm m,fun b=>by cases b⟩
 ·have e:fX s x 97 n=(yF s x n,true):=rfl
  rw[e] at f⊢;exact⟨fun _=>h.aRf hm f l,fun b=>by cases b⟩
 ·have e:fX s x 117 n=lE s x n:=rfl
  rw[e];obtain⟨i,o⟩:=h.upA (by have:=Bl hw;rw[h.mR.d] at this;exact this) (by unfold gW;rw[hw];rfl);exact⟨(i.step hm).1,fun b=>by rw[o] at b;cases b⟩
theorem tP.tick(hm:s.made){a:Nat}{k id:Int}(h:tP s A B a k id x)(b:Int):tP s A B a k id (jA s x b):=by
 obtain⟨n,rfl,h⟩:=h;refine⟨n,rfl,?_⟩;rcases h with⟨c,d,h⟩ | ⟨c,h⟩ | ⟨c,d,h⟩ | ⟨c,d,h⟩ | ⟨c,d,h⟩ | ⟨c,d,h⟩ | ⟨c,d,h⟩ | ⟨c,d,h⟩ | ⟨c,d,e,h⟩
 ·exact .inl ⟨c,d,h.tick hm b⟩
 ·exact .inr (.inl ⟨c,h.tick hm b⟩)
 ·exact .inr (.inr (.inl ⟨c,d,h.tick hm b⟩))
 ·exact .inr (.inr (.inr (.inl ⟨c,d,h.Bf hm b⟩)))
 ·exact .inr (.inr (.inr (.inr (.inl ⟨c,d,h.Bf hm b⟩))))
 ·exact .inr (.inr (.inr (.inr (.inr (.inl ⟨c,d,h.Bf hm b⟩)))))
 ·exact .inr (.inr (.inr (.inr (.inr (.inr (.inl ⟨c,d,h.Bf hm b⟩))))))
 ·exact .inr (.inr (.inr (.inr (.inr (.inr (.inr (.inl ⟨c,d,h.Bf hm b⟩)))))))
 ·exact .inr (.inr (.inr (.inr (.inr (.inr (.inr (.inr ⟨c,d,e,h.Bf hm b⟩)))))))
structure aIn(s:aG)(A B:bL)(a:Nat)(k:Int)(n:Nat):Prop where
 kd:xY k
 lt:n < qJ s (uK k)
 ret:k=107→Dd s n=true
 sw:k=99∨k=111→pJ s n
 own:iZ (if a=0 then A else B) k n= !decide (gE k)
 den:¬gE k→wO s A B a k n=false
 abv:k=117→∀d,s.domains[n]? =some d→d.above≠ -1→nQ A B 117 d.above=true
theorem aG2{a:Nat}{wt:List Int}{l:List Int}(I:mJ l)(h:(fM s A B wt a l).2.1≠0):∃n:Nat,(fM s A B wt a l).2.2=n∧aIn s A B a (fM s A B wt a l).2.1 n∧(cP s l).2=(fM s A B wt a l).2:=by
 unfold fM at h⊢
 by_cases m:(cP s l).1≠0∨(cP s l).2.1=0∨iZ (if a=0 then A else B) (cP s l).2.1 (cP s l).2.2=decide (gE (cP s l).2.1)
 ·rw[if_pos m] at h;exact absurd rfl h
 rw[if_neg m] at h⊢
 have L:(cP s l).1=0:=Classical.byContradiction fun b=>m (.inl b)
 have w:(cP s l).2.1≠0:=fun b=>m (.inr (.inl b))
 have hw:iZ (if a=0 then A else B) (cP s l).2.1 (cP s l).2.2= !decide (gE (cP s l).2.1):=by
  cases u:iZ (if a=0 then A else B) (cP s l).2.1 (cP s l).2.2<;>cases F:decide (gE (cP s l).2.1)
  ·exact absurd (u.trans F.symm) (fun b=>m (.inr (.inr b)))
  ·rfl
  ·rfl
  ·exact absurd (u.trans F.symm) (fun b=>m (.inr (.inr b)))
 rcases Vd (s:=s) I with⟨b,_⟩ | ⟨_,H,K,J,z,E⟩
 ·exact absurd b w
 generalize C:(cP s l).2.1=k at *;generalize y:(cP s l).2.2=id at *;obtain⟨n,rfl⟩:∃n:Nat,id=(n:Int):=⟨id.toNat,aA⟩
 rw[Int.toNat_natCast] at z E
 have o:n < qJ s (uK k):=by omega
 have p:k=99∨k=111→pJ s n:=fun t=>E (by unfold uK;rw[if_neg aA,if_pos t])
 have G:(cP s l).2=(k,(n:Int)):=by rw[←C,←y]
 by_cases f:gE k
 ·rw[if_pos f] at h⊢;split at h
  ·exact absurd rfl h
  ·rename_i r
   rw[if_neg r,G];refine⟨n,rfl,⟨H,o,z,p,hw,fun b=>absurd f b,fun t d hd x=>?_⟩,rfl⟩;cases u:nQ A B 117 d.above with
   | true=>rfl
   | false=>exact absurd ⟨t,by rw[Int.toNat_natCast,hd];simp[x,u]⟩ r
 ·rw[if_neg f] at h⊢;split at h
  ·exact absurd rfl h
  ·rename_i j
   rw[if_neg j];split at h
   ·exact absurd rfl h
   ·rename_i D
    rw[if_neg D,G];exact⟨n,rfl,⟨H,o,z,p,hw,fun _=>by simpa using j,fun t=>absurd (show gE k from .inl t) f⟩,rfl⟩
section
variable{A' B':bL}
theorem aJi(hm:s.made)(h:dU s A B none none none x)(J:A'.of s)(F:B'.of s)(C:A'.c=A.c)(hl:A'.l=A.l)(k:∀i,gW A' B' i=if i=n then true else gW A B i)(K:n < s.domains.length)(r:∀d,s.domains[n]? =some d→0≤d.above→gW A B d.above.toNat=true):Ai s A' B' n x:=by
 have j:∀i,gW A B i=true→gW A' B' i=true:=fun i b=>by
  rw[k];split
  ·rfl
  ·exact b
 obtain⟨y,w⟩:=get_some (l:=x.dm) (i:=n) (by have:=h.ok.dm.len;omega);obtain⟨I,E⟩:=h.dom n y w aD;refine⟨⟨h.ok,J,F,fun i m b D=>?_,fun i d hd b u=>?_,by rw[C];exact h.iA,by rw[C];exact h.lV,(fun _ h=>by cases h),by rw[hl];exact h.kM,fun i p d o hd=>?_⟩,by rw[k,if_pos rfl],⟨y,w,?_⟩,fun i p d o hd _=>?_⟩
 ·have f:i≠n:=fun e=>D (by rw[e])
  rw[k,if_neg f];exact h.dom i m b aD
 ·rw[k] at b;refine j _ ?_;split at b
  ·rename_i e
   subst e;exact r d hd u
  ·exact h.nR i d hd b u
 ·obtain⟨a,H⟩:=h.mQ i p d o hd;refine⟨?_,fun t G=>?_⟩
  ·rcases a with a | a | a
   ·exact .inl a
   ·exact .inr (.inl a)
   ·cases a
  ·have f:d.domain.toNat≠n:=fun e=>G (by rw[e])
   rw[k,if_neg f] at t;exact H t aD
 ·cases z:gW A B n
  ·rcases E z with a | a
   ·exact .inr (.inr (.inr (.inl a)))
   ·exact .inr (.inr (.inr (.inr a)))
  ·exact .inl (I z)
 ·rcases(h.mQ i p d o hd).1 with a | a | a
  ·omega
  ·omega
  ·cases a
theorem aPD(h:dU s A B none none none x)(I:A'.of s)(J:B'.of s)(z:A'.c=A.c)(hl:A'.l=A.l)(o:∀i,gW A' B' i=if i=n then false else gW A B i)(M:n < s.domains.length)(hw:gW A B n=true){keep:Bool}(a:∀(j:Nat) (c:Dom),s.domains[j]? =some c→c.above=(n:Int)→gW A B j=false)(r:keep=true→∀c,s.domains[n]? =some c→c.ret=true)(C:∀(j:Nat) (c:Dom),s.domains[j]? =some c→c.above < (j:Int)):Ci s A' B' n keep x:=by
 obtain⟨y,u⟩:=get_some (l:=x.dm) (i:=n) (by have:=h.ok.dm.len;omega);obtain⟨K,N⟩:=h.dom n y u aD;refine⟨⟨h.ok,I,J,fun i m f D=>?_,fun i d hd f E=>?_,by rw[z];exact h.iA,by rw[z];exact h.lV,(fun _ h=>by cases h),by rw[hl];exact h.kM,fun i p d F hd=>?_⟩,by rw[o,if_pos rfl],fun j c L t=>?_,r,⟨y,u,.inl (K hw)⟩⟩
 ·have k:i≠n:=fun e=>D (by rw[e])
  rw[o,if_neg k];exact h.dom i m f aD
 ·rw[o] at f⊢;split at f
  ·cases f
  ·rw[if_neg (fun e=>by
    have:=a i d hd aA
    rw[f] at this
    cases this)]
   exact h.nR i d hd f E
 ·obtain⟨b,H⟩:=h.mQ i p d F hd;refine⟨?_,fun w G=>?_⟩
  ·rcases b with b | b | b
   ·exact .inl b
   ·exact .inr (.inl b)
   ·cases b
  ·have k:d.domain.toNat≠n:=fun e=>G (by rw[e])
   rw[o,if_neg k] at w;exact H w aD
 ·rw[o];split
  ·rfl
  ·exact a j c L t
theorem dU.oB{bd bc bl:Option Nat}(h:dU s A B bd bc bl x)(f:B'.of s)(hd:B'.d=B.d):dU s A B' bd bc bl x:=by
 have b:∀i,gW A B' i=gW A B i:=fun i=>by unfold gW;rw[hd]
 exact⟨h.ok,h.mR,f,fun i m a e=>by rw[b];exact h.dom i m a e,fun i d hd a j=>by rw[b] at a⊢;exact h.nR i d hd a j,h.iA,h.lV,h.rW,h.kM,fun i p d c hd=>by rw[b];exact h.mQ i p d c hd⟩
theorem aQz(h:dU s A B none none none x)(z:A'.of s)(hd:A'.d=A.d)(hl:A'.l=A.l)(f:∀i,hasB A'.c i=if i=n then true else hasB A.c i)(o:pJ s n)(I:hasB A.c n=false)(w:∀j∈eW s n,j≠n→pJ s j→hasB A.c j=true):Hh s A' B n x:=by
 have G:∀i,gW A' B i=gW A B i:=fun i=>by unfold gW;rw[hd]
 refine⟨⟨h.ok,z,h.pK,fun i m r u=>by rw[G];exact h.dom i m r u,fun i d hd r J=>by rw[G] at r⊢;exact h.nR i d hd r J,fun i c y C K a u=>?_,fun i a j H b=>?_,fun M F i a D k=>?_,by rw[hl];exact h.kM,fun i p d L hd=>by rw[G];exact h.mQ i p d L hd⟩,o,by rw[f,if_pos rfl]⟩
 ·have E:i≠n:=fun e=>u (by rw[e])
  rw[f,if_neg E] at a;exact h.iA i c y C K a aD
 ·rw[f];split
  ·rfl
  ·rename_i t
   rw[f] at a;split at a
   ·rename_i e
    subst e;exact w j H t b
   ·exact h.lV i a j H b
 ·cases F;rw[f,if_neg D] at a
  have:=h.lV i a n k o
  rw[I] at this;cases this
theorem aQy(h:dU s A B none none none x)(r:A'.of s)(hd:A'.d=A.d)(hl:A'.l=A.l)(w:∀i,hasB A'.c i=if i=n then false else hasB A.c i)(f:∀i,i≠n→hasB A.c i=true→n∉eW s i):dU s A' B none none none x:=by
 have z:∀i,gW A' B i=gW A B i:=fun i=>by unfold gW;rw[hd]
 refine⟨h.ok,r,h.pK,fun i m b k=>by rw[z];exact h.dom i m b k,fun i d hd b D=>by rw[z] at b⊢;exact h.nR i d hd b D,fun i c y t E a k=>?_,fun i a j C o=>?_,(fun _ h=>by cases h),by rw[hl];exact h.kM,fun i p d F hd=>by rw[z];exact h.mQ i p d F hd⟩
 ·rw[w] at a;split at a
  ·cases a
  ·exact h.iA i c y t E a k
 ·rw[w] at a;split at a
  ·cases a
  ·rename_i u
   rw[w,if_neg (fun e:j=n=>f i u a (e▸C))];exact h.lV i a j C o
theorem aFg{bl:Option Nat}(h:dU s A B none none none x)(e:A'.of s)(hd:A'.d=A.d)(j:A'.c=A.c)(hl:∀i,hasB A'.l i=true→bl≠some i→hasB A.l i=true):dU s A' B none none bl x:=by
 have f:∀i,gW A' B i=gW A B i:=fun i=>by unfold gW;rw[hd]
 exact⟨h.ok,e,h.pK,fun i m a b=>by rw[f];exact h.dom i m a b,fun i d hd a k=>by rw[f] at a⊢;exact h.nR i d hd a k,by rw[j];exact h.iA,by rw[j];exact h.lV,(fun _ h=>by cases h),fun i y a n b=>h.kM i y a (hl i n b) aD,fun i p d o hd=>by rw[f];exact h.mQ i p d o hd⟩
end
theorem Ez{X:bL}{k:Int}(hk:k=117∨k=100∨k=107):iZ X k n=hasB X.d n:=by
 unfold iZ uJ;rw[if_pos hk];simp
theorem Tz{X:bL}{k:Int}(hk:k=99∨k=111):iZ X k n=hasB X.c n:=by
 unfold iZ uJ;rw[if_neg aA,if_pos hk];simp
theorem aDy{X:bL}{k:Int}(hk:k=114∨k=97):iZ X k n=hasB X.l n:=by
 unfold iZ uJ;rw[if_neg aA,if_neg aA,if_pos hk];simp
theorem xN{l:List Bool}{i:Nat}(hi:i < l.length)(b:Bool)(j:Nat):hasB (lZ l i b) j=if j=i then b else hasB l j:=by
 cases b
 ·exact aNM hi j
 ·exact aNN hi j
theorem Db{X:bL}{k:Int}(hk:k=117∨k=100∨k=107):gI X k n=⟨lZ X.d n (decide (gE k)),X.c,X.l⟩:=by
 unfold gI;rw[if_pos hk]
theorem xP{X:bL}{k:Int}(hk:k=99∨k=111):gI X k n=⟨X.d,lZ X.c n (decide (gE k)),X.l⟩:=by
 unfold gI;rw[if_neg aA,if_pos hk]
theorem xO{X:bL}{k:Int}(hk:k=114∨k=97):gI X k n=⟨X.d,X.c,lZ X.l n (decide (gE k))⟩:=by
 unfold gI;rw[if_neg aA,if_neg aA,if_pos hk]
theorem aJ0(hm:s.made)(h:dU s A B none none none x){a:Nat}{k:Int}(hd:aIn s A B a k n)(I:a=0→k=99→∀j∈eW s n,j≠n→pJ s j→hasB A.c j=true):tP s (eF A a k n) (fW B a k n) a k n x:=by
 have G:=hd.lt
 have N:=Ut h.mR k n
 have R:=Ut h.pK k n
 have E:(eF A a k n).of s:=by
  unfold eF;split
  ·exact N
  ·exact h.mR
 have y:(fW B a k n).of s:=by
  unfold fW;split
  ·exact h.pK
  ·exact R
 have Z:=hd.kd
 unfold xY at Z;refine⟨n,rfl,?_⟩
 by_cases F:k=117∨k=100∨k=107
 ·have K : n < s.domains.length := by
   have:uK k=17:=by unfold uK;rw[if_pos F]
   rw[this] at G;exact G
  have w:n < A.d.length:=by rw[h.mR.d];exact K
  have L:n < B.d.length:=by rw[h.pK.d];exact K
  have I:(eF A a k n).c=A.c∧(eF A a k n).l=A.l:=by
   unfold eF;split
   ·rw[Db F];exact⟨rfl,rfl⟩
   ·exact⟨rfl,rfl⟩
  have t:=hd.own
  by_cases o:gE k
  ·have J:k=117:=by unfold gE at o;omega
   subst J
   by_cases C:a≠0∧hasB A.d n=true
   ·refine .inr (.inr (.inr (.inr (.inr (.inr (.inr (.inr ⟨rfl,C.1,?_,?_⟩)))))))
    ·unfold eF;rw[if_neg C.1];exact C.2
    ·unfold eF;unfold fW at y⊢;rw[if_neg C.1] at y⊢;rw[if_neg C.1]
     have hU:∀i,gW A (gI B 117 n) i=gW A B i:=fun i=>by
      unfold gW;rw[Db F,xN L];split
      ·rename_i e
       subst e;rw[C.2];rfl
      ·rfl
     exact⟨h.ok,h.mR,y,fun i m z X=>by rw[hU];exact h.dom i m z X,fun i d hd z h0=>by rw[hU] at z⊢;exact h.nR i d hd z h0,h.iA,h.lV,h.rW,h.kM,fun i p d hp hd=>by rw[hU];exact h.mQ i p d hp hd⟩
   refine .inl ⟨rfl,fun b=>?_,aJi hm h E y I.1 I.2 (fun i=>?_) K fun d Y h0=>?_⟩
   ·unfold eF;rw[if_neg b];cases U:hasB A.d n with
    | false=>rfl
    | true=>exact absurd ⟨b,U⟩ C
   ·unfold gW eF fW
    by_cases b:a=0
    ·rw[if_pos b,if_pos b,Db F,xN w];split
     ·rfl
     ·rfl
    ·rw[if_neg b,if_neg b,Db F,xN L];split
     ·exact Bool.or_true _
     ·rfl
   ·have H:=hd.abv rfl d Y aA
    unfold nQ at H;obtain⟨q,U⟩:∃q:Nat,d.above=(q:Int):=⟨d.above.toNat,aA⟩
    rw[U,Ez (.inl rfl),Ez (.inl rfl)] at H;rw[U,Int.toNat_natCast];exact H
  ·have J:k=100∨k=107:=by unfold gE at o;omega
   have f:=hd.den o
   unfold wO at f;rw[Bool.or_eq_false_iff,Ez F] at f;rw[decide_eq_false o,Ez F] at t;obtain⟨u,r⟩:=f;refine .inr (.inl ⟨J,aPD h E y I.1 I.2 (fun i=>?_) K ?_ (fun j c V hjc=>?_) (fun M c hc=>?_) fun j c V=>?_⟩)
   ·unfold gW eF fW
    by_cases b:a=0
    ·rw[if_pos b] at u;rw[if_pos b,if_pos b,Db F,xN w,decide_eq_false o];split
     ·rename_i e
      subst e;exact u
     ·rfl
    ·rw[if_neg b] at u;rw[if_neg b,if_neg b,Db F,xN L,decide_eq_false o];split
     ·rename_i e
      subst e;rw[u];rfl
     ·rfl
   ·unfold gW
    by_cases b:a=0
    ·rw[if_pos b] at t;rw[t];rfl
    ·rw[if_neg b] at t;rw[t];exact Bool.or_true _
   ·have hjl:=(List.getElem?_eq_some_iff.1 V).1
    unfold Bo at r;rw[List.any_eq_false] at r
    have H:=r j (List.mem_range.2 (by unfold Bn;rw[if_pos J];exact hjl))
    unfold uM nQ at H;rw[if_pos J,V,Ez F,Ez F] at H;unfold gW
    simpa[hjc] using H
   ·have:=hd.ret (by simpa using M)
    unfold Dd at this;rw[hc] at this
    simpa using this
   ·have:=(hm.domains j c V).1
    omega
 ·by_cases D:k=99∨k=111
  ·have K:n < s.aJ.length:=by
    have:uK k=20:=by unfold uK;rw[if_neg F,if_pos D]
    rw[this] at G;exact G
   have w:n < A.c.length:=by rw[h.mR.c];exact K
   have hsw:=hd.sw D
   have t:=hd.own
   rw[Tz D] at t
   by_cases o:gE k
   ·have J:k=99:=by unfold gE at o;omega
    subst J
    by_cases b:a=0
    ·refine .inr (.inr (.inl ⟨rfl,b,?_⟩));rw[if_pos b,decide_eq_true o] at t;unfold eF at E⊢;unfold fW;rw[if_pos b] at E⊢;rw[if_pos b];exact aQz h E (by rw[xP D]) (by rw[xP D]) (fun i=>by rw[xP D,xN w];rfl) hsw t (I b rfl)
    ·refine .inr (.inr (.inr (.inl ⟨rfl,b,?_⟩)));unfold fW at y⊢;unfold eF;rw[if_neg b] at y⊢;rw[if_neg b];exact h.oB y (by rw[xP D])
   ·have J:k=111:=by unfold gE at o;omega
    subst J
    have f:=hd.den o
    unfold wO at f;rw[Bool.or_eq_false_iff,Tz D] at f;obtain⟨u,r⟩:=f;refine .inr (.inr (.inr (.inr (.inr (.inr (.inl ⟨rfl,?_,?_⟩))))))
    ·unfold eF
     by_cases b:a=0
     ·rw[if_pos b,xP D,xN w,if_pos rfl];exact decide_eq_false o
     ·rw[if_neg b] at u⊢;exact u
    ·by_cases b:a=0
     ·unfold eF at E⊢;unfold fW;rw[if_pos b] at E⊢;rw[if_pos b];refine aQy h E (by rw[xP D]) (by rw[xP D]) (fun i=>by rw[xP D,xN w];rfl) fun i hin z T=>?_
      have O:=Bl z
      rw[h.mR.c] at O;unfold Bo at r;rw[List.any_eq_false] at r
      have H:=r i (List.mem_range.2 (by unfold Bn;rw[if_neg aA,if_pos rfl];exact O))
      unfold uM nQ vQ at H;rw[if_neg aA,Tz D,z] at H;rw[Int.toNat_natCast,Bool.true_or,Bool.true_and] at H
      have h2:((n:Nat):Int)∈dR (eW s i):=by
       unfold dR;exact List.mem_map.2 ⟨n,T,rfl⟩
      have h3:((i:Nat):Int)≠(n:Int):=by omega
      rw[decide_eq_true h2,decide_eq_true h3] at H;exact H rfl
     ·unfold fW at y⊢;unfold eF;rw[if_neg b] at y⊢;rw[if_neg b];exact h.oB y (by rw[xP D])
  ·have hL:k=114∨k=97:=aA
   have K:n < s.bA.length:=by
    have:uK k=22:=by unfold uK;rw[if_neg F,if_neg D]
    rw[this] at G;exact G
   have w:n < A.l.length:=by rw[h.mR.l];exact K
   rcases hL with rfl | rfl
   ·by_cases b:a=0
    ·refine .inr (.inr (.inr (.inr (.inl ⟨rfl,b,?_⟩))));unfold eF at E⊢;unfold fW;rw[if_pos b] at E⊢;rw[if_pos b];refine aFg h E (by rw[xO (.inl rfl)]) (by rw[xO (.inl rfl)]) fun i z X=>?_;rw[xO (.inl rfl),xN w,if_neg (fun e=>X (by rw[e]))] at z;exact z
    ·refine .inr (.inr (.inr (.inr (.inr (.inl ⟨rfl,b,?_⟩)))));unfold fW at y⊢;unfold eF;rw[if_neg b] at y⊢;rw[if_neg b];exact h.oB y (by rw[xO (.inl rfl)])
   ·have o:¬gE 97:=aC
    have f:=hd.den o
    unfold wO at f;rw[Bool.or_eq_false_iff,aDy (.inr rfl)] at f;refine .inr (.inr (.inr (.inr (.inr (.inr (.inr (.inl ⟨rfl,?_,?_⟩)))))))
    ·unfold eF
     by_cases b:a=0
     ·rw[if_pos b,xO (.inr rfl),xN w,if_pos rfl];exact decide_eq_false o
     ·rw[if_neg b] at f⊢;exact f.1
    ·by_cases b:a=0
     ·unfold eF at E⊢;unfold fW;rw[if_pos b] at E⊢;rw[if_pos b];refine aFg h E (by rw[xO (.inr rfl)]) (by rw[xO (.inr rfl)]) fun i z _=>?_;rw[xO (.inr rfl),xN w,decide_eq_false o] at z;split at z
      ·cases z
      ·exact z
     ·unfold fW at y⊢;unfold eF;rw[if_neg b] at y⊢;rw[if_neg b];exact h.oB y (by rw[xO (.inr rfl)])
def tW(s:aG)(y:bN)(x:aP):Prop:=(y.at_ < 0∧dU s y.x y.y none none none x)∨∃a:Nat,a < 2∧y.at_=(a:Int)∧tP s y.x y.y a y.kind y.id x
theorem Ia(s:aG)(x:aP)(y:bN)(a:Nat)(st:Int):(mP s x y a st).x=y.x∧(mP s x y a st).y=y.y∧(mP s x y a st).at_=y.at_∧(mP s x y a st).kind=y.kind∧(mP s x y a st).id=y.id:=by
 unfold mP Vj;split<;>exact⟨rfl,rfl,rfl,rfl,rfl⟩
theorem tW.end_(hm:s.made){a:Nat}(j:a < 2)(b:y.at_=(a:Int))(h:tP s y.x y.y a y.kind y.id x):tW s (pO s y (fX s x y.kind y.id)) (fX s x y.kind y.id).1:=by
 obtain⟨f,i⟩:=h.act hm;unfold pO;cases c:(fX s x y.kind y.id).2
 ·rw[if_neg aD];exact .inr ⟨a,j,b,i c⟩
 ·rw[if_pos rfl];obtain⟨e,k,d,_⟩:=Ia s (fX s x y.kind y.id).1 {y with at_:= -1} y.at_.toNat 0;refine .inl ⟨by rw[d];show(-1:Int) < 0;decide,?_⟩;rw[e,k];exact f c
def ClO(s:aG)(x:aP)(y:bN):Prop:=y.at_ < 0→nK y=some 0→(bX s x y 0).2.1=99→∀n:Nat,(bX s x y 0).2.2=(n:Int)→∀j∈eW s n,j≠n→pJ s j→hasB y.x.c j=true
theorem tW.step(hm:s.made)(hf:mL s y)(h:tW s y x)(j:ClO s x y):tW s (eB s x y).1 (eB s x y).2:=by
 unfold eB;dsimp only;rcases h with⟨b,h⟩ | ⟨a,l,i,h⟩
 ·cases f:nK y with
  | none=>
   have k:iP s x y=(y,false):=by unfold iP;rw[f]
   rw[k,if_pos ⟨b,rfl⟩];exact .inl ⟨b,h⟩
  | some a =>
   have l:=La hf.fm.la f
   have k:iP s x y=kD s x y a:=by unfold iP;rw[f]
   rw[k]
   by_cases hd:(bX s x y a).2.1=0
   ·have e:kD s x y a=(mP s x {y with last:=a} a (bX s x y a).1,false):=by
     unfold kD;dsimp only;rw[if_pos hd]
    rw[e,if_pos ⟨b,rfl⟩];obtain⟨o,u,t,_⟩:=Ia s x {y with last:=(a:Int)} a (bX s x y a).1;refine .inl ⟨by rw[t];exact b,?_⟩;rw[o,u];exact h
   ·have e:kD s x y a=({y with last:=a,x:=eF y.x a (bX s x y a).2.1 (bX s x y a).2.2,y:=fW y.y a (bX s x y a).2.1 (bX s x y a).2.2,at_:=a,kind:=(bX s x y a).2.1,id:=(bX s x y a).2.2},true):=by
     unfold kD;dsimp only;rw[if_neg hd]
    rw[e,if_neg aD,if_pos b];dsimp only;obtain⟨n,c,d,_⟩:=aG2 (s:=s) (A:=y.x) (B:=y.y) (a:=a) (wt:=jS s x) (hf.fm.box a).1 hd
    have c:(bX s x y a).2.2=(n:Int):=c
    have hw:=aJ0 hm h d (fun m p=>by
     subst m
     exact j b f p n c)
    exact tW.end_ (y:={y with last:=a,x:=eF y.x a (bX s x y a).2.1 (bX s x y a).2.2,y:=fW y.y a (bX s x y a).2.1 (bX s x y a).2.2,at_:=a,kind:=(bX s x y a).2.1,id:=(bX s x y a).2.2}) hm l rfl (by
     dsimp only;rw[c]
     exact hw)
 ·have b:¬y.at_ < 0:=aA
  rw[if_neg (fun r=>b r.1),if_neg b];exact tW.end_ hm l i h
theorem tP.hw{A B:bL}{a:Nat}{k id:Int}(h:tP s A B a k id x){x':aP}(f:∀bd bc bl,dU s A B bd bc bl x→dU s A B bd bc bl x')(u:x'.dm=x.dm)(w:∀(i:Nat) (p:dB×dN),x'.dv[i]? =some p→∃p0,x.dv[i]? =some p0∧p.2=p0.2):tP s A B a k id x':=by
 have r:∀d,Oe s d x→Oe s d x':=fun d hd i p v j t l=>by
  obtain⟨p0,o,e⟩:=w i p j;rw[e];exact hd i p0 v o t l
 have m:∀d,Ol s d x→Ol s d x':=fun d hd i p v j t l=>by
  obtain⟨p0,o,e⟩:=w i p j;rw[e];exact hd i p0 v o t l
 obtain⟨n,rfl,h⟩:=h;refine⟨n,rfl,?_⟩;rcases h with⟨b,c,h⟩ | ⟨b,h⟩ | ⟨b,c,h⟩ | ⟨b,c,h⟩ | ⟨b,c,h⟩ | ⟨b,c,h⟩ | ⟨b,c,h⟩ | ⟨b,c,h⟩ | ⟨b,c,z,h⟩
 ·exact .inl ⟨b,c,f _ _ _ h.two,h.qG,by rw[u];exact h.Dg,r n h.ask⟩
 ·refine .inr (.inl ⟨b,f _ _ _ h.two,h.qG,h.low,h.ret,?_⟩);obtain⟨q,y,j⟩:=h.Dg;refine⟨q,by rw[u];exact y,?_⟩;rcases j with j | ⟨j,hs⟩
  ·exact .inl j
  ·exact .inr ⟨j,m n hs⟩
 ·exact .inr (.inr (.inl ⟨b,c,f _ _ _ h.two,h.sw,h.qG⟩))
 ·exact .inr (.inr (.inr (.inl ⟨b,c,f _ _ _ h⟩)))
 ·exact .inr (.inr (.inr (.inr (.inl ⟨b,c,f _ _ _ h⟩))))
 ·exact .inr (.inr (.inr (.inr (.inr (.inl ⟨b,c,f _ _ _ h⟩)))))
 ·exact .inr (.inr (.inr (.inr (.inr (.inr (.inl ⟨b,c,f _ _ _ h⟩))))))
 ·exact .inr (.inr (.inr (.inr (.inr (.inr (.inr (.inl ⟨b,c,f _ _ _ h⟩)))))))
 ·exact .inr (.inr (.inr (.inr (.inr (.inr (.inr (.inr ⟨b,c,z,f _ _ _ h⟩)))))))
theorem aRn(s:aG)(x:aP)(i:Nat):(eP s x i).1.dm=x.dm∧∀(k:Nat) (p:dB×dN),(eP s x i).1.dv[k]? =some p→∃p0,x.dv[k]? =some p0∧p.2=p0.2:=by
 refine⟨?_,fun k p a=>?_⟩
 ·unfold eP;split
  ·split<;>rfl
  ·rfl
 ·unfold eP at a;split at a
  ·rename_i t d q _ _ c
   split at a
   ·dsimp only at a;rw[List.getElem?_set] at a;split at a
    ·rename_i b
     subst b;split at a
     ·cases a;refine⟨q,c,?_⟩;unfold vY;split<;>rfl
     ·cases a
    ·exact⟨p,a,rfl⟩
   ·exact⟨p,a,rfl⟩
  ·exact⟨p,a,rfl⟩
theorem tW.tick(hm:s.made)(h:tW s y x)(i:cR s x)(j:Ah s x)(b:Int):tW s y (lQ s x b).1:=by
 have f:∀n,tW s y (eO s x n).1:=fun n=>by
  induction n with
  | zero=>exact h
  | succ n ih=>
   have c:=(Gp i j (n+1)).1
   obtain⟨m,p⟩:=aRn s (eO s x n).1 n;rcases ih with⟨d,ih⟩ | ⟨a,l,e,ih⟩
   ·exact .inl ⟨d,aH8 ih c⟩
   ·exact .inr ⟨a,l,e,ih.hw (fun _ _ _ o=>aH8 o c) m p⟩
 rcases f s.aH.length with⟨d,k⟩ | ⟨a,l,e,k⟩
 ·exact .inl ⟨d,k.Bf hm b⟩
 ·exact .inr ⟨a,l,e,k.tick hm b⟩
theorem tW.same(h:tW s y x){x':aP}{y':bN}(d:cR s x')(C:x'.ck=x.ck)(l:x'.dm=x.dm)(h3:x'.ln=x.ln)(f:x'.dv=x.dv)(n:y'.x=y.x)(r:y'.y=y.y)(z:y'.at_=y.at_)(m:y'.kind=y.kind)(o:y'.id=y.id):tW s y' x':=by
 have j:∀{A B:bL} (bd k e:Option Nat),dU s A B bd k e x→dU s A B bd k e x':=fun _ _ _ t=>t.hw d C l h3 f
 unfold tW;rw[n,r,z,m,o];rcases h with⟨b,h⟩ | ⟨a,u,c,h⟩
 ·exact .inl ⟨b,j _ _ _ h⟩
 ·exact .inr ⟨a,u,c,h.hw j l (fun i p w=>⟨p,by rw[←f];exact w,rfl⟩)⟩
def Ap(s:aG)(X:bL)(p:dV):Prop:=
 (∃i:Nat,p=⟨17,4,i,1⟩∧i < s.domains.length∧hasB X.d i=false∧∀d,s.domains[i]? =some d→0≤d.above→hasB X.d d.above.toNat=true)∨
 (∃i:Nat,p=⟨20,7,i,1⟩∧i < s.aJ.length∧nG s i=true∧hasB X.c i=false∧∀j∈eW s i,j≠i→nG s j=true→hasB X.c j=true)∨
 (∃i:Nat,p=⟨22,4,i,0⟩∧i < s.bA.length∧hasB X.l i=false)∨
 (∃i:Nat,p=⟨20,7,i,0⟩∧i < s.aJ.length∧nG s i=true∧hasB X.c i=true∧∀j:Nat,j≠i→hasB X.c j=true→i∉eW s j)∨
 (∃i:Nat,p=⟨17,4,i,oX s i⟩∧i < s.domains.length∧hasB X.d i=true∧∀(j:Nat) d,s.domains[j]? =some d→d.above=(i:Int)→hasB X.d j=false)
section
variable{x y:bL}
theorem aR9(hm:s.made)(hx:x.cl s)(hy:y.cl s)(U:∀i,hasB x.l i=true→hasB y.l i=true){k:Nat}{p:dV}(hk:(allM s x y)[k]? =some p):Ap s (((allM s x y).take k).foldl gA x) p:=by
 have u:=aOp (L:=(allM s x y).take k) hx.of
 unfold allM sG at hk u⊢;rcases Sh hk with⟨Y,D⟩ | ⟨Z,Y,D⟩
 ·
  obtain⟨i,o,rfl,z⟩:=Kr Y;rw[D,z,Mg] at u⊢
  have a:=xV.1 (List.mem_of_getElem? o)
  have r:=Ul (Vt s.domains.length x.d y.d) o
  have b:=xM.1 a.2
  have e:∀j,j < s.domains.length→hasB ((List.take k (eK (List.range s.domains.length) x.d y.d)).foldl (fun d (i:Nat)=>iM d (i:Int) true) x.d) j=if j∈List.take k (eK (List.range s.domains.length) x.d y.d) then true else hasB x.d j:=fun j m=>has_fold _ _ _ _ (by rw[hx.of.d];exact m)
  refine .inl ⟨i,rfl,a.1,?_,fun d hd h0=>?_⟩
  ·dsimp only;rw[e i a.1,if_neg (fun h=>by have:=((r i).1 h).2;omega),b.2]
  ·dsimp only
   have I:=(hm.domains i d hd).1
   have ha:d.above.toNat < s.domains.length:=by omega
   rw[e _ ha]
   have O:=hy.up i d b.1 hd h0
   split
   ·rfl
   ·rename_i f
    cases T:hasB x.d d.above.toNat with
    | true=>rfl
    | false=>exact absurd ((r d.above.toNat).2 ⟨xV.2 ⟨ha,xM.2 ⟨O,T⟩⟩,aA⟩) f
 ·rcases Sh Y with⟨K,E⟩ | ⟨t2,K,E⟩
  ·
   obtain⟨i,o,rfl,z⟩:=Kr K;rw[D,E,z,List.foldl_append,Mg,Ri] at u⊢
   have a:=xV.1 (List.mem_of_getElem? o)
   have r:=Ul (Vt s.aJ.length x.c y.c) o
   have b:=xM.1 a.2
   have e:∀j,j < s.aJ.length→hasB ((List.take Z (eK (List.range s.aJ.length) x.c y.c)).foldl (fun d (i:Nat)=>iM d (i:Int) true) x.c) j=if j∈List.take Z (eK (List.range s.aJ.length) x.c y.c) then true else hasB x.c j:=fun j m=>has_fold _ _ _ _ (by rw[hx.of.c];exact m)
   refine .inr (.inl ⟨i,rfl,a.1,hy.sw i b.1,?_,fun j m M V=>?_⟩)
   rotate_left
   ·dsimp only
    have n:j < s.aJ.length:=aGG m
    have X:=Xx hm m
    rw[e j n]
    have t:=hy.ch i j b.1 m V
    split
    ·rfl
    ·rename_i f
     cases C:hasB x.c j with
     | true=>rfl
     | false=>exact absurd ((r j).2 ⟨xV.2 ⟨n,xM.2 ⟨t,C⟩⟩,aA⟩) f
   dsimp only;rw[has_fold _ _ _ _ (by rw[hx.of.c];exact a.1),if_neg (fun h=>by have:=((r i).1 h).2;omega),b.2]
  ·rcases Sh K with⟨R,H⟩ | ⟨t3,R,H⟩
   ·
    obtain⟨i,o,rfl,z⟩:=Kr R;rw[D,E,H,z,List.foldl_append,List.foldl_append,Mg,Ri,Xg] at u⊢
    have a:=xV.1 (List.mem_of_getElem? o)
    have r:=Ul (Vt s.bA.length x.l y.l) o
    have b:=xM.1 a.2
    refine .inr (.inr (.inl ⟨i,rfl,a.1,?_⟩));dsimp only;rw[has_fold _ _ _ _ (by rw[hx.of.l];exact a.1),if_neg (fun h=>by have:=((r i).1 h).2;omega),b.2]
   ·rcases Sh R with⟨h7,J⟩ | ⟨t4,h7,J⟩
    ·
     obtain⟨i,o,rfl,z⟩:=Kr h7;rw[D,E,H,J,z,List.foldl_append,List.foldl_append,List.foldl_append,Mg,Ri,Xg,aBL] at u⊢
     have a:=xV.1 (List.mem_of_getElem? o)
     have r:=Ul (Vt s.bA.length y.l x.l) o
     have b:=xM.1 a.2
     exact absurd (U i b.1) (by rw[b.2];simp)
    ·rcases Sh h7 with⟨N,A⟩ | ⟨t5,N,A⟩
     ·
      obtain⟨i,o,rfl,z⟩:=Kr N;rw[D,E,H,J,A,z,List.foldl_append,List.foldl_append,List.foldl_append,List.foldl_append,Mg,Ri,Xg,aBL,aFY] at u⊢
      have a:=Lg.1 (List.mem_of_getElem? o)
      have w:=aDK (aET s.aJ.length y.c x.c) o
      have b:=xM.1 a.2
      have e:∀j,j < s.aJ.length→hasB ((List.take t4 (eK (List.range s.aJ.length).reverse y.c x.c)).foldl (fun d (i:Nat)=>iM d (i:Int) false) ((eK (List.range s.aJ.length) x.c y.c).foldl (fun d (i:Nat)=>iM d (i:Int) true) x.c)) j=if j∈List.take t4 (eK (List.range s.aJ.length).reverse y.c x.c) then false else if j∈eK (List.range s.aJ.length) x.c y.c then true else hasB x.c j:=fun j m=>by
       rw[has_fold _ _ _ _ (by rw[Vi,hx.of.c];exact m),has_fold _ _ _ _ (by rw[hx.of.c];exact m)]
      refine .inr (.inr (.inr (.inl ⟨i,rfl,a.1,hx.sw i b.1,?_,fun j M m G=>?_⟩)))
      ·dsimp only;rw[e i a.1,if_neg (fun h=>by have:=((w i).1 h).2;omega)];split
       ·rfl
       ·exact b.1
      ·dsimp only at m
       have n:=Bl m
       rw[Vi,Vi,hx.of.c] at n;rw[e j n] at m
       have X:=Xx hm G
       have t:hasB y.c j=true:=by
        split at m
        ·cases m
        ·rename_i f
         split at m
         ·rename_i B;exact(xM.1 (xV.1 B).2).1
         ·cases t:hasB y.c j with
          | true=>rfl
          | false=>exact absurd ((w j).2 ⟨Lg.2 ⟨n,xM.2 ⟨m,t⟩⟩,aA⟩) f
       have:=hy.ch j i t G (hx.sw i b.1)
       rw[b.2] at this;cases this
     ·
      obtain⟨i,o,rfl,z⟩:=Kr N;rw[D,E,H,J,A,z,List.foldl_append,List.foldl_append,List.foldl_append,List.foldl_append,List.foldl_append,Mg,Ri,Xg,aBL,aFY,aOB] at u⊢
      have a:=Lg.1 (List.mem_of_getElem? o)
      have w:=aDK (aET s.domains.length y.d x.d) o
      have b:=xM.1 a.2
      have e:∀j,j < s.domains.length→hasB ((List.take t5 (eK (List.range s.domains.length).reverse y.d x.d)).foldl (fun d (i:Nat)=>iM d (i:Int) false) ((eK (List.range s.domains.length) x.d y.d).foldl (fun d (i:Nat)=>iM d (i:Int) true) x.d)) j=if j∈List.take t5 (eK (List.range s.domains.length).reverse y.d x.d) then false else if j∈eK (List.range s.domains.length) x.d y.d then true else hasB x.d j:=fun j m=>by
       rw[has_fold _ _ _ _ (by rw[Vi,hx.of.d];exact m),has_fold _ _ _ _ (by rw[hx.of.d];exact m)]
      refine .inr (.inr (.inr (.inr ⟨i,rfl,a.1,?_,fun j d hd hab=>?_⟩)))
      ·dsimp only;rw[e i a.1,if_neg (fun h=>by have:=((w i).1 h).2;omega)];split
       ·rfl
       ·exact b.1
      ·dsimp only
       have n:=(List.getElem?_eq_some_iff.1 hd).1
       have I:=(hm.domains j d hd).1
       rw[e j n];split
       ·rfl
       ·rename_i f
        have F:hasB y.d j=false:=by
         cases t:hasB y.d j with
         | false=>rfl
         | true=>
          have:=hy.up j d t hd aA
          rw[show d.above.toNat=i by omega,b.2] at this;cases this
        split
        ·rename_i B
         have:=(xM.1 (xV.1 B).2).1
         rw[F] at this;cases this
        ·cases C:hasB x.d j with
         | false=>rfl
         | true=>exact absurd ((w j).2 ⟨Lg.2 ⟨n,xM.2 ⟨C,F⟩⟩,aA⟩) f
theorem aSD{i:Nat}(h:pJ s i):nG s i=true:=by
 unfold pJ kindOf at h;unfold nG;cases a:s.aJ[i]? with
 | none=>rw[a] at h;exact absurd h aD
 | some c=>rw[a] at h;exact decide_eq_true h
theorem Ap.goes(hm:s.made){X:bL}{p:dV}(h:Ap s X p)(a:X.of s):Oh s X p 0:=by
 rcases h with⟨i,rfl,b,c,d⟩ | ⟨i,rfl,b,c,d,_⟩ | ⟨i,rfl,b,c⟩ | ⟨i,rfl,b,c,d,e⟩ | ⟨i,rfl,b,c,d⟩
 ·exact aOa hm a aC b c d
 ·exact aNY hm a aC b c d
 ·exact aNX hm a aC b c
 ·exact aNZ hm a aC b c d e
 ·exact aOb hm a aC b c d
section
variable{h:aP}
end
end
theorem aIY(h:∀i,kS x.wt i=0)(i:Nat):((jS s x)[i]?).getD 0≤0:=by
 unfold jS;rw[List.getElem?_map];cases(List.range s.aH.length)[i]? with
 | none=>simp
 | some j=>simp[h j]
theorem Ap.kT{p:dV}(h:Ap s X p):Jn p∧(p.msg=4∨p.msg=7):=by
 rcases h with⟨i,rfl,_⟩ | ⟨i,rfl,_⟩ | ⟨i,rfl,_⟩ | ⟨i,rfl,_⟩ | ⟨i,rfl,_⟩<;>simp[Jn]
theorem aAE(h:jC y 0=none):fU y 0=y:=by
 unfold jC at h;unfold fU;rw[if_pos rfl] at h⊢;split at h
 ·cases h
 ·rename_i a
  rw[if_neg a]
def Zn(s:aG):bL→List dV→Prop
 | _,[]=>True
 | X,p::r=>Ap s X p∧Zn s (gA X p) r
theorem aFD:∀(L:List dV) (X:bL),(∀k p,L[k]? =some p→Ap s ((L.take k).foldl gA X) p)→Zn s X L
 | [],_,_=>trivial
 | p::r,X,h=>⟨h 0 p rfl,aFD r _ fun k q a=>h (k+1) q a⟩
def sN(P A:bL):Prop:=(∀i,hasB P.d i=true→hasB A.d i=true)∧(∀i,hasB P.c i=true→hasB A.c i=true)∧(∀i,hasB P.l i=true→hasB A.l i=true)
theorem sN.refl(P:bL):sN P P:=⟨fun _ h=>h,fun _ h=>h,fun _ h=>h⟩
theorem Us(l:List Bool)(i:Nat)(b:Bool)(j:Nat):hasB (lZ l i b) j=if j=i∧i < l.length then b else hasB l j:=by
 by_cases a:i < l.length
 ·rw[xN a]
  by_cases h:j=i
  ·rw[if_pos h,if_pos ⟨h,a⟩]
  ·rw[if_neg h,if_neg (fun c=>h c.1)]
 ·rw[aA2 _ aA,if_neg (fun c=>a c.2)]
theorem aA0{l m:List Bool}(a:l.length=m.length)(h:∀i,hasB l i=true→hasB m i=true)(i:Nat)(b:Bool)(j:Nat):hasB (lZ l i b) j=true→hasB (lZ m i b) j=true:=by
 rw[Us,Us,a];split
 ·exact id
 ·exact h j
theorem aJW{l m:List Bool}(h:∀i,hasB l i=true→hasB m i=true)(i:Nat)(j:Nat):hasB (lZ l i false) j=true→hasB m j=true:=by
 rw[Us];split
 ·intro a;cases a
 ·exact h j
theorem aJV{l m:List Bool}(h:∀i,hasB l i=true→hasB m i=true)(i:Nat)(hi:hasB m i=true)(b:Bool)(j:Nat):hasB (lZ l i b) j=true→hasB m j=true:=by
 rw[Us];split
 ·rename_i e
  intro _;rw[e.1];exact hi
 ·exact h j
section
variable{k:Int}
theorem aJX(a:P.of s)(b:A.of s)(hk:xY k)(h:sN P A):sN (gI P k n) (gI A k n):=by
 unfold xY at hk
 by_cases i:k=117∨k=100∨k=107
 ·rw[Db i,Db i];exact⟨aA0 (a.d.trans b.d.symm) h.1 n _,h.2.1,h.2.2⟩
 ·by_cases f:k=99∨k=111
  ·rw[xP f,xP f];exact⟨h.1,aA0 (a.c.trans b.c.symm) h.2.1 n _,h.2.2⟩
  ·have e:k=114∨k=97:=aA
   rw[xO e,xO e];exact⟨h.1,h.2.1,aA0 (a.l.trans b.l.symm) h.2.2 n _⟩
theorem aJY(hk:xY k)(h:sN P A)(hw:gE k→iZ A k n=true):sN (gI P k n) A:=by
 unfold xY at hk
 have a:∀{l m:List Bool},(∀i,hasB l i=true→hasB m i=true)→(gE k→hasB m n=true)→∀j,hasB (lZ l n (decide (gE k))) j=true→hasB m j=true:=fun {l m} hl hm j=>by
  by_cases b:gE k
  ·exact aJV hl n (hm b) _ j
  ·rw[decide_eq_false b];exact aJW hl n j
 by_cases d:k=117∨k=100∨k=107
 ·rw[Db d];exact⟨a h.1 (fun c=>by rw[←Ez d];exact hw c),h.2.1,h.2.2⟩
 ·by_cases f:k=99∨k=111
  ·rw[xP f];exact⟨h.1,a h.2.1 (fun c=>by rw[←Tz f];exact hw c),h.2.2⟩
  ·have e:k=114∨k=97:=aA
   rw[xO e];exact⟨h.1,h.2.1,a h.2.2 (fun c=>by rw[←aDy e];exact hw c)⟩
theorem aPV{a:Nat}{wt l:List Int}(h:(fM s A B wt a l).2.1≠0):(cP s l).1=0∧(cP s l).2=(fM s A B wt a l).2∧(fM s A B wt a l).1=0:=by
 unfold fM at h⊢
 by_cases b:(cP s l).1≠0∨(cP s l).2.1=0∨iZ (if a=0 then A else B) (cP s l).2.1 (cP s l).2.2=decide (gE (cP s l).2.1)
 ·rw[if_pos b] at h;exact absurd rfl h
 have i:(cP s l).1=0:=Classical.byContradiction fun f=>b (.inl f)
 rw[if_neg b] at h⊢;refine⟨i,?_⟩;split at h
 ·split at h
  ·exact absurd rfl h
  ·rename_i c d
   rw[if_pos c,if_neg d];exact⟨rfl,rfl⟩
 ·split at h
  ·exact absurd rfl h
  ·split at h
   ·exact absurd rfl h
   ·rename_i c d e
    rw[if_neg c,if_neg d,if_neg e];exact⟨rfl,rfl⟩
theorem Ap.read(hm:s.made){p:dV}(hg:Ap s P p)(n:P.of s){d:Int}(z:0≤d)(H:d < 1024):cP s (kA p d)=(0,nW p,p.id)∧mJ (kA p d)∧nW p≠0∧gA P p=gI P (nW p) p.id:=by
 have b:=hg.goes hm n
 obtain⟨f,h⟩:=hg.kT;obtain⟨C,j,x,y,r⟩:=aB2 f z H;obtain⟨D,i,o,G,t⟩:=aB2 f (k:=0) aC aC
 have hd:aCQ p.msg p.pr d:=⟨C,by unfold sY;rw[j];rfl,by unfold Bp;rw[j,y];rfl,by unfold dX;rw[j,r];rfl,by unfold eD;rw[j,x];rfl,j,r,x⟩
 have m:aCQ p.msg p.pr 0:=⟨D,by unfold sY;rw[i];rfl,by unfold Bp;rw[i,G];rfl,by unfold dX;rw[i,t];rfl,by unfold eD;rw[i,o];rfl,i,t,o⟩
 have F:Plain (kA p d):=aLQ hd h b.id b.v
 have e:cP s (kA p d)=cP s [(dH p.msg 0 p.pr 0).1,p.id,p.v]:=by
  unfold cP kA;dsimp only;rw[hd.un,hd.ty,hd.pr,hd.ms,m.un,m.ty,m.pr,m.ms]
 have c:fM s P (dI s) [] 0 [(dH p.msg 0 p.pr 0).1,p.id,p.v]=(0,nW p,p.id):=b.dec
 obtain⟨E,w,_⟩:=aPV (s:=s) (A:=P) (B:=dI s) (a:=0) (wt:=[]) (l:=[(dH p.msg 0 p.pr 0).1,p.id,p.v]) (by rw[c];exact b.kind);rw[c] at w;refine⟨?_,F.u,b.kind,b.done.symm⟩;rw[e];exact Prod.ext E w
theorem aBZ(hm:s.made){p:dV}(hg:Ap s P p)(f:P.of s)(O:A.of s)(e:sN P A){j:Int}(N:0≤j)(M:j < 1024){wt:List Int}(x:∀i:Nat,(wt[i]?).getD 0≤0):
  ((fM s A B wt 0 (kA p j)).2.1=0∧((fM s A B wt 0 (kA p j)).1=0∨(fM s A B wt 0 (kA p j)).1= -3)∧sN (gA P p) A)∨
  (fM s A B wt 0 (kA p j)=(0,nW p,p.id)∧sN (gA P p) (eF A 0 (nW p) p.id)):=by
 obtain⟨r,L,m,t⟩:=hg.read hm f N M
 have l:xY (nW p):=by
  rcases Vd (s:=s) L with⟨I,_⟩ | ⟨_,J,_⟩
  ·rw[r] at I;exact absurd I m
  ·rw[r] at J;exact J
 have w:∃n:Nat,p.id=(n:Int):=⟨p.id.toNat,by have:=(hg.goes hm f).id;omega⟩
 obtain⟨n,u⟩:=w
 have o:Cb s wt (nW p) p.id=false:=aCm (fun i _=>by unfold zX;rw[show decide (0 < (wt[i]?).getD 0)=false from decide_eq_false (by have:=x i;omega)];rfl)
 rw[u] at r o;rw[t,u]
 have k:(gE (nW p)→iZ A (nW p) n=true)→sN (gI P (nW p) n) A:=aJY l e
 have mono:sN (gI P (nW p) n) (eF A 0 (nW p) n):=by
  unfold eF;rw[if_pos rfl];exact aJX f O l e
 unfold fM;rw[r];dsimp only;rw[if_pos rfl]
 by_cases hw:iZ A (nW p) n=decide (gE (nW p))
 ·rw[if_pos (.inr (.inr hw))];exact .inl ⟨rfl,.inl rfl,k fun D=>by rw[hw];exact decide_eq_true D⟩
 have y:¬((0:Int)≠0∨nW p=0∨iZ A (nW p) n=decide (gE (nW p))):=fun T=>by
  rcases T with h | h | h
  ·exact h rfl
  ·exact m h
  ·exact hw h
 rw[if_neg y]
 by_cases b:gE (nW p)
 ·rw [if_pos b];split
  ·rename_i E
   exfalso;obtain⟨c,a⟩:=E;rcases hg with⟨i,rfl,R,U,K⟩ | ⟨i,rfl,_⟩ | ⟨i,rfl,_⟩ | ⟨i,rfl,_⟩ | ⟨i,rfl,_⟩
   ·have C:n=i:=by
     have:((i:Nat):Int)=(n:Int):=u
     omega
    subst C;rw[Int.toNat_natCast] at a;obtain⟨d,hd⟩:=get_some R;rw[hd] at a;simp only[Option.any_some,Bool.and_eq_true,decide_eq_true_eq,Bool.not_eq_true'] at a
    have H:=(hm.domains n d hd).1
    have F:=e.1 _ (K d hd aA)
    obtain⟨q,G⟩:∃q:Nat,d.above=(q:Int):=⟨d.above.toNat,aA⟩
    rw[G,Int.toNat_natCast] at F
    have z:=a.2
    unfold nQ at z;rw[G,Ez (.inl rfl),F] at z;cases z
   ·exact absurd (show(99:Int)=117 from c) aC
   ·exact absurd (show(114:Int)=117 from c) aC
   ·exact absurd (show(111:Int)=117 from c) aC
   ·unfold gE nW oX at b;dsimp only at b
    revert b
    cases((s.domains[i]?).map (·.ret)).getD false<;>simp
  ·exact .inr ⟨rfl,mono⟩
 ·rw[if_neg b];split
  ·exact .inl ⟨rfl,.inr rfl,k fun D=>absurd D b⟩
  ·rw[o,if_neg aD];exact .inr ⟨rfl,mono⟩
end
structure aS6(s:aG)(m:eC):Prop where
 tk:∀j,T3 j→(m.z.tk j).st=0
 cJ:m.z.cJ= -1
 steps:m.z.steps=[]
 sent:m.z.sent=false
 po:m.z.aS=false
 y:∃l k i:Int,(l=0∨l=1)∧m.y=aIt s m.z.wn l k i
 inv:Inv s m.z.wn none none none m.x
 cl:m.z.wn.cl s
 many:0≤m.z.many∧m.z.many < 1024
 wd:m.z.wn.d=(eX s (eY s m.z.cn)).d
 wc:m.z.wn.c=(eX s (eY s m.z.cn)).c
 wl:∀i,hasB (eX s (eY s m.z.cn)).l i=true→hasB m.z.wn.l i=true
section
variable{k:Int}
theorem aLN(a b:List Bool)(n:Nat):(uD a b n).length=b.length:=by simp[uD]
theorem aED{a b:List Bool}{n i:Nat}(c:b.length=n)(hi:i < n):hasB (uD a b n) i=(hasB b i||hasB a i):=by
 unfold uD;rw[Dp,List.getElem?_mapIdx,Dp b,List.getElem?_eq_getElem (show i < b.length by omega)];simp[hi]
theorem aIU(hm:s.made)(z:bB):(nD s z).cl s:=by
 have h:=aD3 hm (eY s z.cn) s.aH.length
 exact⟨⟨h.of.d,h.of.c,by show(uD _ _ _).length=_;rw[aLN];exact h.of.l⟩,h.up,h.ch,h.sw⟩
theorem aIT(z:bB)(c:z.wn.of s)(i:Nat)(h:hasB z.wn.l i=true):hasB (nD s z).l i=true:=by
 have a:=Bl h
 rw[c.l] at a
 show hasB (uD _ _ _) i=true
 rw[aED (b:=(eX s (eY s z.cn)).l) (Cp s _ _).l a,h];simp
theorem aIR(z:bB)(i:Nat)(h:hasB (eX s (eY s z.cn)).l i=true):hasB (nD s z).l i=true:=by
 have b:=Bl h
 have a:(eX s (eY s z.cn)).l.length=s.bA.length:=(Cp s _ _).l
 rw[a] at b
 show hasB (uD _ _ _) i=true
 rw[aED a b,h];rfl
end
def Ny(P:bL)(p:dV)(y:bN):Prop:=
 (y.h0=1∧y.at_≠0∧sN P y.x∧∃a:Int,0≤a∧a < 1024∧y.w0=kA p a)∨(y.at_=0∧sN (gA P p) y.x)∨(y.h0=2∧y.at_≠0∧sN (gA P p) y.x∧xR y.w0)
structure PlT(s:aG)(P:bL)(z:bB)(y:bN):Prop where
 go:Zn s P z.steps
 fo:z.steps.foldl gA P=z.wn
 of:P.of s
 no:z.sent=false→y.h0=0∧y.at_≠0∧sN P y.x
 yes:z.sent=true→∃p tl,z.steps=p::tl∧Ny P p y
structure jQ(s:aG)(z:bB)(y:bN):Prop where
 cl:z.wn.cl s
 use:sN (eX s (eY s z.cn)) z.wn
 po:z.aS=true→z.steps=[]
 pl:∃P,PlT s P z y
theorem aA8{st:Int}(l:List Int)(h:st=0∨st= -3):xR (uR s x l st):=by
 unfold xR uR
 show IntKind.i32.wrap (IntKind.u32.wrap st)=0∨IntKind.i32.wrap (IntKind.u32.wrap st)= -3
 rcases h with rfl | rfl
 ·exact .inl (by decide+kernel)
 ·exact .inr (by decide+kernel)
theorem aDM(hf:mL s y):
  ((eB s x y).1.h0=y.h0∧(eB s x y).1.w0=y.w0∧(eB s x y).1.x=y.x∧((eB s x y).1.at_=0↔y.at_=0))∨
  (y.at_ < 0∧y.h0=1∧(bX s x y 0).2.1=0∧(eB s x y).1.h0=2∧(eB s x y).1.w0=uR s x y.w0 (bX s x y 0).1∧(eB s x y).1.x=y.x∧(eB s x y).1.at_=y.at_)∨
  (y.at_ < 0∧y.h0=1∧(bX s x y 0).2.1≠0∧(eB s x y).1.x=eF y.x 0 (bX s x y 0).2.1 (bX s x y 0).2.2∧((eB s x y).1.at_=0∨∃x',(eB s x y).1.at_= -1∧(eB s x y).1.h0=2∧(eB s x y).1.w0=uR s x' y.w0 0))∨
  (y.at_=0∧(eB s x y).1.x=y.x∧∃x',(eB s x y).1.at_= -1∧(eB s x y).1.h0=2∧(eB s x y).1.w0=uR s x' y.w0 0):=by
 unfold eB;dsimp only;rcases hf.at_ with d | ⟨a,d,k,_⟩
 ·have b:y.at_ < 0:=aA
  cases c:nK y with
  | none=>
   have i:iP s x y=(y,false):=by unfold iP;rw[c]
   rw[i,if_pos ⟨b,rfl⟩];exact .inl ⟨rfl,rfl,rfl,Iff.rfl⟩
  | some a =>
   have k:=La hf.fm.la c
   have f:kB y a=1:=by
    unfold nK at c;split at c
    ·cases c;assumption
    ·split at c
     ·cases c;assumption
     ·cases c
   have i:iP s x y=kD s x y a:=by unfold iP;rw[c]
   rw[i]
   by_cases hd:(bX s x y a).2.1=0
   ·have e:kD s x y a=(mP s x {y with last:=a} a (bX s x y a).1,false):=by
     unfold kD;dsimp only;rw[if_pos hd]
    rw[e,if_pos ⟨b,rfl⟩];obtain rfl | rfl:a=0∨a=1:=by omega
    ·exact .inr (.inl ⟨b,f,hd,rfl,rfl,rfl,rfl⟩)
    ·exact .inl ⟨rfl,rfl,rfl,Iff.rfl⟩
   ·have e:kD s x y a=({y with last:=a,x:=eF y.x a (bX s x y a).2.1 (bX s x y a).2.2,y:=fW y.y a (bX s x y a).2.1 (bX s x y a).2.2,at_:=a,kind:=(bX s x y a).2.1,id:=(bX s x y a).2.2},true):=by
     unfold kD;dsimp only;rw[if_neg hd]
    rw[e,if_neg aD,if_pos b];dsimp only;unfold pO;obtain rfl | rfl:a=0∨a=1:=by omega
    ·refine .inr (.inr (.inl ⟨b,f,hd,?_,?_⟩))
     ·split<;>rfl
     ·split
      ·exact .inr ⟨_,rfl,rfl,rfl⟩
      ·exact .inl rfl
    ·refine .inl ?_;split
     ·exact⟨rfl,rfl,rfl,⟨fun h=>absurd (show(-1:Int)=0 from h) aC,fun h=>by omega⟩⟩
     ·exact⟨rfl,rfl,rfl,⟨fun h=>absurd (show(1:Int)=0 from h) aC,fun h=>by omega⟩⟩
 ·have b:¬y.at_ < 0:=aA
  rw[if_neg (fun j=>b j.1),if_neg b];unfold pO;split
  ·rw[d,Int.toNat_natCast];obtain rfl | rfl:a=0∨a=1:=by omega
   ·exact .inr (.inr (.inr ⟨rfl,rfl,_,rfl,rfl,rfl⟩))
   ·exact .inl ⟨rfl,rfl,rfl,⟨fun h=>absurd (show(-1:Int)=0 from h) aC,fun h=>by omega⟩⟩
  ·exact .inl ⟨rfl,rfl,rfl,Iff.rfl⟩
theorem Ny.cK(hm:s.made)(hf:mL s y){p:dV}(hg:Ap s P p)(j:P.of s)(m:∀i:Nat,((jS s x)[i]?).getD 0≤0)(h:Ny P p y):Ny P p (eB s x y).1:=by
 rcases aDM (x:=x) hf with⟨k,n,f,c⟩ | ⟨k,n,f,c,e,w,C⟩ | ⟨k,n,f,c,e⟩ | ⟨k,n,E,f,c,e⟩
 ·unfold Ny;rw[k,n,f];rcases h with⟨b,a,d⟩ | ⟨b,a⟩ | ⟨b,a,d⟩
  ·exact .inl ⟨b,fun h=>a (c.1 h),d⟩
  ·exact .inr (.inl ⟨c.2 b,a⟩)
  ·exact .inr (.inr ⟨b,fun h=>a (c.1 h),d⟩)
 ·rcases h with⟨b,a,d,u,z,r,A⟩ | ⟨b,a⟩ | ⟨b,a,d⟩
  ·have t:bX s x y 0=fM s y.x y.y (jS s x) 0 (kA p u):=by
    unfold bX;rw[show jO y 0=y.w0 from rfl,A]
   rw[t] at f e;rcases aBZ hm hg j hf.ax (B:=y.y) d z r m with⟨_,o,D⟩ | ⟨l,_⟩
   ·refine .inr (.inr ⟨c,aA,by rw[w];exact D,?_⟩);rw[e];exact aA8 _ o
   ·rw[l] at f;exact absurd f (hg.goes hm j).kind
  ·omega
  ·omega
 ·rcases h with⟨b,a,d,u,z,r,A⟩ | ⟨b,a⟩ | ⟨b,a,d⟩
  ·have t:bX s x y 0=fM s y.x y.y (jS s x) 0 (kA p u):=by
    unfold bX;rw[show jO y 0=y.w0 from rfl,A]
   rw[t] at f c;rcases aBZ hm hg j hf.ax (B:=y.y) d z r m with⟨l,_⟩ | ⟨l,o⟩
   ·exact absurd l f
   ·rw[l] at c;rcases e with e | ⟨E,e,w,C⟩
    ·exact .inr (.inl ⟨e,by rw[c];exact o⟩)
    ·exact .inr (.inr ⟨w,aA,by rw[c];exact o,by rw[C];exact aA8 _ (.inl rfl)⟩)
  ·omega
  ·omega
 ·rcases h with⟨b,a,_⟩ | ⟨b,a⟩ | ⟨b,a,_⟩
  ·exact absurd k a
  ·exact .inr (.inr ⟨c,aA,by rw[n];exact a,by rw[e];exact aA8 _ (.inl rfl)⟩)
  ·exact absurd k a
theorem fC.wait(h:fC s n m)(hp:m.z.aS=false)(i:Nat):((jS s m.x)[i]?).getD 0≤0:=aIY (fun j=>by
 unfold kS;rw[h.w0 hp j]
 rfl) i
theorem jQ.cK(hm:s.made)(hk:fC s n m)(h:jQ s m.z m.y):jQ s m.z (eB s m.x m.y).1:=by
 obtain⟨P,b⟩:=h.pl;refine⟨h.cl,h.use,h.po,P,b.go,b.fo,b.of,fun f=>?_,fun f=>?_⟩
 ·obtain⟨u,k,l⟩:=b.no f;rcases aDM (x:=m.x) hk.fw with⟨c,i,t,r⟩ | ⟨_,i,_⟩ | ⟨_,i,_⟩ | ⟨c,_⟩
  ·rw[c,t];exact⟨u,fun h=>k (r.1 h),l⟩
  ·omega
  ·omega
  ·exact absurd c k
 ·obtain⟨p,tl,a,d⟩:=b.yes f;refine⟨p,tl,a,?_⟩
  have j:=b.go
  rw[a] at j
  have e:m.z.aS=false:=by
   cases o:m.z.aS with
   | false=>rfl
   | true=>rw[h.po o] at a;cases a
  exact d.cK hm hk.fw j.1 b.of (hk.wait e)
theorem jQ.lV(hm:s.made)(hk:fC s n m)(h:jQ s m.z m.y):ClO s m.x m.y:=by
 intro L b a i d j O k u
 have F:m.y.h0=1:=by
  unfold nK at b;rcases hk.fw.fm.la with C | C<;>rw[C] at b
  ·split at b
   ·cases b
   ·split at b
    ·rename_i w;exact w
    ·cases b
  ·split at b
   ·rename_i w;exact w
   ·split at b
    ·cases b
    ·cases b
 obtain⟨P,e⟩:=h.pl;cases D:m.z.sent with
 | false=>have:=(e.no D).1;omega
 | true =>
  obtain⟨p,tl,c,l⟩:=e.yes D
  have r:=e.go
  rw[c] at r
  have o:m.z.aS=false:=by
   cases H:m.z.aS with
   | false=>rfl
   | true=>rw[h.po H] at c;cases c
  rcases l with⟨_,_,A,M,I,K,J⟩ | ⟨N,_⟩ | ⟨N,_⟩
  ·have G:bX s m.x m.y 0=fM s m.y.x m.y.y (jS s m.x) 0 (kA p M):=by
    unfold bX;rw[show jO m.y 0=m.y.w0 from rfl,J]
   rw[G] at a d;rcases aBZ hm r.1 e.of hk.fw.ax (B:=m.y.y) A I K (hk.wait o) with⟨t,_⟩ | ⟨t,_⟩
   ·rw[t] at a;cases a
   ·rw[t] at a d;dsimp only at a d;rcases r.1 with⟨q,rfl,_⟩ | ⟨q,rfl,U,T,R,E⟩ | ⟨q,rfl,_⟩ | ⟨q,rfl,_⟩ | ⟨q,rfl,_⟩
    ·exact absurd (show(117:Int)=99 from a) aC
    ·have f:q=i:=by
      have:((q:Nat):Int)=(i:Int):=d
      omega
     subst f;exact A.2.1 j (E j O k (aSD u))
    ·exact absurd (show(114:Int)=99 from a) aC
    ·exact absurd (show(111:Int)=99 from a) aC
    ·exfalso
     revert a
     unfold nW oX;cases((s.domains[q]?).map (·.ret)).getD false<;>simp
  ·omega
  ·omega
theorem jQ.adv(h:jQ s z y)(hf:mL s y)(hw:oL s z)(J:z.steps≠[]){j:Nat}:jQ s (fN z y j).1 (fN z y j).2:=by
 obtain⟨P,f⟩:=h.pl;unfold fN;cases D:z.sent with
 | true =>
  rw[if_pos rfl];obtain⟨p,tl,b,B⟩:=f.yes D
  have E:=f.go
  have n:=f.fo
  rw[b] at E n;rcases B with⟨t,u⟩ | ⟨t,u⟩ | ⟨t,u,w,H⟩
  ·have e:jC y 0=none:=by unfold jC;rw[if_pos rfl,if_neg aA]
   rw[e];dsimp only;rw[aAE e];exact h
  ·by_cases x:y.h0=2
   ·exfalso;rcases hf.at_ with m | ⟨a,m,ha,hq1,_⟩
    ·omega
    ·obtain rfl:a=0:=by omega
     have:y.h0=1:=hq1
     omega
   ·have e:jC y 0=none:=by unfold jC;rw[if_pos rfl,if_neg x]
    rw[e];dsimp only;rw[aAE e];exact h
  ·have e:jC y 0=some y.w0:=by unfold jC;rw[if_pos rfl,if_pos t]
   have C:fU y 0={y with h0:=0,w0:=[]}:=by unfold fU;rw[if_pos rfl,if_pos t]
   rw[e,C];dsimp only;rw[Uk H]
   have i:PlT s (gA P p) {z with sent:=false,steps:=z.steps.tail} {y with h0:=0,w0:=[]}:=by
    refine⟨by rw[b];exact E.2,by rw[b];exact n,?_,fun _=>⟨rfl,u,w⟩,fun r=>by cases r⟩;obtain⟨G,F,I⟩:=aGW P p;exact⟨G.trans f.of.d,F.trans f.of.c,I.trans f.of.l⟩
   split
   ·rename_i o
    have A:z.steps.tail=[]:=List.eq_nil_of_length_eq_zero o
    refine⟨h.cl,h.use,fun _=>rfl,gA P p,trivial,?_,i.of,fun _=>i.no rfl,fun r=>by cases r⟩
    have:=i.fo
    dsimp only at this;rw[A] at this;exact this
   ·exact⟨h.cl,h.use,fun m=>by show z.steps.tail=[];rw[h.po m];rfl,gA P p,i⟩
 | false =>
  rw[if_neg aD];cases b:z.steps with
  | nil=>exact absurd b J
  | cons p tl =>
   dsimp only;obtain⟨t,u,w⟩:=f.no D
   have k:fI y 0 (kA p z.many)=(0,{y with h0:=1,w0:=kA p z.many}):=by
    unfold fI;rw[if_neg aC,if_pos rfl,if_neg aA]
   rw[k,if_pos rfl];refine⟨h.cl,h.use,(fun m=>by have:=h.po m;rw[b] at this;cases this),P,?_,?_,f.of,(fun r=>by cases r),fun _=>⟨p,tl,rfl,.inl ⟨rfl,u,w,z.many,hw.many.1,hw.many.2,rfl⟩⟩⟩
   ·have:=f.go
    rw[b] at this;exact this
   ·have:=f.fo
    rw[b] at this;exact this
theorem jQ.same{z':bB}{y':bN}(h:jQ s z y)(e:z'.wn=z.wn)(r:z'.cn=z.cn)(c:z'.steps=z.steps)(k:z'.sent=z.sent)(n:z'.aS=true→z.aS=true∨z.steps=[])(i:y'.x=y.x)(f:y'.h0=y.h0)(o:y'.w0=y.w0)(j:y'.at_=y.at_):jQ s z' y':=by
 obtain⟨P,a⟩:=h.pl;refine⟨by rw[e];exact h.cl,by rw[e,r];exact h.use,fun m=>?_,P,by rw[c];exact a.go,by rw[c,e];exact a.fo,a.of,fun d=>?_,fun d=>?_⟩
 ·rw[c];rcases n m with b | b
  ·exact h.po b
  ·exact b
 ·rw[i,f,j];exact a.no (by rw[←k];exact d)
 ·obtain⟨p,tl,b,l⟩:=a.yes (by rw[←k];exact d);refine⟨p,tl,by rw[c];exact b,?_⟩;unfold Ny at l⊢;rw[i,f,o,j];exact l
theorem jQ.over{z':bB}(h:jQ s z y)(a:z.steps=[])(b:z'.wn=z.wn)(e:z'.cn=z.cn)(d:z'.steps=[])(c:z'.sent=z.sent):jQ s z' y:=
 h.same b e (d.trans a.symm) c (fun _=>.inr a) rfl rfl rfl rfl
theorem jQ.want(hm:s.made){a:bB}(h:jQ s z y)(m:z.steps=[])(hs:z.sent=false)(b:a.wn=z.wn)(e:a.aS=false):jQ s (uB s a) y:=by
 obtain⟨P,f⟩:=h.pl
 have l:P=z.wn:=by
  have:=f.fo
  rw[m] at this;exact this
 subst l
 have c:=aIU hm a
 refine⟨c,⟨fun _ h=>h,fun _ h=>h,fun i d=>aIR a i d⟩,fun k=>?_,z.wn,?_,?_,f.of,fun _=>f.no hs,fun n=>by cases n⟩
 ·have:a.aS=true:=k
  rw[e] at this;cases this
 ·show Zn s z.wn (allM s a.wn (nD s a))
  rw[b];exact aFD _ _ fun t o j=>aR9 hm h.cl c (fun i d=>aIT a (b▸h.cl.of) i (b▸d)) j
 ·show(allM s a.wn (nD s a)).foldl gA z.wn=nD s a
  rw[b];exact aOq h.cl.of c.of
theorem jQ.eff(hm:s.made)(h:jQ s z y)(a:z.steps=[])(hs:z.sent=false)(hp:z.aS=false)(j:Nat)(k:Int):jQ s (mY s x z j k).2.1 y∧(mY s x z j k).2.1.sent=false:=by
 have acc:∀b,jQ s (nY s x z j b).2.1 y∧(nY s x z j b).2.1.sent=false:=fun b=>by
  unfold nY;split
  ·exact⟨h,hs⟩
  ·split
   ·exact⟨h,hs⟩
   ·split
    ·exact⟨h.same rfl rfl rfl rfl (fun _=>.inr a) rfl rfl rfl rfl,hs⟩
    ·exact⟨h,hs⟩
 unfold mY;split
 ·unfold zP;split
  ·exact⟨h,hs⟩
  ·exact⟨h.want hm a hs rfl hp,rfl⟩
 ·split
  ·unfold zG;split
   ·exact⟨h,hs⟩
   ·split
    ·exact⟨h,hs⟩
    ·split
     ·exact⟨h,hs⟩
     ·exact⟨h.want hm a hs rfl hp,rfl⟩
  ·split
   ·exact acc false
   ·split
    ·exact acc true
    ·split
     ·unfold yY;split
      ·exact⟨h,hs⟩
      ·exact⟨h.want hm a hs rfl hp,rfl⟩
     ·unfold zF;split
      ·exact⟨h,hs⟩
      ·exact⟨h.want hm a hs rfl hp,rfl⟩
theorem jQ.begin(hm:s.made)(hw:oL s z)(h:jQ s z y)(l:z.cJ < 0){j:Nat}(hj:T3 j):jQ s (iB s x z j).1 y:=by
 obtain⟨_,n,e,d,b⟩:z.cJ= -1∧(∀j,T3 j→(z.tk j).st≠2)∧z.aS=false∧z.steps=[]∧z.sent=false:=by
  rcases hw.cJ with a | ⟨i,_,a,_⟩
  ·exact a
  ·omega
 have o:RwB s (nJ z j):=by
  have:=hw.toRwB.jB hj (t:={z.tk j with st:=2}) rfl ⟨by show(0:Int)≤2;decide,by show(2:Int)≤3;decide⟩ (hw.val j hj) (fun l=>nN 2 1 l)
  exact⟨this.wn,this.len,this.nn,this.cnt,this.c7,this.call,this.st,this.val,this.many,this.zA⟩
 have c:jQ s (nJ z j) y:=h.same rfl rfl rfl rfl (fun p=>.inl p) rfl rfl rfl rfl
 have k:=aGg hm o x hj (z.tk j).kind
 obtain⟨a,m⟩:=c.eff hm (x:=x) d b e j (z.tk j).kind;unfold iB;dsimp only;generalize mY s x (nJ z j) j (z.tk j).kind=r at k a m;split
 ·rename_i f
  obtain⟨u,_⟩:=k.err f;rw[u];exact c.over d rfl rfl rfl b.symm
 ·split
  ·rename_i w
   exact a.over (List.eq_nil_of_length_eq_zero w.2) rfl rfl rfl m.symm
  ·exact a
theorem aCu(z:bB)(y:bN)(j:Nat):(fN z y j).2.x=y.x∧(fN z y j).2.y=y.y∧(fN z y j).2.at_=y.at_∧(fN z y j).2.kind=y.kind∧(fN z y j).2.id=y.id:=by
 have c:∀a,(fU y a).x=y.x∧(fU y a).y=y.y∧(fU y a).at_=y.at_∧(fU y a).kind=y.kind∧(fU y a).id=y.id:=fun a=>by
  unfold fU
  repeat' split
  all_goals exact⟨rfl,rfl,rfl,rfl,rfl⟩
 have b:∀a l,(fI y a l).2.x=y.x∧(fI y a l).2.y=y.y∧(fI y a l).2.at_=y.at_∧(fI y a l).2.kind=y.kind∧(fI y a l).2.id=y.id:=fun a l=>by
  unfold fI
  repeat' split
  all_goals exact⟨rfl,rfl,rfl,rfl,rfl⟩
 unfold fN;split
 ·split
  ·exact c 0
  ·exact c 0
 ·split
  ·exact⟨rfl,rfl,rfl,rfl,rfl⟩
  ·split
   ·exact b _ _
   ·exact b _ _
theorem aOT(s:aG)(x:aP)(z:bB)(j:Nat)(k:Int):(mY s x z j k).2.2.ck=x.ck∧(mY s x z j k).2.2.dm=x.dm∧(mY s x z j k).2.2.ln=x.ln∧(mY s x z j k).2.2.dv=x.dv:=by
 have acc:∀a,(nY s x z j a).2.2.ck=x.ck∧(nY s x z j a).2.2.dm=x.dm∧(nY s x z j a).2.2.ln=x.ln∧(nY s x z j a).2.2.dv=x.dv:=fun a=>by
  unfold nY
  repeat' split
  all_goals exact⟨rfl,rfl,rfl,rfl⟩
 unfold mY;split
 ·exact⟨rfl,rfl,rfl,rfl⟩
 ·split
  ·exact⟨rfl,rfl,rfl,rfl⟩
  ·split
   ·exact acc false
   ·split
    ·exact acc true
    ·split<;>exact⟨rfl,rfl,rfl,rfl⟩
theorem aGP(s:aG)(x:aP)(z:bB)(j:Nat):(iB s x z j).2.ck=x.ck∧(iB s x z j).2.dm=x.dm∧(iB s x z j).2.ln=x.ln∧(iB s x z j).2.dv=x.dv:=by
 have h:=aOT s x (nJ z j) j (z.tk j).kind
 unfold iB;dsimp only;split
 ·exact h
 ·split<;>exact h
structure iN(s:aG)(n:Nat)(m:eC):Prop where
 ok:fC s n m
 fw:tW s m.y m.x
 rp:jQ s m.z m.y
theorem iN.cK(hm:s.made)(h:iN s n m):iN s n (m.cK s):=⟨h.ok.cK hm,h.fw.step hm h.ok.fw (h.rp.lV hm h.ok),h.rp.cK hm h.ok⟩
theorem iN.start(h:iN s n m)(t k d r v:Int)(b:0≤v∧v < 4294967296):iN s n (m.start t k d r v):=by
 refine⟨h.ok.start t k d r v b,h.fw,?_⟩
 show jQ s (oO m.z t k d r v).2 m.y
 unfold oO
 repeat' split
 all_goals first | exact h.rp | exact h.rp.same rfl rfl rfl rfl (fun a=>.inl a) rfl rfl rfl rfl
theorem iN.done(h:iN s n m)(t:Int):iN s n (m.done t):=by
 refine⟨h.ok.done t,h.fw,?_⟩
 show jQ s (fV m.z t).2 m.y
 unfold fV
 repeat' split
 all_goals first | exact h.rp | exact h.rp.same rfl rfl rfl rfl (fun a=>.inl a) rfl rfl rfl rfl
theorem iN.step(hm:s.made)(h:iN s n m)(t:Int):iN s (n+1) (m.step s t):=by
 have c:=h.ok.step hm t
 refine⟨c,?_,?_⟩
 ·have a:=c.hw
  unfold eC.step kL at a⊢;dsimp only at a⊢;split
  ·exact h.fw
  ·rename_i b
   rw[if_neg b] at a;split
   ·rename_i d
    rw[if_pos d] at a;split
    ·rename_i l
     rw[if_pos l] at a;obtain⟨j,p,o,f⟩:=aGP s m.x m.z t.toNat;exact h.fw.same a j p o f rfl rfl rfl rfl rfl
    ·exact h.fw
   ·split
    ·split
     ·obtain⟨j,p,o,f,w⟩:=aCu m.z m.y t.toNat;exact h.fw.same h.ok.hw rfl rfl rfl rfl j p o f w
     ·exact h.fw
    ·exact h.fw
 ·show jQ s (kL s m.z m.y m.x t).1 (kL s m.z m.y m.x t).2.1
  unfold kL;split
  ·exact h.rp
  ·rename_i b
   have r:T3 t.toNat:=by
    have:bO 3 t=true:=by simpa using b
    have:=of_decide_eq_true this
    unfold T3;omega
   split
   ·split
    ·rename_i l
     exact h.rp.begin hm h.ok.nI l r
    ·exact h.rp
   ·split
    ·rename_i e
     split
     ·rename_i k
      refine h.rp.adv h.ok.fw h.ok.nI ?_;rcases h.ok.nI.cJ with⟨_,d,_⟩ | ⟨i,A,d,B,u⟩
      ·exact absurd e (d _ r)
      ·exact u k
     ·exact h.rp
    ·exact h.rp
theorem jQ.pX(h:jQ s z y)(hs:z.aS=true→z.sent=false)(a:fS):jQ s (pX z a) y:=by
 unfold Go.Proofs.YtmpkkaknjkffpaaGreatDoor.pX;split
 ·exact h
 ·rename_i b
  have b:z.aS=true:=by simpa using b
  split
  ·exact h
  ·split
   ·exact h.over (h.po b) rfl rfl rfl (hs b).symm
   ·exact h.over (h.po b) rfl rfl rfl (hs b).symm
theorem jQ.aKb(h:jQ s z y)(hp:z.steps=[]):z.sent=false:=by
 obtain⟨P,c⟩:=h.pl;cases b:z.sent with
 | false=>rfl
 | true=>
  obtain⟨p,tl,a,_⟩:=c.yes b;rw[hp] at a;cases a
theorem aHM:∀(l:List fS) {z:bB},jQ s z y→jQ s (nA z l) y
 | [],_,h=>h
 | a::l,_,h=>aHM l (h.pX (fun hp=>h.aKb (h.po hp)) a)
theorem iN.tick(hm:s.made)(h:iN s n m)(a:Int):iN s n (m.tick s a):=
 ⟨h.ok.tick hm a,h.fw.tick hm h.ok.hw h.ok.wt a,aHM _ h.rp⟩
section
variable{m':eC}{k e u:Int}
theorem aHi(g:List (List Int))(n:Nat):∀t,wV g ⟨[],false⟩ n t=List.replicate n false
 | 0=>rfl
 | t+1=>by
  unfold wV;rw[if_pos (by show jE [] _≤0;simp[jE])];exact aHi g n t
theorem aD2(s:aG)(n:Nat):eX s (List.replicate n false)=dI s:=by
 have:∀t,jL s (List.replicate n false) t=dI s:=fun t=>by
  induction t with
  | zero=>rfl
  | succ t ih=>rw[Ow (aFA n t),ih]
 exact this _
theorem aKO(hm:s.made):aS6 s (vG s):=by
 have b:eX s (eY s (vG s).z.cn)=dI s:=by
  show eX s (eY s ⟨[],false⟩)=_
  unfold eY Ni;rw[if_neg aD,aHi,aD2]
 have hw:(vG s).z.wn=dI s:=aIQ s
 have a:=aD3 hm (List.replicate s.aH.length false) s.aH.length
 refine⟨fun j c=>by rcases c with rfl | rfl | rfl<;>rfl,rfl,rfl,rfl,rfl,⟨1,0,0,.inr rfl,by rw[hw];rfl⟩,by rw[hw];exact aFn hm,?_,⟨Int.le_refl 0,by show(0:Int) < 1024;decide⟩,by rw[b,hw],by rw[b,hw],fun i h=>by rw[b] at h;rw[hw];exact h⟩;rw[hw,←aD2 s s.aH.length];exact a
end
theorem aDY(y:bN)(l:List Int):(fI y 1 l).2.x=y.x∧(fI y 1 l).2.y=y.y∧(fI y 1 l).2.at_=y.at_∧(fI y 1 l).2.kind=y.kind∧(fI y 1 l).2.id=y.id∧(fI y 1 l).2.h0=y.h0∧(fI y 1 l).2.w0=y.w0:=by
 unfold fI;rw[if_neg aC,if_neg aC];split<;>exact⟨rfl,rfl,rfl,rfl,rfl,rfl,rfl⟩
theorem aEw(y:bN):(fU y 1).x=y.x∧(fU y 1).y=y.y∧(fU y 1).at_=y.at_∧(fU y 1).kind=y.kind∧(fU y 1).id=y.id∧(fU y 1).h0=y.h0∧(fU y 1).w0=y.w0:=by
 unfold fU;rw[if_neg aC,if_pos rfl];split<;>exact⟨rfl,rfl,rfl,rfl,rfl,rfl,rfl⟩
theorem iN.box(h:iN s n m){y':bN}(a:fC s n ⟨m.z,y',m.x⟩)(e:y'.x=m.y.x∧y'.y=m.y.y∧y'.at_=m.y.at_∧y'.kind=m.y.kind∧y'.id=m.y.id∧y'.h0=m.y.h0∧y'.w0=m.y.w0):iN s n ⟨m.z,y',m.x⟩:=by
 obtain⟨c,l,b,i,j,f,k⟩:=e;exact⟨a,h.fw.same h.ok.hw rfl rfl rfl rfl c l b i j,h.rp.same rfl rfl rfl rfl (fun d=>.inl d) c f k b⟩
theorem iN.le{k:Nat}(h:iN s n m)(hk:n≤k):iN s k m:=⟨h.ok.le hk,h.fw,h.rp⟩
theorem aJm(hm:s.made):dU s (dI s) (dI s) none none none (hw0 s):=by
 have a:=aFn hm
 have b:∀i,gW (dI s) (dI s) i=hasB (dI s).d i:=fun i=>by unfold gW;rw[Bool.or_self]
 refine⟨a.ok,a.of,a.of,fun i k e j=>by rw[b];exact a.dom i k e j,fun i d hd f _=>?_,a.iA,a.lV,a.rW,a.kM,fun i p d h hd=>?_⟩
 ·rw[b,aIu] at f;cases f
 ·obtain⟨c,l⟩:=a.mQ i p d h hd;rw[b];refine⟨?_,l⟩;rcases c with c | c | c
  ·exact .inl c
  ·exact .inr (.inl c)
  ·cases c.2
theorem aMT(hm:s.made):iN s 0 (vG s):=by
 have h:=aKO hm
 obtain⟨l,j,f,e,d⟩:=h.y
 have a:(vG s).y.h0=0∧(vG s).y.at_= -1∧(vG s).y.x=(vG s).z.wn:=by rw[d];exact⟨rfl,rfl,rfl⟩
 refine⟨aFe hm,.inl ⟨by rw[a.2.1];decide,aJm hm⟩,h.cl,⟨fun i b=>by rw[h.wd];exact b,fun i b=>by rw[h.wc];exact b,h.wl⟩,fun _=>h.steps,(vG s).z.wn,?_,?_,h.cl.of,fun _=>⟨a.1,by rw[a.2.1];decide,by rw[a.2.2];exact sN.refl _⟩,fun c=>?_⟩
 ·rw[h.steps];exact trivial
 ·rw[h.steps];rfl
 ·rw[h.sent] at c;cases c
theorem Uf(h:iN s n w.m)(t:Int):iN s n (w.end_ t).m:=by
 unfold aU.end_;split<;>exact h.done t
theorem aJk(hm:s.made)(h:iN s n w.m)(t:Int):iN s (n+1) (w.kT s t).m:=by
 unfold aU.kT;split<;>exact h.step hm t
theorem aDD(hm:s.made)(h:iN s n w.m)(t:Int):iN s (n+1) (w.task s t).m:=Uf (aJk hm h t) t
theorem aDC(hm:s.made)(h:iN s n w.m)(d:Int):iN s n (w.tick s d).m:=Uf (Uf (Uf (w:=w.nF s d) (h.tick hm d) 0) 1) 2
theorem aJl(hm:s.made)(h:iN s n w.m){k:Nat}(hw:iE s k w){p:yS}(hp:p.ok):iN s (n+1) (w.kX s p).2.m:=by
 obtain⟨e,hd,f,b⟩:=hp;unfold aU.kX;split
 ·unfold aU.call;dsimp only
  have:=(h.start p.task p.c.k p.c.d p.c.r p.c.v e).le (Nat.le_succ n)
  split<;>exact this
 ·split
  ·exact aDD hm h _
  ·split
   ·exact(h.cK hm).le (Nat.le_succ n)
   ·split
    ·exact(aDC hm h p.Jc).le (Nat.le_succ n)
    ·split
     ·have a:iN s n ⟨w.m.z,(fI w.m.y 1 p.words).2,w.m.x⟩:=h.box (h.ok.Xe (h.ok.fw.send 1 f b)) (aDY _ _)
      unfold aU.send;dsimp only;split<;>exact a.le (Nat.le_succ n)
     ·split
      ·have a:iN s n ⟨w.m.z,fU w.m.y 1,w.m.x⟩:=h.box (h.ok.Xe (h.ok.fw.read 1)) (aEw _)
       show iN s (n+1) w.take.m
       unfold aU.take;split<;>exact a.le (Nat.le_succ n)
      ·exact h.le (Nat.le_succ n)
def eU(k i:Nat):Int:=if i % (k+2) < k then 4294967295 else 0
theorem aMw(i m:Nat)(h:0 < m):(i+1) % m=if i % m+1=m then 0 else i % m+1:=by
 have a:=Nat.div_add_mod i m
 have b:=Nat.mod_lt i h
 split
 ·rename_i e
  have:i+1=m*(i / m+1):=by rw[Nat.mul_add,Nat.mul_one];omega
  rw[this,Nat.mul_mod_right]
 ·have:i+1=m*(i / m)+(i % m+1):=aA
  rw[this,Nat.mul_add_mod,Nat.mod_eq_of_lt aA]
def Xz(s:aG)(x:aP)(d:Int)(i:Nat):Bool:=match s.aH[i]?,x.dv[i]? with
 | some dv,some p=> !decide (dv.domain=d)||(decide (p.2.at_=0)||decide (p.2.at_=2))
 | _,_=>true
def Gm(s:aG)(x:aP)(d:Int)(n:Nat):Bool:=(List.range n).all (Xz s x d)
def qY(s:aG)(k i:Nat)(x:aP)(d:Int):Nat:=if qZ s x d s.aH.length=true then 0 else if i % (k+2)≤k then k - i % (k+2)+2 else if Gm s x d s.aH.length=true then 1 else k+3
theorem aFr(s:aG)(k i:Nat)(x:aP)(d:Int):qY s k i x d≤k+3:=by
 unfold qY
 repeat' split
 all_goals omega
def vE(a:Int)(h:Nat):Nat:=if a=49 then 3+h else if a=99 then 2 else 1
def Ij(y:jX):Nat:=if y.held=true then y.left.toNat+1 else 0
def nu(s:aG)(k i:Nat)(x:aP)(kd id:Int):Nat:=
 if kd=117 then 1+((x.dm[id.toNat]?).map pR).getD 0
 else if kd=99 then 1+((x.ck[id.toNat]?).map fun y=>y.left.toNat).getD 0
 else if kd=114 then 1+((x.ln[id.toNat]?).map Ij).getD 0
 else if kd=100∨kd=107 then((x.dm[id.toNat]?).map fun y=>vE y.phase (qY s k i x id)).getD 1
 else 1
section
variable{x':aP}{kd id:Int}
theorem aMf:1≤nu s k i x kd id:=by
 unfold nu
 repeat' split
 all_goals first | omega | skip
 cases x.dm[id.toNat]? with
 | none=>exact Nat.le_refl 1
 | some y=>
  show 1≤vE y.phase _
  unfold vE
  repeat' split
  all_goals omega
theorem aEG(b:cR s x)(hk:k≤3):nu s k i x kd id≤9:=by
 have e:∀y,x.dm[id.toNat]? =some y→y.left≤3:=fun y a=>(b.dm.left y (List.mem_of_getElem? a)).2
 have c:∀y,x.ck[id.toNat]? =some y→y.left≤3:=fun y a=>(b.ck.left y (List.mem_of_getElem? a)).2
 have d:∀y,x.ln[id.toNat]? =some y→y.left≤3:=fun y a=>(b.ln.left y (List.mem_of_getElem? a)).2
 have f:=aFr s k i x id
 unfold nu;split
 ·cases a:x.dm[id.toNat]? with
  | none=>show 1+0≤_;omega
  | some y=>
   have:=e y a
   show 1+pR y≤_
   unfold pR
   repeat' split
   all_goals omega
 ·split
  ·cases a:x.ck[id.toNat]? with
   | none=>show 1+0≤_;omega
   | some y=>
    have:=c y a
    show 1+y.left.toNat≤_
    omega
  ·split
   ·cases a:x.ln[id.toNat]? with
    | none=>show 1+0≤_;omega
    | some y=>
     have:=d y a
     show 1+Ij y≤_
     unfold Ij;split<;>omega
   ·split
    ·cases a:x.dm[id.toNat]? with
     | none=>show 1≤_;omega
     | some y=>
      show vE y.phase _≤_
      unfold vE
      repeat' split
      all_goals omega
    ·omega
def oK(x x':aP):Prop:=∀i:Nat,(x'.dv[i]?).map (·.2)=(x.dv[i]?).map (·.2)
theorem oK.refl(x:aP):oK x x:=fun _=>rfl
theorem oK.trans{a:aP}(c:oK x x')(b:oK x' a):oK x a:=fun i=>(b i).trans (c i)
theorem oK.of(h:x'.dv=x.dv):oK x x':=fun i=>by rw[h]
theorem oK.at_(h:oK x x'){i:Nat}{p':dB×dN}(hp:x'.dv[i]? =some p'):∃p,x.dv[i]? =some p∧p'.2=p.2:=by
 have:=h i
 rw[hp] at this;cases a:x.dv[i]? with
 | none=>rw[a] at this;cases this
 | some p=>
  rw[a] at this;exact⟨p,rfl,Option.some.inj this⟩
theorem aNl(h:oK x x')(d:Int)(n:Nat):qZ s x' d n=qZ s x d n:=by
 unfold qZ
 congr 1
 funext j
 unfold Ib
 have:=h j
 cases b:x'.dv[j]? with
 | none=>
  cases a:x.dv[j]? with
  | none=>rfl
  | some p=>rw[b,a] at this;cases this
 | some p' =>
  cases a:x.dv[j]? with
  | none=>rw[b,a] at this;cases this
  | some p=>
   rw[b,a] at this
   have e:p'.2=p.2:=Option.some.inj this
   cases s.aH[j]? with
   | none=>rfl
   | some dv=>dsimp only;rw[e]
theorem aQL(h:oK x x')(d:Int)(n:Nat):Gm s x' d n=Gm s x d n:=by
 unfold Gm
 congr 1
 funext j
 unfold Xz
 have:=h j
 cases b:x'.dv[j]? with
 | none=>
  cases a:x.dv[j]? with
  | none=>rfl
  | some p=>rw[b,a] at this;cases this
 | some p' =>
  cases a:x.dv[j]? with
  | none=>rw[b,a] at this;cases this
  | some p=>
   rw[b,a] at this
   have e:p'.2=p.2:=Option.some.inj this
   cases s.aH[j]? with
   | none=>rfl
   | some dv=>dsimp only;rw[e]
theorem aMe(c:x'.ck=x.ck)(b:x'.dm=x.dm)(h3:x'.ln=x.ln)(a:oK x x'):nu s k i x' kd id=nu s k i x kd id:=by
 unfold nu qY;rw[c,b,h3,aNl a,aQL a]
theorem aGJ{D n:Nat}:Gm s x (D:Int) n=true↔∀(i:Nat) (p:dB×dN) (d:cH),i < n→x.dv[i]? =some p→s.aH[i]? =some d→d.domain=(D:Int)→p.2.at_=0∨p.2.at_=2:=by
 unfold Gm;rw[List.all_eq_true];constructor
 ·intro h i p d a c hd b
  have:=h i (List.mem_range.2 a)
  unfold Xz at this;rw[hd,c] at this
  simpa[b] using this
 ·intro h i a
  have a:=List.mem_range.1 a
  unfold Xz;split
  ·rename_i d p hd c
   by_cases b:d.domain=(D:Int)
   ·rcases h i p d a c hd b with e | e<;>simp[e]
   ·simp[b]
  ·rfl
theorem aRs(s:aG)(x:aP)(i:Nat):(eP s x i).1.ck=x.ck∧(eP s x i).1.dm=x.dm∧(eP s x i).1.ln=x.ln∧oK x (eP s x i).1:=by
 unfold eP;split
 ·rename_i t d p _ _ b
  split
  ·refine⟨rfl,rfl,rfl,fun j=>?_⟩
   show((x.dv.set i (vY p t))[j]?).map (·.2)=_
   rw[List.getElem?_set];split
   ·rename_i e
    subst e;rw[b];split
    ·unfold vY;split<;>rfl
    ·rename_i a
     exact absurd (List.getElem?_eq_some_iff.1 b).1 a
   ·rfl
  ·exact⟨rfl,rfl,rfl,oK.refl x⟩
 ·exact⟨rfl,rfl,rfl,oK.refl x⟩
theorem aHa(s:aG)(x:aP):∀n,(eO s x n).1.ck=x.ck∧(eO s x n).1.dm=x.dm∧(eO s x n).1.ln=x.ln∧oK x (eO s x n).1
 | 0=>⟨rfl,rfl,rfl,oK.refl x⟩
 | n+1=>by
  obtain⟨c,b,f,e⟩:=aHa s x n;obtain⟨i,a,d,h⟩:=aRs s (eO s x n).1 n;exact⟨i.trans c,a.trans b,d.trans f,e.trans h⟩
theorem aJp{x:aP}{i k:Nat}{p':dB×dN}(a:∀j,kS x.wt j=0)(hi:i < s.aH.length){n:Nat}(h:(jA s x (eU k n)).dv[i]? =some p'):∃p,x.dv[i]? =some p∧(p.2.at_≠1→p'.2=p.2)∧(p.2.at_=1→k≤n % (k+2)→p'.2.at_=2):=by
 obtain⟨p,c,d,b⟩:=Ui h;refine⟨p,c,d,fun f e=>?_⟩
 have hd:eU k n=0:=if_neg aA
 rw[b hi,a,hd,aPM];unfold sZ;rw[if_neg aA,if_neg aD,if_neg aD]
theorem aNm{D k n:Nat}{e:aP}(C:cR s x)(hp:jU s x D s.aH.length=e.dv∨oK {x with dv:=jU s x D s.aH.length} e)(E:∀j,kS e.wt j=0)(B:qZ s x (D:Int) s.aH.length=false):
  qY s k (n+1) (jA s e (eU k n)) D < qY s k n x D:=by
 have R:oK {x with dv:=jU s x D s.aH.length} e:=by
  rcases hp with hp | hp
  ·exact oK.of hp.symm
  ·exact hp
 have b : ∀ (i : Nat) (l : dB × dN) (d : cH), i < s.aH.length → (jA s e (eU k n)).dv[i]? = some l → s.aH[i]? = some d → d.domain = (D : Int) → ∃ p, x.dv[i]? = some p ∧ (k ≤ n % (k + 2) → (p.2.at_ = 3 → l.2.at_ = 0) ∧ (p.2.at_ ≠ 3 → l.2.at_ = 2)) := fun i l d m c hd r => by
  obtain⟨I,K,w,o⟩:=aJp E m c;obtain⟨V,G,t⟩:=R.at_ K;obtain⟨p,y,h7⟩:=aBv hd G;rw[if_pos (show i < s.aH.length∧d.domain=(D:Int) from⟨m,r⟩)] at h7
  have H:=(C.each i d p hd y).2
  refine⟨p,y,fun J=>⟨fun a=>?_,fun a=>?_⟩⟩
  ·rw[if_pos a] at h7
   have F:I.2.at_=0:=by
    rw[t,h7];unfold mT;rw[if_neg aA]
   rw[w aA];exact F
  ·rw [if_neg a] at h7
   by_cases L:p.2.at_=0
   ·rw[if_pos L] at h7;refine o ?_ J;rw[t,h7];unfold rF;rw[if_neg aA]
   ·rw[if_neg L] at h7
    by_cases A:p.2.at_=1
    ·exact o (by rw[t,h7];exact A) J
    ·have F:I.2.at_=2:=by
      rw[t,h7]
      have:=H.1
      have:=H.2
      omega
     rw[w aA];exact F
 have z:=aMw n (k+2) aA
 have N:=Nat.mod_lt n (show 0 < k+2 by omega)
 have O:=aFr s k (n+1) (jA s e (eU k n)) D
 have f:n % (k+2)≤k→qY s k n x D=k - n % (k+2)+2:=fun h=>by
  unfold qY;rw[B,if_neg aD,if_pos h]
 by_cases K:n % (k+2) < k
 ·
  rw[f aA];rw[if_neg aA] at z;unfold qY;split
  ·omega
  ·rw[if_pos aA,z];omega
 ·by_cases w:n % (k+2)=k
  ·rw[f aA,w];rw[if_neg aA] at z
   have u:Gm s (jA s e (eU k n)) D s.aH.length=true:=aGJ.2 fun i l d m c hd r=>by
    obtain⟨p,_,o⟩:=b i l d m c hd r;obtain⟨G,t⟩:=o aA
    by_cases a:p.2.at_=3
    ·exact .inl (G a)
    ·exact .inr (t a)
   unfold qY;split
   ·omega
   ·rw[if_neg (show ¬(n+1) % (k+2)≤k by omega)]
    first | omega | (rw[if_pos u];omega)
  ·have w:n % (k+2)=k+1:=aA
   rw[if_pos aA] at z
   by_cases u:Gm s x D s.aH.length=true
   ·have T:qZ s (jA s e (eU k n)) D s.aH.length=true:=aEy.2 fun i l d m c hd r=>by
     obtain⟨p,y,o⟩:=b i l d m c hd r
     have:=aGJ.1 u i p d m y hd r
     exact(o aA).2 aA
    have M:qY s k n x D=1:=by
     unfold qY;rw[B,if_neg aD,if_neg aA,if_pos u]
    have U:qY s k (n+1) (jA s e (eU k n)) D=0:=by
     unfold qY;rw[if_pos T]
    omega
   ·have M:qY s k n x D=k+3:=by
     unfold qY;rw[B,if_neg aD,if_neg aA,if_neg u]
    rw[M];unfold qY;split
    ·omega
    ·rw[if_pos aA];omega
end
theorem aD7{y:fH}(h:y.phase=104∨y.phase=114)(hl:0≤y.left):pR (fD y).2 < pR y:=by
 unfold fD;rcases h with h | h
 ·rw[if_neg aA,if_pos h]
  have:pR y=1:=by
   unfold pR;rw[if_neg aA,if_pos h]
  rw[aMn];omega
 ·have a:pR y=2+y.left.toNat:=by
   unfold pR;rw[if_neg aA,if_neg aA,if_pos h]
  rw[if_pos h];split
  ·rw[aEP];omega
  ·rw[aMo];omega
theorem Ai.mu(hm:s.made){d:Nat}(h:Ai s A B d x)(hf:(lE s x d).2=false):∃y u,x.dm[d]? =some y∧(lE s x d).1.dm[d]? =some u∧pR (fD u).2 < pR y:=by
 obtain⟨y,j,H⟩:=h.Dg
 have n:=h.two
 have r:=(List.getElem?_eq_some_iff.1 j).1
 have b:=Qa j
 have E:=n.ok.dm.left y (List.mem_of_getElem? j)
 obtain⟨c,o⟩:=get_some (l:=s.domains) (i:=d) (by have:=n.ok.dm.len;omega)
 have k:y.phase≠49:=fun e=>by
  rw[lE,b,if_neg aA,if_pos e] at hf;cases hf
 by_cases f:y.phase=48∨y.phase=116
 ·have p:(qS s x.dm d).2=x.dm.set d ⟨114,c.delay,decide (y.phase=116),y.keep⟩:=by
   unfold qS;rw[show bO x.dm.length (d:Int)=true from decide_eq_true aA];simp only[Bool.true_eq_false,if_false,Int.toNat_natCast,o,j]
   have I:Dy y=true:=decide_eq_true f
   have C:Eh x.dm c.above=true:=by
    unfold Eh
    have z:=(hm.domains d c o).1
    by_cases D:0≤c.above
    ·have t:c.above.toNat < x.dm.length:=aA
     obtain⟨G,m⟩:=get_some t
     have:=(n.dom _ G m (by simp;omega)).1 (n.nR d c o h.qG D)
     rw[m];simp[this]
    ·rw[show c.above= -1 by omega];rfl
   rw[I,C];simp
  have a:lE s x d=({x with dm:=x.dm.set d ⟨114,c.delay,decide (y.phase=116),y.keep⟩},false):=by
   rw[lE,b,if_pos f,p]
  have w:=(hm.domains d c o).2
  have F:pR y=7:=by
   unfold pR;rw[if_neg k,if_neg aA,if_neg aA]
  refine⟨y,⟨114,c.delay,decide (y.phase=116),y.keep⟩,j,?_,?_⟩
  ·rw[a];exact List.getElem?_set_self r
  ·have:=aD7 (y:=⟨114,c.delay,decide (y.phase=116),y.keep⟩) (.inr rfl) (by show 0≤c.delay;omega)
   rw[aEP] at this;omega
 ·have a:lE s x d=(x,false):=by
   rw[lE,b,if_neg f,if_neg k]
  refine⟨y,y,j,by rw[a];exact j,aD7 aA E.1⟩
theorem aJr{y:fH}(h:y.phase=99):(fD y).2.phase=48∨(fD y).2.phase=116:=by
 unfold fD;rw[if_neg aA,if_neg aA,if_pos h];split
 ·exact .inr rfl
 ·exact .inl rfl
theorem aMm{a:Int}{h:Nat}(hp:a=48∨a=116):vE a h=1:=by
 unfold vE;rw[if_neg aA,if_neg aA]
theorem Ci.mu(hm:s.made){d:Nat}{keep:Bool}(h:Ci s A B d keep x)(hf:(lF s x d keep).2=false):∃y,x.dm[d]? =some y∧
  ((y.phase=49∧qZ s x (d:Int) s.aH.length=false∧(lF s x d keep).1={x with dv:=jU s x (d:Int) s.aH.length})∨∃r,(lF s x d keep).1.dm[d]? =some r∧r.phase=99∧(y.phase=49∨y.phase=99)):=by
 obtain⟨y,f,o⟩:=h.Dg
 have u:=h.two
 have n:=(List.getElem?_eq_some_iff.1 f).1
 have a:=Qa f
 obtain⟨c,w⟩:=get_some (l:=s.domains) (i:=d) (by have:=u.ok.dm.len;omega);refine⟨y,f,?_⟩;rcases o with b | ⟨Qu,hs⟩
 ·cases t:qZ s x (d:Int) s.aH.length
  ·refine .inl ⟨b,rfl,?_⟩;unfold lF;rw[a,if_pos b,t];simp
  ·have e:(sB s x.dm (d:Int) keep).2=x.dm.set d ⟨99,y.left,y.kept,keep⟩:=by
    unfold sB;rw[show bO x.dm.length (d:Int)=true from decide_eq_true aA];simp only[Bool.true_eq_false,if_false,Int.toNat_natCast,w,f];rw[if_neg aA,if_neg (fun p=>by have:=h.ret p.1 c w;rw[this] at p;simp at p),u.aEI hm h.low];simp
   refine .inr ⟨⟨99,y.left,y.kept,keep⟩,?_,rfl,.inl b⟩
   have m:(lF s x (d:Int) keep).1.dm=x.dm.set d ⟨99,y.left,y.kept,keep⟩:=by
    unfold lF;rw[a,if_pos b,t,e];simp
   rw[m];exact List.getElem?_set_self n
 ·by_cases j:y.phase=99
  ·have m:lF s x (d:Int) keep=(x,false):=by
    unfold lF;rw[a,if_neg aA,if_neg aA]
   exact .inr ⟨y,by rw[m];exact f,j,.inr j⟩
  ·have k:y.phase=48∨y.phase=116:=aA
   exfalso;unfold lF at hf;rw[a,if_neg aA,if_pos k] at hf;cases hf
theorem aQo(hm:s.made)(D:cR s x){n:Nat}(R:n < s.aJ.length)(hf:(pE s x n).2=false):∃y c,x.ck[n]? =some y∧s.aJ[n]? =some c∧(pE s x n).1.ck[n]? =some ⟨true,y.left⟩∧c.kind=112∧0 < y.left∧runs s (pE s x n).1.ck (Fh c)=true:=by
 obtain⟨c,p⟩:=get_some R;obtain⟨y,o⟩:=get_some (l:=x.ck) (i:=n) (by have:=D.ck.len;omega)
 have M:=(List.getElem?_eq_some_iff.1 o).1
 have V:=D.ck.left y (List.mem_of_getElem? o)
 have hf:(oG s (gL s x.ck n true).2 n||(decide ((eW s n).length < 2)|| !oG s (gL s x.ck n true).2 ((eW s n).getD 1 0:Nat)))=false:=hf
 simp only[Bool.or_eq_false_iff,decide_eq_false_iff_not,Bool.not_eq_false'] at hf;obtain⟨t,N,G⟩:=hf
 have d:=Jf hm.aJ p
 show ∃y c,x.ck[n]? =some y∧s.aJ[n]? =some c∧(gL s x.ck n true).2[n]? =some ⟨true,y.left⟩∧c.kind=112∧0 < y.left∧runs s (gL s x.ck n true).2 (Fh c)=true
 refine⟨y,c,o,p,?_⟩;cases b:c.src with
 | nil=>
  rw[b] at d;rw[d] at N;exact absurd aD N
 | cons f fs =>
  rw[b] at d;dsimp only at d
  have m:bO s.aJ.length (n:Int)=true:=decide_eq_true aA
  have w:runs s (gL s x.ck n true).2 f.toNat=true:=by
   by_cases C:f.toNat < s.aJ.length
   ·obtain⟨X,K⟩:=get_some C
    have z:=Jf hm.aJ K
    have T:(eW s n).getD 1 0=f.toNat:=by
     rw[d,z];rfl
    rw[T] at G;unfold oG at G;simp only[Bool.and_eq_true,Int.toNat_natCast] at G;exact G.2
   ·exfalso;refine N ?_
    have:eW s f.toNat=[]:=by
     cases U:eW s f.toNat with
     | nil=>rfl
     | cons a r=>
      have F:=(hm.aJ n c p).1
      exfalso
      have L:f∈c.src:=by rw[b];simp
      have:=F f L
      omega
    rw[d,this];simp
  have e:∀J,(gL s x.ck n true).2[n]? =some J→pQ c J=false:=fun J e=>by
   unfold oG at t;rw[m,Bool.true_and,Int.toNat_natCast,aA4 hm.aJ p e,b] at t;dsimp only at t;rw[w,Bool.and_true] at t;exact t
  by_cases E:c.kind≠112∧c.kind≠103
  ·exfalso
   have k:(gL s x.ck n true).2=x.ck:=by
    unfold gL;rw[m];simp only[Bool.true_eq_false,if_false,Int.toNat_natCast,p,o];rw[if_pos E]
   have:=e y (by rw[k];exact o)
   unfold pQ at this;rw[if_neg E.1,if_neg E.2] at this;cases this
  ·have k:(gL s x.ck n true).2=x.ck.set n ⟨true,y.left⟩:=by
    unfold gL;rw[m];simp only[Bool.true_eq_false,if_false,Int.toNat_natCast,p,o];rw[if_neg E];simp[Fs]
   have B:(gL s x.ck n true).2[n]? =some ⟨true,y.left⟩:=by
    rw[k];exact List.getElem?_set_self M
   have A:=e _ B
   unfold pQ at A
   have j:c.kind=112:=Classical.byContradiction fun h=>by
    rw[if_neg h,if_pos (Classical.byContradiction fun O=>E ⟨h,O⟩)] at A;cases A
   rw[if_pos j] at A
   have C:y.left≠0:=by simpa using A
   refine⟨B,j,aA,?_⟩
   have H:Fh c=f.toNat:=by
    unfold Fh;rw[b];rfl
   rw[H];exact w
theorem aMV{l:Int}(h:0≤l):Ij (lP ⟨l,true,true⟩) < l.toNat+1:=by
 unfold lP;rw[if_neg aD];split<;>rename_i a<;>dsimp only at a
 ·show(l - 1).toNat+1 < _
  omega
 ·rw[if_pos rfl]
  show 0 < _
  omega
theorem aMW(j:cR s x){n:Nat}(k:n < s.bA.length)(hf:(qH x n).2=false):∃y,x.ln[n]? =some y∧y.held=true∧(qH x n).1.ln[n]? =some ⟨y.left,true,true⟩:=by
 obtain⟨y,e⟩:=get_some (l:=x.ln) (i:=n) (by have:=j.ln.len;omega)
 have h:=(List.getElem?_eq_some_iff.1 e).1
 have c:bO x.ln.length (n:Int)=true:=decide_eq_true aA
 have a:zN x.ln n=y.held:=by
  unfold zN;rw[c,Int.toNat_natCast,e];rfl
 cases f:y.held
 ·exfalso;unfold qH at hf;rw[a,f] at hf;cases hf
 ·refine⟨y,e,f,?_⟩
  have d:(rU x.ln n).2=x.ln.set n ⟨y.left,true,true⟩:=by
   unfold rU;rw[c];simp only[Bool.true_eq_false,if_false,Int.toNat_natCast,e,f]
  have b:qH x n=({x with ln:=x.ln.set n ⟨y.left,true,true⟩},false):=by
   rw[qH,a,f,if_pos rfl,d]
  rw[b];exact List.getElem?_set_self h
theorem aMd(hm:s.made){a:Nat}{kd id:Int}(h:tP s A B a kd id x)(Z:kd=99→id < (s.aJ.length:Int))(hl:kd=114→id < (s.bA.length:Int))(hf:(fX s x kd id).2=false){c:aP}(I:c.ck=(fX s x kd id).1.ck)(c2:c.dm=(fX s x kd id).1.dm)(K:c.ln=(fX s x kd id).1.ln)(L:oK (fX s x kd id).1 c)(O:∀j,kS c.wt j=0):
  nu s k (i+1) (jA s c (eU k i)) kd id < nu s k i x kd id:=by
 have l:=h.ok
 obtain⟨n,rfl,h⟩:=h
 have up:(∃y m,x.dm[n]? =some y∧(lE s x n).1.dm[n]? =some m∧pR (fD m).2 < pR y)→fX s x 117 n=lE s x n→kd=117→nu s k (i+1) (jA s c (eU k i)) kd n < nu s k i x kd n:=fun⟨y,m,u,o,H⟩ e F=>by
  subst F;rw[e] at c2
  have r:(jA s c (eU k i)).dm[n]? =some (fD m).2:=Sb (by rw[c2];exact o)
  unfold nu;rw[if_pos rfl,if_pos rfl,Int.toNat_natCast,r,u]
  show 1+pR (fD m).2 < 1+pR y
  omega
 have D:fX s x 99 n=pE s x n→kd=99→nu s k (i+1) (jA s c (eU k i)) kd n < nu s k i x kd n:=fun e F=>by
  subst F;rw[e] at I hf;obtain⟨y,ck,u,o,H,r,X,V⟩:=aQo hm l (by have:=Z rfl;omega) hf
  have h7:(jA s c (eU k i)).ck[n]? =some ⟨true,y.left - 1⟩:=by
   show(lD s c.ck)[n]? =_
   rw[I,aJx o H];unfold uC;rw[if_pos ⟨r,rfl⟩,V,if_neg aD,if_pos X]
  unfold nu;rw[if_neg aC,if_pos rfl,if_neg aC,if_pos rfl,Int.toNat_natCast,h7,u]
  show 1+(y.left - 1).toNat < 1+y.left.toNat
  omega
 have w:fX s x 114 n=qH x n→kd=114→nu s k (i+1) (jA s c (eU k i)) kd n < nu s k i x kd n:=fun e F=>by
  subst F;rw[e] at K hf;obtain⟨y,u,o,H⟩:=aMW l (by have:=hl rfl;omega) hf
  have J:=l.ln.left y (List.mem_of_getElem? u)
  have h7:(jA s c (eU k i)).ln[n]? =some (lP ⟨y.left,true,true⟩):=by
   show(yX c.ln)[n]? =_
   rw[K,yX,List.getElem?_map,H];rfl
  have h8:=aMV J.1
  have h9:Ij y=y.left.toNat+1:=if_pos o
  unfold nu;rw[if_neg aC,if_neg aC,if_pos rfl,if_neg aC,if_neg aC,if_pos rfl,Int.toNat_natCast,h7,u]
  show 1+Ij (lP ⟨y.left,true,true⟩) < 1+Ij y
  omega
 rcases h with⟨b,p,h⟩ | ⟨b,h⟩ | ⟨b,p,h⟩ | ⟨b,p,h⟩ | ⟨b,p,h⟩ | ⟨b,p,h⟩ | ⟨b,p,h⟩ | ⟨b,p,h⟩ | ⟨b,p,T,h⟩
 ·subst b;exact up (h.mu hm hf) rfl rfl
 ·have e:fX s x kd n=lF s x n (decide (kd=107)):=by
   unfold fX;rw[if_neg aA,if_neg aA,if_neg aA,if_pos b]
  rw[e] at hf I c2 K L;obtain⟨y,R,t⟩:=h.mu hm hf
  have G:∀(j:Nat) (z:aP),nu s k j z kd n=((z.dm[n]?).map fun y=>vE y.phase (qY s k j z n)).getD 1:=fun j z=>by
   unfold nu;rw[if_neg aA,if_neg aA,if_neg aA,if_pos b,Int.toNat_natCast]
  rw[G,G,R];rcases t with⟨C,U,Y⟩ | ⟨m,N,M,f⟩
  ·rw[Y] at c2 L
   have r:(jA s c (eU k i)).dm[n]? =some y:=by
    have:(jA s c (eU k i)).dm[n]? =some (fD y).2:=Sb (by rw[c2];exact R)
    rw[this];unfold fD;rw[if_neg aA,if_neg aA,if_neg aA]
   rw[r]
   have E:=aNm (k:=k) (n:=i) l (.inr L) O U
   show vE y.phase _ < vE y.phase _
   unfold vE;rw[if_pos C,if_pos C];omega
  ·have r:(jA s c (eU k i)).dm[n]? =some (fD m).2:=Sb (by rw[c2];exact N)
   rw[r]
   show vE (fD m).2.phase _ < vE y.phase _
   rw[aMm (aJr M)];unfold vE;rcases f with f | f
   ·rw[if_pos f];omega
   ·rw[if_neg aA,if_pos f];omega
 ·subst b;exact D (by show pE s x (n:Int).toNat=_;rw[Int.toNat_natCast]) rfl
 ·subst b;exact D (by show pE s x (n:Int).toNat=_;rw[Int.toNat_natCast]) rfl
 ·subst b;exact w rfl rfl
 ·subst b;exact w rfl rfl
 ·subst b;cases hf
 ·subst b;cases hf
 ·subst b
  have E:n < s.domains.length:=by
   have:=Bl T
   rw[h.mR.d] at this;exact this
  obtain⟨_,o⟩:=h.upA E (by unfold gW;rw[T,Bool.true_or])
  have hf:(lE s x n).2=false:=hf
  rw[o] at hf;cases hf
def oQ(L:Nat)(st:Int):Nat:=if st=1 then L*16+5 else if st=2 then 3 else 0
def jT(z:bB)(y:bN):Nat:=if z.steps.length=0 then 0 else(z.steps.length - 1)*16+(if z.sent=false then 15 else if y.at_=0 then 2 else if y.h0=1 then 13 else 1)
def lJ(y:bN):Nat:=if y.h1=1∧y.at_≠1 then 13 else 0
def mV(s:aG)(k i:Nat)(m:eC):Nat:=if 0≤m.y.at_ then nu s k i m.x m.y.kind m.y.id else 0
def yW(L:Nat)(z:bB):Nat:=oQ L (z.tk 0).st+(oQ L (z.tk 1).st+oQ L (z.tk 2).st)
def jN(s:aG)(L k i:Nat)(m:eC):Nat:=yW L m.z+(jT m.z m.y+(lJ m.y+mV s k i m))
structure nP(s:aG)(L:Nat)(m:eC):Prop where
 len:m.z.steps.length≤L
 kM:0≤m.y.at_→m.y.kind=114→m.y.id < (s.bA.length:Int)
theorem Ug{L:Nat}{z z':bB}{j:Nat}(hj:T3 j)(h:∀i,T3 i→i≠j→(z'.tk i).st=(z.tk i).st):yW L z'+oQ L (z.tk j).st=yW L z+oQ L (z'.tk j).st:=by
 unfold yW;rcases hj with rfl | rfl | rfl
 ·rw[h 1 (.inr (.inl rfl)) aC,h 2 (.inr (.inr rfl)) aC];omega
 ·rw[h 0 (.inl rfl) aC,h 2 (.inr (.inr rfl)) aC];omega
 ·rw[h 0 (.inl rfl) aC,h 1 (.inr (.inl rfl)) aC];omega
theorem aAw(z:bB)(y:bN):jT z y≤z.steps.length*16:=by
 unfold jT;split
 ·omega
 ·rename_i h
  obtain⟨n,a⟩:=Nat.exists_eq_succ_of_ne_zero h;rw[a]
  repeat' split
  all_goals omega
theorem aKf(s:aG)(x:aP)(z:bB)(j:Nat):nu s k i (iB s x z j).2=nu s k i x:=by
 obtain⟨c,d,b,a⟩:=aGP s x z j
 funext kd id
 exact aMe c d b (oK.of a)
theorem aOX(hL:∀P W,(allM s P W).length≤L){z:bB}(a:z.steps.length≤L)(x:aP)(j:Nat)(kd:Int):(mY s x z j kd).2.1.steps.length≤L:=by
 have acc:∀b,(nY s x z j b).2.1.steps.length≤L:=fun b=>by
  unfold nY
  repeat' split
  all_goals exact a
 unfold mY;split
 ·unfold zP;split
  ·exact a
  ·exact hL _ _
 ·split
  ·unfold zG;split
   ·exact a
   ·split
    ·exact a
    ·split
     ·exact a
     ·exact hL _ _
  ·split
   ·exact acc false
   ·split
    ·exact acc true
    ·split
     ·unfold yY;split
      ·exact a
      ·exact hL _ _
     ·unfold zF;split
      ·exact a
      ·exact hL _ _
theorem aGQ(hL:∀P W,(allM s P W).length≤L){z:bB}(b:z.steps.length≤L)(x:aP)(j:Nat):(iB s x z j).1.steps.length≤L:=by
 have a:=aOX hL (z:=nJ z j) b x j (z.tk j).kind
 unfold iB;dsimp only;split
 ·exact Nat.zero_le _
 ·split
  ·exact Nat.zero_le _
  ·exact a
theorem aL1(hm:s.made)(h:iN s n m)(hE:nP s L m)(hL:∀P W,(allM s P W).length≤L){j:Nat}(hj:T3 j)(h3:(m.z.tk j).st≠3):
  (m.step s j=m∧((m.z.tk j).st=1→0≤m.z.cJ)∧((m.z.tk j).st=2→m.z.aS=true∨(m.z.sent=true∧m.y.h0≠2)))∨jN s L k i (m.step s j) < jN s L k i m:=by
 have l:¬bO 3 (j:Int)=false:=by rcases hj with rfl | rfl | rfl<;>decide
 have hst:=h.ok.nI.st j hj
 by_cases o:(m.z.tk j).st=1
 ·by_cases hh:m.z.cJ < 0
  ·right
   have F:m.step s j=⟨(iB s m.x m.z j).1,m.y,(iB s m.x m.z j).2⟩:=by
    unfold eC.step kL;rw[if_neg l,Int.toNat_natCast,if_pos o,if_pos hh]
   obtain⟨O,V⟩:=aFI (s:=s) (x:=m.x) (z:=m.z) hj
   have I:m.z.steps=[]:=by
    rcases h.ok.nI.cJ with⟨_,_,_,e,_⟩ | ⟨q,_,e,_⟩
    ·exact e
    ·omega
   have Y:=aGQ hL (z:=m.z) (by rw[I];exact Nat.zero_le _) m.x j
   have hsp:=aAw (iB s m.x m.z j).1 m.y
   have A:=Ug (L:=L) hj (fun q w f=>(O q w).2.2.2.2 f)
   have U:mV s k i ⟨(iB s m.x m.z j).1,m.y,(iB s m.x m.z j).2⟩=mV s k i m:=by
    unfold mV;dsimp only;rw[aKf]
   have R:oQ L (m.z.tk j).st=L*16+5:=if_pos o
   have B:oQ L ((iB s m.x m.z j).1.tk j).st≤3:=by
    unfold oQ;rcases V with e | e<;>(rw[e];simp)
   rw[F];unfold jN;rw[U];dsimp only;omega
  ·left;refine⟨?_,fun _=>by omega,fun u=>by omega⟩;unfold eC.step kL;rw[if_neg l,Int.toNat_natCast,if_pos o,if_neg hh]
 ·by_cases u:(m.z.tk j).st=2
  ·cases T:m.z.aS with
   | true=>
    left;refine⟨?_,fun e=>absurd e o,fun _=>.inl rfl⟩;unfold eC.step kL;rw[if_neg l,Int.toNat_natCast,if_neg o,if_pos u,if_neg (by rw[T];simp)]
   | false =>
    have F:m.step s j=⟨(fN m.z m.y j).1,(fN m.z m.y j).2,m.x⟩:=by
     unfold eC.step kL;rw[if_neg l,Int.toNat_natCast,if_neg o,if_pos u,if_pos T]
    obtain⟨P,D⟩:=h.rp.pl
    have f:m.z.steps≠[]:=by
     rcases h.ok.nI.cJ with⟨_,J,_⟩ | ⟨q,_,_,_,e⟩
     ·exact absurd u (J j hj)
     ·exact e T
    obtain⟨p,tl,b⟩:∃p tl,m.z.steps=p::tl:=by
     cases w:m.z.steps with
     | nil=>exact absurd w f
     | cons p tl=>exact⟨p,tl,rfl⟩
    obtain⟨O,V⟩:=aFJ (y:=m.y) (z:=m.z) hj u
    have A:=Ug (L:=L) hj (fun q w f=>(O q w).2.2.2.2 f)
    have R:oQ L (m.z.tk j).st=3:=by
     unfold oQ;rw[if_neg o,if_pos u]
    have B:oQ L ((fN m.z m.y j).1.tk j).st≤3:=by
     unfold oQ;rcases V with e | e<;>(rw[e];simp)
    obtain⟨y1,y2,y3,y4,y5⟩:=aCu m.z m.y j;cases d:m.z.sent with
    | false =>
     right;obtain⟨p1,p2,_⟩:=D.no d
     have c:fN m.z m.y j=({m.z with sent:=true,many:=(m.z.many+1) % 1024},{m.y with h0:=1,w0:=kA p m.z.many}):=by
      unfold fN;rw[if_neg (by rw[d];simp),b];dsimp only
      have C:fI m.y 0 (kA p m.z.many)=(0,{m.y with h0:=1,w0:=kA p m.z.many}):=by
       unfold fI;rw[if_neg aC,if_pos rfl,if_neg aA]
      rw[C,if_pos rfl,←b]
     rw[c] at A B;dsimp only at A B;rw[F,c]
     have M:jT m.z m.y=tl.length*16+15:=by
      unfold jT;rw[b,if_neg aD,d,if_pos rfl];simp
     have G:jT {m.z with sent:=true,many:=(m.z.many+1) % 1024} {m.y with h0:=1,w0:=kA p m.z.many}=tl.length*16+13:=by
      unfold jT;dsimp only;rw[b,if_neg aD,if_neg aD,if_neg p2,if_pos rfl];simp
     have X:mV s k i ⟨{m.z with sent:=true,many:=(m.z.many+1) % 1024},{m.y with h0:=1,w0:=kA p m.z.many},m.x⟩=mV s k i m:=rfl
     have K:lJ {m.y with h0:=1,w0:=kA p m.z.many}=lJ m.y:=rfl
     unfold jN;rw[X];dsimp only;rw[M,G,K];omega
    | true =>
     by_cases r:m.y.h0=2
     ·right;obtain⟨p',tl',Z,N⟩:=D.yes d
      have E:m.y.at_≠0∧xR m.y.w0:=by
       rcases N with⟨e,_⟩ | ⟨e,_⟩ | ⟨_,e,_,G⟩
       ·omega
       ·exfalso;rcases h.ok.fw.at_ with w | ⟨a,w,ha,hq1,_⟩
        ·omega
        ·obtain rfl:a=0:=by omega
         have:m.y.h0=1:=hq1
         omega
       ·exact⟨e,G⟩
      have t:jC m.y 0=some m.y.w0:=by unfold jC;rw[if_pos rfl,if_pos r]
      have H:fU m.y 0={m.y with h0:=0,w0:=[]}:=by unfold fU;rw[if_pos rfl,if_pos r]
      have c:fN m.z m.y j=(if({m.z with sent:=false,steps:=m.z.steps.tail}:bB).steps.length=0 then mX {m.z with sent:=false,steps:=m.z.steps.tail} j 0 0 else {m.z with sent:=false,steps:=m.z.steps.tail},{m.y with h0:=0,w0:=[]}):=by
       unfold fN;rw[if_pos d,t,H];dsimp only;rw[Uk E.2]
      have M:jT m.z m.y=tl.length*16+1:=by
       unfold jT;rw[b,if_neg aD,if_neg (by rw[d];simp),if_neg E.1,if_neg aA];simp
      have G:jT (fN m.z m.y j).1 (fN m.z m.y j).2≤tl.length*16:=by
       have hle:=aAw (fN m.z m.y j).1 (fN m.z m.y j).2
       have:(fN m.z m.y j).1.steps.length≤tl.length:=by
        rw[c];dsimp only;rw[b];split
        ·exact Nat.zero_le _
        ·exact Nat.le_refl _
       omega
      have K:lJ (fN m.z m.y j).2=lJ m.y:=by rw[c];rfl
      have X:mV s k i ⟨(fN m.z m.y j).1,(fN m.z m.y j).2,m.x⟩=mV s k i m:=by
       unfold mV;dsimp only;rw[y3,y4,y5]
      rw[F];unfold jN;rw[X];dsimp only;rw[M,K];omega
     ·left
      have t:jC m.y 0=none:=by unfold jC;rw[if_pos rfl,if_neg r]
      refine⟨?_,fun e=>absurd e o,fun _=>.inr ⟨rfl,r⟩⟩;rw[F];unfold fN;rw[if_pos d,t];dsimp only;rw[aAE t]
  ·left;refine⟨?_,fun e=>absurd e o,fun e=>absurd e u⟩;unfold eC.step kL;rw[if_neg l,Int.toNat_natCast,if_neg o,if_neg u]
theorem Vl(t:Int):jN s L k i (m.done t)=jN s L k i m:=by
 by_cases a:bO 3 t=false
 ·have:m.done t=m:=by
   unfold eC.done fV;rw[if_pos a]
  rw[this]
 obtain⟨j,rfl,e⟩:=vI (t:=t) (by cases l:bO 3 t with | true=>rfl | false=>exact absurd l a)
 by_cases c:(m.z.tk j).st=3
 ·have b:=fun {i} hi=>aGl (z:=m.z) e (i:=i) hi c
  have o:yW L (m.done j).z=yW L m.z:=by
   have:=Ug (L:=L) (z:=m.z) (z':=(m.done j).z) e (fun q n d=>by
    show((fV m.z j).2.tk q).st=_
    rw[b n,if_neg d])
   have h:oQ L (m.z.tk j).st=0:=by unfold oQ;rw[c];rfl
   have p:oQ L ((m.done j).z.tk j).st=0:=by
    show oQ L ((fV m.z j).2.tk j).st=0
    rw[b e,if_pos rfl];rfl
   omega
  have f:(m.done j).z.steps=m.z.steps∧(m.done j).z.sent=m.z.sent:=by
   show(fV m.z j).2.steps=m.z.steps∧(fV m.z j).2.sent=m.z.sent
   unfold fV
   repeat' split
   all_goals exact⟨rfl,rfl⟩
  unfold jN;rw[o]
  have h:jT (m.done j).z (m.done j).y=jT m.z m.y:=by
   unfold jT;rw[f.1,f.2];rfl
  rw[h];rfl
 ·have:m.done j=m:=by
   unfold eC.done;rw[Xo c]
  rw[this]
inductive Jo (s:aG) (x:aP) (y:bN):bN→aP→Prop
 | idle:y.at_ < 0→y.h0≠1→y.h1≠1→Jo s x y y x
 | said (a:Nat) (y':bN):a < 2→y.at_ < 0→kB y a=1→y'.at_=y.at_→kB y' a=2→(∀b,b < 2→b≠a→kB y' b=kB y b)→Jo s x y y' x
 | aDF (a:Nat) (y':bN) (x':aP):a < 2→y.at_ < 0→kB y a=1→y'.at_=(a:Int)→(∀b,kB y' b=kB y b)→Jo s x y y' x'
 | aDE (a:Nat) (y':bN) (x':aP):a < 2→y.at_ < 0→kB y a=1→y'.at_= -1→kB y' a=2→(∀b,b < 2→b≠a→kB y' b=kB y b)→Jo s x y y' x'
 | work (a:Nat):a < 2→y.at_=(a:Int)→(fX s x y.kind y.id).2=false→Jo s x y y (fX s x y.kind y.id).1
 | over (a:Nat) (y':bN) (x':aP):a < 2→y.at_=(a:Int)→y'.at_= -1→kB y' a=2→(∀b,b < 2→b≠a→kB y' b=kB y b)→Jo s x y y' x'
theorem aAD(s:aG)(x:aP)(y:bN){a:Nat}(e:a < 2)(st:Int):kB (mP s x y a st) a=2∧∀b,b < 2→b≠a→kB (mP s x y a st) b=kB y b:=by
 unfold mP Vj;obtain rfl | rfl:a=0∨a=1:=by omega
 ·refine⟨rfl,fun b d c=>?_⟩;obtain rfl:b=1:=by omega
  rfl
 ·refine⟨rfl,fun b d c=>?_⟩;obtain rfl:b=0:=by omega
  rfl
theorem aJB{x:aP}{y:bN}(hf:mL s y):Jo s x y (eB s x y).1 (eB s x y).2:=by
 rcases hf.at_ with f | ⟨a,f,i,_⟩
 ·have c:y.at_ < 0:=aA
  cases d:nK y with
  | none =>
   have u:iP s x y=(y,false):=by unfold iP;rw[d]
   have k:eB s x y=(y,x):=by
    unfold eB;dsimp only;rw[u,if_pos ⟨c,rfl⟩]
   rw[k]
   have m:y.h0≠1∧y.h1≠1:=by
    unfold nK at d;rcases hf.fm.la with h | h<;>rw[h] at d<;>simp[kB] at d<;>by_cases p:y.h0=1<;>by_cases q:y.h1=1<;>simp[p,q] at d⊢
   exact .idle c m.1 m.2
  | some a =>
   have i:=La hf.fm.la d
   have l:kB y a=1:=by
    unfold nK at d;split at d
    ·cases d;assumption
    ·split at d
     ·cases d;assumption
     ·cases d
   have u:iP s x y=kD s x y a:=by unfold iP;rw[d]
   by_cases hd:(bX s x y a).2.1=0
   ·have e:kD s x y a=(mP s x {y with last:=a} a (bX s x y a).1,false):=by
     unfold kD;dsimp only;rw[if_pos hd]
    have k:eB s x y=(mP s x {y with last:=a} a (bX s x y a).1,x):=by
     unfold eB;dsimp only;rw[u,e,if_pos ⟨c,rfl⟩]
    rw[k];obtain⟨n,o⟩:=aAD s x {y with last:=(a:Int)} i (bX s x y a).1;exact .said a _ i c l (Ia s x {y with last:=(a:Int)} a _).2.2.1 n o
   ·have e:kD s x y a=({y with last:=a,x:=eF y.x a (bX s x y a).2.1 (bX s x y a).2.2,y:=fW y.y a (bX s x y a).2.1 (bX s x y a).2.2,at_:=a,kind:=(bX s x y a).2.1,id:=(bX s x y a).2.2},true):=by
     unfold kD;dsimp only;rw[if_neg hd]
    generalize r:({y with last:=a,x:=eF y.x a (bX s x y a).2.1 (bX s x y a).2.2,y:=fW y.y a (bX s x y a).2.1 (bX s x y a).2.2,at_:=a,kind:=(bX s x y a).2.1,id:=(bX s x y a).2.2}:bN)=y1 at e
    have j:y1.at_=(a:Int):=by rw[←r]
    have t:∀b,kB y1 b=kB y b:=fun b=>by rw[←r];rfl
    have k:eB s x y=(pO s y1 (fX s x y1.kind y1.id),(fX s x y1.kind y1.id).1):=by
     unfold eB;dsimp only;rw[u,e,if_neg aD,if_pos c]
    rw[k];unfold pO;cases z:(fX s x y1.kind y1.id).2
    ·rw[if_neg aD];exact .aDF a _ _ i c l j t
    ·rw[if_pos rfl,j,Int.toNat_natCast];obtain⟨n,o⟩:=aAD s (fX s x y1.kind y1.id).1 {y1 with at_:= -1} i 0;exact .aDE a _ _ i c l (Ia s _ {y1 with at_:= -1} a _).2.2.1 n fun b A w=>(o b A w).trans (t b)
 ·have c:¬y.at_ < 0:=aA
  have k:eB s x y=(pO s y (fX s x y.kind y.id),(fX s x y.kind y.id).1):=by
   unfold eB;dsimp only;rw[if_neg (fun B=>c B.1),if_neg c]
  rw[k];unfold pO;cases z:(fX s x y.kind y.id).2
  ·rw[if_neg aD];exact .work a i f z
  ·rw[if_pos rfl,f,Int.toNat_natCast];obtain⟨n,o⟩:=aAD s (fX s x y.kind y.id).1 {y with at_:= -1} i 0;exact .over a _ _ i f (Ia s _ {y with at_:= -1} a _).2.2.1 n o
theorem Un{z:bB}{y y':bN}(b:y'.at_=0↔y.at_=0)(a:y'.h0=y.h0):jT z y'=jT z y:=by
 unfold jT;simp only[b,a]
theorem aL0(hm:s.made)(hk:k≤3)(h:iN s n m)(hE:nP s L m):jN s L k (i+1) ((m.cK s).tick s (eU k i))≤jN s L k i m∧((0≤m.y.at_∨m.y.h1=1∨m.y.h0=1∨m.z.aS=true)→jN s L k (i+1) ((m.cK s).tick s (eU k i)) < jN s L k i m):=by
 have E:iN s n (m.cK s):=h.cK hm
 have T:iN s n ((m.cK s).tick s (eU k i)):=E.tick hm (eU k i)
 have hz:((m.cK s).tick s (eU k i)).z=nA m.z (lQ s (m.cK s).x (eU k i)).2:=rfl
 have hZ:∀d,yW L ((m.cK s).tick s (eU k i)).z+jT ((m.cK s).tick s (eU k i)).z d≤yW L m.z+jT m.z d∧(m.z.aS=true→yW L ((m.cK s).tick s (eU k i)).z+jT ((m.cK s).tick s (eU k i)).z d < yW L m.z+jT m.z d):=fun d=>by
  obtain⟨an1,an2⟩:=E.ok.ans (eU k i);cases X:m.z.aS with
  | false =>
   have:((m.cK s).tick s (eU k i)).z=m.z:=by
    rw[hz,an1 X];rfl
   rw[this];exact⟨Nat.le_refl _,fun h=>by cases h⟩
  | true =>
   have O:=h.rp.po X
   rcases h.ok.nI.cJ with⟨_,_,e,_⟩ | ⟨j,hj,f,N,_⟩
   ·rw[e] at X;cases X
   ·rcases Si (lQ s (m.cK s).x (eU k i)).2 m.z with e | ⟨er,rs,e⟩
    ·exfalso
     have:=E.ok.Uj (eU k i)
     rw[hz,e,X] at this;cases this
    ·rw[f,Int.toNat_natCast] at e
     have U:=(Gc (z:=m.z) hj er rs)
     have o:=(N j hj).2 rfl
     have Ip:=Ug (L:=L) (z:=m.z) (z':=mX m.z j er rs) hj (fun q r hne=>(U.1 q r).2.2.2.2 hne)
     have K:oQ L (m.z.tk j).st=3:=by unfold oQ;rw[o];rfl
     have H:oQ L ((mX m.z j er rs).tk j).st=0:=by unfold oQ;rw[U.2];rfl
     have t:jT (mX m.z j er rs) d=0:=rfl
     rw[hz,e];constructor
     ·omega
     ·intro _;omega
 have G:((m.cK s).tick s (eU k i)).y=(eB s m.x m.y).1:=rfl
 have hnu:∀kd id,nu s k (i+1) ((m.cK s).tick s (eU k i)).x kd id≤9:=fun kd id=>aEG T.ok.hw hk
 have hF:jT m.z (eB s m.x m.y).1+(lJ (eB s m.x m.y).1+mV s k (i+1) ((m.cK s).tick s (eU k i)))≤jT m.z m.y+(lJ m.y+mV s k i m)∧((0≤m.y.at_∨m.y.h1=1∨m.y.h0=1)→jT m.z (eB s m.x m.y).1+(lJ (eB s m.x m.y).1+mV s k (i+1) ((m.cK s).tick s (eU k i))) < jT m.z m.y+(lJ m.y+mV s k i m)):=by
  have hw0:∀j,kS (eO s (eB s m.x m.y).2 s.aH.length).1.wt j=0:=fun j=>by
   have:=T.ok.w0 (E.ok.Uj (eU k i)) j
   have this:(((eO s (eB s m.x m.y).2 s.aH.length).1.wt)[j]?).join=none:=this
   unfold kS;rw[this];rfl
  have hxt:((m.cK s).tick s (eU k i)).x=jA s (eO s (eB s m.x m.y).2 s.aH.length).1 (eU k i):=rfl
  obtain⟨P,R⟩:=h.rp.pl
  have Z:m.y.h0=1∨m.y.at_=0→m.z.sent=true∧m.z.steps.length≠0:=fun f=>by
   cases V:m.z.sent with
   | false=>
    obtain⟨p1,p2,_⟩:=R.no V;omega
   | true=>
    obtain⟨p,tl,O,_⟩:=R.yes V;exact⟨rfl,by rw[O];simp⟩
  have F:∀d:bN,m.z.sent=true→m.z.steps.length≠0→jT m.z d=(m.z.steps.length - 1)*16+(if d.at_=0 then 2 else if d.h0=1 then 13 else 1):=fun d h1 o=>by
   unfold jT;rw[if_neg o,if_neg (by rw[h1];simp)]
  have fw1:0≤m.y.at_→1≤mV s k i m:=fun u=>by
   unfold mV;rw[if_pos u];exact aMf
  have D:m.y.at_ < 0→mV s k i m=0:=fun u=>if_neg aA
  have Y:(eB s m.x m.y).1.at_ < 0→mV s k (i+1) ((m.cK s).tick s (eU k i))=0:=fun u=>if_neg (by rw[G];omega)
  have fle:mV s k (i+1) ((m.cK s).tick s (eU k i))≤9:=by
   unfold mV;split
   ·exact hnu _ _
   ·omega
  have I:=aJB (x:=m.x) h.ok.fw
  generalize hyy:(eB s m.x m.y).1=d at *;generalize hxx:(eB s m.x m.y).2=x' at *;cases I with
  | idle u h1 o=>
   have K:=Y u
   have H:=D u
   constructor
   ·omega
   ·intro f;omega
  | said a _ ha u l uL o zK =>
   have K:=Y aA
   have H:=D u
   obtain rfl | rfl:a=0∨a=1:=by omega
   ·have l:m.y.h0=1:=l
    have o:d.h0=2:=o
    obtain⟨A,C⟩:=Z (.inl l)
    have B:d.h1=m.y.h1:=zK 1 aC aC
    have t:=F m.y A C
    have w:=F d A C
    rw[if_neg aA,if_pos l] at t;rw[if_neg aA,if_neg aA] at w
    have M:lJ d=lJ m.y:=by unfold lJ;rw[B,uL]
    constructor
    ·omega
    ·intro _;omega
   ·have l:m.y.h1=1:=l
    have o:d.h1=2:=o
    have B:d.h0=m.y.h0:=zK 0 aC aC
    have t:jT m.z d=jT m.z m.y:=Un (by rw[uL]) B
    have w:lJ d=0:=if_neg aA
    have M:lJ m.y=13:=if_pos ⟨l,aA⟩
    constructor
    ·omega
    ·intro _;omega
  | aDF a _ _ ha u l uL zK =>
   have H:=D u
   have o0:d.h0=m.y.h0:=zK 0
   have o1:d.h1=m.y.h1:=zK 1
   obtain rfl | rfl:a=0∨a=1:=by omega
   ·have l:m.y.h0=1:=l
    obtain⟨A,C⟩:=Z (.inl l)
    have t:=F m.y A C
    have w:=F d A C
    rw[if_neg aA,if_pos l] at t;rw[if_pos (show d.at_=0 from uL)] at w
    have M:lJ d=lJ m.y:=by
     unfold lJ;rw[o1]
     by_cases r:m.y.h1=1
     ·rw[if_pos ⟨r,aA⟩,if_pos ⟨r,aA⟩]
     ·rw[if_neg (fun f=>r f.1),if_neg (fun f=>r f.1)]
    constructor
    ·omega
    ·intro _;omega
   ·have l:m.y.h1=1:=l
    have t:jT m.z d=jT m.z m.y:=Un (by rw[uL];constructor<;>intro f<;>omega) o0
    have w:lJ d=0:=if_neg aA
    have M:lJ m.y=13:=if_pos ⟨l,aA⟩
    constructor
    ·omega
    ·intro _;omega
  | aDE a _ _ ha u l uL o zK =>
   have K:=Y aA
   have H:=D u
   obtain rfl | rfl:a=0∨a=1:=by omega
   ·have l:m.y.h0=1:=l
    have o:d.h0=2:=o
    obtain⟨A,C⟩:=Z (.inl l)
    have B:d.h1=m.y.h1:=zK 1 aC aC
    have t:=F m.y A C
    have w:=F d A C
    rw[if_neg aA,if_pos l] at t;rw[if_neg aA,if_neg aA] at w
    have M:lJ d=lJ m.y:=by
     unfold lJ;rw[B]
     by_cases r:m.y.h1=1
     ·rw[if_pos ⟨r,aA⟩,if_pos ⟨r,aA⟩]
     ·rw[if_neg (fun f=>r f.1),if_neg (fun f=>r f.1)]
    constructor
    ·omega
    ·intro _;omega
   ·have l:m.y.h1=1:=l
    have o:d.h1=2:=o
    have B:d.h0=m.y.h0:=zK 0 aC aC
    have t:jT m.z d=jT m.z m.y:=Un (by constructor<;>intro f<;>omega) B
    have w:lJ d=0:=if_neg aA
    have M:lJ m.y=13:=if_pos ⟨l,aA⟩
    constructor
    ·omega
    ·intro _;omega
  | work a ha uL hr =>
   obtain⟨c1,c2,c3,c4⟩:=aHa s (fX s m.x m.y.kind m.y.id).1 s.aH.length
   have hw:tP s m.y.x m.y.y a m.y.kind m.y.id m.x:=by
    rcases h.fw with⟨r,_⟩ | ⟨b,l,hbb,hw⟩
    ·omega
    ·obtain rfl:a=b:=by omega
     exact hw
   have J:m.y.kind=99→m.y.id < (s.aJ.length:Int):=fun hk9=>by
    rcases h.ok.fw.at_ with r | ⟨b,_,_,_,J,_⟩
    ·omega
    ·exact(J.c hk9).2
   have hlt:mV s k (i+1) ((m.cK s).tick s (eU k i)) < mV s k i m:=by
    have K:mV s k (i+1) ((m.cK s).tick s (eU k i))=nu s k (i+1) (jA s (eO s (fX s m.x m.y.kind m.y.id).1 s.aH.length).1 (eU k i)) m.y.kind m.y.id:=by
     unfold mV;rw[G,hxt];exact if_pos aA
    have H:mV s k i m=nu s k i m.x m.y.kind m.y.id:=if_pos aA
    rw[K,H];exact aMd hm hw J (hE.kM aA) hr c1 c2 c3 c4 hw0
   constructor
   ·omega
   ·intro _;omega
  | over a _ _ ha uL h1 o zK =>
   have K:=Y aA
   have H:=fw1 aA
   obtain rfl | rfl:a=0∨a=1:=by omega
   ·have o:d.h0=2:=o
    obtain⟨A,C⟩:=Z (.inr aA)
    have B:d.h1=m.y.h1:=zK 1 aC aC
    have t:=F m.y A C
    have w:=F d A C
    rw[if_pos aA] at t;rw[if_neg aA,if_neg aA] at w
    have M:lJ d=lJ m.y:=by
     unfold lJ;rw[B]
     by_cases r:m.y.h1=1
     ·rw[if_pos ⟨r,aA⟩,if_pos ⟨r,aA⟩]
     ·rw[if_neg (fun f=>r f.1),if_neg (fun f=>r f.1)]
    constructor
    ·omega
    ·intro _;omega
   ·have o:d.h1=2:=o
    have B:d.h0=m.y.h0:=zK 0 aC aC
    have t:jT m.z d=jT m.z m.y:=Un (by constructor<;>intro f<;>omega) B
    have w:lJ d=0:=if_neg aA
    constructor
    ·omega
    ·intro _;omega
 obtain⟨z1,z2⟩:=hZ (eB s m.x m.y).1;obtain⟨g1,g2⟩:=hF;unfold jN;rw[G];constructor
 ·omega
 ·rintro(f | f | f | f)
  ·have:=g2 (.inl f);omega
  ·have:=g2 (.inr (.inl f));omega
  ·have:=g2 (.inr (.inr f));omega
  ·have:=z2 f;omega
theorem nP.step(hL : ∀ P W, (allM s P W).length ≤ L)(h : nP s L m)(t : Int) : nP s L (m.step s t) := by
 have c : (kL s m.z m.y m.x t).1.steps.length ≤ L ∧ (kL s m.z m.y m.x t).2.1.at_ = m.y.at_ ∧ (kL s m.z m.y m.x t).2.1.kind = m.y.kind ∧ (kL s m.z m.y m.x t).2.1.id = m.y.id := by
  unfold kL;split
  ·exact⟨h.len,rfl,rfl,rfl⟩
  ·split
   ·split
    ·exact⟨aGQ hL h.len m.x _,rfl,rfl,rfl⟩
    ·exact⟨h.len,rfl,rfl,rfl⟩
   ·split
    ·split
     ·obtain⟨_,_,i,f,j⟩:=aCu m.z m.y t.toNat;refine⟨?_,i,f,j⟩
      have b:=h.len
      have k:∀a,(oN m.z a).steps.length≤L:=fun a=>by
       unfold oN;split
       ·show m.z.steps.tail.length≤L
        rw[List.length_tail];omega
       ·exact b
      unfold fN;split
      ·split
       ·exact b
       ·split
        ·exact Nat.zero_le _
        ·exact k _
      ·split
       ·exact b
       ·split
        ·exact b
        ·exact b
     ·exact⟨h.len,rfl,rfl,rfl⟩
    ·exact⟨h.len,rfl,rfl,rfl⟩
 refine⟨c.1,fun e d=>?_⟩
 have e:0≤(kL s m.z m.y m.x t).2.1.at_:=e
 have d:(kL s m.z m.y m.x t).2.1.kind=114:=d
 show(kL s m.z m.y m.x t).2.1.id < _
 rw[c.2.2.2];exact h.kM (by rw[←c.2.1];exact e) (by rw[←c.2.2.1];exact d)
theorem nP.done(h:nP s L m)(t:Int):nP s L (m.done t):=by
 refine⟨?_,h.kM⟩
 show(fV m.z t).2.steps.length≤L
 unfold fV
 repeat' split
 all_goals exact h.len
theorem nP.start(h:nP s L m)(t kd d r v:Int):nP s L (m.start t kd d r v):=by
 refine⟨?_,h.kM⟩
 show(oO m.z t kd d r v).2.steps.length≤L
 unfold oO
 repeat' split
 all_goals exact h.len
theorem nP.cK(hf:mL s m.y)(h:nP s L m):nP s L (m.cK s):=by
 refine⟨h.len,?_⟩
 show 0≤(eB s m.x m.y).1.at_→(eB s m.x m.y).1.kind=114→(eB s m.x m.y).1.id < _
 have c:=h.kM
 obtain⟨z,y,x⟩:=m;dsimp only at c hf⊢
 have f:∀(d:bN) (r:aP×Bool),(0≤d.at_→d.kind=114→d.id < (s.bA.length:Int))→0≤(pO s d r).at_→(pO s d r).kind=114→(pO s d r).id < (s.bA.length:Int):=fun d r E j n=>by
  unfold pO at j n⊢;cases u:r.2
  ·rw[u,if_neg aD] at j n;rw[if_neg aD];exact E j n
  ·rw[u,if_pos rfl] at j
   have:=(Ia s r.1 {d with at_:= -1} d.at_.toNat 0).2.2.1
   rw[this] at j;exact absurd j (by show ¬(0:Int)≤ -1;decide)
 unfold eB;dsimp only;rcases hf.at_ with o | ⟨a,o,C,_⟩
 ·have b:y.at_ < 0:=aA
  cases l:nK y with
  | none=>
   have p:iP s x y=(y,false):=by unfold iP;rw[l]
   rw[p,if_pos ⟨b,rfl⟩];exact c
  | some a =>
   have C:=La hf.fm.la l
   have p:iP s x y=kD s x y a:=by unfold iP;rw[l]
   rw[p]
   by_cases hd:(bX s x y a).2.1=0
   ·have e:kD s x y a=(mP s x {y with last:=a} a (bX s x y a).1,false):=by
     unfold kD;dsimp only;rw[if_pos hd]
    rw[e,if_pos ⟨b,rfl⟩];dsimp only;rw[(Ia s x {y with last:=(a:Int)} a (bX s x y a).1).2.2.1];intro w;exact absurd (show(0:Int)≤y.at_ from w) aA
   ·have e:kD s x y a=({y with last:=a,x:=eF y.x a (bX s x y a).2.1 (bX s x y a).2.2,y:=fW y.y a (bX s x y a).2.1 (bX s x y a).2.2,at_:=a,kind:=(bX s x y a).2.1,id:=(bX s x y a).2.2},true):=by
     unfold kD;dsimp only;rw[if_neg hd]
    rw[e,if_neg aD,if_pos b];dsimp only;refine f _ _ fun _ t=>?_;obtain⟨q,i,k,_⟩:=aG2 (s:=s) (A:=y.x) (B:=y.y) (a:=a) (wt:=jS s x) (hf.fm.box a).1 hd
    have i:(bX s x y a).2.2=(q:Int):=i
    have b:=k.lt
    have t:(fM s y.x y.y (jS s x) a (jO y a)).2.1=114:=t
    rw[t] at b
    have b:q < s.bA.length:=b
    show(bX s x y a).2.2 < _
    rw[i];omega
 ·have b:¬y.at_ < 0:=aA
  rw[if_neg (fun D=>b D.1),if_neg b];exact f _ _ c
theorem nP.tick(h:nP s L m)(d:Int):nP s L (m.tick s d):=by
 refine⟨?_,h.kM⟩
 show(nA m.z (lQ s m.x d).2).steps.length≤L
 rcases Si (lQ s m.x d).2 m.z with e | ⟨er,rs,e⟩
 ·rw[e];exact h.len
 ·rw[e];exact Nat.zero_le _
theorem nP.box{y':bN}(h:nP s L m)(c:y'.at_=m.y.at_)(e:y'.kind=m.y.kind)(b:y'.id=m.y.id):nP s L ⟨m.z,y',m.x⟩:=⟨h.len,fun d a=>by
 show y'.id < _
 rw[b]
 exact h.kM (by rw[←c];exact d) (by rw[←e];exact a)⟩
theorem Xj(w:aU)(t:Int):(w.end_ t).m=w.m.done t:=by
 unfold aU.end_;split<;>rfl
theorem aJ6(s:aG)(w:aU)(t:Int):(w.kT s t).m=w.m.step s t:=by
 unfold aU.kT;split<;>rfl
theorem aAt(s:aG)(w:aU)(t:Int):(w.task s t).m=(w.m.step s t).done t:=by
 unfold aU.task;rw[Xj,aJ6]
theorem aDG(s:aG)(w:aU)(d:Int):(w.tick s d).m=(((w.m.tick s d).done 0).done 1).done 2:=by
 unfold aU.tick;rw[Xj,Xj,Xj];rfl
structure oM(s:aG)(L n:Nat)(w:aU):Prop where
 ok:iE s n w
 two:iN s n w.m
 ne:NE w none
 e:nP s L w.m
theorem oM.task(hm:s.made)(hL:∀P W,(allM s P W).length≤L)(h:oM s L n w)(t:Int):oM s L (n+1) (w.task s t):=
 ⟨h.ok.task hm t,aDD hm h.two t,h.ne.task hm h.two.ok t,by rw[aAt];exact(h.e.step hL t).done t⟩
theorem oM.le{n':Nat}(h:oM s L n w)(a:n≤n'):oM s L n' w:=⟨h.ok.le a,h.two.le a,h.ne,h.e⟩
theorem oM.cK(hm:s.made)(h:oM s L n w):oM s L n (w.cK s):=⟨h.ok.cK hm,h.two.cK hm,h.ne.cK hm h.two.ok,h.e.cK h.two.ok.fw⟩
theorem nP.aDI(h:nP s L w.m)(d:Int):nP s L (w.tick s d).m:=by
 rw[aDG];exact(((h.tick d).done 0).done 1).done 2
theorem oM.round(hm:s.made)(hL:∀P W,(allM s P W).length≤L)(h:oM s L n w)(d:Int):oM s L (n+4) (w.round s d):=by
 have a:=(((h.task hm hL 0).task hm hL 1).task hm hL 2).cK hm
 exact⟨h.ok.round hm d,(aDC hm a.two d).le aA,a.ne.tick hm a.two.ok d,a.e.aDI d⟩
theorem oM.kX(hm:s.made)(hL:∀P W,(allM s P W).length≤L)(h:oM s L n w){p:yS}(hp:p.ok):oM s L (n+1) (w.kX s p).2:=by
 refine⟨h.ok.kX hm hp,aJl hm h.two h.ok hp,h.ne.kX hm h.two.ok p,?_⟩;unfold aU.kX;split
 ·unfold aU.call;dsimp only
  have:=h.e.start p.task p.c.k p.c.d p.c.r p.c.v
  split<;>exact this
 ·split
  ·rw[aAt];exact(h.e.step hL _).done _
  ·split
   ·exact h.e.cK h.two.ok.fw
   ·split
    ·exact h.e.aDI _
    ·split
     ·unfold aU.send;dsimp only;obtain⟨_,_,b,a,f,_⟩:=aDY w.m.y p.words
      have:=h.e.box (y':=(fI w.m.y 1 p.words).2) b a f
      split<;>exact this
     ·split
      ·show nP s L w.take.m
       unfold aU.take;obtain⟨_,_,b,a,f,_⟩:=aEw w.m.y
       have:=h.e.box (y':=fU w.m.y 1) b a f
       split<;>exact this
      ·exact h.e
theorem aGf(hm:s.made)(hL:∀P W,(allM s P W).length≤L){dY:List gH}(d:∀a∈dY,a.ok):∀j,j≤dY.length→oM s L (j*4) (runN s dY j)
 | 0,_=>⟨Ua hm,aMT hm,ne0,Nat.zero_le _,fun h=>absurd (show(0:Int)≤ -1 from h) aC⟩
 | j+1,hj=>by
  obtain⟨a,b⟩:=get_some (l:=dY) (i:=j) aA
  have c:=d a (List.mem_of_getElem? b)
  have ih:=aGf hm hL d j aA
  rw[aA6 b];unfold Nj;split
  ·exact(ih.round hm hL _).le aA
  ·exact(ih.kX hm hL (aAK c _)).le aA
theorem NE.yZ(h:NE w none){j:Nat}(hj:T3 j):(w.m.z.tk j).st≠3:=fun e=>by
 have:=(h.Ft j hj).1 e
 cases this
theorem aAL(hm:s.made)(hL:∀P W,(allM s P W).length≤L)(h:oM s L n w){j:Nat}(hj:T3 j):
  ((w.task s j).m=w.m∧((w.m.z.tk j).st=1→0≤w.m.z.cJ)∧((w.m.z.tk j).st=2→w.m.z.aS=true∨(w.m.z.sent=true∧w.m.y.h0≠2)))∨jN s L k i (w.task s j).m < jN s L k i w.m:=by
 rw[aAt,Vl];rcases aL1 (k:=k) (i:=i) hm h.two h.e hL hj (h.ne.yZ hj) with⟨a,b⟩ | a
 ·refine .inl ⟨?_,b⟩;rw[a];unfold eC.done;rw[Xo (h.ne.yZ hj)]
 ·exact .inr a
theorem aL2(hm:s.made)(hk:k≤3)(hL:∀P W,(allM s P W).length≤L)(h:oM s L n w)(hi:w.idle=false):jN s L k (i+1) (w.round s (eU k i)).m < jN s L k i w.m:=by
 have H:=h.task hm hL 0
 have N:=H.task hm hL 1
 have F:=N.task hm hL 2
 have E:=aAL (k:=k) (i:=i) hm hL h (j:=0) (.inl rfl)
 have J:=aAL (k:=k) (i:=i) hm hL H (j:=1) (.inr (.inl rfl))
 have I:=aAL (k:=k) (i:=i) hm hL N (j:=2) (.inr (.inr rfl))
 have hr:jN s L k (i+1) (w.round s (eU k i)).m=jN s L k (i+1) (((((w.task s 0).task s 1).task s 2).m.cK s).tick s (eU k i)):=by
  show jN s L k (i+1) (((((w.task s 0).task s 1).task s 2).cK s).tick s (eU k i)).m=_
  rw[aDG,Vl,Vl,Vl];rfl
 obtain⟨f1,K⟩:=aL0 (i:=i) hm hk F.two F.e;rw[hr]
 have U:jN s L k i (w.task s 0).m≤jN s L k i w.m:=by
  rcases E with⟨e,_⟩ | e
  ·exact Nat.le_of_eq (congrArg _ e)
  ·exact Nat.le_of_lt e
 have Y:jN s L k i ((w.task s 0).task s 1).m≤jN s L k i (w.task s 0).m:=by
  rcases J with⟨e,_⟩ | e
  ·exact Nat.le_of_eq (congrArg _ e)
  ·exact Nat.le_of_lt e
 have T:jN s L k i (((w.task s 0).task s 1).task s 2).m≤jN s L k i ((w.task s 0).task s 1).m:=by
  rcases I with⟨e,_⟩ | e
  ·exact Nat.le_of_eq (congrArg _ e)
  ·exact Nat.le_of_lt e
 rcases E with⟨c,O,C⟩ | c
 ·rcases J with⟨d,r,A⟩ | d
  ·rcases I with⟨b,c2,D⟩ | b
   ·
    have c:(w.task s 0).m=w.m:=c
    have d:((w.task s 0).task s 1).m=(w.task s 0).m:=d
    have b:(((w.task s 0).task s 1).task s 2).m=((w.task s 0).task s 1).m:=b
    have r:(((w.task s 0).m.z.tk 1).st=1→0≤(w.task s 0).m.z.cJ)∧(((w.task s 0).m.z.tk 1).st=2→(w.task s 0).m.z.aS=true∨((w.task s 0).m.z.sent=true∧(w.task s 0).m.y.h0≠2)):=⟨r,A⟩
    have c2:((((w.task s 0).task s 1).m.z.tk 2).st=1→0≤((w.task s 0).task s 1).m.z.cJ)∧((((w.task s 0).task s 1).m.z.tk 2).st=2→((w.task s 0).task s 1).m.z.aS=true∨(((w.task s 0).task s 1).m.z.sent=true∧((w.task s 0).task s 1).m.y.h0≠2)):=⟨c2,D⟩
    rw[d] at c2 b;rw[c] at r c2 b;rw[b] at f1 K⊢;refine K (Classical.byContradiction fun f=>?_);simp only[not_or] at f;obtain⟨n1,Z,X,n4⟩:=f
    have cond:∀j,T3 j→((w.m.z.tk j).st=1→0≤w.m.z.cJ)∧((w.m.z.tk j).st=2→w.m.z.aS=true∨(w.m.z.sent=true∧w.m.y.h0≠2)):=fun j a=>by
     rcases a with rfl | rfl | rfl
     ·exact⟨O,C⟩
     ·exact r
     ·exact c2
    have l:∀j,T3 j→(w.m.z.tk j).st≠2:=fun j a e=>by
     rcases(cond j a).2 e with hp | ⟨hs,M⟩
     ·exact n4 hp
     ·obtain⟨P,u⟩:=h.two.rp.pl;obtain⟨p,tl,_,B⟩:=u.yes hs;rcases B with⟨q,_⟩ | ⟨q,_⟩ | ⟨q,_⟩
      ·exact X q
      ·omega
      ·exact M q
    have x:∀j,T3 j→(w.m.z.tk j).st≠1:=fun j a e=>by
     have M:=(cond j a).1 e
     rcases h.two.ok.nI.cJ with⟨q,_⟩ | ⟨q,G,_,o,_⟩
     ·omega
     ·exact l q G ((o q G).2 rfl)
    have t:∀j:Nat,T3 j→pW w.m.z j=false:=fun j a=>by
     have a1:=x j a
     have a2:=l j a
     have a3:=h.ne.yZ a
     have a4:=h.two.ok.nI.st j a
     have:(w.m.z.tk j).st=0:=by omega
     unfold pW;rw[Int.toNat_natCast,this];simp
    have:w.idle=true:=by
     have V:pW w.m.z 0=false:=t 0 (.inl rfl)
     have R:pW w.m.z 1=false:=t 1 (.inr (.inl rfl))
     have x2:pW w.m.z 2=false:=t 2 (.inr (.inr rfl))
     unfold aU.idle;rw[V,R,x2,decide_eq_true (show w.m.y.at_ < 0 by omega),decide_eq_false Z];rfl
    rw[this] at hi;cases hi
   ·have b:jN s L k i (((w.task s 0).task s 1).task s 2).m < jN s L k i ((w.task s 0).task s 1).m:=b
    omega
  ·have d:jN s L k i ((w.task s 0).task s 1).m < jN s L k i (w.task s 0).m:=d
   omega
 ·have c:jN s L k i (w.task s 0).m < jN s L k i w.m:=c
  omega
def nT(s:aG)(k:Nat)(w:aU):Nat→aU
 | 0=>w
 | j+1=>(nT s k w j).round s (eU k j)
theorem oM.rnd(hm:s.made)(hL:∀P W,(allM s P W).length≤L)(h:oM s L n w)(k:Nat):∀j,oM s L (n+4*j) (nT s k w j)
 | 0=>h
 | j+1=>(h.rnd hm hL k j).round hm hL _
theorem aGe(hm:s.made)(hk:k≤3)(hL:∀P W,(allM s P W).length≤L)(h:oM s L n w):∀(N j:Nat),jN s L k j (nT s k w j).m≤N→∃a,a≤j+N∧(nT s k w a).idle=true
 | N, j, hN => by
  cases hi:(nT s k w j).idle with
  | true=>exact⟨j,aA,hi⟩
  | false =>
   have hlt:=aL2 (i:=j) hm hk hL (h.rnd hm hL k j) hi
   cases N with
   | zero=>omega
   | succ N =>
    obtain⟨a,c,b⟩:=aGe hm hk hL h N (j+1) (by
     show jN s L k (j+1) ((nT s k w j).round s (eU k j)).m≤N
     omega)
    exact⟨a,aA,b⟩
theorem aAv(L:Nat)(st:Int):oQ L st≤L*16+5:=by
 unfold oQ
 repeat' split
 all_goals omega
theorem aL3(hk:k≤3)(h:oM s L n w):jN s L k i w.m≤64*L+37:=by
 have a:=aAv L (w.m.z.tk 0).st
 have f:=aAv L (w.m.z.tk 1).st
 have b:=aAv L (w.m.z.tk 2).st
 have l:=aAw w.m.z w.m.y
 have j:=h.e.len
 have d:lJ w.m.y≤13:=by
  unfold lJ;split<;>omega
 have c:mV s k i w.m≤9:=by
  unfold mV;split
  ·exact aEG h.two.ok.hw hk
  ·omega
 unfold jN yW;omega
theorem Lc(l:List Nat)(f t:List Bool):(eK l f t).length≤l.length:=List.length_filter_le _ _
theorem Eg(P W:bL):(allM s P W).length≤2*(s.domains.length+s.aJ.length+s.bA.length):=by
 unfold allM sG jM;simp only[List.length_append,List.length_map]
 have h:=Lc (List.range s.domains.length) P.d W.d
 have i:=Lc (List.range s.aJ.length) P.c W.c
 have b:=Lc (List.range s.bA.length) P.l W.l
 have e:=Lc (List.range s.bA.length) W.l P.l
 have a:=Lc (List.range s.aJ.length).reverse W.c P.c
 have f:=Lc (List.range s.domains.length).reverse W.d P.d
 simp only[List.length_range,List.length_reverse] at h i b e a f;omega
theorem aOM(hm:s.made)(hk:k≤3){dY:List gH}(c:∀a∈dY,a.ok):∃j,j≤128*(s.domains.length+s.aJ.length+s.bA.length)+37∧(nT s k (runN s dY dY.length) j).idle=true:=by
 have h:=aGf hm Eg c dY.length (Nat.le_refl _)
 obtain⟨j,d,b⟩:=aGe hm hk Eg h (64*(2*(s.domains.length+s.aJ.length+s.bA.length))+37) 0 (aL3 hk h);exact⟨j,aA,b⟩
theorem St.aFd{w0 w:World}{R:List Piece}{H:List HP}{g f:Nat}{hL:HL}{s:aG}{m:eC}(t:St w0 R H w)(i:Nat)(hi:H[i]? =some (iR g f hL s m)):∃L,Au w f hL.h L s m.y:=by
 obtain⟨F,e,j,_⟩:=t.chunk hi;obtain⟨G,c,d,_⟩:=e;obtain⟨L,hL⟩:=c 1 _ rfl;exact⟨L,aCU hL fun b a=>j b (d 1 b a)⟩
theorem aO4(f h:Nat)(L:gB)(s:aG)(z:bN)(w:World)(kf:Au w f h L s z):Cz 28 #[pt f] w (Rt (iv z.at_) w):=by
 have a:=kf.r0.at_ (j:=16) rfl
 refine aT func28 ntmps28 ?_;refine aB ?_;exact iV aD rfl
theorem aOz(f h:Nat)(L:gB)(s:aG)(z:bN)(w:World)(kf:Au w f h L s z):Cz 29 #[pt f,iv 1] w (Rt (.bool (decide (z.h1=1))) w):=by
 have b:=kf.r0.at_ (j:=13) rfl
 refine aT func29 ntmps29 ?_;refine aB ?_;refine aZ (fun a t=>Il 1 a) ?_;refine aB ?_;refine kd (fQ 1 13) ?_;refine aB ?_;exact iV aD rfl
section
variable(g f r:Nat)(hL:HL)(s:aG)(W:aU)(w:World)(F:Nat→Prop)
theorem aD1(hp:(dM g f r hL s W).sat F w)(hF:∀b,F b→b < w.heap.size):
  Cz 10 #[pt g] w (Wr (.bool W.idle) (dM g f r hL s W) w F):=by
 refine dD func10 ntmps10 hp hF ?_;refine iQ 0 fun L=>?_;refine bE 0 0 ?_;refine bE 1 1 ?_;refine aE ?_;refine sH (α:=Unit) (fun _=>[(0,pt g)]) (fun _=>[iR r f hL s W.m,HP.aI g 94 (lO f r hL s W L),HP.many [cM,cM,HP.own 52 14 (.slice L.A W.es.length L.c) W.es.length L.rows.flatten,mW W.es L.rows]]) (fun _=>∀j:Nat,j < 3→pW W.m.z j=false) ?_ fun _ a=>?_
 ·refine rI (α:=Unit) (fun k _=>[(4,iv k),(0,pt g)]) (fun _ _=>[iR r f hL s W.m,HP.aI g 94 (lO f r hL s W L),HP.many [cM,cM,HP.own 52 14 (.slice L.A W.es.length L.c) W.es.length L.rows.flatten,mW W.es L.rows]]) (fun k _=>∀j:Nat,j < k→pW W.m.z j=false) 3 () (fun j p=>absurd p aA) fun k _ G a=>?_;refine aE ?_;refine aK rfl (fun D=>?_) (fun E=>?_)
  ·refine aE ?_;refine aZ (fun n l=>aMF r f hL s W.m n k 0 l rfl) ?_;cases o:pW W.m.z k with
   | true =>
    have u:W.idle=false:=by
     unfold aU.idle;rcases(show k=0∨k=1∨k=2 by omega) with rfl | rfl | rfl
     ·rw[show pW W.m.z 0=true from o];rfl
     ·rw[show pW W.m.z 1=true from o];simp
     ·rw[show pW W.m.z 2=true from o];simp
    rw[u];refine aE ?_;refine aN 1 1 ?_;refine aN 0 0 ?_;refine cY 0 (fun L:jJ=>kI g f r hL s W L) L ?_;exact bU 0 hF
   | false =>
    refine aE ?_
    exact lM () (hg:=fun j p=>by
     rcases Nat.lt_succ_iff_lt_or_eq.1 p with h | rfl
     ·exact a j h
     ·exact o)
  ·refine aE ?_;exact dO () (hg:=fun j p=>a j aA)
 ·have u:W.idle=(decide (W.m.y.at_ < 0)&& !decide (W.m.y.h1=1)):=by
   unfold aU.idle;rw[show pW W.m.z 0=false from a 0 aA,show pW W.m.z 1=false from a 1 aA,show pW W.m.z 2=false from a 2 aA];rfl
  rw[u];refine aE ?_
  refine aZ (fun n l=>by
   obtain⟨B,C⟩:=l.aFd 0 rfl
   exact aO4 f hL.h B s W.m.y n C) ?_
  refine aE ?_;refine cN (t:=20) rfl (fun x=>?_) (fun x=>?_)
  ·rw[show(decide (W.m.y.at_ < 0)&& !decide (W.m.y.h1=1))=decide (¬W.m.y.h1=1) by rw[decide_eq_true x];simp];refine aE ?_
   refine aZ (fun n l=>by
    obtain⟨B,C⟩:=l.aFd 0 rfl
    exact aOz f hL.h B s W.m.y n C) ?_
   refine aE ?_;refine aN 1 1 ?_;refine aN 0 0 ?_;refine cY 0 (fun L:jJ=>kI g f r hL s W L) L ?_;exact bU 0 hF
  ·rw[show(decide (W.m.y.at_ < 0)&& !decide (W.m.y.h1=1))=false by rw[decide_eq_false x];rfl];refine aE ?_;refine aN 1 1 ?_;refine aN 0 0 ?_;refine cY 0 (fun L:jJ=>kI g f r hL s W L) L ?_;exact bU 0 hF
end
section
variable{P:Program}{N:cO}{w0:World}{e:Env}{R:List Piece}{H:List HP}{d:Nat}{ty:TypeId}{pos:String}{aL:Array Edge}
theorem aP0{x y:Operand}{a b c:Int}{i:Array TypeId}(hx:e.ev x=some (iv a))(hy:e.ev y=some (iv b))(h:(if b>a then b else a)=c):cF P N w0 e R H ⟨some d,.call {callee:=.builtin .max,args:=#[x,y],argTypes:=i},ty,pos,aL,none⟩ (iv c):=gZ (fun z w f=>by subst h;simp[execOp,resolve,invoke,builtin,f.ev hx,f.ev hy,run_max_int2])
theorem aPz{x y:Operand}{a b c:Int}{i:Array TypeId}(hx:e.ev x=some (iv a))(hy:e.ev y=some (iv b))(h:(if b < a then b else a)=c):cF P N w0 e R H ⟨some d,.call {callee:=.builtin .min,args:=#[x,y],argTypes:=i},ty,pos,aL,none⟩ (iv c):=gZ (fun z w f=>by subst h;simp[execOp,resolve,invoke,builtin,f.ev hx,f.ev hy,run_min_int2])
end
def Vk(s:aG):Nat:=s.domains.length+s.aJ.length+s.bA.length
def Ee(s:aG)(k:Nat):Nat:=10+200*(k+1)*Vk s
theorem aGO{s:aG}(hm:s.made){k:Nat}(hk:k≤3):Ee s k≤20000:=by
 have b:=hm.nc
 have a:=hm.nd
 have c:=hm.nr
 unfold Ee Vk
 have:k=0∨k=1∨k=2∨k=3:=by omega
 rcases this with rfl | rfl | rfl | rfl<;>omega
section
variable(g f r:Nat)(hL:HL)(s:aG)(W:aU)(w:World)(F:Nat→Prop)
theorem aIP(hm:s.made){k:Nat}(hk:k≤3)(hp:(dM g f r hL s W).sat F w)(hF:∀b,F b→b < w.heap.size):
  Cz 9 #[pt g,iv (k:Int)] w (Wr (iv (Ee s k:Nat)) (dM g f r hL s W) w F):=by
 have m:=hm.nc
 have o:=hm.nd
 have l:=hm.nr
 obtain⟨n,d⟩:∃n,Vk s=n:=⟨_,rfl⟩
 have a:s.domains.length+s.aJ.length+s.bA.length=n:=d
 obtain⟨T,h⟩:∃T:Nat,200*(k+1)*n=T:=⟨_,rfl⟩
 have j:T≤20000:=by
  have:=aGO hm hk
  unfold Ee at this;rw[d,h] at this;omega
 have e:200*((k:Int)+1)*(n:Int)=(T:Int):=by
  rw[←h]
  push_cast
  rfl
 have i:((Ee s k:Nat):Int)=10+(T:Int):=by
  unfold Ee;rw[d,h]
  push_cast
  rfl
 rw[i];refine dD func9 ntmps9 hp hF ?_;refine iQ 0 fun L=>?_;refine bE 0 0 ?_;dsimp only[lO];rw[a];refine aE ?_;refine kd (aP0 (c:=(k:Int)) rfl rfl (if_neg aA)) ?_;refine aE ?_;refine kd (aPz (c:=(k:Int)) rfl rfl (if_neg aA)) ?_;refine aE ?_;rw[e];rw[←a];refine aN 0 0 ?_;refine cY 0 (fun L:jJ=>kI g f r hL s W L) L ?_;exact bU 0 hF
end
theorem aON{s:aG}(hm:s.made){k:Nat}(hk:k≤3){dY:List gH}(c:∀a∈dY,a.ok):∃j,j≤4*Ee s k∧(nT s k (runN s dY dY.length) j).idle=true:=by
 obtain⟨j,d,b⟩:=aOM hm hk c;refine⟨j,?_,b⟩;unfold Ee Vk
 have:k=0∨k=1∨k=2∨k=3:=by omega
 rcases this with rfl | rfl | rfl | rfl<;>omega
theorem aEo{s:aG}(hm:s.made){n:Nat}{w:aU}(h:iE s n w)(k:Nat):∀j,iE s (n+4*j) (nT s k w j)
 | 0=>h
 | j+1=>(aEo hm h k j).round hm _
theorem aPL(k i:Nat):0≤eU k i∧eU k i < 4294967296:=by
 unfold eU;split<;>decide
theorem aII(A:Option Addr)(n c:Nat)(zs:List Int)(B:Option Addr)(nb cb:Nat)(dY:List gH)(p:Int)(w:World)(h0:aM (all w) 1 A n (aR zs))(hz:Zk zs)(hn:n=zs.length)(hn2:n≤9223372036854775807)(o:aM (all w) 12 B nb (dY.flatMap gH.cells))(K:∀a∈dY,a.ok)(hnb:nb=dY.length)(T:nb≤2000000)(hmn:xD p)(G:eV (all w)):
  Cz 3 #[.slice A n c,.slice B nb cb,iv p] w (Rt (.bool true) w):=by
 subst hnb
 have V:∀{e:World} {R:List Piece} {H:List HP},St w R H e→all w∈R→eV (all e):=fun t h=>eV.le G (t.le h)
 refine aT func3 ntmps3 ?_;refine aE ?_;refine aZ (fun e t=>aJL e (V t aD)) ?_;refine aE ?_;refine kN [] (fun v w w'=>∃cs s,v=.agg cs∧uV (fT (fresh w w')) s cs∧s.made) (fun e t=>aQ1 A n c zs e (h0.le (t.le aD)) hz hn hn2) ?_;rintro _ wc q0 ⟨cs,s,rfl,hS,r⟩ hf _ _;obtain⟨A1,n1,k1,A2,n2,k2,A3,n3,k3,A4,n4,k4,rfl,hQ⟩:=uV.Q (hS.mono (kU hf));clear hf hS;refine cQ fun gS=>?_;refine aE ?_;refine fK (aHJ s (runN s dY dY.length)) (fun e t=>aKv s A1 A2 A3 A4 n1 k1 n2 k2 n3 k3 n4 k4 B cb dY e (hQ.W (t.le aD) (Vz r)) r (o.le (t.le aD)) K T (V t aD)) ?_;rintro _ _ q1 ⟨f,l,m,b,rfl,rfl,E⟩ _;dsimp only[List.cons_append,List.nil_append];refine vS (R':=[q0,all w]) aD ?_;refine aE ?_;refine aK rfl (fun hg=>?_) (fun hg=>?_)
 ·refine aE ?_;exact dL
 have D:=aA5 r K dY.length (Nat.le_refl _)
 have bK:=zH p 4 aC
 obtain⟨k,hK⟩:∃k:Nat,fE p 4=(k:Int):=⟨(fE p 4).toNat,aA⟩
 have hk:k≤3:=by omega
 obtain⟨J,N,x⟩:=aON r hk K
 have hbl:=aGO r hk
 obtain⟨M,hM⟩:∃M,Ee s k=M:=⟨_,rfl⟩
 rw[hM] at N hbl;obtain⟨W,hW⟩:∃W,runN s dY dY.length=W:=⟨_,rfl⟩
 rw[hW] at D x⊢;clear hW;refine aE ?_;refine aZ (fun e t=>nU _ 4 e hmn aC) ?_;rw[hK];refine aE ?_;refine cG 0 (dM f l m b s W) (fun e u t1 o y L=>aIP f l m b s W e u r hk o y) ?_;rw[hM];refine aE ?_;refine sH (α:=Nat) (fun _=>[(9,pt f)]) (fun j=>[dM f l m b s (nT s k W j)]) (fun j=>(nT s k W j).idle=true) ?_ fun j Z=>?_
 ·refine rI (α:=Unit) (fun i _=>[(12,iv i),(11,iv (4*(M:Int))),(10,iv (k:Int)),(9,pt f)]) (fun i _=>[dM f l m b s (nT s k W i)]) (fun i _=>∀j,j < i→(nT s k W j).idle=false) (4*M) () (fun j Z=>absurd Z aA) fun i _ hi O=>?_
  have z:=aEo r D k i
  refine aE ?_;refine cN (t:=45) rfl (fun hlt=>?_) (fun Y=>?_)
  ·have hlt:i < 4*M:=aA
   refine aE ?_;refine cG 0 (dM f l m b s (nT s k W i)) (fun e u t1 o y L=>aD1 f l m b s (nT s k W i) e u o y) ?_;cases hid:(nT s k W i).idle with
   | true=>
    refine aE ?_;exact dO i
   | false =>
    have F:∀j,j < i+1→(nT s k W j).idle=false:=fun j Z=>by
     rcases Nat.lt_succ_iff_lt_or_eq.1 Z with h | rfl
     ·exact O j h
     ·exact hid
    have hd:=aPL k i
    have U:∀d:Int,d=eU k i→dM f l m b s ((nT s k W i).round s d)=dM f l m b s (nT s k W (i+1)):=fun d hd=>by rw[hd];rfl
    refine aE ?_
    have C:(i:Int) % ((k:Int)+2)=((i % (k+2):Nat):Int):=by push_cast;rfl
    refine aK rfl (fun Y=>?_) (fun X=>?_)
    ·rw[C] at Y
     have I:eU k i=0:=if_neg aA
     refine aE ?_
     refine cG 0 (dM f l m b s (nT s k W (i+1))) (fun e u t o y L=>by
      rw[←U 0 I.symm]
      exact aAg f l m b s (dY.length*4+4*i) _ e u r E z aA 0 aC (eV.le G (L _ aD)) o y) ?_
     refine aE ?_;exact lM () (hg:=F)
    ·rw[C] at X
     have I:eU k i=4294967295:=if_pos aA
     refine aE ?_
     refine cG 0 (dM f l m b s (nT s k W (i+1))) (fun e u t o y L=>by
      rw[←U 4294967295 I.symm]
      exact aAg f l m b s (dY.length*4+4*i) _ e u r E z aA 4294967295 aC (eV.le G (L _ aD)) o y) ?_
     refine aE ?_;exact lM () (hg:=F)
  ·obtain rfl:i=4*M:=by omega
   have hJ:(nT s k W (4*M)).idle=true:=by
    rcases Nat.lt_or_eq_of_le N with h | h
    ·rw[O J h] at x;cases x
    ·rw[←h];exact x
   refine aE ?_;exact dO (4*M)
 refine aE ?_;refine cG 0 (dM f l m b s (nT s k W j)) (fun e u t1 o y L=>aD1 f l m b s (nT s k W j) e u o y) ?_;rw[Z];refine aE ?_;exact dL
section
variable{H:Type}{enc:TypeId×Value→H}{w:World}{fuel:Nat}{cs:List Value}{x:DataW H×List MemPlace}
theorem wG{α:Type}{l:List α}{n i:Nat}(h:l.length=n)(hi:i < n):∃y,l[i]? =some y:=⟨l[i]' aA,List.getElem?_eq_getElem _⟩
theorem aRc{a:Int}(h:(Lit.int .u32 a).wf=true):0≤a∧a < 4294967296:=by
 simp[Lit.wf,IntKind.min,IntKind.max,IntKind.signed,IntKind.bits] at h;omega
theorem aHk:Tryz.prog.cellsOf 86=12:=by kernel_rfl
theorem aHn:Tryz.prog.cellsOf 84=6:=by kernel_rfl
theorem aHm:Tryz.prog.cellsOf 3=1:=by kernel_rfl
theorem aHl:Tryz.prog.cellsOf 36=1:=by kernel_rfl
theorem aJn{l:List Value}(h:l.length=12):∃a b c d e f g i j k m n,l=[a,b,c,d,e,f,g,i,j,k,m,n]:=by
 match l,h with
 | [a,b,c,d,e,f,g,i,j,k,m,n],_=>exact⟨a,b,c,d,e,f,g,i,j,k,m,n,rfl⟩
theorem aJK{l:List Value}(h:l.length=6):∃a b c d e f,l=[a,b,c,d,e,f]:=by
 match l,h with
 | [a,b,c,d,e,f],_=>exact⟨a,b,c,d,e,f,rfl⟩
theorem aRh(h:DataW.trod enc Tryz.prog w 0 (fun _=>true) true fuel 84 cs=some x):
  ∃a b c d e f:Int,cs=[iv a,iv b,iv c,iv d,iv e,iv f]∧(-9223372036854775808≤b∧b≤9223372036854775807)∧(-9223372036854775808≤c∧c≤9223372036854775807)∧(-9223372036854775808≤d∧d≤9223372036854775807)∧(-9223372036854775808≤e∧e≤9223372036854775807)∧(-9223372036854775808≤f∧f≤9223372036854775807):=by
 obtain⟨V,n,rfl,_,z,j,k⟩:=DataW.trod_struct Tryz.underlying84 h;rw[aHn] at z;obtain⟨a,b,c,d,e,f,rfl⟩:=aJK z
 have m:=k 0 _ rfl
 have r:=k 1 _ rfl
 have t:=k 2 _ rfl
 have l:=k 3 _ rfl
 have o:=k 4 _ rfl
 have p:=k 5 _ rfl
 simp only[List.getElem_toArray,List.getElem_cons_zero,List.getElem_cons_succ,List.drop_succ_cons,List.drop_zero,aHm,aHl,List.take_succ_cons,List.take_zero] at m r t l o p;obtain⟨y0,K⟩:=wG j (i:=0) aD;obtain⟨T,G⟩:=wG j (i:=1) aD;obtain⟨O,J⟩:=wG j (i:=2) aD;obtain⟨y3,M⟩:=wG j (i:=3) aD;obtain⟨y4,F⟩:=wG j (i:=4) aD;obtain⟨X,H⟩:=wG j (i:=5) aD;rw[K] at m;rw[G] at r;rw[J] at t;rw[M] at l;rw[F] at o;rw[H] at p;obtain⟨R,g0,_,_⟩:=DataW.trod_int Tryz.underlying3 m;obtain⟨U,B,_,L⟩:=DataW.trod_int Tryz.underlying3 r;obtain⟨Z,A,_,D⟩:=DataW.trod_int Tryz.underlying3 t;obtain⟨z3,y,_,E⟩:=DataW.trod_int Tryz.underlying3 l;obtain⟨z4,u,_,N⟩:=DataW.trod_int Tryz.underlying3 o;obtain⟨Y,C,_,I⟩:=DataW.trod_int Tryz.underlying3 p;simp at g0 B A y u C;subst g0;subst B;subst A;subst y;subst u;subst C;exact⟨_,_,_,_,_,_,rfl,yE L,yE D,yE E,yE N,yE I⟩
theorem aRK(h:DataW.trod enc Tryz.prog w 0 (fun _=>true) true fuel 86 cs=some x):∃v:gH,cs=v.cells∧v.ok:=by
 obtain⟨xs,n,rfl,_,D,l,o⟩:=DataW.trod_struct Tryz.underlying86 h;rw[aHk] at D;obtain⟨a,b,c,d,e,f,g,i,j,k,m,n',rfl⟩:=aJn D
 have r:=o 0 _ rfl
 have z:=o 1 _ rfl
 have A:=o 2 _ rfl
 have p:=o 3 _ rfl
 have t:=o 4 _ rfl
 have y:=o 5 _ rfl
 have u:=o 6 _ rfl
 simp only[List.getElem_toArray,List.getElem_cons_zero,List.getElem_cons_succ,List.drop_succ_cons,List.drop_zero,aHm,aHl,aHn,List.take_succ_cons,List.take_zero] at r z A p t y u;obtain⟨y0,e0⟩:=wG l (i:=0) aD;obtain⟨y1,R⟩:=wG l (i:=1) aD;obtain⟨y2,e2⟩:=wG l (i:=2) aD;obtain⟨y3,e3⟩:=wG l (i:=3) aD;obtain⟨y4,O⟩:=wG l (i:=4) aD;obtain⟨y5,T⟩:=wG l (i:=5) aD;obtain⟨y6,e6⟩:=wG l (i:=6) aD;rw[e0] at r;rw[R] at z;rw[e2] at A;rw[e3] at p;rw[O] at t;rw[T] at y;rw[e6] at u;obtain⟨I,g0,_,X⟩:=DataW.trod_int Tryz.underlying3 r;obtain⟨N,G,_,w1⟩:=DataW.trod_int Tryz.underlying3 z;obtain⟨z2,E,_,K⟩:=DataW.trod_int Tryz.underlying3 A;obtain⟨z3,C,_,M⟩:=DataW.trod_int Tryz.underlying3 p;obtain⟨z4,B,_,w4⟩:=DataW.trod_int Tryz.underlying3 t;obtain⟨U,H,_,w5⟩:=DataW.trod_int Tryz.underlying36 y;obtain⟨q0,J,Y,Z,V,q5,F,u1,u2,u3,L,u5⟩:=aRh u;simp at g0 G E C B H F;obtain⟨rfl,rfl,rfl,rfl,rfl,rfl⟩:=F;subst g0;subst G;subst E;subst C;subst B;subst H;exact⟨⟨I,N,z2,z3,z4,U,q0,J,Y,Z,V,q5⟩,rfl,yE X,yE w1,yE K,yE M,yE w4,aRc w5,u1,u2,u3,L,u5⟩
open Go.ChangeShapes Go.WideShapes Go.ChangeAt in
set_option maxRecDepth 100000 in
theorem aLP{v:Value}{d:DataW H}{ps:List MemPlace}{base:Nat}(hval:Value.okWide Tryz.prog w .any base 23 v)(h:DataW.Trod enc Tryz.prog w 0 (fun _=>true) true 23 v d ps):
    ∃(A:Option Addr) (n c:Nat) (dY:List gH),v=.slice A n c∧Sl w w.heap.size 12 A n (dY.flatMap gH.cells)∧(∀a∈dY,a.ok)∧n=dY.length∧n≤9223372036854775807:=by
  obtain⟨a0,len,cap,rfl⟩:=okWide_slice Tryz.underlying23 hval;obtain⟨fuel,hf⟩:=h;obtain⟨A,n,c,ys,hcs,Wq,hn,hm,hR⟩:=aJJ gH.cells gH.ok Tryz.underlying23 aHk (by omega) gH.len (fun _ _ _ h=>aRK h) hf;simp[Value.cells] at hcs;obtain⟨rfl,rfl,rfl⟩:=hcs;subst hn;exact⟨_,_,_,ys,rfl,Wq,hR,rfl,hm⟩
end
section
theorem aQV{H:Type}(d:DataW H):1≤Rows.uptoBulk d:=by
 cases d with
 | lit l=>cases l<;>simp[Rows.uptoBulk]
 | _=>simp[Rows.uptoBulk]
theorem aQU{H:Type}{d:DataW H}{l:List (DataW H)}(h:d∈l):Rows.uptoBulk d≤Rows.uptoBulkAll l:=by
 induction l with
 | nil=>cases h
 | cons x r ih =>
  simp only[Rows.uptoBulkAll];rcases List.mem_cons.1 h with rfl | h
  ·omega
  ·have:=ih h
   omega
theorem aQW{H:Type}(l:List (DataW H)):l.length≤Rows.uptoBulkAll l:=by
 induction l with
 | nil=>exact Nat.zero_le _
 | cons x r ih=>
  have:=aQV x
  simp only[Rows.uptoBulkAll,List.length_cons];omega
open Go.ChangeShapes Go.WideShapes Go.ChangeAt in
theorem aQT{H:Type}{enc:TypeId×Value→H}{w:World}{t e:TypeId}{A:Option Addr}{n c:Nat}{d:DataW H}{ps:List MemPlace}(ht:Tryz.prog.underlying t=some (.slice e))(h:DataW.Trod enc Tryz.prog w 0 (fun _=>true) true t (.slice A n c) d ps):n≤Rows.uptoBulk d:=by
  obtain⟨fuel,hf⟩:=h;rcases DataW.trod_slice ht hf with⟨h0,_⟩ | ⟨a,len,cap,elems,rest,k,_,hcs,hx,_,_,_,hlen,_⟩
  · simp[Value.cells] at h0
    omega
  · simp[Value.cells] at hcs
    cases hx
    have:=aQW (elems.map (·.1))
    rw[List.length_map] at this;simp only[Rows.uptoBulk];omega
theorem aQX{H:Type}{l:List (DataW H)}{d:DataW H}{n:Nat}(hk:Rows.uptoSmall H l=true)(hd:d∈l)(a:n≤Rows.uptoBulk d):n≤1048576:=by
 have b:Rows.uptoBulkAll l≤1048576:=of_decide_eq_true hk
 have:=aQU hd
 omega
end
end Go.Proofs.YtmpkkaknjkffpaaGreatDoor
