/- chip: a description that is right, of any raw numbers. No condition of ours. -/
import Derived.Test.YtkgekojkboingaaGreatDoorRows
import Derived.Test.YtkgekojkboingaaGreatDoorWorldNestsK7
namespace Go.Proofs.YtkgekojkboingaaGreatDoor
set_option linter.all false
set_option maxHeartbeats 4000000
set_option maxRecDepth 20000
open Go.RowKit Go.Proofs.Tryz
section
theorem aLL(c n:Int)(w:World)(hc: -9223372036854775808≤c∧c≤9223372036854775807)(hn:0 < n):
  Cz 15 #[iv c,iv n] w fun x w'=>(∃v,x=.returned v∧∃r:Int,v=iv r∧0≤r∧r < n)∧Below w.heap.size w w':=by
 refine aN func15 ntmps15 ?_;refine aB ?_;refine Ru (α:=Int) (fun c=>[(0,iv c),(1,iv n)]) (fun _=>[]) (fun c=>0≤c) ?_ fun c hc0=>?_
 ·refine aB ?_;refine aG rfl (fun h=>?_) (fun h=>?_)
  ·refine aB ?_;exact dM _
  ·refine aB ?_;exact dM _
 refine aB ?_;exact mI rfl rfl fun w' st=>⟨⟨_,rfl,_,rfl,Int.emod_nonneg _ (by omega),Int.emod_lt_of_pos _ hn⟩,st.below (by simp)⟩
set_option maxRecDepth 100000 in
theorem aQw(A : Option Addr)(n c : Nat)(zs : List Int)(w : World)(h0 : aI (all w) 1 A n (aM zs))(hz : aBv zs)(hn : n = zs.length)(hn2 : n ≤ 9223372036854775807) :
    Cz 9 #[.slice A n c] w fun x w'=>(∃v hs q,x=.returned v∧q.w=w'∧(∃p hs',hs=p::hs'∧aEq v hs' q)∧gJ w hs q)∧Below w.heap.size w w':=by
  refine aN func9 ntmps9 ?_;refine aB ?_;refine cE fun g1=>?_;refine aB ?_;refine lX 8 (n:=120) (el:=3) (z:=iv 0) (by kernel_rfl) (by kernel_rfl) rfl rfl rfl (by omega) (by omega) (by decide) fun g2=>?_;refine aB ?_;refine sZ (α:=List Int) (fun _=>[(4,.slice (some ⟨g2,0,none⟩) 120 120),(2,pt g1)]) (fun ds=>[HP.aE g2 3 (aM ds),HP.aE g1 30 [sn,sn,sn,sn]]) yC ?_ fun ds hd=>?_
  · refine rL (α:=List Int) (fun i _=>[(5,iv i),(4,.slice (some ⟨g2,0,none⟩) 120 120),(2,pt g1),(0,.slice A n c)]) (fun _ ds=>[HP.aE g2 3 (aM ds),HP.aE g1 30 [sn,sn,sn,sn]]) (fun _ ds=>yC ds) 120 (List.replicate 120 0) yC.zero fun k ds hk hd=>?_
    refine aB ?_;refine bZ (t:=23) rfl (fun hg=>?_) (fun hg=>?_)
    · refine aB ?_
      refine aG rfl (fun h=>?_) (fun h=>?_)
      · have hk2:k < 120:=by omega
        have hn0:0 < n:=by omega
        obtain⟨b,off,rfl,eX,hc⟩:=h0.2 hn0
        have hkb:=Gg (k:Int) (n:=(n:Int)) (by omega)
        have hdb:0≤(k:Int) / (n:Int)∧(k:Int) / (n:Int)≤k:=⟨Int.ediv_nonneg (by omega) (by omega),Int.ediv_le_self _ (by omega)⟩
        have k0:fS w b (off+((k:Int) % (n:Int)).toNat) (iv (zs[((k:Int) % (n:Int)).toNat]?.getD 0)):=⟨eX,hc _ _ (aC4 zs _ (by omega))⟩
        have hyb:=aJV (z:=zs[((k:Int) % (n:Int)).toNat]?.getD 0) (d:=1+(k:Int) / (n:Int)) (lo:= -9223372036854775808) (hi:=9223372036854775807) (by omega) (by omega) (by omega) (hz _)
        refine aB ?_;refine uN ?_;refine aL 15 ?_;refine kcV (fun v=>∃r:Int,v=iv r∧0≤r∧r < 1000000) (fun w1 st=>aLL _ _ w1 hyb (by omega)) fun v hv=>?_;obtain⟨r,rfl,Dd,dQ⟩:=hv;refine bE ?_;refine uO [16,17] ?_;refine aB ?_;refine eN rfl rfl ?_ (hs:=eJ.mk 0 rfl cP.h rfl (by simp[aM,hd.1];omega));dsimp only[List.set];rw[aAo];refine aB ?_;exact kC _ (hg:=hd.kU k Dd dQ)
      · refine aB ?_
        exact dM _
    · refine aB ?_
      exact dM _
  refine aB ?_;refine eK fun g3=>?_;refine aB ?_;refine cE fun g4=>?_;refine aB ?_;refine Mx 1 6 1 rfl rfl (by omega) ?_;dsimp only[List.set];refine aIh (p:=pZ [⟨111,[],1+dv ds 0 % 1000000,0,0,0⟩] [[.int .u8 111,sn,.int .u64 (1+dv ds 0 % 1000000),iv 0,iv 0,iv 0]]) (fun w=>⟨rfl,⟨none,0,0,rfl,rfl,rfl,fun h=>absurd h (by omega)⟩,trivial⟩) ?_;refine sZ (α:=(List eV×List (List Value))×(Option Addr×Nat)×Nat) (fun _=>[(6,pt g4),(4,.slice (some ⟨g2,0,none⟩) 120 120),(2,pt g1)]) (fun x=>[pZ x.1.1 x.1.2,HP.own 86 6 (.slice x.2.1.1 x.2.2 x.2.1.2) x.2.2 x.1.2.flatten,HP.aE g4 30 [.slice x.2.1.1 x.2.2 x.2.1.2,sn,sn,sn],HP.aE g2 3 (aM ds),HP.aE g1 30 [sn,sn,sn,sn]]) (fun x=>x.1.1.length=x.2.2∧1≤x.2.2∧x.2.2≤9∧Fits eV.fit x.1.1) ?_ fun x hx=>?_
  · refine rL (α:=(List eV×List (List Value))×(Option Addr×Nat)×List Value) (fun i _=>[(8,iv i),(7,.string ⟨#[112,100,103,109,103]⟩),(6,pt g4),(4,.slice (some ⟨g2,0,none⟩) 120 120),(3,iv 1),(2,pt g1)]) (fun i x=>[pZ x.1.1 x.1.2,HP.own 86 6 (.slice x.2.1.1 (i+1) x.2.1.2) (i+1) x.2.2,HP.aE g4 30 [.slice x.2.1.1 (i+1) x.2.1.2,sn,sn,sn],HP.aE g2 3 (aM ds),HP.aE g1 30 [sn,sn,sn,sn]]) (fun i x=>x.1.1.length=i+1∧i≤8∧Fits eV.fit x.1.1∧x.2.2=x.1.2.flatten) 9 (([⟨111,[],1+dv ds 0 % 1000000,0,0,0⟩],[[.int .u8 111,sn,.int .u64 (1+dv ds 0 % 1000000),iv 0,iv 0,iv 0]]),(_,_),_) ⟨rfl,by omega,(Fits.nil eV.fit).snoc ⟨by simp,.inl ⟨rfl,rfl,by dsimp only;omega,by dsimp only;omega,rfl,rfl,rfl⟩⟩,rfl⟩ fun i x hi hx=>?_
    obtain⟨⟨cs,rows⟩,⟨B,cB⟩,xs⟩:=x;dsimp only at hx⊢;obtain⟨iL,hi8,hcf,rfl⟩:=hx;refine aB ?_;refine aG rfl (fun h=>?_) (fun h=>?_)
    · obtain⟨kb,hkb,aN8⟩:=aNg (q:=(dv ds (10+3*(i:Int)).toNat % 1000000 % 5).toNat) (by omega)
      have f0:=Gg (dv ds ((10+3*(i:Int))+1).toNat % 1000000) (n:=((i+1:Nat):Int)) (by omega)
      refine aB ?_;refine Ru (α:=Nat×Nat) (fun x=>[(10,.pointer (some ⟨x.2,0,none⟩)),(9,iv (10+3*(i:Int))),(8,iv i),(7,.string ⟨#[112,100,103,109,103]⟩),(6,pt g4),(4,.slice (some ⟨g2,0,none⟩) 120 120),(3,iv 1),(2,pt g1)]) (fun x=>[HP.aE x.2 86 [.int .u8 kb.toNat,.slice (some ⟨x.1,0,none⟩) 1 1,.int .u64 0,iv 0,iv 0,iv 0],HP.aE x.1 3 [iv (dv ds ((10+3*(i:Int))+1).toNat % 1000000 % ((i+1:Nat):Int))],pZ cs rows,HP.own 86 6 (.slice B (i+1) cB) (i+1) rows.flatten,HP.aE g4 30 [.slice B (i+1) cB,sn,sn,sn],HP.aE g2 3 (aM ds),HP.aE g1 30 [sn,sn,sn,sn]]) (fun _=>True) ?_ fun x _=>?_
      · refine uN ?_
        refine zL 16 18 rfl rfl (by kernel_rfl) ?_ ?_
        · refine eK fun g5=>?_
          refine bE ?_;refine nJ 17 ?_;refine aL 18 ?_;refine cE fun g6=>?_;refine bE ?_;refine uO [19] ?_;refine aB ?_;exact dM (_,_)
        · refine cE fun g6=>?_
          refine bE ?_;refine aL 16 ?_;refine eK fun g5=>?_;refine bE ?_;refine nJ 17 ?_;refine uO [19] ?_;refine aC3 ?_;refine lM 1 rfl ?_;dsimp only[List.set];refine aB ?_;exact dM (_,_)
      obtain⟨g5,g6⟩:=x;dsimp only
      have f1:=Gg (dv ds ((10+3*(i:Int))+2).toNat % 1000000) (n:=((i+1:Nat):Int)) (by omega)
      refine Mx 1 1 1 rfl rfl (by omega) ?_;dsimp only[List.set];refine aB ?_;refine sZ (α:=eV×(Option Addr×Nat)) (fun _=>[(10,pt g6),(8,iv i),(7,.string ⟨#[112,100,103,109,103]⟩),(6,pt g4),(4,.slice (some ⟨g2,0,none⟩) 120 120),(3,iv 1),(2,pt g1)]) (fun x=>[HP.aE g6 86 [.int .u8 x.1.kind,.slice x.2.1 x.1.src.length x.2.2,.int .u64 x.1.rate,iv x.1.mul,iv x.1.div,iv x.1.lock],HP.own 3 1 (.slice x.2.1 x.1.src.length x.2.2) x.1.src.length (aM x.1.src),pZ cs rows,HP.own 86 6 (.slice B (i+1) cB) (i+1) rows.flatten,HP.aE g4 30 [.slice B (i+1) cB,sn,sn,sn],HP.aE g2 3 (aM ds),HP.aE g1 30 [sn,sn,sn,sn]]) (fun x=>x.1.fit (i+1)) ?_ fun x hx=>?_
      · refine aG rfl (fun h1=>?_) (fun h1=>?_)
        · refine aB ?_
          exact dM (⟨_,[dv ds ((10+3*(i:Int))+1).toNat % 1000000 % ((i+1:Nat):Int)],_,_,_,_⟩,_,_) (hg:=⟨(fun f hf=>by rcases List.mem_singleton.1 hf with rfl;exact f0),.inr (.inl ⟨h1,rfl,rfl,by dsimp only;omega,by dsimp only;omega,by dsimp only;omega,by dsimp only;omega,by dsimp only;omega,by dsimp only;omega⟩)⟩)
        refine aB ?_;refine aG rfl (fun h2=>?_) (fun h2=>?_)
        · refine aB ?_
          exact dM (⟨_,[dv ds ((10+3*(i:Int))+1).toNat % 1000000 % ((i+1:Nat):Int)],_,_,_,_⟩,_,_) (hg:=⟨(fun f hf=>by rcases List.mem_singleton.1 hf with rfl;exact f0),.inr (.inr (.inl ⟨h2,rfl,rfl,rfl,by dsimp only;omega,by dsimp only;omega,rfl⟩))⟩)
        refine aB ?_;refine aG rfl (fun h3=>?_) (fun h3=>?_)
        · refine uN ?_
          refine aL 11 ?_;refine eK fun g7=>?_;refine bE ?_;refine uO [12,13,14] ?_;refine aB ?_;refine Im 2 fun A' k'=>?_;dsimp only[List.set];refine aB ?_;exact dM (⟨_,[dv ds ((10+3*(i:Int))+1).toNat % 1000000 % ((i+1:Nat):Int),dv ds ((10+3*(i:Int))+2).toNat % 1000000 % ((i+1:Nat):Int)],_,_,_,_⟩,_,_) (hg:=⟨(fun f hf=>by simp only[List.mem_cons,List.not_mem_nil,or_false] at hf;rcases hf with rfl | rfl;exact f0;exact f1),.inr (.inr (.inr (.inr ⟨h3,rfl,rfl,rfl,rfl,rfl⟩)))⟩)
        · refine aB ?_
          exact dM (⟨_,[dv ds ((10+3*(i:Int))+1).toNat % 1000000 % ((i+1:Nat):Int)],_,_,_,_⟩,_,_) (hg:=⟨(fun f hf=>by rcases List.mem_singleton.1 hf with rfl;exact f0),.inr (.inr (.inr (.inl ⟨by rcases aN8 with h | h | h | h<;>simp_all,rfl,rfl,rfl,rfl,rfl⟩)))⟩)
      obtain⟨cl,Af,cf⟩:=x;dsimp only at hx⊢;refine aB ?_;refine eK fun g7=>?_;refine aB ?_;refine Im 4 fun A' k'=>?_;dsimp only[List.set];refine aB ?_;refine aT [2,3,4,5,6,7] rfl (by decide) (fun _ h=>h) ?_;refine aRU ?_;exact kC ((_,_),(_,_),_) (hg:=⟨by simp[iL],by omega,hcf.snoc (by rw[iL];exact hx),by simp⟩)
    · refine aB ?_
      exact dM ((_,_),(_,_),_) (hg:=⟨iL,Nat.succ_pos i,Nat.succ_le_succ hi8,hcf⟩)
  obtain⟨⟨cs,rows⟩,⟨B,cB⟩,nc⟩:=x;dsimp only at hx⊢;obtain⟨iL,Py,hc9,hcf⟩:=hx;refine aB ?_;refine lT 88 3 ?_;refine sZ (α:=(List Dom×List (List Value))×(Option Addr×Nat)×Nat) (fun _=>[(6,pt g4),(4,.slice (some ⟨g2,0,none⟩) 120 120),(2,pt g1)]) (fun x=>[HP.own 88 3 (.slice x.2.1.1 x.2.2 x.2.1.2) x.2.2 x.1.2.flatten,pZ cs rows,HP.own 86 6 (.slice B nc cB) nc rows.flatten,HP.aE g4 30 [.slice B nc cB,.slice x.2.1.1 x.2.2 x.2.1.2,sn,sn],HP.aE g2 3 (aM ds),HP.aE g1 30 [sn,sn,sn,sn]]) (fun x=>x.1.1.length=x.2.2∧1≤x.2.2∧x.2.2≤4∧Fits Dom.fit x.1.1∧Rows tI 3 x.1.1 x.1.2) ?_ fun x hx=>?_
  · refine rL (α:=(List Dom×List (List Value))×(Option Addr×Nat)×List Value) (fun i _=>[(11,iv i),(6,pt g4),(4,.slice (some ⟨g2,0,none⟩) 120 120),(2,pt g1)]) (fun i x=>[HP.own 88 3 (.slice x.2.1.1 i x.2.1.2) i x.2.2,pZ cs rows,HP.own 86 6 (.slice B nc cB) nc rows.flatten,HP.aE g4 30 [.slice B nc cB,.slice x.2.1.1 i x.2.1.2,sn,sn],HP.aE g2 3 (aM ds),HP.aE g1 30 [sn,sn,sn,sn]]) (fun i x=>x.1.1.length=i∧Fits Dom.fit x.1.1∧Rows tI 3 x.1.1 x.1.2∧x.2.2=x.1.2.flatten) 4 (([],[]),(none,0),[]) ⟨rfl,Fits.nil _,trivial,rfl⟩ fun i x hi hx=>?_
    obtain⟨⟨dm,zA⟩,⟨D,cD⟩,xs⟩:=x;dsimp only at hx⊢;obtain⟨kZ,hdf,Pv,rfl⟩:=hx;refine aB ?_;refine aG rfl (fun h=>?_) (fun h=>?_)
    · refine aB ?_
      refine uN ?_;refine aL 15 ?_;refine cE fun g5=>?_;refine bE ?_;refine uO [16] ?_;refine aC3 ?_;refine lM 0 rfl ?_;dsimp only[List.set];refine aGg ?_;refine gP ?_;refine Gx (α:=Int) (fun _=>[(12,pt g5),(11,iv i),(6,pt g4),(4,.slice (some ⟨g2,0,none⟩) 120 120),(2,pt g1)]) (fun v=>[HP.aE g5 88 [iv v,iv (dv ds (40+(i:Int)).toNat % 4),.bool (decide (dv ds (40+(i:Int)).toNat % 1000000 / 4 % 2=1))],HP.own 88 3 (.slice D i cD) i zA.flatten,pZ cs rows,HP.own 86 6 (.slice B nc cB) nc rows.flatten,HP.aE g4 30 [.slice B nc cB,.slice D i cD,sn,sn],HP.aE g2 3 (aM ds),HP.aE g1 30 [sn,sn,sn,sn]]) (fun v=>v= -1∨(0≤v∧v < i)) ?_ fun v hv=>?_
      · refine aB ?_
        refine bZ (t:=172) rfl (fun hg=>?_) (fun hg=>?_)
        · have f2:=Gg (dv ds (44+(i:Int)).toNat % 1000000 / 3) (n:=(i:Int)) hg
          refine aB ?_;refine aG rfl (fun h3=>?_) (fun h3=>?_)
          · refine aB ?_
            exact dM _ (hg:=.inr f2)
          · refine aB ?_
            exact dM _ (hg:=.inl rfl)
        · refine aB ?_
          exact dM _ (hg:=.inl rfl)
      refine aB ?_;refine eK fun g7=>?_;refine aB ?_;refine Im 2 fun A' k'=>?_;dsimp only[List.set];refine aB ?_;exact kC ((dm++[⟨v,dv ds (40+(i:Int)).toNat % 4,decide (dv ds (40+(i:Int)).toNat % 1000000 / 4 % 2=1)⟩],zA++[_]),(_,_),_) (hg:=⟨by simp[kZ],hdf.snoc ⟨by rw[kZ];exact hv,by dsimp only;omega,by dsimp only;omega⟩,Pv.snoc rfl rfl,by simp⟩)
    · refine aB ?_
      exact dM ((_,_),(_,_),_) (hg:=⟨kZ,by show 1≤i;omega,hi,hdf,Pv⟩)
  obtain⟨⟨dm,zA⟩,⟨D,cD⟩,nd⟩:=x;dsimp only at hx⊢;obtain⟨kZ,cZ,hd4,hdf,Pv⟩:=hx;refine aB ?_;refine lT 90 1 ?_;refine sZ (α:=(List Int×List (List Value))×(Option Addr×Nat)×Nat) (fun _=>[(6,pt g4),(4,.slice (some ⟨g2,0,none⟩) 120 120),(2,pt g1)]) (fun x=>[HP.own 90 1 (.slice x.2.1.1 x.2.2 x.2.1.2) x.2.2 x.1.2.flatten,HP.own 88 3 (.slice D nd cD) nd zA.flatten,pZ cs rows,HP.own 86 6 (.slice B nc cB) nc rows.flatten,HP.aE g4 30 [.slice B nc cB,.slice D nd cD,.slice x.2.1.1 x.2.2 x.2.1.2,sn],HP.aE g2 3 (aM ds),HP.aE g1 30 [sn,sn,sn,sn]]) (fun x=>x.1.1.length=x.2.2∧1≤x.2.2∧x.2.2≤3∧(∀r∈x.1.1,0≤r∧r≤3)∧Rows xW 1 x.1.1 x.1.2) ?_ fun x hx=>?_
  · refine rL (α:=(List Int×List (List Value))×(Option Addr×Nat)×List Value) (fun i _=>[(13,iv i),(6,pt g4),(4,.slice (some ⟨g2,0,none⟩) 120 120),(2,pt g1)]) (fun i x=>[HP.own 90 1 (.slice x.2.1.1 i x.2.1.2) i x.2.2,HP.own 88 3 (.slice D nd cD) nd zA.flatten,pZ cs rows,HP.own 86 6 (.slice B nc cB) nc rows.flatten,HP.aE g4 30 [.slice B nc cB,.slice D nd cD,.slice x.2.1.1 i x.2.1.2,sn],HP.aE g2 3 (aM ds),HP.aE g1 30 [sn,sn,sn,sn]]) (fun i x=>x.1.1.length=i∧(∀r∈x.1.1,0≤r∧r≤3)∧Rows xW 1 x.1.1 x.1.2∧x.2.2=x.1.2.flatten) 3 (([],[]),(none,0),[]) ⟨rfl,by simp,trivial,rfl⟩ fun i x hi hx=>?_
    obtain⟨⟨rs,rrs⟩,⟨L,cL⟩,xs⟩:=x;dsimp only at hx⊢;obtain⟨hrl,Fo,cQ,rfl⟩:=hx;refine aB ?_;refine aG rfl (fun h=>?_) (fun h=>?_)
    · refine aB ?_
      refine uN ?_;refine aL 9 ?_;refine eK fun g7=>?_;refine bE ?_;refine uO [10,11,12] ?_;refine aB ?_;refine Im 1 fun A' k'=>?_;dsimp only[List.set];refine aB ?_
      exact kC ((rs++[dv ds (50+(i:Int)).toNat % 4],rrs++[_]),(_,_),_) (hg:=⟨by simp[hrl],(fun r hr=>by
        rcases List.mem_append.1 hr with hr | hr
        · exact Fo r hr
        · rcases List.mem_singleton.1 hr with rfl
          omega),cQ.snoc rfl rfl,by simp⟩)
    · refine aB ?_
      exact dM ((_,_),(_,_),_) (hg:=⟨hrl,by show 1≤i;omega,hi,Fo,cQ⟩)
  obtain⟨⟨rs,rrs⟩,⟨L,cL⟩,nr⟩:=x;dsimp only at hx⊢;obtain⟨hrl,dQ,xA,Fo,cQ⟩:=hx;refine aB ?_;refine lT 93 6 ?_;refine aIh (p:=Dw [] []) (fun w=>trivial) ?_;refine sZ (α:=(List cG×List (List Value))×(Option Addr×Nat)×Nat) (fun _=>[(6,pt g4),(4,.slice (some ⟨g2,0,none⟩) 120 120),(2,pt g1)]) (fun x=>[Dw x.1.1 x.1.2,HP.own 93 6 (.slice x.2.1.1 x.2.2 x.2.1.2) x.2.2 x.1.2.flatten,HP.own 90 1 (.slice L nr cL) nr rrs.flatten,HP.own 88 3 (.slice D nd cD) nd zA.flatten,pZ cs rows,HP.own 86 6 (.slice B nc cB) nc rows.flatten,HP.aE g4 30 [.slice B nc cB,.slice D nd cD,.slice L nr cL,.slice x.2.1.1 x.2.2 x.2.1.2],HP.aE g2 3 (aM ds),HP.aE g1 30 [sn,sn,sn,sn]]) (fun x=>x.1.1.length=x.2.2∧1≤x.2.2∧x.2.2≤4∧Fits (cG.fit nc nd nr) x.1.1) ?_ fun x hx=>?_
  · refine rL (α := (List cG × List (List Value)) × (Option Addr × Nat) × List Value) (fun i _ => [(14, iv i), (6, pt g4), (4, .slice (some ⟨g2, 0, none⟩) 120 120), (2, pt g1)]) (fun i x => [Dw x.1.1 x.1.2, HP.own 93 6 (.slice x.2.1.1 i x.2.1.2) i x.2.2, HP.own 90 1 (.slice L nr cL) nr rrs.flatten, HP.own 88 3 (.slice D nd cD) nd zA.flatten, pZ cs rows, HP.own 86 6 (.slice B nc cB) nc rows.flatten, HP.aE g4 30 [.slice B nc cB, .slice D nd cD, .slice L nr cL, .slice x.2.1.1 i x.2.1.2], HP.aE g2 3 (aM ds), HP.aE g1 30 [sn, sn, sn, sn]]) (fun i x => x.1.1.length = i ∧ Fits (cG.fit nc nd nr) x.1.1 ∧ x.2.2 = x.1.2.flatten) 4 (([], []), (none, 0), []) ⟨rfl, Fits.nil _, rfl⟩ fun i x hi hx => ?_
    obtain⟨⟨vs,r4⟩,⟨V,cV⟩,xs⟩:=x;dsimp only at hx⊢;obtain⟨hvl,hvf,rfl⟩:=hx;refine aB ?_;refine aG rfl (fun h=>?_) (fun h=>?_)
    · have q0 := Gg (dv ds (60 + 12 * (i : Int)).toNat % 1000000) (n := (nc : Int)) (by omega)
      have q1:=Gg (dv ds (60+12*(i:Int)+1).toNat % 1000000) (n:=(nd:Int)) (by omega)
      have q2:=Gg (dv ds (60+12*(i:Int)+2).toNat % 1000000) (n:=(nr:Int)) (by omega)
      refine aB ?_;refine uN ?_;refine aL 34 ?_;refine cE fun g5=>?_;refine bE ?_;refine uO [35] ?_;refine aB ?_;refine lT 95 2 ?_;refine sZ (α:=List Rg×(Option Addr×Nat)×Nat) (fun _=>[(16,pt g5),(15,iv (60+12*(i:Int))),(14,iv i),(6,pt g4),(4,.slice (some ⟨g2,0,none⟩) 120 120),(2,pt g1)]) (fun x=>[HP.own 95 2 (.slice x.2.1.1 x.2.2 x.2.1.2) x.2.2 (x.1.flatMap Rg.cells),HP.aE g5 93 [iv (dv ds (60+12*(i:Int)).toNat % 1000000 % (nc:Int)),iv (dv ds (60+12*(i:Int)+1).toNat % 1000000 % (nd:Int)),iv (dv ds (60+12*(i:Int)+2).toNat % 1000000 % (nr:Int)),.int .u32 (dv ds (60+12*(i:Int)+3).toNat % 1000000 % 3),.slice x.2.1.1 x.2.2 x.2.1.2,sn],Dw vs r4,HP.own 93 6 (.slice V i cV) i r4.flatten,HP.own 90 1 (.slice L nr cL) nr rrs.flatten,HP.own 88 3 (.slice D nd cD) nd zA.flatten,pZ cs rows,HP.own 86 6 (.slice B nc cB) nc rows.flatten,HP.aE g4 30 [.slice B nc cB,.slice D nd cD,.slice L nr cL,.slice V i cV],HP.aE g2 3 (aM ds),HP.aE g1 30 [sn,sn,sn,sn]]) (fun x=>x.1.length=x.2.2∧x.2.2≤4∧∀r∈x.1,0≤r.reset∧r.reset≤6) ?_ fun x hx=>?_
      · refine rL (α:=List Rg×(Option Addr×Nat)×List Value) (fun j _=>[(17,iv j),(16,pt g5),(15,iv (60+12*(i:Int))),(14,iv i),(6,pt g4),(4,.slice (some ⟨g2,0,none⟩) 120 120),(2,pt g1)]) (fun j x=>[HP.own 95 2 (.slice x.2.1.1 j x.2.1.2) j x.2.2,HP.aE g5 93 [iv (dv ds (60+12*(i:Int)).toNat % 1000000 % (nc:Int)),iv (dv ds (60+12*(i:Int)+1).toNat % 1000000 % (nd:Int)),iv (dv ds (60+12*(i:Int)+2).toNat % 1000000 % (nr:Int)),.int .u32 (dv ds (60+12*(i:Int)+3).toNat % 1000000 % 3),.slice x.2.1.1 j x.2.1.2,sn],Dw vs r4,HP.own 93 6 (.slice V i cV) i r4.flatten,HP.own 90 1 (.slice L nr cL) nr rrs.flatten,HP.own 88 3 (.slice D nd cD) nd zA.flatten,pZ cs rows,HP.own 86 6 (.slice B nc cB) nc rows.flatten,HP.aE g4 30 [.slice B nc cB,.slice D nd cD,.slice L nr cL,.slice V i cV],HP.aE g2 3 (aM ds),HP.aE g1 30 [sn,sn,sn,sn]]) (fun j x=>x.1.length=j∧(∀r∈x.1,0≤r.reset∧r.reset≤6)∧x.2.2=x.1.flatMap Rg.cells) 4 ([],(none,0),[]) ⟨rfl,by simp,rfl⟩ fun j x hj hx=>?_
        obtain⟨rg,⟨W,cW⟩,xs⟩:=x;dsimp only at hx⊢;obtain⟨oN,hgf,rfl⟩:=hx;refine aB ?_;refine aG rfl (fun h5=>?_) (fun h5=>?_)
        · refine aB ?_
          refine uN ?_;refine aL 22 ?_;refine eK fun g7=>?_;refine bE ?_;refine uO [23,24,25] ?_;refine aB ?_;refine Im 1 fun A' k'=>?_;dsimp only[List.set];refine aB ?_
          exact kC (rg++[⟨dv ds (60+12*(i:Int)+5+(j:Int)).toNat % 1000000 % 7,decide (dv ds (60+12*(i:Int)+5+(j:Int)).toNat % 1000000 / 7 % 2=0)⟩],(_,_),_) (hg:=⟨by simp[oN],(fun r hr=>by
            rcases List.mem_append.1 hr with hr | hr
            · exact hgf r hr
            · rcases List.mem_singleton.1 hr with rfl
              dsimp only
              omega),by simp[Rg.cells]⟩)
        · refine aB ?_
          exact dM (_,(_,_),_) (hg:=⟨oN,hj,hgf⟩)
      obtain⟨rg,⟨W,cW⟩,ng⟩:=x;dsimp only at hx⊢;obtain⟨rfl,hg4,hgf⟩:=hx;refine lT 3 1 ?_;refine Gx (α:=(List Int×List Value)×(Option Addr×Nat)×Nat) (fun _=>[(16,pt g5),(15,iv (60+12*(i:Int))),(14,iv i),(6,pt g4),(4,.slice (some ⟨g2,0,none⟩) 120 120),(2,pt g1)]) (fun x=>[HP.own 3 1 (.slice x.2.1.1 x.2.2 x.2.1.2) x.2.2 x.1.2,HP.own 95 2 (.slice W rg.length cW) rg.length (rg.flatMap Rg.cells),HP.aE g5 93 [iv (dv ds (60+12*(i:Int)).toNat % 1000000 % (nc:Int)),iv (dv ds (60+12*(i:Int)+1).toNat % 1000000 % (nd:Int)),iv (dv ds (60+12*(i:Int)+2).toNat % 1000000 % (nr:Int)),.int .u32 (dv ds (60+12*(i:Int)+3).toNat % 1000000 % 3),.slice W rg.length cW,.slice x.2.1.1 x.2.2 x.2.1.2],Dw vs r4,HP.own 93 6 (.slice V i cV) i r4.flatten,HP.own 90 1 (.slice L nr cL) nr rrs.flatten,HP.own 88 3 (.slice D nd cD) nd zA.flatten,pZ cs rows,HP.own 86 6 (.slice B nc cB) nc rows.flatten,HP.aE g4 30 [.slice B nc cB,.slice D nd cD,.slice L nr cL,.slice V i cV],HP.aE g2 3 (aM ds),HP.aE g1 30 [sn,sn,sn,sn]]) (fun x=>x.1.1.length=x.2.2∧x.2.2≤1∧x.1.2=aM x.1.1∧∀f∈x.1.1,0≤f∧f < i) ?_ fun x hx=>?_
      · refine aB ?_
        refine bZ (t:=300) rfl (fun hg=>?_) (fun hg=>?_)
        · have f2:=Gg (dv ds (60+12*(i:Int)+10).toNat % 1000000) (n:=(i:Int)) hg
          refine aB ?_;refine aG rfl (fun h3=>?_) (fun h3=>?_)
          · refine uN ?_
            refine aL 9 ?_;refine eK fun g7=>?_;refine bE ?_;refine uO [10,11,12] ?_;refine aB ?_;refine Im 1 fun A' k'=>?_;dsimp only[List.set];refine aB ?_;exact dM (([_],_),(_,_),_) (hg:=⟨rfl,Nat.le_refl _,rfl,fun f hf=>by rcases List.mem_singleton.1 hf with rfl;exact f2⟩)
          · refine aB ?_
            exact dM (([],_),(_,_),_) (hg:=⟨rfl,Nat.zero_le _,rfl,by simp⟩)
        · refine aB ?_
          exact dM (([],_),(_,_),_) (hg:=⟨rfl,Nat.zero_le _,rfl,by simp⟩)
      obtain⟨⟨ns,xs⟩,⟨U,cU⟩,nn⟩:=x;dsimp only at hx⊢;obtain⟨fK,qK,rfl,hnf⟩:=hx;refine Gx (α:=(List Int×List Value)×(Option Addr×Nat)×Nat) (fun _=>[(16,pt g5),(15,iv (60+12*(i:Int))),(14,iv i),(6,pt g4),(4,.slice (some ⟨g2,0,none⟩) 120 120),(2,pt g1)]) (fun x=>[HP.own 3 1 (.slice x.2.1.1 x.2.2 x.2.1.2) x.2.2 x.1.2,HP.own 95 2 (.slice W rg.length cW) rg.length (rg.flatMap Rg.cells),HP.aE g5 93 [iv (dv ds (60+12*(i:Int)).toNat % 1000000 % (nc:Int)),iv (dv ds (60+12*(i:Int)+1).toNat % 1000000 % (nd:Int)),iv (dv ds (60+12*(i:Int)+2).toNat % 1000000 % (nr:Int)),.int .u32 (dv ds (60+12*(i:Int)+3).toNat % 1000000 % 3),.slice W rg.length cW,.slice x.2.1.1 x.2.2 x.2.1.2],Dw vs r4,HP.own 93 6 (.slice V i cV) i r4.flatten,HP.own 90 1 (.slice L nr cL) nr rrs.flatten,HP.own 88 3 (.slice D nd cD) nd zA.flatten,pZ cs rows,HP.own 86 6 (.slice B nc cB) nc rows.flatten,HP.aE g4 30 [.slice B nc cB,.slice D nd cD,.slice L nr cL,.slice V i cV],HP.aE g2 3 (aM ds),HP.aE g1 30 [sn,sn,sn,sn]]) (fun x=>x.1.1.length=x.2.2∧x.2.2≤2∧x.1.2=aM x.1.1∧∀f∈x.1.1,0≤f∧f < i) ?_ fun x hx=>?_
      · refine aB ?_
        refine bZ (t:=323) rfl (fun hg=>?_) (fun hg=>?_)
        · have f2:=Gg (dv ds (60+12*(i:Int)+11).toNat % 1000000 / 3) (n:=(i:Int)) (by omega)
          refine aB ?_;refine aG rfl (fun h3=>?_) (fun h3=>?_)
          · refine uN ?_
            refine aL 10 ?_;refine eK fun g7=>?_;refine bE ?_;refine uO [11,12,13] ?_;refine aB ?_;refine Im 1 fun A' k'=>?_;dsimp only[List.set];refine aB ?_
            exact dM ((ns++[dv ds (60+12*(i:Int)+11).toNat % 1000000 / 3 % (i:Int)],_),(_,_),_) (hg:=⟨by simp[fK],by show nn+1≤2;omega,by simp[aM],fun f hf=>by
              rcases List.mem_append.1 hf with hf | hf
              · exact hnf f hf
              · rcases List.mem_singleton.1 hf with rfl
                exact f2⟩)
          · refine aB ?_
            exact dM ((_,_),(_,_),_) (hg:=⟨fK,Nat.le_succ_of_le qK,rfl,hnf⟩)
        · refine aB ?_
          exact dM ((_,_),(_,_),_) (hg:=⟨fK,Nat.le_succ_of_le qK,rfl,hnf⟩)
      obtain⟨⟨ns,xs⟩,⟨U,cU⟩,nn⟩:=x;dsimp only at hx⊢;obtain⟨rfl,hn2,rfl,hnf⟩:=hx;refine aB ?_;refine eK fun g7=>?_;refine aB ?_;refine Im 5 fun A' k'=>?_;dsimp only[List.set];refine aB ?_;refine aT [2,1,4,5,6,7,8,9,10,11,12] rfl (by decide) (fun _ h=>h) ?_;refine aRS (d:=⟨dv ds (60+12*(i:Int)).toNat % 1000000 % (nc:Int),dv ds (60+12*(i:Int)+1).toNat % 1000000 % (nd:Int),dv ds (60+12*(i:Int)+2).toNat % 1000000 % (nr:Int),dv ds (60+12*(i:Int)+3).toNat % 1000000 % 3,rg,ns⟩) ?_;exact kC ((_,_),(_,_),_) (hg:=⟨by simp[hvl],hvf.snoc ⟨q0.1,q0.2,q1.1,q1.2,q2.1,q2.2,by dsimp only;omega,by dsimp only;omega,hg4,hgf,hn2,by rw[hvl];exact hnf⟩,by simp⟩)
    · refine aB ?_
      exact dM ((_,_),(_,_),_) (hg:=⟨hvl,by show 1≤i;omega,hi,hvf⟩)
  obtain⟨⟨vs,r4⟩,⟨V,cV⟩,nv⟩:=x;dsimp only at hx⊢;obtain⟨rfl,hv1,hv4,hvf⟩:=hx;subst iL;subst kZ;subst hrl;refine aB ?_;refine lM 8 rfl ?_;dsimp only[List.set];refine aB ?_;refine aT [8,5,4,3,2,1,0] rfl (by decide) (fun _ h=>h) ?_;refine dG [] [] [0,1,2,3,4,5,6] (by simp) rfl (by decide) (by decide) fun q _ _ hfr=>?_;exact Mw rfl (by kernel_rfl) rfl rfl (aO.whole 0 rfl) fun w1 t=>⟨⟨_,_,⟨w1,q.Z⟩,rfl,rfl,⟨_,_,rfl,⟨⟨cs,dm,rs,vs⟩,(B,cB),(D,cD),(L,cL),(V,cV),rows,zA,rrs,r4,rfl,⟨hcf,hdf,Fo,hvf,⟨Nat.zero_le _,hc9⟩,⟨Nat.zero_le _,hd4⟩,⟨Nat.zero_le _,xA⟩,⟨Nat.zero_le _,hv4⟩⟩,Pv,cQ,rfl⟩⟩,t.newR (by simp) (by simp) (hfr (by simp) (by simp))⟩,t.below (by simp)⟩
theorem aQx(A:Option Addr)(n c:Nat)(zs:List Int)(w:World)(h0:aI (all w) 1 A n (aM zs))(hz:aBv zs)(hn:n=zs.length)(hn2:n≤9223372036854775807):
  Cz 9 #[.slice A n c] w fun x w'=>(∃v,x=.returned v∧∃cs s,v=.agg cs∧uP (fH (fresh w w')) s cs∧s.made)∧Below w.heap.size w w':=
 (aQw A n c zs w h0 hz hn hn2).mono fun x w' ⟨⟨v,hs,q,h1,h2,⟨p,hs',h3,h4⟩,h5⟩,h6⟩=>⟨⟨v,h1,h4.weak h2 (by subst h3;exact h5.tail)⟩,h6⟩
end
section
section
variable{P:Program}{N:bY}{w0:World}{e:Env}{R:List Piece}{H:List HP}{d:Nat}{ty u:TypeId}{pos:String}{aH:Array Edge}{x y:Operand}
theorem aP2{t:TypeId}{xs:List Value}(hx:e.ev x=some (.agg xs.toArray))(hy:e.ev y=some (.agg xs.toArray))(hf:Mh P t xs xs=true:=by kernel_rfl)(hs:Jc xs xs=true:=by simp[Jc,We]):bR P N w0 e R H ⟨some d,.binOp .neq t x y u,ty,pos,aH,none⟩ (.bool false):=gT (fun a w hr=>by
 obtain⟨h1,h2⟩:=aFj (w:=w) hf
 simp[execOp,hr.ev hx,hr.ev hy,binOp,h1,h2,hs])
end
section
variable{N:bY}{w0:World}{e e':Env}{R:List Piece}{H:List HP}{Q:Exit→Act→World→Prop}{ops:Array Oper}{rest:List Oper}
theorem Mu{rest':List Oper}(k:XQ N w0 ops Q rest' e' R H)(hk:XQ N w0 ops Q rest' e' R H→XQ N w0 ops Q rest e R H:=by
  intro h
  repeat' ((with_reducible refine aDF ?_);first | refine vQ (by exact dz) ?_ | refine aDC ?_ | refine aDD ?_ | refine aDB ?_)
  exact h):XQ N w0 ops Q rest e R H:=hk k
theorem aDL{id:Nat}{l l':List Oper}(h:XQ N w0 l.toArray Q l' e R H)(hl:l=l':=by dsimp only[List.append])(hB:Region.lexB .any l.toArray=true:=by kernel_rfl)(hm:Tryz.prog.follows .mixedOrders=true:=by kernel_rfl):XK N w0 ((Code.region id l.toArray true).wp Tryz.prog Q) e R H:=lH (hl▸h) hB hm
end
end
section
theorem aMv{es:List iT}{z st:Option (Int×nW)}{i:Nat}{e:iT}(h:qH none es=some z)(he:es[i]? =some e)(hi:qH none (es.take i)=some st):∃st',vC st e=some st'∧qH none (es.take (i+1))=some st':=by
 have h1:es.take (i+1)=es.take i++[e]:=by rw[List.take_add_one,he];rfl
 have h2:=Zv (es.take i) e hi
 rw[←h1] at h2;rw[←List.take_append_drop (i+1) es,Zw] at h;cases hq:qH none (es.take (i+1)) with
 | none=>rw[hq] at h;cases h
 | some st'=>exact⟨st',h2.symm.trans hq,rfl⟩
def Yz:Option (Int×nW)→Int
 | none=> -1
 | some q=>q.1
theorem aJw(A:Option Addr)(n c:Nat)(zs:List Int)(B:Option Addr)(nb cb:Nat)(eL:List gL)(w:World)(h0:aI (all w) 1 A n (aM zs))(hz:aBv zs)(hn:n=zs.length)(hn2:n≤9223372036854775807)(h1:aI (all w) 12 B nb (eL.flatMap gL.cells))(hac:∀a∈eL,a.ok)(hnb:nb=eL.length)(aN3:nb≤2000000)(dD:eS (all w)):
  Cz 4 #[.slice A n c,.slice B nb cb] w (Rt (.bool true) w):=by
 subst hnb
 have hLw:∀{w1:World} {R:List Piece} {H:List HP},St w R H w1→all w∈R→eS (all w1):=fun t h=>eS.le dD (t.le h)
 refine aN func4 ntmps4 ?_;refine aB ?_;refine aV (fun w1 t=>aKo w1 (hLw t (by simp))) ?_;refine aB ?_;refine kA [] (fun v w w'=>∃cs s,v=.agg cs∧uP (fH (fresh w w')) s cs∧s.made) (fun w1 t=>aQx A n c zs w1 (h0.le (t.le (by simp))) hz hn hn2) ?_;rintro _ wc q0 ⟨cs,s,rfl,hS,hm⟩ hf _ _;obtain⟨A1,n1,k1,A2,n2,k2,A3,n3,k3,A4,n4,k4,rfl,hQ⟩:=uP.Q (hS.mono (kF hf));clear hf hS;refine cE fun gS=>?_;refine aB ?_;refine eW (aI0 s (runN s eL eL.length)) (fun w1 t=>aKI s A1 A2 A3 A4 n1 k1 n2 k2 n3 k3 n4 k4 B cb eL w1 (hQ.W (t.le (by simp)) (aAh hm)) hm (h1.le (t.le (by simp))) hac aN3 (hLw t (by simp))) ?_;rintro _ _ q1 ⟨g1,f1,r1,hL1,rfl,rfl,aSO⟩ _;dsimp only[List.cons_append,List.nil_append];refine vR (R':=[q0,all w]) (by simp) ?_;refine aB ?_;refine aG rfl (fun hg=>?_) (fun hg=>?_)
 ·refine aB ?_;exact dI
 refine aB ?_;obtain⟨hok,hne⟩:=aFh hm hac eL.length (Nat.le_refl _)
 have hne:=hne.es
 have hel:=hok.es
 have Lh:=hok.wd
 obtain⟨W,hW⟩:∃W,runN s eL eL.length=W:=⟨_,rfl⟩
 rw[hW] at hne hel Lh⊢;obtain⟨zz,wY⟩:∃zz,Wy W none=zz:=⟨_,rfl⟩
 rw[wY] at hne
 refine eW (aEl W.es) (fun w1 t=>by
  obtain⟨L,hr⟩:=t.wdR 0 rfl
  exact aEF g1 L _ w1 (by omega) (fun e he=>(Lh e he).2) hr) ?_
 rintro _ _ q3 ⟨Av,cv,rows,rfl,rfl,hs,hz⟩ _;dsimp only[List.nil_append];obtain⟨es,Lv⟩:∃es,W.es=es:=⟨_,rfl⟩
 rw[Lv] at hs hz hne hel⊢;clear Lh hW wY Lv;refine aT [] rfl (by decide) (R':=[q3,all w]) (by simp) ?_
 have hlr:=(Rows.len hz).1
 refine aB ?_;refine cE fun g10=>?_;refine aB ?_;refine sZ (α:=Unit) (fun _=>[]) (fun _=>[]) (fun _=>True) ?_ fun _ _=>?_
 ·refine rL (α:=Option (Int×nW)×nW) (fun i x=>[(11,iv i),(9,iv (Yz x.1)),(10,pt g10),(8,.slice Av es.length cv)]) (fun _ x=>[HP.aE g10 39 (clC x.2)]) (fun i x=>qH none (es.take i)=some x.1∧∀q,x.1=some q→q.2=x.2∧0≤q.1∧q.1≤2) es.length (none,rI) ⟨rfl,fun _ h=>by cases h⟩ fun i x hi hx=>?_;obtain⟨st,cc⟩:=x;obtain⟨hst,Ft⟩:=hx;dsimp only at hst Ft⊢;refine aB ?_;refine aG rfl (fun hlt=>?_) (fun hge=>?_)
  ·have hlt:i < es.length:=by omega
   obtain⟨ro,hro⟩:=get_some (l:=rows) (i:=i) (by omega);obtain⟨e,he,_,Aw,cw,rfl,_⟩:=Rows.at_ hz hro;obtain⟨st',kY,Uo⟩:=aMv hne he hst;obtain⟨b,off,rfl,eX,hc⟩:=aI.tQ hs (Rows.Ms hz) hro hlt;obtain⟨e1,e2,⟨e3,e4,e5,e6⟩,e7,e8,⟨e9,e10,e11,e12⟩,e13,e14⟩:=e;obtain⟨c1,c2,c3,c4⟩:=cc
   have hN:∀H,aO w [q3,all w] H b (off+i*14+2) [.int .u8 e3,iv e4,iv e5,.int .u32 e6]:=fun H=>aI6 (p:=q3) (by simp) eX fun j u hj=>by
    have:=hc (2+j) u (aDy (vs:=[.int .u8 e3,iv e4,iv e5,.int .u32 e6]) rfl hj)
    rwa [←Nat.add_assoc] at this
   refine Rn (Rd.ro (p:=q3) (by simp) eX (hc 0 _ rfl)) fun d0=>?_;refine Rn (Rd.ro (p:=q3) (by simp) eX (hc 1 _ rfl)) fun d1=>?_;refine Rn (Rd.ro (p:=q3) (by simp) eX (hc 9 _ rfl)) fun d9=>?_;unfold vC at kY;dsimp only at kY;refine aB ?_;refine aG rfl (fun hk=>?_) (fun hk=>?_)
   ·rw[if_pos hk] at kY;cases st with
    | some q=>cases kY
    | none =>
     dsimp only at kY;split at kY
     ·rename_i ht
      cases kY;dsimp only[Yz];refine aB ?_;refine bZ (t:=59) rfl (fun h=>absurd h (by show ¬e2 < 0;omega)) (fun _=>?_);refine aB ?_;refine aG rfl (fun h=>absurd h (by show ¬2 < e2;omega)) (fun _=>?_);refine aB ?_;refine kd (jT rfl (hN _)) ?_;refine aB ?_;exact kC (some (e2,⟨e3,e4,e5,e6⟩),⟨e3,e4,e5,e6⟩) (hg:=⟨Uo,fun q hq=>by cases hq;exact⟨rfl,ht.1,ht.2⟩⟩)
     ·cases kY
   rw[if_neg hk] at kY;refine aB ?_;refine aG rfl (fun hk=>?_) (fun hk=>?_)
   ·rw[if_pos hk] at kY;cases st with
    | none=>cases kY
    | some q =>
     dsimp only at kY;split at kY
     ·rename_i ht
      cases kY;obtain⟨q1,q2⟩:=q;obtain⟨rfl,rfl⟩:=ht;obtain⟨hq,_,_⟩:=Ft _ rfl;cases hq;dsimp only[Yz]
      have hN0:=hN [HP.aE g10 39 (clC ⟨e3,e4,e5,e6⟩)]
      refine aB ?_;refine aDL ?_;refine Mu ?_;refine Ed 86 rfl (fun h=>absurd rfl h) (fun _=>?_);refine Mu ?_;refine vQ (aP2 rfl rfl) ?_;refine Mu ?_;refine aAW ?_;refine aB ?_;exact kC (none,⟨e3,e4,e5,e6⟩) (hg:=⟨Uo,fun q hq=>by cases hq⟩)
     ·cases kY
   rw[if_neg hk] at kY;refine aB ?_;refine aG rfl (fun hk=>?_) (fun hk=>?_)
   ·rw [if_pos hk] at kY;cases st with
    | none=>cases kY
    | some q =>
     dsimp only at kY;split at kY
     ·rename_i ht
      cases kY;obtain⟨q1,q2⟩:=q;obtain⟨hkk,eD⟩:=ht;obtain⟨hq,De,tZ⟩:=Ft _ rfl;dsimp only at hq hkk eD De;subst hq;dsimp only at hkk eD;subst eD;dsimp only[Yz,clC];rcases hkk with rfl | rfl
      ·refine aB ?_;refine aDL ?_;refine Mu ?_;refine Ed 99 rfl (fun h=>absurd h (by omega)) (fun _=>?_);refine Mu ?_;refine aAW ?_;refine aB ?_;refine aG rfl (fun h=>absurd rfl h) (fun _=>?_);refine aB ?_;exact kC (some (q1,⟨114,_,c3,c4⟩),⟨114,_,c3,c4⟩) (hg:=⟨Uo,Ft⟩)
      ·refine aB ?_;refine aDL ?_;refine Mu ?_;refine Ed 99 rfl (fun h=>absurd h (by omega)) (fun _=>?_);refine Mu ?_;refine aAW ?_;refine aB ?_;refine aG rfl (fun h=>absurd rfl h) (fun _=>?_);refine aB ?_;exact kC (some (q1,⟨119,_,c3,c4⟩),⟨119,_,c3,c4⟩) (hg:=⟨Uo,Ft⟩)
     ·cases kY
   rw[if_neg hk] at kY;cases kY;refine aB ?_;exact kC (st,⟨c1,c2,c3,c4⟩) (hg:=⟨Uo,Ft⟩)
  ·obtain rfl:i=es.length:=by omega
   refine aB ?_;exact dM ()
 refine aB ?_;exact dI
end
section
section
variable{H:Type}{enc:TypeId×Value→H}{w:World}{fuel:Nat}{cs:List Value}{x:DataW H×List MemPlace}
theorem wV{α:Type}{l:List α}{n i:Nat}(h:l.length=n)(hi:i < n):∃y,l[i]? =some y:=⟨l[i]'(by omega),List.getElem?_eq_getElem _⟩
theorem aQY{a:Int}(h:(Lit.int .u32 a).wf=true):0≤a∧a < 4294967296:=by
 simp[Lit.wf,IntKind.min,IntKind.max,IntKind.signed,IntKind.bits] at h;omega
theorem aHW:Tryz.prog.cellsOf 74=12:=by kernel_rfl
theorem aHZ:Tryz.prog.cellsOf 72=6:=by kernel_rfl
theorem aHY:Tryz.prog.cellsOf 3=1:=by kernel_rfl
theorem aHX:Tryz.prog.cellsOf 37=1:=by kernel_rfl
theorem aJN{l:List Value}(h:l.length=12):∃a b c d e f g i j k m n,l=[a,b,c,d,e,f,g,i,j,k,m,n]:=by
 match l,h with
 | [a,b,c,d,e,f,g,i,j,k,m,n],_=>exact⟨a,b,c,d,e,f,g,i,j,k,m,n,rfl⟩
theorem aKn{l:List Value}(h:l.length=6):∃a b c d e f,l=[a,b,c,d,e,f]:=by
 match l,h with
 | [a,b,c,d,e,f],_=>exact⟨a,b,c,d,e,f,rfl⟩
theorem aRb(h:DataW.trod enc Tryz.prog w 0 (fun _=>true) true fuel 72 cs=some x):
  ∃a b c d e f:Int,cs=[iv a,iv b,iv c,iv d,iv e,iv f]∧(-9223372036854775808≤b∧b≤9223372036854775807)∧(-9223372036854775808≤c∧c≤9223372036854775807)∧(-9223372036854775808≤d∧d≤9223372036854775807)∧(-9223372036854775808≤e∧e≤9223372036854775807)∧(-9223372036854775808≤f∧f≤9223372036854775807):=by
 obtain⟨xs,n,rfl,_,hl,hxl,hf⟩:=DataW.trod_struct Tryz.underlying72 h;rw[aHZ] at hl;obtain⟨a,b,c,d,e,f,rfl⟩:=aKn hl
 have h0:=hf 0 _ rfl
 have h1:=hf 1 _ rfl
 have h2:=hf 2 _ rfl
 have h3:=hf 3 _ rfl
 have h4:=hf 4 _ rfl
 have h5:=hf 5 _ rfl
 simp only[List.getElem_toArray,List.getElem_cons_zero,List.getElem_cons_succ,List.drop_succ_cons,List.drop_zero,aHY,aHX,List.take_succ_cons,List.take_zero] at h0 h1 h2 h3 h4 h5;obtain⟨y0,e0⟩:=wV hxl (i:=0) (by simp);obtain⟨y1,e1⟩:=wV hxl (i:=1) (by simp);obtain⟨y2,e2⟩:=wV hxl (i:=2) (by simp);obtain⟨y3,e3⟩:=wV hxl (i:=3) (by simp);obtain⟨y4,e4⟩:=wV hxl (i:=4) (by simp);obtain⟨y5,e5⟩:=wV hxl (i:=5) (by simp);rw[e0] at h0;rw[e1] at h1;rw[e2] at h2;rw[e3] at h3;rw[e4] at h4;rw[e5] at h5;obtain⟨z0,g0,_,_⟩:=DataW.trod_int Tryz.underlying3 h0;obtain⟨z1,g1,_,w1⟩:=DataW.trod_int Tryz.underlying3 h1;obtain⟨z2,g2,_,w2⟩:=DataW.trod_int Tryz.underlying3 h2;obtain⟨z3,g3,_,w3⟩:=DataW.trod_int Tryz.underlying3 h3;obtain⟨z4,g4,_,w4⟩:=DataW.trod_int Tryz.underlying3 h4;obtain⟨z5,g5,_,w5⟩:=DataW.trod_int Tryz.underlying3 h5;simp at g0 g1 g2 g3 g4 g5;subst g0;subst g1;subst g2;subst g3;subst g4;subst g5;exact⟨_,_,_,_,_,_,rfl,Bx w1,Bx w2,Bx w3,Bx w4,Bx w5⟩
theorem aR9(h:DataW.trod enc Tryz.prog w 0 (fun _=>true) true fuel 74 cs=some x):∃v:gL,cs=v.cells∧v.ok:=by
 obtain⟨xs,n,rfl,_,hl,hxl,hf⟩:=DataW.trod_struct Tryz.underlying74 h;rw[aHW] at hl;obtain⟨a,b,c,d,e,f,g,i,j,k,m,n',rfl⟩:=aJN hl
 have h0:=hf 0 _ rfl
 have h1:=hf 1 _ rfl
 have h2:=hf 2 _ rfl
 have h3:=hf 3 _ rfl
 have h4:=hf 4 _ rfl
 have h5:=hf 5 _ rfl
 have h6:=hf 6 _ rfl
 simp only[List.getElem_toArray,List.getElem_cons_zero,List.getElem_cons_succ,List.drop_succ_cons,List.drop_zero,aHY,aHX,aHZ,List.take_succ_cons,List.take_zero] at h0 h1 h2 h3 h4 h5 h6;obtain⟨y0,e0⟩:=wV hxl (i:=0) (by simp);obtain⟨y1,e1⟩:=wV hxl (i:=1) (by simp);obtain⟨y2,e2⟩:=wV hxl (i:=2) (by simp);obtain⟨y3,e3⟩:=wV hxl (i:=3) (by simp);obtain⟨y4,e4⟩:=wV hxl (i:=4) (by simp);obtain⟨y5,e5⟩:=wV hxl (i:=5) (by simp);obtain⟨y6,e6⟩:=wV hxl (i:=6) (by simp);rw[e0] at h0;rw[e1] at h1;rw[e2] at h2;rw[e3] at h3;rw[e4] at h4;rw[e5] at h5;rw[e6] at h6;obtain⟨z0,g0,_,w0⟩:=DataW.trod_int Tryz.underlying3 h0;obtain⟨z1,g1,_,w1⟩:=DataW.trod_int Tryz.underlying3 h1;obtain⟨z2,g2,_,w2⟩:=DataW.trod_int Tryz.underlying3 h2;obtain⟨z3,g3,_,w3⟩:=DataW.trod_int Tryz.underlying3 h3;obtain⟨z4,g4,_,w4⟩:=DataW.trod_int Tryz.underlying3 h4;obtain⟨z5,g5,_,w5⟩:=DataW.trod_int Tryz.underlying37 h5;obtain⟨q0,q1,q2,q3,q4,q5,g6,u1,u2,u3,u4,u5⟩:=aRb h6;simp at g0 g1 g2 g3 g4 g5 g6;obtain⟨rfl,rfl,rfl,rfl,rfl,rfl⟩:=g6;subst g0;subst g1;subst g2;subst g3;subst g4;subst g5;exact⟨⟨z0,z1,z2,z3,z4,z5,q0,q1,q2,q3,q4,q5⟩,rfl,Bx w0,Bx w1,Bx w2,Bx w3,Bx w4,aQY w5,u1,u2,u3,u4,u5⟩
open Go.ChangeShapes Go.WideShapes Go.ChangeAt in
set_option maxRecDepth 100000 in
theorem aMf{v:Value}{d:DataW H}{ps:List MemPlace}{base:Nat}(hval:Value.okWide Tryz.prog w .any base 23 v)(h:DataW.Trod enc Tryz.prog w 0 (fun _=>true) true 23 v d ps):
    ∃(A:Option Addr) (n c:Nat) (eL:List gL),v=.slice A n c∧Sl w w.heap.size 12 A n (eL.flatMap gL.cells)∧(∀a∈eL,a.ok)∧n=eL.length∧n≤9223372036854775807:=by
  obtain⟨a0,len,cap,rfl⟩:=okWide_slice Tryz.underlying23 hval;obtain⟨fuel,hf⟩:=h;obtain⟨A,n,c,ys,hcs,rB,hn,hm,hR⟩:=aKm gL.cells gL.ok Tryz.underlying23 aHW (by omega) gL.len (fun _ _ _ h=>aR9 h) hf;simp[Value.cells] at hcs;obtain⟨rfl,rfl,rfl⟩:=hcs;subst hn;exact⟨_,_,_,ys,rfl,rB,hR,rfl,hm⟩
end
end
section
theorem aQR{H:Type}(d:DataW H):1≤Rows.uptoBulk d:=by
 cases d with
 | lit l=>cases l<;>simp[Rows.uptoBulk]
 | _=>simp[Rows.uptoBulk]
theorem aQQ{H:Type}{d:DataW H}{l:List (DataW H)}(h:d∈l):Rows.uptoBulk d≤Rows.uptoBulkAll l:=by
 induction l with
 | nil=>cases h
 | cons x r ih =>
  simp only[Rows.uptoBulkAll];rcases List.mem_cons.1 h with rfl | h
  ·omega
  ·have:=ih h
   omega
theorem aQS{H:Type}(l:List (DataW H)):l.length≤Rows.uptoBulkAll l:=by
 induction l with
 | nil=>exact Nat.zero_le _
 | cons x r ih=>
  have:=aQR x
  simp only[Rows.uptoBulkAll,List.length_cons];omega
open Go.ChangeShapes Go.WideShapes Go.ChangeAt in
theorem aQP{H:Type}{enc:TypeId×Value→H}{w:World}{t e:TypeId}{A:Option Addr}{n c:Nat}{d:DataW H}{ps:List MemPlace}(ht:Tryz.prog.underlying t=some (.slice e))(h:DataW.Trod enc Tryz.prog w 0 (fun _=>true) true t (.slice A n c) d ps):n≤Rows.uptoBulk d:=by
  obtain⟨fuel,hf⟩:=h;rcases DataW.trod_slice ht hf with⟨h0,_⟩ | ⟨a,len,cap,elems,rest,k,_,hcs,hx,_,_,_,hlen,_⟩
  · simp[Value.cells] at h0
    omega
  · simp[Value.cells] at hcs
    cases hx
    have:=aQS (elems.map (·.1))
    rw[List.length_map] at this;simp only[Rows.uptoBulk];omega
theorem aQT{H:Type}{l:List (DataW H)}{d:DataW H}{n:Nat}(hk:Rows.uptoSmall H l=true)(hd:d∈l)(hn:n≤Rows.uptoBulk d):n≤1048576:=by
 have h1:Rows.uptoBulkAll l≤1048576:=of_decide_eq_true hk
 have:=aQQ hd
 omega
end
end Go.Proofs.YtkgekojkboingaaGreatDoor
