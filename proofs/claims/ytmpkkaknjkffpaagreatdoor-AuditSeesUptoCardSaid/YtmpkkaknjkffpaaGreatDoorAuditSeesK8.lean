/- chip: a description that is right, of any raw numbers. No condition of ours. -/
import Derived.Test.YtmpkkaknjkffpaaGreatDoorAuditSeesK7
namespace Go.Proofs.YtmpkkaknjkffpaaGreatDoor
set_option linter.all false
set_option maxHeartbeats 4000000
set_option maxRecDepth 20000
open Go.RowKit Go.Proofs.Tryz
variable{s:aI}{A B X P:bM}{bd bc bl:Option Nat}{x:aS}{n j:Nat}{y:bX}{z:bA}{k d q v:Int}{m:fA}{w:aT}
section
def aPZ(c n:Int)(w:World)(f: -9223372036854775808<=c/\c<=9223372036854775807)(d:0 < n):
  Cz 16 #[iv c,iv n] w fun x w'=>(∃v,x=.returned v/\∃r:Int,v=iv r/\0<=r/\r < n)/\Below w.heap.size w w':=by
 refine fP func16 ntmps16 ?_;refine aF ?_;refine Ro (α:=Int) (fun c=>[(0,iv c),(1,iv n)]) (fun _=>[]) (fun c=>0<=c) ?_ fun c e=>?_
 .refine aF ?_;refine dD rfl (fun h=>?_) (fun h=>?_)
  .refine aF ?_;exact eF _
  .refine aF ?_;exact eF _
 refine aF ?_;exact xM rfl rfl fun w' st=>⟨⟨_,rfl,_,rfl,Int.emod_nonneg _ aA,Int.emod_lt_of_pos _ d⟩,st.below aB⟩
set_option maxRecDepth 100000 in
def aVr(A : Option Addr)(n c : Nat)(zs : List Int)(w : World)(h0 : aO (all w) 1 A n (aU zs))(hz : aCQ zs)(hn : n = zs.length)(hn2 : n <= 9223372036854775807) :
    Cz 13 #[.slice A n c] w fun x w'=>(∃v hs q,x=.returned v/\q.w=w'/\(∃p hs',hs=p::hs'/\aGs v hs' q)/\iV w hs q)/\Below w.heap.size w w':=by
  refine bQ func13 ntmps13 ?_;refine kK fun g1=>?_;refine oZ 8 (n:=120) (el:=3) (z:=iv 0) (by kernel_rfl) (by kernel_rfl) rfl rfl rfl (by omega) (by omega) (by decide) fun g2=>?_;refine aF ?_;refine xO (α:=List Int) (fun _=>[(4,.slice (some ⟨g2,0,none⟩) 120 120),(2,pt g1)]) (fun ds=>[HP.aK g2 3 (aU ds),HP.aK g1 30 [sn,sn,sn,sn]]) Cp ?_ fun ds hd=>?_
  · refine wD (α:=List Int) (fun i _=>[(5,iv i),(4,.slice (some ⟨g2,0,none⟩) 120 120),(2,pt g1),(0,.slice A n c)]) (fun _ ds=>[HP.aK g2 3 (aU ds),HP.aK g1 30 [sn,sn,sn,sn]]) (fun _ ds=>Cp ds) 120 (List.replicate 120 0) Cp.zero fun k ds hk hd=>?_
    refine aF ?_;refine cH (t:=23) rfl (fun hg=>?_) (fun hg=>?_)
    · refine aF ?_
      refine bP (fun h=>?_) (fun h=>?_)
      · have hk2:k < 120:=by omega
        have hn0:0 < n:=by omega
        obtain⟨b,off,rfl,uD,hc⟩:=h0.2 hn0
        have hkb:=Kx (k:Int) (n:=(n:Int)) (by omega)
        have hdb:0<=(k:Int) / (n:Int)/\(k:Int) / (n:Int)<=k:=⟨Tn (by omega) (by omega),Int.ediv_le_self _ (by omega)⟩
        have k0:iD w b (off+((k:Int) % (n:Int)).toNat) (iv (zs[((k:Int) % (n:Int)).toNat]?.getD 0)):=⟨uD,hc _ _ (aE4 zs _ (by omega))⟩
        have hyb:=aNH (z:=zs[((k:Int) % (n:Int)).toNat]?.getD 0) (d:=1+(k:Int) / (n:Int)) (lo:= -9223372036854775808) (hi:=9223372036854775807) (by omega) (by omega) (by omega) (hz _)
        refine aF ?_;refine xN ?_;refine aR 15 ?_;refine kcV (fun v=>∃r:Int,v=iv r/\0<=r/\r < 1000000) (fun w1 st=>aPZ _ _ w1 hyb (by omega)) fun v hv=>?_;obtain⟨r,rfl,hr0,Nb⟩:=hv;refine bH ?_;refine wF [16,17] ?_;refine aF ?_;refine jD rfl rfl ?_ (hs:=dR.mk 0 rfl dK.h rfl (by simp[aU,hd.1];omega));dsimp only[List.set];rw[aBH];refine aF ?_;exact oG _ (hg:=hd.lZ k hr0 Nb)
      · refine aF ?_
        exact eF _
    · refine aF ?_
      exact eF _
  refine aF ?_;refine eX fun g3=>?_;refine aF ?_;refine kK fun g4=>?_;refine Rq 1 6 1 rfl rfl (by omega) ?_;dsimp only[List.set];refine aLx (p:=uF [⟨111,[],1+dv ds 0 % 1000000,0,0,0⟩] [[.int .u8 111,sn,.int .u64 (1+dv ds 0 % 1000000),iv 0,iv 0,iv 0]]) (fun w=>⟨rfl,⟨none,0,0,rfl,rfl,rfl,fun h=>absurd h (by omega)⟩,trivial⟩) ?_;refine xO (α:=(List fK×List (List Value))×(Option Addr×Nat)×Nat) (fun _=>[(6,pt g4),(4,.slice (some ⟨g2,0,none⟩) 120 120),(2,pt g1)]) (fun x=>[uF x.1.1 x.1.2,HP.own 73 6 (.slice x.2.1.1 x.2.2 x.2.1.2) x.2.2 x.1.2.flatten,HP.aK g4 30 [.slice x.2.1.1 x.2.2 x.2.1.2,sn,sn,sn],HP.aK g2 3 (aU ds),HP.aK g1 30 [sn,sn,sn,sn]]) (fun x=>x.1.1.length=x.2.2/\1<=x.2.2/\x.2.2<=9/\Fits fK.fit x.1.1) ?_ fun x hx=>?_
  · refine wD (α:=(List fK×List (List Value))×(Option Addr×Nat)×List Value) (fun i _=>[(8,iv i),(7,.string ⟨#[112,100,103,109,103]⟩),(6,pt g4),(4,.slice (some ⟨g2,0,none⟩) 120 120),(3,iv 1),(2,pt g1)]) (fun i x=>[uF x.1.1 x.1.2,HP.own 73 6 (.slice x.2.1.1 (i+1) x.2.1.2) (i+1) x.2.2,HP.aK g4 30 [.slice x.2.1.1 (i+1) x.2.1.2,sn,sn,sn],HP.aK g2 3 (aU ds),HP.aK g1 30 [sn,sn,sn,sn]]) (fun i x=>x.1.1.length=i+1/\i<=8/\Fits fK.fit x.1.1/\x.2.2=x.1.2.flatten) 9 (([⟨111,[],1+dv ds 0 % 1000000,0,0,0⟩],[[.int .u8 111,sn,.int .u64 (1+dv ds 0 % 1000000),iv 0,iv 0,iv 0]]),(_,_),_) ⟨rfl,by omega,(Fits.nil fK.fit).snoc ⟨by simp,.inl ⟨rfl,rfl,by dsimp only;omega,by dsimp only;omega,rfl,rfl,rfl⟩⟩,rfl⟩ fun i x hi hx=>?_
    obtain⟨⟨cs,rows⟩,⟨B,cB⟩,xs⟩:=x;dsimp only at hx|-;obtain⟨vU,hi8,hcf,rfl⟩:=hx;refine aF ?_;refine bP (fun h=>?_) (fun h=>?_)
    · obtain⟨kb,hkb,aRW⟩:=aRE (q:=(dv ds (10+3*(i:Int)).toNat % 1000000 % 5).toNat) (by omega)
      have f0:=Kx (dv ds ((10+3*(i:Int))+1).toNat % 1000000) (n:=((i+1:Nat):Int)) (by omega)
      refine aF ?_;refine Ro (α:=Nat×Nat) (fun x=>[(10,.pointer (some ⟨x.2,0,none⟩)),(9,iv (10+3*(i:Int))),(8,iv i),(7,.string ⟨#[112,100,103,109,103]⟩),(6,pt g4),(4,.slice (some ⟨g2,0,none⟩) 120 120),(3,iv 1),(2,pt g1)]) (fun x=>[HP.aK x.2 73 [.int .u8 kb.toNat,.slice (some ⟨x.1,0,none⟩) 1 1,.int .u64 0,iv 0,iv 0,iv 0],HP.aK x.1 3 [iv (dv ds ((10+3*(i:Int))+1).toNat % 1000000 % ((i+1:Nat):Int))],uF cs rows,HP.own 73 6 (.slice B (i+1) cB) (i+1) rows.flatten,HP.aK g4 30 [.slice B (i+1) cB,sn,sn,sn],HP.aK g2 3 (aU ds),HP.aK g1 30 [sn,sn,sn,sn]]) (fun _=>True) ?_ fun x _=>?_
      · refine xN ?_
        refine Ap 16 18 rfl rfl (by kernel_rfl) ?_ ?_
        · refine eX fun g5=>?_
          refine bH ?_;refine kG 17 ?_;refine aR 18 ?_;refine eE fun g6=>?_;refine bH ?_;refine wF [19] ?_;refine aF ?_;exact eF (_,_)
        · refine eE fun g6=>?_
          refine bH ?_;refine aR 16 ?_;refine eX fun g5=>?_;refine bH ?_;refine kG 17 ?_;refine wF [19] ?_;refine aE3 ?_;refine mO 1 rfl ?_;dsimp only[List.set];refine aF ?_;exact eF (_,_)
      obtain⟨g5,g6⟩:=x;dsimp only
      have f1:=Kx (dv ds ((10+3*(i:Int))+2).toNat % 1000000) (n:=((i+1:Nat):Int)) (by omega)
      refine Rq 1 1 1 rfl rfl (by omega) ?_;dsimp only[List.set];refine aF ?_;refine xO (α:=fK×(Option Addr×Nat)) (fun _=>[(10,pt g6),(8,iv i),(7,.string ⟨#[112,100,103,109,103]⟩),(6,pt g4),(4,.slice (some ⟨g2,0,none⟩) 120 120),(3,iv 1),(2,pt g1)]) (fun x=>[HP.aK g6 73 [.int .u8 x.1.kind,.slice x.2.1 x.1.src.length x.2.2,.int .u64 x.1.rate,iv x.1.mul,iv x.1.div,iv x.1.lock],HP.own 3 1 (.slice x.2.1 x.1.src.length x.2.2) x.1.src.length (aU x.1.src),uF cs rows,HP.own 73 6 (.slice B (i+1) cB) (i+1) rows.flatten,HP.aK g4 30 [.slice B (i+1) cB,sn,sn,sn],HP.aK g2 3 (aU ds),HP.aK g1 30 [sn,sn,sn,sn]]) (fun x=>x.1.fit (i+1)) ?_ fun x hx=>?_
      · refine eG (fun h1=>?_) (fun h1=>?_)
        · exact eF (⟨_,[dv ds ((10+3*(i:Int))+1).toNat % 1000000 % ((i+1:Nat):Int)],_,_,_,_⟩,_,_) (hg:=⟨(fun f hf=>by rcases mL.1 hf with rfl;exact f0),.inr (.inl ⟨h1,rfl,rfl,by dsimp only;omega,by dsimp only;omega,by dsimp only;omega,by dsimp only;omega,by dsimp only;omega,by dsimp only;omega⟩)⟩)
        refine eG (fun h2=>?_) (fun h2=>?_)
        · exact eF (⟨_,[dv ds ((10+3*(i:Int))+1).toNat % 1000000 % ((i+1:Nat):Int)],_,_,_,_⟩,_,_) (hg:=⟨(fun f hf=>by rcases mL.1 hf with rfl;exact f0),.inr (.inr (.inl ⟨h2,rfl,rfl,rfl,by dsimp only;omega,by dsimp only;omega,rfl⟩))⟩)
        refine bP (fun h3=>?_) (fun h3=>?_)
        · refine xN ?_
          refine aR 11 ?_;refine eX fun g7=>?_;refine bH ?_;refine wF [12,13,14] ?_;refine aF ?_;refine Kk 2 fun A' k'=>?_;dsimp only[List.set];refine aF ?_;exact eF (⟨_,[dv ds ((10+3*(i:Int))+1).toNat % 1000000 % ((i+1:Nat):Int),dv ds ((10+3*(i:Int))+2).toNat % 1000000 % ((i+1:Nat):Int)],_,_,_,_⟩,_,_) (hg:=⟨(fun f hf=>by simp only[fT,pY,or_false] at hf;rcases hf with rfl | rfl;exact f0;exact f1),.inr (.inr (.inr (.inr ⟨h3,rfl,rfl,rfl,rfl,rfl⟩)))⟩)
        · refine aF ?_
          exact eF (⟨_,[dv ds ((10+3*(i:Int))+1).toNat % 1000000 % ((i+1:Nat):Int)],_,_,_,_⟩,_,_) (hg:=⟨(fun f hf=>by rcases mL.1 hf with rfl;exact f0),.inr (.inr (.inr (.inl ⟨by rcases aRW with h | h | h | h<;>simp_all,rfl,rfl,rfl,rfl,rfl⟩)))⟩)
      obtain⟨cl,Af,cf⟩:=x;dsimp only at hx|-;refine aF ?_;refine eX fun g7=>?_;refine aF ?_;refine Kk 4 fun A' k'=>?_;dsimp only[List.set];refine aF ?_;refine aZ [2,3,4,5,6,7] ?_;refine aWV ?_;exact oG ((_,_),(_,_),_) (hg:=⟨by simp[vU],by omega,hcf.snoc (by rw[vU];exact hx),by simp⟩)
    · refine aF ?_
      exact eF ((_,_),(_,_),_) (hg:=⟨vU,Nat.succ_pos i,Nat.succ_le_succ hi8,hcf⟩)
  obtain⟨⟨cs,rows⟩,⟨B,cB⟩,nc⟩:=x;dsimp only at hx|-;obtain⟨vU,hc1,hc9,hcf⟩:=hx;refine aF ?_;refine oF 75 3 ?_;refine xO (α:=(List Dom×List (List Value))×(Option Addr×Nat)×Nat) (fun _=>[(6,pt g4),(4,.slice (some ⟨g2,0,none⟩) 120 120),(2,pt g1)]) (fun x=>[HP.own 75 3 (.slice x.2.1.1 x.2.2 x.2.1.2) x.2.2 x.1.2.flatten,uF cs rows,HP.own 73 6 (.slice B nc cB) nc rows.flatten,HP.aK g4 30 [.slice B nc cB,.slice x.2.1.1 x.2.2 x.2.1.2,sn,sn],HP.aK g2 3 (aU ds),HP.aK g1 30 [sn,sn,sn,sn]]) (fun x=>x.1.1.length=x.2.2/\1<=x.2.2/\x.2.2<=4/\Fits Dom.fit x.1.1/\Rows xX 3 x.1.1 x.1.2) ?_ fun x hx=>?_
  · refine wD (α:=(List Dom×List (List Value))×(Option Addr×Nat)×List Value) (fun i _=>[(11,iv i),(6,pt g4),(4,.slice (some ⟨g2,0,none⟩) 120 120),(2,pt g1)]) (fun i x=>[HP.own 75 3 (.slice x.2.1.1 i x.2.1.2) i x.2.2,uF cs rows,HP.own 73 6 (.slice B nc cB) nc rows.flatten,HP.aK g4 30 [.slice B nc cB,.slice x.2.1.1 i x.2.1.2,sn,sn],HP.aK g2 3 (aU ds),HP.aK g1 30 [sn,sn,sn,sn]]) (fun i x=>x.1.1.length=i/\Fits Dom.fit x.1.1/\Rows xX 3 x.1.1 x.1.2/\x.2.2=x.1.2.flatten) 4 (([],[]),(none,0),[]) ⟨rfl,Fits.nil _,trivial,rfl⟩ fun i x hi hx=>?_
    obtain⟨⟨dm,Dv⟩,⟨D,cD⟩,xs⟩:=x;dsimp only at hx|-;obtain⟨rR,hdf,Zi,rfl⟩:=hx;refine aF ?_;refine eG (fun h=>?_) (fun h=>?_)
    · refine xN ?_
      refine aR 15 ?_;refine eE fun g5=>?_;refine bH ?_;refine wF [16] ?_;refine aE3 ?_;refine mO 0 rfl ?_;dsimp only[List.set];refine aIN ?_;refine iU ?_;refine Ll (α:=Int) (fun _=>[(12,pt g5),(11,iv i),(6,pt g4),(4,.slice (some ⟨g2,0,none⟩) 120 120),(2,pt g1)]) (fun v=>[HP.aK g5 75 [iv v,iv (dv ds (40+(i:Int)).toNat % 4),.bool (decide (dv ds (40+(i:Int)).toNat % 1000000 / 4 % 2=1))],HP.own 75 3 (.slice D i cD) i Dv.flatten,uF cs rows,HP.own 73 6 (.slice B nc cB) nc rows.flatten,HP.aK g4 30 [.slice B nc cB,.slice D i cD,sn,sn],HP.aK g2 3 (aU ds),HP.aK g1 30 [sn,sn,sn,sn]]) (fun v=>v= -1\/(0<=v/\v < i)) ?_ fun v hv=>?_
      · refine aF ?_
        refine cH (t:=172) rfl (fun hg=>?_) (fun hg=>?_)
        · have f2:=Kx (dv ds (44+(i:Int)).toNat % 1000000 / 3) (n:=(i:Int)) hg
          refine aF ?_;refine eG (fun h3=>?_) (fun h3=>?_)
          · exact eF _ (hg:=.inr f2)
          · exact eF _ (hg:=.inl rfl)
        · refine aF ?_
          exact eF _ (hg:=.inl rfl)
      refine aF ?_;refine eX fun g7=>?_;refine aF ?_;refine Kk 2 fun A' k'=>?_;dsimp only[List.set];refine aF ?_;exact oG ((dm++[⟨v,dv ds (40+(i:Int)).toNat % 4,decide (dv ds (40+(i:Int)).toNat % 1000000 / 4 % 2=1)⟩],Dv++[_]),(_,_),_) (hg:=⟨by simp[rR],hdf.snoc ⟨by rw[rR];exact hv,by dsimp only;omega,by dsimp only;omega⟩,Zi.snoc rfl rfl,by simp⟩)
    · exact eF ((_,_),(_,_),_) (hg:=⟨rR,by show 1<=i;omega,hi,hdf,Zi⟩)
  obtain⟨⟨dm,Dv⟩,⟨D,cD⟩,nd⟩:=x;dsimp only at hx|-;obtain⟨rR,hd1,hd4,hdf,Zi⟩:=hx;refine aF ?_;refine oF 77 1 ?_;refine xO (α:=(List Int×List (List Value))×(Option Addr×Nat)×Nat) (fun _=>[(6,pt g4),(4,.slice (some ⟨g2,0,none⟩) 120 120),(2,pt g1)]) (fun x=>[HP.own 77 1 (.slice x.2.1.1 x.2.2 x.2.1.2) x.2.2 x.1.2.flatten,HP.own 75 3 (.slice D nd cD) nd Dv.flatten,uF cs rows,HP.own 73 6 (.slice B nc cB) nc rows.flatten,HP.aK g4 30 [.slice B nc cB,.slice D nd cD,.slice x.2.1.1 x.2.2 x.2.1.2,sn],HP.aK g2 3 (aU ds),HP.aK g1 30 [sn,sn,sn,sn]]) (fun x=>x.1.1.length=x.2.2/\1<=x.2.2/\x.2.2<=3/\(∀r∈x.1.1,0<=r/\r<=3)/\Rows Ci 1 x.1.1 x.1.2) ?_ fun x hx=>?_
  · refine wD (α:=(List Int×List (List Value))×(Option Addr×Nat)×List Value) (fun i _=>[(13,iv i),(6,pt g4),(4,.slice (some ⟨g2,0,none⟩) 120 120),(2,pt g1)]) (fun i x=>[HP.own 77 1 (.slice x.2.1.1 i x.2.1.2) i x.2.2,HP.own 75 3 (.slice D nd cD) nd Dv.flatten,uF cs rows,HP.own 73 6 (.slice B nc cB) nc rows.flatten,HP.aK g4 30 [.slice B nc cB,.slice D nd cD,.slice x.2.1.1 i x.2.1.2,sn],HP.aK g2 3 (aU ds),HP.aK g1 30 [sn,sn,sn,sn]]) (fun i x=>x.1.1.length=i/\(∀r∈x.1.1,0<=r/\r<=3)/\Rows Ci 1 x.1.1 x.1.2/\x.2.2=x.1.2.flatten) 3 (([],[]),(none,0),[]) ⟨rfl,by simp,trivial,rfl⟩ fun i x hi hx=>?_
    obtain⟨⟨rs,rrs⟩,⟨L,cL⟩,xs⟩:=x;dsimp only at hx|-;obtain⟨hrl,hrf,xD,rfl⟩:=hx;refine aF ?_;refine eG (fun h=>?_) (fun h=>?_)
    · refine xN ?_
      refine aR 9 ?_;refine eX fun g7=>?_;refine bH ?_;refine wF [10,11,12] ?_;refine aF ?_;refine Kk 1 fun A' k'=>?_;dsimp only[List.set];refine aF ?_
      exact oG ((rs++[dv ds (50+(i:Int)).toNat % 4],rrs++[_]),(_,_),_) (hg:=⟨by simp[hrl],(fun r hr=>by
        rcases oM.1 hr with hr | hr
        · exact hrf r hr
        · rcases mL.1 hr with rfl
          omega),xD.snoc rfl rfl,by simp⟩)
    · exact eF ((_,_),(_,_),_) (hg:=⟨hrl,by show 1<=i;omega,hi,hrf,xD⟩)
  obtain⟨⟨rs,rrs⟩,⟨L,cL⟩,nr⟩:=x;dsimp only at hx|-;obtain⟨hrl,Nb,hr3,hrf,xD⟩:=hx;refine aF ?_;refine oF 80 6 ?_;refine aLx (p:=Ik [] []) (fun w=>trivial) ?_;refine xO (α:=(List bR×List (List Value))×(Option Addr×Nat)×Nat) (fun _=>[(6,pt g4),(4,.slice (some ⟨g2,0,none⟩) 120 120),(2,pt g1)]) (fun x=>[Ik x.1.1 x.1.2,HP.own 80 6 (.slice x.2.1.1 x.2.2 x.2.1.2) x.2.2 x.1.2.flatten,HP.own 77 1 (.slice L nr cL) nr rrs.flatten,HP.own 75 3 (.slice D nd cD) nd Dv.flatten,uF cs rows,HP.own 73 6 (.slice B nc cB) nc rows.flatten,HP.aK g4 30 [.slice B nc cB,.slice D nd cD,.slice L nr cL,.slice x.2.1.1 x.2.2 x.2.1.2],HP.aK g2 3 (aU ds),HP.aK g1 30 [sn,sn,sn,sn]]) (fun x=>x.1.1.length=x.2.2/\1<=x.2.2/\x.2.2<=4/\Fits (bR.fit nc nd nr) x.1.1) ?_ fun x hx=>?_
  · refine wD (α := (List bR × List (List Value)) × (Option Addr × Nat) × List Value) (fun i _ => [(14, iv i), (6, pt g4), (4, .slice (some ⟨g2, 0, none⟩) 120 120), (2, pt g1)]) (fun i x => [Ik x.1.1 x.1.2, HP.own 80 6 (.slice x.2.1.1 i x.2.1.2) i x.2.2, HP.own 77 1 (.slice L nr cL) nr rrs.flatten, HP.own 75 3 (.slice D nd cD) nd Dv.flatten, uF cs rows, HP.own 73 6 (.slice B nc cB) nc rows.flatten, HP.aK g4 30 [.slice B nc cB, .slice D nd cD, .slice L nr cL, .slice x.2.1.1 i x.2.1.2], HP.aK g2 3 (aU ds), HP.aK g1 30 [sn, sn, sn, sn]]) (fun i x => x.1.1.length = i /\ Fits (bR.fit nc nd nr) x.1.1 /\ x.2.2 = x.1.2.flatten) 4 (([], []), (none, 0), []) ⟨rfl, Fits.nil _, rfl⟩ fun i x hi hx => ?_
    obtain⟨⟨vs,r4⟩,⟨V,cV⟩,xs⟩:=x;dsimp only at hx|-;obtain⟨hvl,hvf,rfl⟩:=hx;refine aF ?_;refine bP (fun h=>?_) (fun h=>?_)
    · have q0 := Kx (dv ds (60 + 12 * (i : Int)).toNat % 1000000) (n := (nc : Int)) (by omega)
      have q1:=Kx (dv ds (60+12*(i:Int)+1).toNat % 1000000) (n:=(nd:Int)) (by omega)
      have q2:=Kx (dv ds (60+12*(i:Int)+2).toNat % 1000000) (n:=(nr:Int)) (by omega)
      refine aF ?_;refine xN ?_;refine aR 34 ?_;refine eE fun g5=>?_;refine bH ?_;refine wF [35] ?_;refine aF ?_;refine oF 82 2 ?_;refine xO (α:=List Rg×(Option Addr×Nat)×Nat) (fun _=>[(16,pt g5),(15,iv (60+12*(i:Int))),(14,iv i),(6,pt g4),(4,.slice (some ⟨g2,0,none⟩) 120 120),(2,pt g1)]) (fun x=>[HP.own 82 2 (.slice x.2.1.1 x.2.2 x.2.1.2) x.2.2 (x.1.flatMap Rg.cells),HP.aK g5 80 [iv (dv ds (60+12*(i:Int)).toNat % 1000000 % (nc:Int)),iv (dv ds (60+12*(i:Int)+1).toNat % 1000000 % (nd:Int)),iv (dv ds (60+12*(i:Int)+2).toNat % 1000000 % (nr:Int)),.int .u32 (dv ds (60+12*(i:Int)+3).toNat % 1000000 % 3),.slice x.2.1.1 x.2.2 x.2.1.2,sn],Ik vs r4,HP.own 80 6 (.slice V i cV) i r4.flatten,HP.own 77 1 (.slice L nr cL) nr rrs.flatten,HP.own 75 3 (.slice D nd cD) nd Dv.flatten,uF cs rows,HP.own 73 6 (.slice B nc cB) nc rows.flatten,HP.aK g4 30 [.slice B nc cB,.slice D nd cD,.slice L nr cL,.slice V i cV],HP.aK g2 3 (aU ds),HP.aK g1 30 [sn,sn,sn,sn]]) (fun x=>x.1.length=x.2.2/\x.2.2<=4/\∀r∈x.1,0<=r.reset/\r.reset<=6) ?_ fun x hx=>?_
      · refine wD (α:=List Rg×(Option Addr×Nat)×List Value) (fun j _=>[(17,iv j),(16,pt g5),(15,iv (60+12*(i:Int))),(14,iv i),(6,pt g4),(4,.slice (some ⟨g2,0,none⟩) 120 120),(2,pt g1)]) (fun j x=>[HP.own 82 2 (.slice x.2.1.1 j x.2.1.2) j x.2.2,HP.aK g5 80 [iv (dv ds (60+12*(i:Int)).toNat % 1000000 % (nc:Int)),iv (dv ds (60+12*(i:Int)+1).toNat % 1000000 % (nd:Int)),iv (dv ds (60+12*(i:Int)+2).toNat % 1000000 % (nr:Int)),.int .u32 (dv ds (60+12*(i:Int)+3).toNat % 1000000 % 3),.slice x.2.1.1 j x.2.1.2,sn],Ik vs r4,HP.own 80 6 (.slice V i cV) i r4.flatten,HP.own 77 1 (.slice L nr cL) nr rrs.flatten,HP.own 75 3 (.slice D nd cD) nd Dv.flatten,uF cs rows,HP.own 73 6 (.slice B nc cB) nc rows.flatten,HP.aK g4 30 [.slice B nc cB,.slice D nd cD,.slice L nr cL,.slice V i cV],HP.aK g2 3 (aU ds),HP.aK g1 30 [sn,sn,sn,sn]]) (fun j x=>x.1.length=j/\(∀r∈x.1,0<=r.reset/\r.reset<=6)/\x.2.2=x.1.flatMap Rg.cells) 4 ([],(none,0),[]) ⟨rfl,by simp,rfl⟩ fun j x hj hx=>?_
        obtain⟨rg,⟨W,cW⟩,xs⟩:=x;dsimp only at hx|-;obtain⟨Uw,hgf,rfl⟩:=hx;refine aF ?_;refine eG (fun h5=>?_) (fun h5=>?_)
        · refine xN ?_
          refine aR 22 ?_;refine eX fun g7=>?_;refine bH ?_;refine wF [23,24,25] ?_;refine aF ?_;refine Kk 1 fun A' k'=>?_;dsimp only[List.set];refine aF ?_
          exact oG (rg++[⟨dv ds (60+12*(i:Int)+5+(j:Int)).toNat % 1000000 % 7,decide (dv ds (60+12*(i:Int)+5+(j:Int)).toNat % 1000000 / 7 % 2=0)⟩],(_,_),_) (hg:=⟨by simp[Uw],(fun r hr=>by
            rcases oM.1 hr with hr | hr
            · exact hgf r hr
            · rcases mL.1 hr with rfl
              dsimp only
              omega),by simp[Rg.cells]⟩)
        · exact eF (_,(_,_),_) (hg:=⟨Uw,hj,hgf⟩)
      obtain⟨rg,⟨W,cW⟩,ng⟩:=x;dsimp only at hx|-;obtain⟨rfl,hg4,hgf⟩:=hx;refine oF 3 1 ?_;refine Ll (α:=(List Int×List Value)×(Option Addr×Nat)×Nat) (fun _=>[(16,pt g5),(15,iv (60+12*(i:Int))),(14,iv i),(6,pt g4),(4,.slice (some ⟨g2,0,none⟩) 120 120),(2,pt g1)]) (fun x=>[HP.own 3 1 (.slice x.2.1.1 x.2.2 x.2.1.2) x.2.2 x.1.2,HP.own 82 2 (.slice W rg.length cW) rg.length (rg.flatMap Rg.cells),HP.aK g5 80 [iv (dv ds (60+12*(i:Int)).toNat % 1000000 % (nc:Int)),iv (dv ds (60+12*(i:Int)+1).toNat % 1000000 % (nd:Int)),iv (dv ds (60+12*(i:Int)+2).toNat % 1000000 % (nr:Int)),.int .u32 (dv ds (60+12*(i:Int)+3).toNat % 1000000 % 3),.slice W rg.length cW,.slice x.2.1.1 x.2.2 x.2.1.2],Ik vs r4,HP.own 80 6 (.slice V i cV) i r4.flatten,HP.own 77 1 (.slice L nr cL) nr rrs.flatten,HP.own 75 3 (.slice D nd cD) nd Dv.flatten,uF cs rows,HP.own 73 6 (.slice B nc cB) nc rows.flatten,HP.aK g4 30 [.slice B nc cB,.slice D nd cD,.slice L nr cL,.slice V i cV],HP.aK g2 3 (aU ds),HP.aK g1 30 [sn,sn,sn,sn]]) (fun x=>x.1.1.length=x.2.2/\x.2.2<=1/\x.1.2=aU x.1.1/\∀f∈x.1.1,0<=f/\f < i) ?_ fun x hx=>?_
      · refine aF ?_
        refine cH (t:=300) rfl (fun hg=>?_) (fun hg=>?_)
        · have f2:=Kx (dv ds (60+12*(i:Int)+10).toNat % 1000000) (n:=(i:Int)) hg
          refine aF ?_;refine bP (fun h3=>?_) (fun h3=>?_)
          · refine xN ?_
            refine aR 9 ?_;refine eX fun g7=>?_;refine bH ?_;refine wF [10,11,12] ?_;refine aF ?_;refine Kk 1 fun A' k'=>?_;dsimp only[List.set];refine aF ?_;exact eF (([_],_),(_,_),_) (hg:=⟨rfl,gE _,rfl,fun f hf=>by rcases mL.1 hf with rfl;exact f2⟩)
          · refine aF ?_
            exact eF (([],_),(_,_),_) (hg:=⟨rfl,rE _,rfl,by simp⟩)
        · refine aF ?_
          exact eF (([],_),(_,_),_) (hg:=⟨rfl,rE _,rfl,by simp⟩)
      obtain⟨⟨ns,xs⟩,⟨U,cU⟩,nn⟩:=x;dsimp only at hx|-;obtain⟨vT,Nc,rfl,hnf⟩:=hx;refine Ll (α:=(List Int×List Value)×(Option Addr×Nat)×Nat) (fun _=>[(16,pt g5),(15,iv (60+12*(i:Int))),(14,iv i),(6,pt g4),(4,.slice (some ⟨g2,0,none⟩) 120 120),(2,pt g1)]) (fun x=>[HP.own 3 1 (.slice x.2.1.1 x.2.2 x.2.1.2) x.2.2 x.1.2,HP.own 82 2 (.slice W rg.length cW) rg.length (rg.flatMap Rg.cells),HP.aK g5 80 [iv (dv ds (60+12*(i:Int)).toNat % 1000000 % (nc:Int)),iv (dv ds (60+12*(i:Int)+1).toNat % 1000000 % (nd:Int)),iv (dv ds (60+12*(i:Int)+2).toNat % 1000000 % (nr:Int)),.int .u32 (dv ds (60+12*(i:Int)+3).toNat % 1000000 % 3),.slice W rg.length cW,.slice x.2.1.1 x.2.2 x.2.1.2],Ik vs r4,HP.own 80 6 (.slice V i cV) i r4.flatten,HP.own 77 1 (.slice L nr cL) nr rrs.flatten,HP.own 75 3 (.slice D nd cD) nd Dv.flatten,uF cs rows,HP.own 73 6 (.slice B nc cB) nc rows.flatten,HP.aK g4 30 [.slice B nc cB,.slice D nd cD,.slice L nr cL,.slice V i cV],HP.aK g2 3 (aU ds),HP.aK g1 30 [sn,sn,sn,sn]]) (fun x=>x.1.1.length=x.2.2/\x.2.2<=2/\x.1.2=aU x.1.1/\∀f∈x.1.1,0<=f/\f < i) ?_ fun x hx=>?_
      · refine aF ?_
        refine cH (t:=323) rfl (fun hg=>?_) (fun hg=>?_)
        · have f2:=Kx (dv ds (60+12*(i:Int)+11).toNat % 1000000 / 3) (n:=(i:Int)) (by omega)
          refine aF ?_;refine bP (fun h3=>?_) (fun h3=>?_)
          · refine xN ?_
            refine aR 10 ?_;refine eX fun g7=>?_;refine bH ?_;refine wF [11,12,13] ?_;refine aF ?_;refine Kk 1 fun A' k'=>?_;dsimp only[List.set];refine aF ?_
            exact eF ((ns++[dv ds (60+12*(i:Int)+11).toNat % 1000000 / 3 % (i:Int)],_),(_,_),_) (hg:=⟨by simp[vT],by show nn+1<=2;omega,by simp[aU],fun f hf=>by
              rcases oM.1 hf with hf | hf
              · exact hnf f hf
              · rcases mL.1 hf with rfl
                exact f2⟩)
          · refine aF ?_
            exact eF ((_,_),(_,_),_) (hg:=⟨vT,Nat.le_succ_of_le Nc,rfl,hnf⟩)
        · refine aF ?_
          exact eF ((_,_),(_,_),_) (hg:=⟨vT,Nat.le_succ_of_le Nc,rfl,hnf⟩)
      obtain⟨⟨ns,xs⟩,⟨U,cU⟩,nn⟩:=x;dsimp only at hx|-;obtain⟨rfl,hn2,rfl,hnf⟩:=hx;refine aF ?_;refine eX fun g7=>?_;refine aF ?_;refine Kk 5 fun A' k'=>?_;dsimp only[List.set];refine aF ?_;refine aZ [2,1,4,5,6,7,8,9,10,11,12] ?_;refine aWT (d:=⟨dv ds (60+12*(i:Int)).toNat % 1000000 % (nc:Int),dv ds (60+12*(i:Int)+1).toNat % 1000000 % (nd:Int),dv ds (60+12*(i:Int)+2).toNat % 1000000 % (nr:Int),dv ds (60+12*(i:Int)+3).toNat % 1000000 % 3,rg,ns⟩) ?_;exact oG ((_,_),(_,_),_) (hg:=⟨by simp[hvl],hvf.snoc ⟨q0.1,q0.2,q1.1,q1.2,q2.1,q2.2,by dsimp only;omega,by dsimp only;omega,hg4,hgf,hn2,by rw[hvl];exact hnf⟩,by simp⟩)
    · refine aF ?_
      exact eF ((_,_),(_,_),_) (hg:=⟨hvl,by show 1<=i;omega,hi,hvf⟩)
  obtain⟨⟨vs,r4⟩,⟨V,cV⟩,nv⟩:=x;dsimp only at hx|-;obtain⟨rfl,hv1,hv4,hvf⟩:=hx;subst vU;subst rR;subst hrl;refine aF ?_;refine mO 8 rfl ?_;dsimp only[List.set];refine aF ?_;refine aZ [8,5,4,3,2,1,0] ?_;refine dX [] [] [0,1,2,3,4,5,6] fun q _ _ hfr=>?_;exact aAt rfl (by kernel_rfl) rfl rfl (cI.whole 0 rfl) fun w1 t=>⟨⟨_,_,⟨w1,q.Z⟩,rfl,rfl,⟨_,_,rfl,⟨⟨cs,dm,rs,vs⟩,(B,cB),(D,cD),(L,cL),(V,cV),rows,Dv,rrs,r4,rfl,⟨hcf,hdf,hrf,hvf,⟨rE _,hc9⟩,⟨rE _,hd4⟩,⟨rE _,hr3⟩,⟨rE _,hv4⟩⟩,Zi,xD,rfl⟩⟩,t.newR (by simp) (by simp) (hfr (by simp) (by simp))⟩,t.below (by simp)⟩
def aVs(A:Option Addr)(n c:Nat)(zs:List Int)(w:World)(r:aO (all w) 1 A n (aU zs))(m:aCQ zs)(l:n=zs.length)(d:n<=9223372036854775807):
  Cz 13 #[.slice A n c] w fun x w'=>(∃v,x=.returned v/\∃cs s,v=.agg cs/\yT (gB (fresh w w')) s cs/\s.made)/\Below w.heap.size w w':=
 (aVr A n c zs w r m l d).mono fun x w' ⟨⟨v,t,q,k,i,⟨p,j,e,h⟩,f⟩,o⟩=>⟨⟨v,k,h.weak i (by subst e;exact f.tail)⟩,o⟩
end
def iC(A B:bM)(i:Nat):Bool:=hasB A.d i||hasB B.d i
structure dY(s:aI)(A B:bM)(bd bc bl:Option Nat)(x:aS):Prop where
 ok:dF s x
 qA:A.of s
 sL:B.of s
 dom:∀i m,x.dm[i]? =some m->bd≠some i->(iC A B i=true->m.phase=49)/\(iC A B i=false->m.phase=48\/m.phase=116)
 qZ:∀i d,s.domains[i]? =some d->iC A B i=true->0<=d.above->iC A B d.above.toNat=true
 iO:∀i c y,s.aL[i]? =some c->x.ck[i]? =some y->hasB A.c i=true->bc≠some i->y.on=true/\(c.kind=112->y.left=0)
 nR:∀i,hasB A.c i=true->∀j∈fV s i,rA s j->hasB A.c j=true
 vN:∀c,bc=some c->∀i,hasB A.c i=true->i≠c->c∉fV s i
 qC:∀i y,x.ln[i]? =some y->hasB A.l i=true->bl≠some i->y.held=false
 oO:∀(i:Nat) (p:dO×eK) (d:bR),x.dv[i]? =some p->s.aG[i]? =some d->(p.2.at_=0\/p.2.at_=2\/bd=some d.domain.toNat)/\(iC A B d.domain.toNat=true->bd≠some d.domain.toNat->p.2.at_=0)
def dY.up(h:dY s A B bd bc bl x){i j:Nat}(hi:hasB A.c i=true)(hj:j∈fV s i)(n:bc≠some j):So s x.ck j=true:=by
 have k:=aCn hj
 obtain⟨c,d⟩:=get_some k;obtain⟨y,f⟩:=get_some (l:=x.ck) (i:=j) (by have:=h.ok.ck.len;omega);unfold So;rw[d,f];dsimp only;unfold uK
 by_cases e:c.kind=112
 .rw[aH e];obtain⟨o,p⟩:=h.iO j c y d f (h.nR i hi j hj (.inl (by rw[Qg d];exact e))) n;rw[o,p e];rfl
 .rw[aC e]
  by_cases m:c.kind=103
  .rw[aH m];exact(h.iO j c y d f (h.nR i hi j hj (.inr (by rw[Qg d];exact m))) n).1
  .rw[aC m]
def dY.src(hm:s.made)(h:dY s A B bd bc bl x){i f:Nat}{c:fK}{m:List Int}(l:s.aL[i]? =some c)(hs:c.src=(f:Int)::m)(hi:hasB A.c i=true)(n:∀j,bc=some j->j∉fV s f):runs s x.ck f=true:=by
 have d:=aAe hm.aL l
 rw[hs] at d;dsimp only at d;unfold runs;rw[mJ];intro j k;refine h.up hi (j:=j) (by rw[d];exact vL _ (by simpa using k)) fun e=>n j e k
def dY.aQD(hm:s.made)(h:dY s A B bd bc bl x){i f:Nat}{c:fK}{n:List Int}(k:s.aL[i]? =some c)(hs:c.src=(f:Int)::n)(hf:f < i)(hi:hasB A.c i=true):∀j,bc=some j->j∉fV s f:=fun j m d=>by
 have l:=aCo hm d
 have e:=aAe hm.aL k
 rw[hs] at e;dsimp only at e;refine h.vN j m i hi aA ?_;rw[e];exact vL _ (by simpa using d)
def dY.Hl(hm:s.made)(h:dY s A B bd bc bl x)(o:Int):dY s A B bd bc bl (uM s x o):=by
 refine⟨aGU hm.dM h.ok o,h.qA,h.sL,fun i m j n=>?_,h.qZ,fun i c y t l j n=>?_,h.nR,h.vN,fun i y l j n=>?_,fun i p d I hd=>?_⟩
 .simp only[uM,sE,eO] at j;cases r:x.dm[i]? with
  | none=>rw[r] at j;cases j
  | some m0 =>
   rw[r] at j;simp only[lO,tW] at j;obtain⟨k,e⟩:=h.dom i m0 r n
   have z:m0.phase=49\/m0.phase=48\/m0.phase=116:=by
    cases H:iC A B i
    .exact .inr (e H)
    .exact .inl (k H)
   rw[aND z] at j;subst j;exact⟨k,e⟩
 .obtain⟨F,D,rfl⟩:=aNF t l;obtain⟨k,e⟩:=h.iO i c F t D j n;unfold Be
  by_cases w:c.kind=112
  .obtain⟨f,O,C,L⟩:=aHe hm t (.inl (by rw[Qg t];exact w))
   have z:=h.src hm t C j (h.aQD hm t C L j)
   have E:aAV c=f:=by
    unfold aAV;rw[C];simp
   rw[aH ⟨w,k⟩,E,z,aC aB,aC (by have:=e w;omega)];exact⟨k,e⟩
  .rw[aC (by simp[w])];exact⟨k,e⟩
 .simp only[uM,Jn,eO] at l;cases r:x.ln[i]? with
  | none=>rw[r] at l;cases l
  | some F=>
   rw[r] at l;simp only[lO,tW] at l
   have k:=h.qC i F r j n
   subst l;unfold pV;rw[aH k];exact k
 .obtain⟨G,N,k,_⟩:=aDv I;obtain⟨e,J⟩:=h.oO i G d N hd
  by_cases K:G.2.at_=1
  .have n:bd=some d.domain.toNat:=by
    rcases e with e | e | e
    .omega
    .omega
    .exact e
   exact⟨.inr (.inr n),fun _ M=>absurd n M⟩
  .rw[k K];exact⟨e,J⟩
def aLK{i:Nat}(h:dY s A B bd bc bl x)(j:dF s (fZ s x i).1):dY s A B bd bc bl (fZ s x i).1:=by
 have m : ∀ (k : Nat) (p : dO × eK), (fZ s x i).1.dv[k]? = some p -> ∃ e, x.dv[k]? = some e /\ p.2 = e.2 := fun k p c => by
  unfold fZ at c;split at c
  .rename_i t d q _ _ n
   split at c
   .dsimp only at c;rw[gX] at c;split at c
    .rename_i l
     subst l;split at c
     .cases c;refine⟨q,n,?_⟩;unfold Es;split<;>rfl
     .cases c
    .exact⟨p,c,rfl⟩
   .exact⟨p,c,rfl⟩
  .exact⟨p,c,rfl⟩
 have f:(fZ s x i).1.ck=x.ck/\(fZ s x i).1.dm=x.dm/\(fZ s x i).1.ln=x.ln:=by
  unfold fZ;split
  .split<;>exact⟨rfl,rfl,rfl⟩
  .exact⟨rfl,rfl,rfl⟩
 refine⟨j,h.qA,h.sL,by rw[f.2.1];exact h.dom,h.qZ,by rw[f.1];exact h.iO,h.nR,h.vN,by rw[f.2.2];exact h.qC,fun k p d c hd=>?_⟩;obtain⟨e,r,o⟩:=m k p c;rw[o];exact h.oO k e d r hd
def dY.alive(hm:s.made)(hi:dY s A B bd bc bl x){i:Nat}{d:bR}(hd:s.aG[i]? =some d)(F:hasB A.d d.domain.toNat=true)(D:∀j∈fV s d.clock.toNat,rA s j->hasB A.c j=true)(h3:hasB A.l d.reset.toNat=true)(H:bd≠some d.domain.toNat)(K:∀j,bc=some j->j∉fV s d.clock.toNat)(J:bl≠some d.reset.toNat):uW s x i=true:=by
 have G:=hm.aG i d hd
 obtain⟨T,M,N,O,R,L,_⟩:=G
 have k:sG s x.ck d.clock=true:=by
  unfold sG;rw[show bJ s.aL.length d.clock=true from eM aA];unfold runs;rw[Bool.true_and,mJ];intro j t
  have w:=aCn t
  obtain⟨c,o⟩:=get_some w;obtain⟨y,h⟩:=get_some (l:=x.ck) (i:=j) (by have:=hi.ok.ck.len;omega)
  have n:bc≠some j:=fun e=>K j e t
  unfold So;rw[o,h];dsimp only;unfold uK
  by_cases r:c.kind=112
  .rw[aH r];obtain⟨I,E⟩:=hi.iO j c y o h (D j t (.inl (by rw[Qg o];exact r))) n;rw[I,E r];rfl
  .rw[aC r]
   by_cases C:c.kind=103
   .rw[aH C];exact(hi.iO j c y o h (D j t (.inr (by rw[Qg o];exact C))) n).1
   .rw[aC C]
 obtain⟨m,p⟩:=get_some (l:=x.dm) (i:=d.domain.toNat) (by have:=hi.ok.dm.len;omega)
 have z:tY x.dm d.domain=49:=by
  have:=aBs p
  rw[show((d.domain.toNat:Nat):Int)=d.domain by omega] at this;rw[this];exact(hi.dom _ m p H).1 (by unfold iC;rw[F];rfl)
 obtain⟨y,h⟩:=get_some (l:=x.ln) (i:=d.reset.toNat) (by have:=hi.ok.ln.len;omega)
 have f:Fo x.ln d.reset=false:=by
  unfold Fo;rw[show bJ x.ln.length d.reset=true from eM (by have:=hi.ok.ln.len;omega),h];exact hi.qC _ y h h3 J
 unfold uW;rw[hd];dsimp only;rw[k,z,f];rfl
def dY.state(hi:dY s A B bd bc bl x){i:Nat}{d:bR}(hd:s.aG[i]? =some d)(f:iC A B d.domain.toNat=true)(h:bd≠some d.domain.toNat):tT x i=114:=by
 have e:=(cE.1 hd).1
 obtain⟨p,c⟩:=get_some (l:=x.dv) (i:=i) (by have:=hi.ok.dv;omega);unfold tT;rw[c]
 show sO p.2.at_=114
 rw[(hi.oO i p d c hd).2 f h];rfl
section
variable{D:Nat}
def aSv{l:List Bool}{i:Nat}(hi:i < l.length)(j:Nat):hasB (nY l i false) j=if j=i then false else hasB l j:=by
 rw[nY,aH ⟨aA,aA⟩,dL,Fq,Fq,gX]
 by_cases h:i=j
 .subst h;rw[aH rfl,aH hi,aH rfl];rfl
 .rw[aC h,aC (fN h)]
def aIU{x:aS}{D:Int}{n i:Nat}{p':dO×eK}{d:bR}(hd:s.aG[i]? =some d)(h:(mP s x D n)[i]? =some p'):∃p,x.dv[i]? =some p/\p'.2=if i < n/\d.domain=D then(if p.2.at_=3 then(qD p.2).2 else if p.2.at_=0 then(vY p.2).2 else p.2) else p.2:=by
 rw[mP,wU] at h;cases f:x.dv[i]? with
 | none=>rw[f] at h;cases h
 | some q =>
  rw[f] at h;simp only[lO,tW] at h;refine⟨q,rfl,?_⟩;subst h
  by_cases c:i < n
  .rw[aH c];unfold Kl;rw[hd];dsimp only
   by_cases e:d.domain=D
   .rw[aH e,aH (show i < n/\d.domain=D from⟨c,e⟩)]
   .rw[aC e,aC fun h=>e h.2]
  .rw[aC c,aC fun h=>c h.1]
def aPH{n:Nat}:Hv s x (D:Int) n=true↔∀(i:Nat) (p:dO×eK) (d:bR),i < n->x.dv[i]? =some p->s.aG[i]? =some d->d.domain=(D:Int)->p.2.at_=2:=by
 unfold Hv;rw[mJ];constructor
 .intro h i p d c f hd e
  have:=h i (mI.2 c)
  unfold Tw at this;rw[hd,f] at this
  simpa[e] using this
 .intro h i c
  have c:=mI.1 c
  unfold Tw;split
  .rename_i d p hd f
   by_cases e:d.domain=(D:Int)
   .rw[h i p d c f hd e];simp
   .simp[e]
  .rfl
end
def dY.hw(h:dY s A B bd bc bl x){x':aS}(c:dF s x')(d:x'.ck=x.ck)(f:x'.dm=x.dm)(h3:x'.ln=x.ln)(e:x'.dv=x.dv):dY s A B bd bc bl x':=
 ⟨c,h.qA,h.sL,by rw[f];exact h.dom,h.qZ,by rw[d];exact h.iO,h.nR,h.vN,by rw[h3];exact h.qC,by rw[e];exact h.oO⟩
def Wz(s:aI)(d:Nat)(x:aS):Prop:=∀(i:Nat) (p:dO×eK) (v:bR),x.dv[i]? =some p->s.aG[i]? =some v->v.domain=(d:Int)->p.2.at_≠1
structure Lr(s:aI)(A B:bM)(d:Nat)(x:aS):Prop where
 two:dY s A B (some d) none none x
 tS:iC A B d=true
 Pw:∃y,x.dm[d]? =some y/\(y.phase=49\/y.phase=104\/y.phase=114\/y.phase=48\/y.phase=116)
 ask:Wz s d x
def Wz.tick{d:Nat}{c:Int}(h:Wz s d x):Wz s d (uM s x c):=fun i p v j l hd=>by
 obtain⟨k,m,f,_⟩:=aDv j
 have e:=h i k v m l hd
 rw[f e];exact e
def aKm{d:Nat}{y:gK}{c:Int}(h:x.dm[d]? =some y):(uM s x c).dm[d]? =some (jQ y).2:=by
 simp only[uM,sE,eO,h,lO]
def Lr.tick(hm:s.made){d:Nat}(h:Lr s A B d x)(e:Int):Lr s A B d (uM s x e):=by
 obtain⟨y,f,c⟩:=h.Pw;refine⟨h.two.Hl hm e,h.tS,⟨_,aKm f,?_⟩,h.ask.tick⟩;unfold jQ;rcases c with c | c | c | c | c
 .rw[aC aA,aC aA,aC aA];exact .inl c
 .rw[aC aA,aH c];exact .inl rfl
 .rw[aH c];split
  .exact .inr (.inr (.inl rfl))
  .exact .inr (.inl rfl)
 .rw[aC aA,aC aA,aC aA];exact .inr (.inr (.inr (.inl c)))
 .rw[aC aA,aC aA,aC aA];exact .inr (.inr (.inr (.inr c)))
def Lr.step(hm:s.made){d:Nat}(h:Lr s A B d x):((tA s x d).2=true->dY s A B none none none (tA s x d).1)/\((tA s x d).2=false->Lr s A B d (tA s x d).1):=by
 obtain⟨y,H,Y⟩:=h.Pw
 have e:=h.two
 have J:=(cE.1 H).1
 have m:=aBs H
 obtain⟨c,O⟩:=get_some (l:=s.domains) (i:=d) (by have:=e.ok.dm.len;omega)
 by_cases p:y.phase=49
 .have f:tA s x d=({x with dv:=xC s x d s.aG.length},true):=by
   rw[tA,m,aC aA,aH p]
  rw[f];refine⟨fun _=>?_,fun h=>by cases h⟩;refine⟨aEz hm.dM e.ok _ _,e.qA,e.sL,fun i N k _=>?_,e.qZ,e.iO,e.nR,(fun _ h=>by cases h),e.qC,fun i p' t R j=>?_⟩
  .by_cases o:i=d
   .subst o;cases H.symm.trans k;exact⟨fun _=>p,fun U=>by rw[h.tS] at U;cases U⟩
   .exact e.dom i N k (by simp[fN o])
  .have E:=(cE.1 j).1
   obtain⟨w,F,M⟩:=aRB j R;obtain⟨n,h3⟩:=e.oO i w t F j
   have Z:=(hm.aG i t j).2.2.1
   rw[M]
   by_cases I:t.domain=(d:Int)
   .rw[aH ⟨E,I⟩]
    have X:=(e.ok.each i t w j F).2
    have L:=h.ask i w t F j I
    have G:(qD w.2).2.at_=0:=by
     unfold qD
     by_cases h6:w.2.at_=0
     .rw[aH aA];exact h6
     .rw[aC (by have:=X.1;have:=X.2;omega)]
    exact⟨.inl G,fun _ _=>G⟩
   .rw[aC fun h=>I h.2]
    have C:some d≠some t.domain.toNat:=fun L=>I (by have L:=sJ L;omega)
    refine⟨?_,fun G _=>h3 G C⟩;rcases n with n | n | n
    .exact .inl n
    .exact .inr (.inl n)
    .exact absurd n C
 .by_cases r:y.phase=48\/y.phase=116
  .have D:(wM s x.dm d).2=x.dm.set d ⟨114,c.delay,decide (y.phase=116),y.keep⟩:=by
    unfold wM;rw[show bJ x.dm.length (d:Int)=true from eM aA];simp only[Bool.true_eq_false,if_false,dL,O,H]
    have M:Np y=true:=eM r
    have n:Ri x.dm c.above=true:=by
     unfold Ri
     have T:=(hm.domains d c O).1
     by_cases F:0<=c.above
     .have K:c.above.toNat < x.dm.length:=aA
      obtain⟨ya,z⟩:=get_some K
      have:=(e.dom _ ya z (by simp;omega)).1 (e.qZ d c O h.tS F)
      rw[z];simp[this]
     .rw[show c.above= -1 by omega];rfl
    rw[M,n];simp
   have f:tA s x d=({x with dm:=x.dm.set d ⟨114,c.delay,decide (y.phase=116),y.keep⟩},false):=by
    rw[tA,m,aH r,D]
   rw[f];refine⟨(fun h=>by cases h),fun _=>?_⟩;refine⟨⟨?_,e.qA,e.sL,fun i N k V=>?_,e.qZ,e.iO,e.nR,e.vN,e.qC,e.oO⟩,h.tS,⟨_,kR J,.inr (.inr (.inl rfl))⟩,h.ask⟩
   .have:=aGP hm.dM e.ok.dm d
    rw[D] at this;exact⟨e.ok.ck,this,e.ok.ln,e.ok.dv,e.ok.each,e.ok.wt⟩
   .have o:d≠i:=fun h=>V (by rw[h])
    rw[pZ o] at k;exact e.dom i N k V
  .have f:tA s x d=(x,false):=by
    rw[tA,m,aC r,aC p]
   rw[f];exact⟨(fun h=>by cases h),fun _=>h⟩
def Xg(s:aI)(d:Nat)(x:aS):Prop:=∀(i:Nat) (p:dO×eK) (v:bR),x.dv[i]? =some p->s.aG[i]? =some v->v.domain=(d:Int)->p.2.at_=2
structure Ol(s:aI)(A B:bM)(d:Nat)(keep:Bool)(x:aS):Prop where
 two:dY s A B (some d) none none x
 tS:iC A B d=false
 low:∀(j:Nat) (c:Dom),s.domains[j]? =some c->c.above=(d:Int)->iC A B j=false
 ret:keep=true->∀c,s.domains[d]? =some c->c.ret=true
 Pw:∃y,x.dm[d]? =some y/\(y.phase=49\/((y.phase=99\/y.phase=48\/y.phase=116)/\Xg s d x))
def Xg.tick{d:Nat}{c:Int}(h:Xg s d x):Xg s d (uM s x c):=fun i p v j l hd=>by
 obtain⟨k,m,f,_⟩:=aDv j
 have e:=h i k v m l hd
 rw[f aA];exact e
def Ol.tick(hm:s.made){d:Nat}{keep:Bool}(h:Ol s A B d keep x)(e:Int):Ol s A B d keep (uM s x e):=by
 obtain⟨y,f,c⟩:=h.Pw;refine⟨h.two.Hl hm e,h.tS,h.low,h.ret,⟨_,aKm f,?_⟩⟩;unfold jQ;rcases c with c | ⟨c | c | c,hs⟩
 .rw[aC aA,aC aA,aC aA];exact .inl c
 .rw[aC aA,aC aA,aH c];split
  .exact .inr ⟨.inr (.inr rfl),hs.tick⟩
  .exact .inr ⟨.inr (.inl rfl),hs.tick⟩
 .rw[aC aA,aC aA,aC aA];exact .inr ⟨.inr (.inl c),hs.tick⟩
 .rw[aC aA,aC aA,aC aA];exact .inr ⟨.inr (.inr c),hs.tick⟩
def dY.aQF(hm:s.made){d:Nat}(hi:dY s A B (some d) none none x)(l:∀(j:Nat) (f:Dom),s.domains[j]? =some f->f.above=(d:Int)->iC A B j=false):Hy s x.dm (d:Int)=false:=by
 unfold Hy;rw[Bool.eq_false_iff];intro h;rw[Mt] at h;obtain⟨b,o,i⟩:=h;obtain⟨j,c⟩:=lA o;rw[lP] at c;cases e:s.domains[j]? with
 | none=>rw[e] at c;simp at c
 | some f =>
  cases k:x.dm[j]? with
  | none=>rw[e,k] at c;simp at c
  | some yj=>
   rw[e,k] at c;simp only[tW] at c;subst c;unfold Ks at i;simp only[id_eq,jY,decide_eq_true_eq,Ml] at i
   have n:=(hm.domains j f e).1
   have p:=(hi.dom j yj k (by simp;omega)).2 (l j f e i.1)
   have m:=i.2
   unfold Np at m;simp at m;omega
def dY.aIV(hm:s.made){d:Nat}(hi:dY s A B (some d) none none x):dY s A B (some d) none none {x with dv:=mP s x d s.aG.length}:=by
 refine⟨aBJ hm.dM hi.ok _ _,hi.qA,hi.sL,hi.dom,hi.qZ,hi.iO,hi.nR,hi.vN,hi.qC,fun i t f j c=>?_⟩
 have k:=(cE.1 c).1
 obtain⟨n,p,l⟩:=aIU c j;obtain⟨r,o⟩:=hi.oO i n f p c
 by_cases m:f.domain=(d:Int)
 .have e:f.domain.toNat=d:=aA
  exact⟨.inr (.inr (by rw[e])),fun _ h=>absurd (by rw[e]) h⟩
 .rw[l,aC fun h=>m h.2];exact⟨r,o⟩
def Ol.step(hm:s.made){d:Nat}{keep:Bool}(h:Ol s A B d keep x):((tB s x d keep).2=true->dY s A B none none none (tB s x d keep).1)/\((tB s x d keep).2=false->Ol s A B d keep (tB s x d keep).1):=by
 obtain⟨y,D,M⟩:=h.Pw
 have e:=h.two
 have K:=(cE.1 D).1
 have f:=aBs D
 obtain⟨c,Y⟩:=get_some (l:=s.domains) (i:=d) (by have:=e.ok.dm.len;omega);rcases M with w | ⟨hd3,hs⟩
 .cases O:Hv s x (d:Int) s.aG.length
  .have C:tB s x (d:Int) keep=({x with dv:=mP s x (d:Int) s.aG.length},false):=by
    unfold tB;rw[f,aH w,O];simp
   rw[C];exact⟨(fun h=>by cases h),fun _=>⟨e.aIV hm,h.tS,h.low,h.ret,⟨y,D,.inl w⟩⟩⟩
  .have r:(yQ s x.dm (d:Int) keep).2=x.dm.set d ⟨99,y.left,y.kept,keep⟩:=by
    unfold yQ;rw[show bJ x.dm.length (d:Int)=true from eM aA];simp only[Bool.true_eq_false,if_false,dL,Y,D];rw[aC aA,aC (fun L=>by have:=h.ret L.1 c Y;rw[this] at L;simp at L),e.aQF hm h.low];simp
   have C:tB s x (d:Int) keep=({x with dv:=mP s x (d:Int) s.aG.length,dm:=x.dm.set d ⟨99,y.left,y.kept,keep⟩},false):=by
    unfold tB;rw[f,aH w,O,r];simp
   rw[C];refine⟨(fun h=>by cases h),fun _=>?_⟩
   have j:=e.aIV hm
   refine⟨⟨⟨j.ok.ck,⟨by simp[j.ok.dm.len],fun z t=>?_,fun z t=>?_⟩,j.ok.ln,j.ok.dv,j.ok.each,j.ok.wt⟩,j.qA,j.sL,fun i R k X=>?_,j.qZ,j.iO,j.nR,j.vN,j.qC,j.oO⟩,h.tS,h.low,h.ret,⟨_,kR K,.inr ⟨.inl rfl,fun i p v J o H=>?_⟩⟩⟩
   .rcases Bq t with t | rfl
    .exact e.ok.dm.left z t
    .exact e.ok.dm.left y (dJ D)
   .rcases Bq t with t | rfl
    .exact e.ok.dm.phase z t
    .exact⟨by show(0:Int)<=99;omega,by show(99:Int) < 256;omega⟩
   .have n:d≠i:=fun h=>X (by rw[h])
    rw[pZ n] at k;exact e.dom i R k X
   .have E:=(cE.1 o).1
    obtain⟨Z,h0,m⟩:=aIU o J
    have T:=aPH.1 O i Z v E h0 o H
    rw[m,aH ⟨E,H⟩,aC aA,aC aA];exact T
 .by_cases h99:y.phase=99
  .have C:tB s x (d:Int) keep=(x,false):=by
    unfold tB;rw[f,aC aA,aC aA]
   rw[C];exact⟨(fun h=>by cases h),fun _=>h⟩
  .have G:y.phase=48\/y.phase=116:=aA
   have C:tB s x (d:Int) keep=(x,true):=by
    unfold tB;rw[f,aC aA,aH G]
   rw[C];refine⟨fun _=>?_,fun h=>by cases h⟩;refine⟨e.ok,e.qA,e.sL,fun i R k _=>?_,e.qZ,e.iO,e.nR,(fun _ h=>by cases h),e.qC,fun i p v J o=>?_⟩
   .by_cases n:i=d
    .subst n;cases D.symm.trans k;exact⟨(fun U=>by rw[h.tS] at U;cases U),fun _=>G⟩
    .exact e.dom i R k (by simp[fN n])
   .obtain⟨m,T⟩:=e.oO i p v J o
    have Zj:=(hm.aG i v o).2.2.1
    by_cases H:v.domain=(d:Int)
    .have N:v.domain.toNat=d:=aA
     exact⟨.inr (.inl (hs i p v J o H)),fun I _=>by rw[N,h.tS] at I;cases I⟩
    .have F:some d≠some v.domain.toNat:=fun V=>H (by have V:=sJ V;omega)
     refine⟨?_,fun I _=>T I F⟩;rcases m with m | m | m
     .exact .inl m
     .exact .inr (.inl m)
     .exact absurd m F
def aIt{st:List fE}{c i:Nat}{b:Bool}{y':fE}(h:(lI s st (c:Int) b).2[i]? =some y'):∃y,st[i]? =some y/\(y'=y\/(i=c/\∃d,s.aL[c]? =some d/\y'=Py d y b)):=by
 unfold lI at h;split at h
 .exact⟨y',h,.inl rfl⟩
 .rw [dL] at h;split at h
  .rename_i d y f j
   split at h
   .exact⟨y',h,.inl rfl⟩
   .dsimp only at h;rw[gX] at h;split at h
    .rename_i e
     subst e;split at h
     .cases h;exact⟨y,j,.inr ⟨rfl,d,f,rfl⟩⟩
     .cases h
    .exact⟨y',h,.inl rfl⟩
  .exact⟨y',h,.inl rfl⟩
def dY.gate(hm:s.made)(h:dY s A B bd bc bl x)(c:Nat):dY s A B bd bc bl {x with ck:=(lI s x.ck (c:Int) true).2}:=by
 refine⟨⟨Yo hm.dM h.ok.ck (c:Int) true,h.ok.dm,h.ok.ln,h.ok.dv,h.ok.each,h.ok.wt⟩,h.qA,h.sL,h.dom,h.qZ,fun i j r d f l m=>?_,h.nR,h.vN,h.qC,h.oO⟩;obtain⟨y,k,rfl | ⟨rfl,e,p,rfl⟩⟩:=aIt f
 .exact h.iO i j _ d k l m
 .obtain⟨t,n⟩:=h.iO _ j y d k l m;refine⟨rfl,fun o=>?_⟩
  show(if e.kind=112/\true=false then e.lock else y.left)=0
  rw[aC aB];exact n o
def dY.aSG(hm:s.made)(h:dY s A B bd bc bl x){c:Nat}(j:hasB A.c c=false):dY s A B bd bc bl {x with ck:=(lI s x.ck (c:Int) false).2}:=by
 refine⟨⟨Yo hm.dM h.ok.ck (c:Int) false,h.ok.dm,h.ok.ln,h.ok.dv,h.ok.each,h.ok.wt⟩,h.qA,h.sL,h.dom,h.qZ,fun i k n d f e m=>?_,h.nR,h.vN,h.qC,h.oO⟩;obtain⟨y,l,rfl | ⟨rfl,_⟩⟩:=aIt f
 .exact h.iO i k _ d l e m
 .rw[j] at e;cases e
structure Oo(s:aI)(A B:bM)(c:Nat)(x:aS):Prop where
 two:dY s A B none (some c) none x
 sw:rA s c
 tS:hasB A.c c=true
def Oo.tick(hm:s.made){c:Nat}(h:Oo s A B c x)(d:Int):Oo s A B c (uM s x d):=⟨h.two.Hl hm d,h.sw,h.tS⟩
def Oo.step(hm:s.made){c:Nat}(h:Oo s A B c x):((xH s x c).2=true->dY s A B none none none (xH s x c).1)/\((xH s x c).2=false->Oo s A B c (xH s x c).1):=by
 have m:=h.two
 have J:c < s.aL.length:=by
  have:=Kr h.tS
  rw[m.qA.c] at this;exact this
 obtain⟨o,r⟩:=get_some J;obtain⟨y,O⟩:=get_some (l:=x.ck) (i:=c) (by have:=m.ok.ck.len;omega)
 have K:=(cE.1 O).1
 have M:o.kind=112\/o.kind=103:=by rw[<-Qg r];exact h.sw
 obtain⟨f,Z,N,hf⟩:=aHe hm r h.sw
 have n:=aAe hm.aL r
 rw[N] at n;dsimp only at n;rw[dL] at n
 have H:c∉fV s f:=fun h=>by have:=aCo hm h;omega
 have p:(lI s x.ck c true).2=x.ck.set c ⟨true,y.left⟩:=by
  unfold lI;rw[show bJ s.aL.length (c:Int)=true from eM aA];simp only[Bool.true_eq_false,if_false,dL,r,O];rw[aC aA];simp[Py]
 have d:dY s A B none (some c) none {x with ck:=x.ck.set c ⟨true,y.left⟩}:=by
  have:=m.gate hm c
  rw[p] at this;exact this
 have C:(x.ck.set c ⟨true,y.left⟩)[c]? =some ⟨true,y.left⟩:=kR K
 have F:runs s (x.ck.set c ⟨true,y.left⟩) f=true:=d.src hm r N h.tS (fun j V=>by cases V;exact H)
 have D:sG s (x.ck.set c ⟨true,y.left⟩) c=uK o ⟨true,y.left⟩:=by
  unfold sG;rw[show bJ s.aL.length (c:Int)=true from eM aA,dL,aH3 hm.aL r C,N];dsimp only;rw[dL,F];simp
 by_cases e:uK o ⟨true,y.left⟩=true
 .have k:xH s x c=({x with ck:=x.ck.set c ⟨true,y.left⟩},true):=by
   rw[xH,p,D,e];rfl
  rw[k];refine⟨fun _=>?_,(fun h=>by cases h)⟩;refine⟨d.ok,m.qA,m.sL,m.dom,m.qZ,fun i R U G I T _=>?_,m.nR,(fun _ h=>by cases h),m.qC,m.oO⟩
  by_cases E:i=c
  .subst E;cases r.symm.trans G;cases C.symm.trans I;refine⟨rfl,fun w=>?_⟩;unfold uK at e;rw[aH w] at e
   simpa using e
  .exact d.iO i R U G I T (by simp[fN E])
 .have t:uK o ⟨true,y.left⟩=false:=by simpa using e
  obtain⟨Y,L⟩:=get_some (l:=s.aL) (i:=f) aA
  have z:=aAe hm.aL L
  have k:xH s x c=({x with ck:=x.ck.set c ⟨true,y.left⟩},false):=by
   rw[xH,p,D,t,n,z]
   have X:sG s (x.ck.set c ⟨true,y.left⟩) (f:Int)=true:=by
    unfold sG;rw[show bJ s.aL.length (f:Int)=true from eM aA,dL,F];rfl
   simp[X]
  rw[k];exact⟨(fun h=>by cases h),fun _=>⟨d,h.sw,h.tS⟩⟩
def aPy{r i:Nat}{y':lK}(h:(yB x.ln (r:Int)).2[i]? =some y'):∃y,x.ln[i]? =some y/\(y.held=false->y'.held=false):=by
 unfold yB at h;split at h
 .exact⟨y',h,id⟩
 .rw [dL] at h;split at h
  .rename_i y d
   split at h
   .exact⟨y',h,id⟩
   .dsimp only at h;rw[gX] at h;split at h
    .rename_i c
     subst c;split at h
     .cases h;exact⟨y,d,id⟩
     .cases h
    .exact⟨y',h,id⟩
  .exact⟨y',h,id⟩
def dY.rel(h:dY s A B bd bc bl x)(r:Nat):dY s A B bd bc bl (Bk x r).1:=by
 unfold Bk;split
 .refine⟨⟨h.ok.ck,h.ok.dm,aHO h.ok.ln r,h.ok.dv,h.ok.each,h.ok.wt⟩,h.qA,h.sL,h.dom,h.qZ,h.iO,h.nR,h.vN,fun i k c f j=>?_,h.oO⟩;obtain⟨y,d,e⟩:=aPy c;exact e (h.qC i y d f j)
 .exact h
def dY.aPz{r:Nat}(h:dY s A B bd bc (some r) x)(hd:(Bk x r).2=true):dY s A B bd bc none (Bk x r).1:=by
 have c:=h.rel r
 refine⟨c.ok,c.qA,c.sL,c.dom,c.qZ,c.iO,c.nR,c.vN,fun i y f j _=>?_,c.oO⟩
 by_cases e:i=r
 .subst e;unfold Bk at hd f;split at hd
  .cases hd
  .rename_i d
   rw[aC d] at f;unfold Fo at d;rw[dL] at d;dsimp only at f;rw[f] at d;simp only[lO,tV,yD,not_or,Bool.not_eq_true] at d;exact d.2
 .exact c.qC i y f j (by simp[fN e])
def dY.aVX(hm:s.made)(h:dY s A B bd bc bl x){l:Nat}(c:dF s (Ea s x l))(hl:hasB A.l l=false):dY s A B bd bc bl (Ea s x l):=by
 unfold Ea at c|-;split
 .rename_i k
  rw[aH k] at c;refine⟨c,h.qA,h.sL,h.dom,h.qZ,h.iO,h.nR,h.vN,fun i y j m r=>?_,fun i p d f hd=>?_⟩
  .unfold uV at j;rw[aC (by rw[k];simp),dL] at j;dsimp only at j;rw[gX] at j;split at j
   .rename_i e
    subst e;rw[hl] at m;cases m
   .exact h.qC i y j m r
  .dsimp only at f;rw[Iq,wU] at f;cases n:x.dv[i]? with
   | none=>rw[n] at f;cases f
   | some q =>
    rw[n] at f;simp only[lO,tW] at f
    have o:p.2=q.2:=by
     subst f;split
     .unfold Lf;split
      .split<;>rfl
      .rfl
     .rfl
    rw[o];exact h.oO i q d n hd
 .exact h
def dY.upA{n:Nat}(h:dY s A B none none none x)(t:n < s.domains.length)(hw:iC A B n=true):Lr s A B n x/\(tA s x n).2=true:=by
 obtain⟨y,f⟩:=get_some (l:=x.dm) (i:=n) (by have:=h.ok.dm.len;omega)
 have e:=(h.dom n y f aB).1 hw
 refine⟨⟨⟨h.ok,h.qA,h.sL,fun i m r _=>h.dom i m r aB,h.qZ,h.iO,h.nR,h.vN,h.qC,fun i p d e hd=>?_⟩,hw,⟨y,f,.inl e⟩,fun i p v e k _=>?_⟩,?_⟩
 .obtain⟨c,o⟩:=h.oO i p d e hd;refine⟨?_,fun j _=>o j aB⟩;rcases c with c | c | c
  .exact .inl c
  .exact .inr (.inl c)
  .cases c
 .rcases(h.oO i p v e k).1 with c | c | c
  .omega
  .omega
  .cases c
 .rw[tA,aBs f,aC aA,aH e]
def Aq(s:aI)(A B:bM)(a:Nat)(k id:Int)(x:aS):Prop:=∃n:Nat,id=(n:Int)/\
  ((k=117/\(a≠0->hasB A.d n=false)/\Lr s A B n x)\/((k=100\/k=107)/\Ol s A B n (decide (k=107)) x)\/
   (k=99/\a=0/\Oo s A B n x)\/(k=99/\a≠0/\dY s A B none none none x)\/
   (k=114/\a=0/\dY s A B none none (some n) x)\/(k=114/\a≠0/\dY s A B none none none x)\/
   (k=111/\hasB A.c n=false/\dY s A B none none none x)\/(k=97/\hasB A.l n=false/\dY s A B none none none x)\/(k=117/\a≠0/\hasB A.d n=true/\dY s A B none none none x))
def Aq.ok{a:Nat}{k id:Int}(h:Aq s A B a k id x):dF s x:=by
 obtain⟨n,_,h⟩:=h;rcases h with⟨_,_,h⟩ | ⟨_,h⟩ | ⟨_,_,h⟩ | ⟨_,_,h⟩ | ⟨_,_,h⟩ | ⟨_,_,h⟩ | ⟨_,_,h⟩ | ⟨_,_,h⟩ | ⟨_,_,_,h⟩
 .exact h.two.ok
 .exact h.two.ok
 .exact h.two.ok
 all_goals exact h.ok
def Aq.act(hm:s.made){a:Nat}{k id:Int}(h:Aq s A B a k id x):((pQ s x k id).2=true->dY s A B none none none (pQ s x k id).1)/\((pQ s x k id).2=false->Aq s A B a k id (pQ s x k id).1):=by
 have i:=aC3 hm.dM h.ok k id
 obtain⟨n,rfl,h⟩:=h;rcases h with⟨rfl,f,h⟩ | ⟨l,h⟩ | ⟨rfl,f,h⟩ | ⟨rfl,f,h⟩ | ⟨rfl,f,h⟩ | ⟨rfl,f,h⟩ | ⟨rfl,m,h⟩ | ⟨rfl,o,h⟩ | ⟨rfl,f,hw,h⟩
 .have e:pQ s x 117 n=tA s x n:=rfl
  rw[e];exact⟨(h.step hm).1,fun c=>⟨n,rfl,.inl ⟨rfl,f,(h.step hm).2 c⟩⟩⟩
 .have e:pQ s x k n=tB s x n (decide (k=107)):=by
   unfold pQ;rw[aC aA,aC aA,aC aA,aH l]
  rw[e];exact⟨(h.step hm).1,fun c=>⟨n,rfl,.inr (.inl ⟨l,(h.step hm).2 c⟩)⟩⟩
 .have e:pQ s x 99 n=xH s x n:=rfl
  rw[e];exact⟨(h.step hm).1,fun c=>⟨n,rfl,.inr (.inr (.inl ⟨rfl,f,(h.step hm).2 c⟩))⟩⟩
 .have e:pQ s x 99 n=xH s x n:=rfl
  rw[e]
  have j:dY s A B none none none (xH s x n).1:=h.gate hm n
  exact⟨fun _=>j,fun _=>⟨n,rfl,.inr (.inr (.inr (.inl ⟨rfl,f,j⟩)))⟩⟩
 .have e:pQ s x 114 n=Bk x n:=rfl
  rw[e];exact⟨h.aPz,fun _=>⟨n,rfl,.inr (.inr (.inr (.inr (.inl ⟨rfl,f,h.rel n⟩))))⟩⟩
 .have e:pQ s x 114 n=Bk x n:=rfl
  rw[e];exact⟨fun _=>h.rel n,fun _=>⟨n,rfl,.inr (.inr (.inr (.inr (.inr (.inl ⟨rfl,f,h.rel n⟩)))))⟩⟩
 .have e:pQ s x 111 n=({x with ck:=(lI s x.ck n false).2},true):=rfl
  rw[e];exact⟨fun _=>h.aSG hm m,fun c=>by cases c⟩
 .have e:pQ s x 97 n=(Ea s x n,true):=rfl
  rw[e] at i|-;exact⟨fun _=>h.aVX hm i o,fun c=>by cases c⟩
 .have e:pQ s x 117 n=tA s x n:=rfl
  rw[e];obtain⟨j,p⟩:=h.upA (by have:=Kr hw;rw[h.qA.d] at this;exact this) (by unfold iC;rw[hw];rfl);exact⟨(j.step hm).1,fun c=>by rw[p] at c;cases c⟩
def Aq.tick(hm:s.made){a:Nat}{k id:Int}(h:Aq s A B a k id x)(c:Int):Aq s A B a k id (uM s x c):=by
 obtain⟨n,rfl,h⟩:=h;refine⟨n,rfl,?_⟩;rcases h with⟨d,e,h⟩ | ⟨d,h⟩ | ⟨d,e,h⟩ | ⟨d,e,h⟩ | ⟨d,e,h⟩ | ⟨d,e,h⟩ | ⟨d,e,h⟩ | ⟨d,e,h⟩ | ⟨d,e,f,h⟩
 .exact .inl ⟨d,e,h.tick hm c⟩
 .exact .inr (.inl ⟨d,h.tick hm c⟩)
 .exact .inr (.inr (.inl ⟨d,e,h.tick hm c⟩))
 .exact .inr (.inr (.inr (.inl ⟨d,e,h.Hl hm c⟩)))
 .exact .inr (.inr (.inr (.inr (.inl ⟨d,e,h.Hl hm c⟩))))
 .exact .inr (.inr (.inr (.inr (.inr (.inl ⟨d,e,h.Hl hm c⟩)))))
 .exact .inr (.inr (.inr (.inr (.inr (.inr (.inl ⟨d,e,h.Hl hm c⟩))))))
 .exact .inr (.inr (.inr (.inr (.inr (.inr (.inr (.inl ⟨d,e,h.Hl hm c⟩)))))))
 .exact .inr (.inr (.inr (.inr (.inr (.inr (.inr (.inr ⟨d,e,f,h.Hl hm c⟩)))))))
structure aM5(s:aI)(A B:bM)(a:Nat)(k:Int)(n:Nat):Prop where
 kd:Dq k
 lt:n < xB s (yL k)
 ret:k=107->Js s n=true
 sw:k=99\/k=111->rA s n
 own:jW (if a=0 then A else B) k n= !decide (gR k)
 den:¬gR k->Cb s A B a k n=false
 abv:k=117->∀d,s.domains[n]? =some d->d.above≠ -1->qN A B 117 d.above=true
def aUR{a:Nat}{wt:List Int}{l:List Int}(K:nH l)(h:(eY s A B wt a l).2.1≠0):∃n:Nat,(eY s A B wt a l).2.2=n/\aM5 s A B a (eY s A B wt a l).2.1 n/\(bZ s l).2=(eY s A B wt a l).2:=by
 unfold eY at h|-
 by_cases o:(bZ s l).1≠0\/(bZ s l).2.1=0\/jW (if a=0 then A else B) (bZ s l).2.1 (bZ s l).2.2=decide (gR (bZ s l).2.1)
 .rw[aH o] at h;exact absurd rfl h
 rw[aC o] at h|-
 have L:(bZ s l).1=0:=nO fun f=>o (.inl f)
 have E:(bZ s l).2.1≠0:=fun f=>o (.inr (.inl f))
 have hw:jW (if a=0 then A else B) (bZ s l).2.1 (bZ s l).2.2= !decide (gR (bZ s l).2.1):=by
  cases x:jW (if a=0 then A else B) (bZ s l).2.1 (bZ s l).2.2<;>cases G:decide (gR (bZ s l).2.1)
  .exact absurd (x.trans G.symm) (fun f=>o (.inr (.inr f)))
  .rfl
  .rfl
  .exact absurd (x.trans G.symm) (fun f=>o (.inr (.inr f)))
 rcases aBk (s:=s) K with⟨f,_⟩ | ⟨_,J,N,M,C,I⟩
 .exact absurd f E
 generalize D:(bZ s l).2.1=k at *;generalize F:(bZ s l).2.2=id at *;obtain⟨n,rfl⟩:∃n:Nat,id=(n:Int):=⟨id.toNat,aA⟩
 rw[dL] at C I
 have r:n < xB s (yL k):=by omega
 have p:k=99\/k=111->rA s n:=fun t=>I (by unfold yL;rw[aC aA,aH t])
 have H:(bZ s l).2=(k,(n:Int)):=by rw[<-D,<-F]
 by_cases j:gR k
 .rw[aH j] at h|-;split at h
  .exact absurd rfl h
  .rename_i w
   rw[aC w,H];refine⟨n,rfl,⟨J,r,C,p,hw,fun f=>absurd j f,fun t d hd z=>?_⟩,rfl⟩;cases x:qN A B 117 d.above with
   | true=>rfl
   | false=>exact absurd ⟨t,by rw[dL,hd];simp[z,x]⟩ w
 .rw[aC j] at h|-;split at h
  .exact absurd rfl h
  .rename_i m
   rw[aC m];split at h
   .exact absurd rfl h
   .rename_i y
    rw[aC y,H];exact⟨n,rfl,⟨J,r,C,p,hw,fun _=>by simpa using m,fun t=>absurd (show gR k from .inl t) j⟩,rfl⟩
section
variable{A' B':bM}
def aNz(hm:s.made)(h:dY s A B none none none x)(G:A'.of s)(H:B'.of s)(z:A'.c=A.c)(hl:A'.l=A.l)(r:∀i,iC A' B' i=if i=n then true else iC A B i)(N:n < s.domains.length)(w:∀d,s.domains[n]? =some d->0<=d.above->iC A B d.above.toNat=true):Lr s A' B' n x:=by
 have o:∀i,iC A B i=true->iC A' B' i=true:=fun i j=>by
  rw[r];split
  .rfl
  .exact j
 obtain⟨y,C⟩:=get_some (l:=x.dm) (i:=n) (by have:=h.ok.dm.len;omega);obtain⟨L,K⟩:=h.dom n y C aB;refine⟨⟨h.ok,G,H,fun i m j J=>?_,fun i d hd j F=>?_,by rw[z];exact h.iO,by rw[z];exact h.nR,(fun _ h=>by cases h),by rw[hl];exact h.qC,fun i p d t hd=>?_⟩,by rw[r,aH rfl],⟨y,C,?_⟩,fun i p d t hd _=>?_⟩
 .have k:i≠n:=fun e=>J (by rw[e])
  rw[r,aC k];exact h.dom i m j aB
 .rw[r] at j;refine o _ ?_;split at j
  .rename_i e
   subst e;exact w d hd F
  .exact h.qZ i d hd j F
 .obtain⟨f,I⟩:=h.oO i p d t hd;refine⟨?_,fun D M=>?_⟩
  .rcases f with f | f | f
   .exact .inl f
   .exact .inr (.inl f)
   .cases f
  .have k:d.domain.toNat≠n:=fun e=>M (by rw[e])
   rw[r,aC k] at D;exact I D aB
 .cases E:iC A B n
  .rcases K E with f | f
   .exact .inr (.inr (.inr (.inl f)))
   .exact .inr (.inr (.inr (.inr f)))
  .exact .inl (L E)
 .rcases(h.oO i p d t hd).1 with f | f | f
  .omega
  .omega
  .cases f
def aU8(h:dY s A B none none none x)(J:A'.of s)(K:B'.of s)(E:A'.c=A.c)(hl:A'.l=A.l)(w:∀i,iC A' B' i=if i=n then false else iC A B i)(T:n < s.domains.length)(hw:iC A B n=true){keep:Bool}(f:∀(j:Nat) (c:Dom),s.domains[j]? =some c->c.above=(n:Int)->iC A B j=false)(t:keep=true->∀c,s.domains[n]? =some c->c.ret=true)(C:∀(j:Nat) (c:Dom),s.domains[j]? =some c->c.above < (j:Int)):Ol s A' B' n keep x:=by
 obtain⟨y,D⟩:=get_some (l:=x.dm) (i:=n) (by have:=h.ok.dm.len;omega);obtain⟨H,R⟩:=h.dom n y D aB;refine⟨⟨h.ok,J,K,fun i m k L=>?_,fun i d hd k O=>?_,by rw[E];exact h.iO,by rw[E];exact h.nR,(fun _ h=>by cases h),by rw[hl];exact h.qC,fun i p d I hd=>?_⟩,by rw[w,aH rfl],fun j c M z=>?_,t,⟨y,D,.inl (H hw)⟩⟩
 .have o:i≠n:=fun e=>L (by rw[e])
  rw[w,aC o];exact h.dom i m k aB
 .rw[w] at k|-;split at k
  .cases k
  .rw[aC (fun e=>by
    have:=f i d hd aA
    rw[k] at this
    cases this)]
   exact h.qZ i d hd k O
 .obtain⟨r,G⟩:=h.oO i p d I hd;refine⟨?_,fun F N=>?_⟩
  .rcases r with r | r | r
   .exact .inl r
   .exact .inr (.inl r)
   .cases r
  .have o:d.domain.toNat≠n:=fun e=>N (by rw[e])
   rw[w,aC o] at F;exact G F aB
 .rw[w];split
  .rfl
  .exact f j c M z
def dY.oB{bd bc bl:Option Nat}(h:dY s A B bd bc bl x)(k:B'.of s)(hd:B'.d=B.d):dY s A B' bd bc bl x:=by
 have e:∀i,iC A B' i=iC A B i:=fun i=>by unfold iC;rw[hd]
 exact⟨h.ok,h.qA,k,fun i m c l=>by rw[e];exact h.dom i m c l,fun i d hd c j=>by rw[e] at c|-;exact h.qZ i d hd c j,h.iO,h.nR,h.vN,h.qC,fun i p d f hd=>by rw[e];exact h.oO i p d f hd⟩
def aVq(h:dY s A B none none none x)(C:A'.of s)(hd:A'.d=A.d)(hl:A'.l=A.l)(k:∀i,hasB A'.c i=if i=n then true else hasB A.c i)(o:rA s n)(N:hasB A.c n=false)(D:∀j∈fV s n,j≠n->rA s j->hasB A.c j=true):Oo s A' B n x:=by
 have G:∀i,iC A' B i=iC A B i:=fun i=>by unfold iC;rw[hd]
 refine⟨⟨h.ok,C,h.sL,fun i m w E=>by rw[G];exact h.dom i m w E,fun i d hd w O=>by rw[G] at w|-;exact h.qZ i d hd w O,fun i c y z L f E=>?_,fun i f j K r=>?_,fun R J i f I t=>?_,by rw[hl];exact h.qC,fun i p d M hd=>by rw[G];exact h.oO i p d M hd⟩,o,by rw[k,aH rfl]⟩
 .have F:i≠n:=fun e=>E (by rw[e])
  rw[k,aC F] at f;exact h.iO i c y z L f aB
 .rw[k];split
  .rfl
  .rename_i H
   rw[k] at f;split at f
   .rename_i e
    subst e;exact D j K H r
   .exact h.nR i f j K r
 .cases J;rw[k,aC I] at f
  have:=h.nR i f n t o
  rw[N] at this;cases this
def aVp(h:dY s A B none none none x)(t:A'.of s)(hd:A'.d=A.d)(hl:A'.l=A.l)(r:∀i,hasB A'.c i=if i=n then false else hasB A.c i)(D:∀i,i≠n->hasB A.c i=true->n∉fV s i):dY s A' B none none none x:=by
 have E:∀i,iC A' B i=iC A B i:=fun i=>by unfold iC;rw[hd]
 refine⟨h.ok,t,h.sL,fun i m k z=>by rw[E];exact h.dom i m k z,fun i d hd k I=>by rw[E] at k|-;exact h.qZ i d hd k I,fun i c y o G f z=>?_,fun i f j F w=>?_,(fun _ h=>by cases h),by rw[hl];exact h.qC,fun i p d H hd=>by rw[E];exact h.oO i p d H hd⟩
 .rw[r] at f;split at f
  .cases f
  .exact h.iO i c y o G f z
 .rw[r] at f;split at f
  .cases f
  .rename_i C
   rw[r,aC (fun e:j=n=>D i C f (e▸F))];exact h.nR i f j F w
def aIJ{bl:Option Nat}(h:dY s A B none none none x)(f:A'.of s)(hd:A'.d=A.d)(n:A'.c=A.c)(hl:∀i,hasB A'.l i=true->bl≠some i->hasB A.l i=true):dY s A' B none none bl x:=by
 have k:∀i,iC A' B i=iC A B i:=fun i=>by unfold iC;rw[hd]
 exact⟨h.ok,f,h.sL,fun i m e j=>by rw[k];exact h.dom i m e j,fun i d hd e t=>by rw[k] at e|-;exact h.qZ i d hd e t,by rw[n];exact h.iO,by rw[n];exact h.nR,(fun _ h=>by cases h),fun i y e r j=>h.qC i y e (hl i r j) aB,fun i p d o hd=>by rw[k];exact h.oO i p d o hd⟩
end
def Md{X:bM}{k:Int}(hk:k=117\/k=100\/k=107):jW X k n=hasB X.d n:=by
 unfold jW yK;rw[aH hk];simp
def aAI{X:bM}{k:Int}(hk:k=99\/k=111):jW X k n=hasB X.c n:=by
 unfold jW yK;rw[aC aA,aH hk];simp
def aGG{X:bM}{k:Int}(hk:k=114\/k=97):jW X k n=hasB X.l n:=by
 unfold jW yK;rw[aC aA,aC aA,aH hk];simp
def Cx{l:List Bool}{i:Nat}(hi:i < l.length)(b:Bool)(j:Nat):hasB (nY l i b) j=if j=i then b else hasB l j:=by
 cases b
 .exact aSv hi j
 .exact aSw hi j
def Jp{X:bM}{k:Int}(hk:k=117\/k=100\/k=107):iL X k n=⟨nY X.d n (decide (gR k)),X.c,X.l⟩:=by
 unfold iL;rw[aH hk]
def Da{X:bM}{k:Int}(hk:k=99\/k=111):iL X k n=⟨X.d,nY X.c n (decide (gR k)),X.l⟩:=by
 unfold iL;rw[aC aA,aH hk]
def Cy{X:bM}{k:Int}(hk:k=114\/k=97):iL X k n=⟨X.d,X.c,nY X.l n (decide (gR k))⟩:=by
 unfold iL;rw[aC aA,aC aA,aH hk]
def aNM(hm:s.made)(h:dY s A B none none none x){a:Nat}{k:Int}(hd:aM5 s A B a k n)(K:a=0->k=99->∀j∈fV s n,j≠n->rA s j->hasB A.c j=true):Aq s (fH A a k n) (iI B a k n) a k n x:=by
 have H:=hd.lt
 have R:=aBa h.qA k n
 have V:=aBa h.sL k n
 have G:(fH A a k n).of s:=by
  unfold fH;split
  .exact R
  .exact h.qA
 have C:(iI B a k n).of s:=by
  unfold iI;split
  .exact h.sL
  .exact V
 have Ze:=hd.kd
 unfold Dq at Ze;refine⟨n,rfl,?_⟩
 by_cases J:k=117\/k=100\/k=107
 .have M : n < s.domains.length := by
   have:yL k=17:=by unfold yL;rw[aH J]
   rw[this] at H;exact H
  have z:n < A.d.length:=by rw[h.qA.d];exact M
  have O:n < B.d.length:=by rw[h.sL.d];exact M
  have K:(fH A a k n).c=A.c/\(fH A a k n).l=A.l:=by
   unfold fH;split
   .rw[Jp J];exact⟨rfl,rfl⟩
   .exact⟨rfl,rfl⟩
  have w:=hd.own
  by_cases r:gR k
  .have L:k=117:=by unfold gR at r;omega
   subst L
   by_cases D:a≠0/\hasB A.d n=true
   .refine .inr (.inr (.inr (.inr (.inr (.inr (.inr (.inr ⟨rfl,D.1,?_,?_⟩)))))))
    .unfold fH;rw[aC D.1];exact D.2
    .unfold fH;unfold iI at C|-;rw[aC D.1] at C|-;rw[aC D.1]
     have hU:∀i,iC A (iL B 117 n) i=iC A B i:=fun i=>by
      unfold iC;rw[Jp J,Cx O];split
      .rename_i e
       subst e;rw[D.2];rfl
      .rfl
     exact⟨h.ok,h.qA,C,fun i m F hb=>by rw[hU];exact h.dom i m F hb,fun i d hd F h0=>by rw[hU] at F|-;exact h.qZ i d hd F h0,h.iO,h.nR,h.vN,h.qC,fun i p d hp hd=>by rw[hU];exact h.oO i p d hp hd⟩
   refine .inl ⟨rfl,fun f=>?_,aNz hm h G C K.1 K.2 (fun i=>?_) M fun d Z h0=>?_⟩
   .unfold fH;rw[aC f];cases Y:hasB A.d n with
    | false=>rfl
    | true=>exact absurd ⟨f,Y⟩ D
   .unfold iC fH iI
    by_cases f:a=0
    .rw[aH f,aH f,Jp J,Cx z];split
     .rfl
     .rfl
    .rw[aC f,aC f,Jp J,Cx O];split
     .exact Bool.or_true _
     .rfl
   .have I:=hd.abv rfl d Z aA
    unfold qN at I;obtain⟨q,Y⟩:∃q:Nat,d.above=(q:Int):=⟨d.above.toNat,aA⟩
    rw[Y,Md (.inl rfl),Md (.inl rfl)] at I;rw[Y,dL];exact I
  .have L:k=100\/k=107:=by unfold gR at r;omega
   have o:=hd.den r
   unfold Cb at o;rw[Bool.or_eq_false_iff,Md J] at o;rw[gW r,Md J] at w;obtain⟨y,t⟩:=o;refine .inr (.inl ⟨L,aU8 h G C K.1 K.2 (fun i=>?_) M ?_ (fun j c X hjc=>?_) (fun N c hc=>?_) fun j c X=>?_⟩)
   .unfold iC fH iI
    by_cases f:a=0
    .rw[aH f] at y;rw[aH f,aH f,Jp J,Cx z,gW r];split
     .rename_i e
      subst e;exact y
     .rfl
    .rw[aC f] at y;rw[aC f,aC f,Jp J,Cx O,gW r];split
     .rename_i e
      subst e;rw[y];rfl
     .rfl
   .unfold iC
    by_cases f:a=0
    .rw[aH f] at w;rw[w];rfl
    .rw[aC f] at w;rw[w];exact Bool.or_true _
   .have hjl:=(cE.1 X).1
    unfold Ia at t;rw[Yd] at t
    have I:=t j (mI.2 (by unfold Hz;rw[aH L];exact hjl))
    unfold yN qN at I;rw[aH L,X,Md J,Md J] at I;unfold iC
    simpa[hjc] using I
   .have:=hd.ret (by simpa using N)
    unfold Js at this;rw[hc] at this
    simpa using this
   .have:=(hm.domains j c X).1
    omega
 .by_cases E:k=99\/k=111
  .have M:n < s.aL.length:=by
    have:yL k=20:=by unfold yL;rw[aC J,aH E]
    rw[this] at H;exact H
   have z:n < A.c.length:=by rw[h.qA.c];exact M
   have hsw:=hd.sw E
   have w:=hd.own
   rw[aAI E] at w
   by_cases r:gR k
   .have L:k=99:=by unfold gR at r;omega
    subst L
    by_cases f:a=0
    .refine .inr (.inr (.inl ⟨rfl,f,?_⟩));rw[aH f,eM r] at w;unfold fH at G|-;unfold iI;rw[aH f] at G|-;rw[aH f];exact aVq h G (by rw[Da E]) (by rw[Da E]) (fun i=>by rw[Da E,Cx z];rfl) hsw w (K f rfl)
    .refine .inr (.inr (.inr (.inl ⟨rfl,f,?_⟩)));unfold iI at C|-;unfold fH;rw[aC f] at C|-;rw[aC f];exact h.oB C (by rw[Da E])
   .have L:k=111:=by unfold gR at r;omega
    subst L
    have o:=hd.den r
    unfold Cb at o;rw[Bool.or_eq_false_iff,aAI E] at o;obtain⟨y,t⟩:=o;refine .inr (.inr (.inr (.inr (.inr (.inr (.inl ⟨rfl,?_,?_⟩))))))
    .unfold fH
     by_cases f:a=0
     .rw[aH f,Da E,Cx z,aH rfl];exact gW r
     .rw[aC f] at y|-;exact y
    .by_cases f:a=0
     .unfold fH at G|-;unfold iI;rw[aH f] at G|-;rw[aH f];refine aVp h G (by rw[Da E]) (by rw[Da E]) (fun i=>by rw[Da E,Cx z];rfl) fun i hin F U=>?_
      have T:=Kr F
      rw[h.qA.c] at T;unfold Ia at t;rw[Yd] at t
      have I:=t i (mI.2 (by unfold Hz;rw[aC aA,aH rfl];exact T))
      unfold yN qN zY at I;rw[aC aA,aAI E,F] at I;rw[dL,Bool.true_or,Bool.true_and] at I
      have h2:((n:Nat):Int)∈eD (fV s i):=by
       unfold eD;exact fR.2 ⟨n,U,rfl⟩
      have h3:((i:Nat):Int)≠(n:Int):=by omega
      rw[eM h2,eM h3] at I;exact I rfl
     .unfold iI at C|-;unfold fH;rw[aC f] at C|-;rw[aC f];exact h.oB C (by rw[Da E])
  .have hL:k=114\/k=97:=aA
   have M:n < s.bG.length:=by
    have:yL k=22:=by unfold yL;rw[aC J,aC E]
    rw[this] at H;exact H
   have z:n < A.l.length:=by rw[h.qA.l];exact M
   rcases hL with rfl | rfl
   .by_cases f:a=0
    .refine .inr (.inr (.inr (.inr (.inl ⟨rfl,f,?_⟩))));unfold fH at G|-;unfold iI;rw[aH f] at G|-;rw[aH f];refine aIJ h G (by rw[Cy (.inl rfl)]) (by rw[Cy (.inl rfl)]) fun i F hb=>?_;rw[Cy (.inl rfl),Cx z,aC (fun e=>hb (by rw[e]))] at F;exact F
    .refine .inr (.inr (.inr (.inr (.inr (.inl ⟨rfl,f,?_⟩)))));unfold iI at C|-;unfold fH;rw[aC f] at C|-;rw[aC f];exact h.oB C (by rw[Cy (.inl rfl)])
   .have r:¬gR 97:=aE
    have o:=hd.den r
    unfold Cb at o;rw[Bool.or_eq_false_iff,aGG (.inr rfl)] at o;refine .inr (.inr (.inr (.inr (.inr (.inr (.inr (.inl ⟨rfl,?_,?_⟩)))))))
    .unfold fH
     by_cases f:a=0
     .rw[aH f,Cy (.inr rfl),Cx z,aH rfl];exact gW r
     .rw[aC f] at o|-;exact o.1
    .by_cases f:a=0
     .unfold fH at G|-;unfold iI;rw[aH f] at G|-;rw[aH f];refine aIJ h G (by rw[Cy (.inr rfl)]) (by rw[Cy (.inr rfl)]) fun i F _=>?_;rw[Cy (.inr rfl),Cx z,gW r] at F;split at F
      .cases F
      .exact F
     .unfold iI at C|-;unfold fH;rw[aC f] at C|-;rw[aC f];exact h.oB C (by rw[Cy (.inr rfl)])
def xW(s:aI)(y:bX)(x:aS):Prop:=(y.at_ < 0/\dY s y.x y.y none none none x)\/∃a:Nat,a < 2/\y.at_=(a:Int)/\Aq s y.x y.y a y.kind y.id x
def aHL(s:aI)(x:aS)(y:bX)(a:Nat)(st:Int):(rB s x y a st).x=y.x/\(rB s x y a st).y=y.y/\(rB s x y a st).at_=y.at_/\(rB s x y a st).kind=y.kind/\(rB s x y a st).id=y.id:=by
 unfold rB aDO;split<;>exact⟨rfl,rfl,rfl,rfl,rfl⟩
def xW.end_(hm:s.made){a:Nat}(j:a < 2)(c:y.at_=(a:Int))(h:Aq s y.x y.y a y.kind y.id x):xW s (yO s y (pQ s x y.kind y.id)) (pQ s x y.kind y.id).1:=by
 obtain⟨i,l⟩:=h.act hm;unfold yO;cases d:(pQ s x y.kind y.id).2
 .rw[aC aB];exact .inr ⟨a,j,c,l d⟩
 .rw[aH rfl];obtain⟨f,k,e,_⟩:=aHL s (pQ s x y.kind y.id).1 {y with at_:= -1} y.at_.toNat 0;refine .inl ⟨by rw[e];show(-1:Int) < 0;decide,?_⟩;rw[f,k];exact i d
def ClO(s:aI)(x:aS)(y:bX):Prop:=y.at_ < 0->rG y=some 0->(cY s x y 0).2.1=99->∀n:Nat,(cY s x y 0).2.2=(n:Int)->∀j∈fV s n,j≠n->rA s j->hasB y.x.c j=true
def xW.step(hm:s.made)(hf:oH s y)(h:xW s y x)(j:ClO s x y):xW s (jX s x y).1 (jX s x y).2:=by
 unfold jX;dsimp only;rcases h with⟨c,h⟩ | ⟨a,m,k,h⟩
 .cases i:rG y with
  | none=>
   have l:kX s x y=(y,false):=by unfold kX;rw[i]
   rw[l,aH ⟨c,rfl⟩];exact .inl ⟨c,h⟩
  | some a =>
   have m:=Yq hf.fm.la i
   have l:kX s x y=nX s x y a:=by unfold kX;rw[i]
   rw[l]
   by_cases hd:(cY s x y a).2.1=0
   .have e:nX s x y a=(rB s x {y with last:=a} a (cY s x y a).1,false):=by
     unfold nX;dsimp only;rw[aH hd]
    rw[e,aH ⟨c,rfl⟩];obtain⟨o,t,w,_⟩:=aHL s x {y with last:=(a:Int)} a (cY s x y a).1;refine .inl ⟨by rw[w];exact c,?_⟩;rw[o,t];exact h
   .have e:nX s x y a=({y with last:=a,x:=fH y.x a (cY s x y a).2.1 (cY s x y a).2.2,y:=iI y.y a (cY s x y a).2.1 (cY s x y a).2.2,at_:=a,kind:=(cY s x y a).2.1,id:=(cY s x y a).2.2},true):=by
     unfold nX;dsimp only;rw[aC hd]
    rw[e,aC aB,aH c];dsimp only;obtain⟨n,d,f,_⟩:=aUR (s:=s) (A:=y.x) (B:=y.y) (a:=a) (wt:=kI s x) (hf.fm.box a).1 hd
    have d:(cY s x y a).2.2=(n:Int):=d
    have hw:=aNM hm h f (fun z p=>by
     subst z
     exact j c i p n d)
    exact xW.end_ (y:={y with last:=a,x:=fH y.x a (cY s x y a).2.1 (cY s x y a).2.2,y:=iI y.y a (cY s x y a).2.1 (cY s x y a).2.2,at_:=a,kind:=(cY s x y a).2.1,id:=(cY s x y a).2.2}) hm m rfl (by
     dsimp only;rw[d]
     exact hw)
 .have c:¬y.at_ < 0:=aA
  rw[aC (fun r=>c r.1),aC c];exact xW.end_ hm m k h
def Aq.hw{A B:bM}{a:Nat}{k id:Int}(h:Aq s A B a k id x){x':aS}(l:∀bd bc bl,dY s A B bd bc bl x->dY s A B bd bc bl x')(z:x'.dm=x.dm)(y:∀(i:Nat) (p:dO×eK),x'.dv[i]? =some p->∃p0,x.dv[i]? =some p0/\p.2=p0.2):Aq s A B a k id x':=by
 have t:∀d,Wz s d x->Wz s d x':=fun d hd i p v j w o=>by
  obtain⟨p0,r,e⟩:=y i p j;rw[e];exact hd i p0 v r w o
 have m:∀d,Xg s d x->Xg s d x':=fun d hd i p v j w o=>by
  obtain⟨p0,r,e⟩:=y i p j;rw[e];exact hd i p0 v r w o
 obtain⟨n,rfl,h⟩:=h;refine⟨n,rfl,?_⟩;rcases h with⟨c,f,h⟩ | ⟨c,h⟩ | ⟨c,f,h⟩ | ⟨c,f,h⟩ | ⟨c,f,h⟩ | ⟨c,f,h⟩ | ⟨c,f,h⟩ | ⟨c,f,h⟩ | ⟨c,f,C,h⟩
 .exact .inl ⟨c,f,l _ _ _ h.two,h.tS,by rw[z];exact h.Pw,t n h.ask⟩
 .refine .inr (.inl ⟨c,l _ _ _ h.two,h.tS,h.low,h.ret,?_⟩);obtain⟨q,D,j⟩:=h.Pw;refine⟨q,by rw[z];exact D,?_⟩;rcases j with j | ⟨j,hs⟩
  .exact .inl j
  .exact .inr ⟨j,m n hs⟩
 .exact .inr (.inr (.inl ⟨c,f,l _ _ _ h.two,h.sw,h.tS⟩))
 .exact .inr (.inr (.inr (.inl ⟨c,f,l _ _ _ h⟩)))
 .exact .inr (.inr (.inr (.inr (.inl ⟨c,f,l _ _ _ h⟩))))
 .exact .inr (.inr (.inr (.inr (.inr (.inl ⟨c,f,l _ _ _ h⟩)))))
 .exact .inr (.inr (.inr (.inr (.inr (.inr (.inl ⟨c,f,l _ _ _ h⟩))))))
 .exact .inr (.inr (.inr (.inr (.inr (.inr (.inr (.inl ⟨c,f,l _ _ _ h⟩)))))))
 .exact .inr (.inr (.inr (.inr (.inr (.inr (.inr (.inr ⟨c,f,C,l _ _ _ h⟩)))))))
def aWf(s:aI)(x:aS)(i:Nat):(fZ s x i).1.dm=x.dm/\∀(k:Nat) (p:dO×eK),(fZ s x i).1.dv[k]? =some p->∃p0,x.dv[k]? =some p0/\p.2=p0.2:=by
 refine⟨?_,fun k p c=>?_⟩
 .unfold fZ;split
  .split<;>rfl
  .rfl
 .unfold fZ at c;split at c
  .rename_i t d q _ _ f
   split at c
   .dsimp only at c;rw[gX] at c;split at c
    .rename_i e
     subst e;split at c
     .cases c;refine⟨q,f,?_⟩;unfold Es;split<;>rfl
     .cases c
    .exact⟨p,c,rfl⟩
   .exact⟨p,c,rfl⟩
  .exact⟨p,c,rfl⟩
def xW.tick(hm:s.made)(h:xW s y x)(i:dF s x)(k:Gh s x)(c:Int):xW s y (mX s x c).1:=by
 have m:∀n,xW s y (gI s x n).1:=fun n=>by
  induction n with
  | zero=>exact h
  | succ n ih=>
   have d:=(Nv i k (n+1)).1
   obtain⟨o,p⟩:=aWf s (gI s x n).1 n;rcases ih with⟨e,ih⟩ | ⟨a,l,f,ih⟩
   .exact .inl ⟨e,aLK ih d⟩
   .exact .inr ⟨a,l,f,ih.hw (fun _ _ _ r=>aLK r d) o p⟩
 rcases m s.aG.length with⟨e,j⟩ | ⟨a,l,f,j⟩
 .exact .inl ⟨e,j.Hl hm c⟩
 .exact .inr ⟨a,l,f,j.tick hm c⟩
def xW.same(h:xW s y x){x':aS}{y':bX}(c:dF s x')(r:x'.ck=x.ck)(j:x'.dm=x.dm)(h3:x'.ln=x.ln)(f:x'.dv=x.dv)(e1:y'.x=y.x)(e2:y'.y=y.y)(o:y'.at_=y.at_)(w:y'.kind=y.kind)(t:y'.id=y.id):xW s y' x':=by
 have l:∀{A B:bM} (bd k m:Option Nat),dY s A B bd k m x->dY s A B bd k m x':=fun _ _ _ z=>z.hw c r j h3 f
 unfold xW;rw[e1,e2,o,w,t];rcases h with⟨d,h⟩ | ⟨a,C,e,h⟩
 .exact .inl ⟨d,l _ _ _ h⟩
 .exact .inr ⟨a,C,e,h.hw l j (fun i p n=>⟨p,by rw[<-f];exact n,rfl⟩)⟩
def Gn(s:aI)(X:bM)(p:eJ):Prop:=
 (∃i:Nat,p=⟨17,4,i,1⟩/\i < s.domains.length/\hasB X.d i=false/\∀d,s.domains[i]? =some d->0<=d.above->hasB X.d d.above.toNat=true)\/
 (∃i:Nat,p=⟨20,7,i,1⟩/\i < s.aL.length/\pH s i=true/\hasB X.c i=false/\∀j∈fV s i,j≠i->pH s j=true->hasB X.c j=true)\/
 (∃i:Nat,p=⟨22,4,i,0⟩/\i < s.bG.length/\hasB X.l i=false)\/
 (∃i:Nat,p=⟨20,7,i,0⟩/\i < s.aL.length/\pH s i=true/\hasB X.c i=true/\∀j:Nat,j≠i->hasB X.c j=true->i∉fV s j)\/
 (∃i:Nat,p=⟨17,4,i,rQ s i⟩/\i < s.domains.length/\hasB X.d i=true/\∀(j:Nat) d,s.domains[j]? =some d->d.above=(i:Int)->hasB X.d j=false)
section
variable{x y:bM}
def aWz(hm:s.made)(hx:x.cl s)(hy:y.cl s)(Y:∀i,hasB x.l i=true->hasB y.l i=true){k:Nat}{p:eJ}(hk:(allM s x y)[k]? =some p):Gn s (((allM s x y).take k).foldl iB x) p:=by
 have z:=aSP (L:=(allM s x y).take k) hx.of
 unfold allM xJ at hk z|-;rcases aAk hk with⟨R,E⟩ | ⟨t1,R,E⟩
 .
  obtain⟨i,t,rfl,C⟩:=Sy R;rw[E,C,Vh] at z|-
  have e:=Dl.1 (dJ t)
  have w:=aAT (aB2 s.domains.length x.d y.d) t
  have f:=Cv.1 e.2
  have m:∀j,j < s.domains.length->hasB ((List.take k (fF (List.range s.domains.length) x.d y.d)).foldl (fun d (i:Nat)=>iY d (i:Int) true) x.d) j=if j∈List.take k (fF (List.range s.domains.length) x.d y.d) then true else hasB x.d j:=fun j o=>has_fold _ _ _ _ (by rw[hx.of.d];exact o)
  refine .inl ⟨i,rfl,e.1,?_,fun d hd h0=>?_⟩
  .dsimp only;rw[m i e.1,aC (fun h=>by have:=((w i).1 h).2;omega),f.2]
  .dsimp only
   have I:=(hm.domains i d hd).1
   have ha:d.above.toNat < s.domains.length:=by omega
   rw[m _ ha]
   have hya:=hy.up i d f.1 hd h0
   split
   .rfl
   .rename_i n
    cases Z:hasB x.d d.above.toNat with
    | true=>rfl
    | false=>exact absurd ((w d.above.toNat).2 ⟨Dl.2 ⟨ha,Cv.2 ⟨hya,Z⟩⟩,aA⟩) n
 .rcases aAk R with⟨X,H⟩ | ⟨t2,X,H⟩
  .
   obtain⟨i,t,rfl,C⟩:=Sy X;rw[E,H,C,pK,Vh,Zz] at z|-
   have e:=Dl.1 (dJ t)
   have w:=aAT (aB2 s.aL.length x.c y.c) t
   have f:=Cv.1 e.2
   have m:∀j,j < s.aL.length->hasB ((List.take t1 (fF (List.range s.aL.length) x.c y.c)).foldl (fun d (i:Nat)=>iY d (i:Int) true) x.c) j=if j∈List.take t1 (fF (List.range s.aL.length) x.c y.c) then true else hasB x.c j:=fun j o=>has_fold _ _ _ _ (by rw[hx.of.c];exact o)
   refine .inr (.inl ⟨i,rfl,e.1,hy.sw i f.1,?_,fun j o V U=>?_⟩)
   rotate_left
   .dsimp only
    have r:j < s.aL.length:=aCn o
    have T:=aCo hm o
    rw[m j r]
    have A:=hy.ch i j f.1 o U
    split
    .rfl
    .rename_i n
     cases G:hasB x.c j with
     | true=>rfl
     | false=>exact absurd ((w j).2 ⟨Dl.2 ⟨r,Cv.2 ⟨A,G⟩⟩,aA⟩) n
   dsimp only;rw[has_fold _ _ _ _ (by rw[hx.of.c];exact e.1),aC (fun h=>by have:=((w i).1 h).2;omega),f.2]
  .rcases aAk X with⟨h5,M⟩ | ⟨t3,h5,M⟩
   .
    obtain⟨i,t,rfl,C⟩:=Sy h5;rw[E,H,M,C,pK,pK,Vh,Zz,aBV] at z|-
    have e:=Dl.1 (dJ t)
    have w:=aAT (aB2 s.bG.length x.l y.l) t
    have f:=Cv.1 e.2
    refine .inr (.inr (.inl ⟨i,rfl,e.1,?_⟩));dsimp only;rw[has_fold _ _ _ _ (by rw[hx.of.l];exact e.1),aC (fun h=>by have:=((w i).1 h).2;omega),f.2]
   .rcases aAk h5 with⟨h7,N⟩ | ⟨t4,h7,N⟩
    .
     obtain⟨i,t,rfl,C⟩:=Sy h7;rw[E,H,M,N,C,pK,pK,pK,Vh,Zz,aBV,aEZ] at z|-
     have e:=Dl.1 (dJ t)
     have w:=aAT (aB2 s.bG.length y.l x.l) t
     have f:=Cv.1 e.2
     exact absurd (Y i f.1) (by rw[f.2];simp)
    .rcases aAk h7 with⟨O,F⟩ | ⟨t5,O,F⟩
     .
      obtain⟨i,t,rfl,C⟩:=Sy O;rw[E,H,M,N,F,C,pK,pK,pK,pK,Vh,Zz,aBV,aEZ,aJI] at z|-
      have e:=Uf.1 (dJ t)
      have B:=aGY (aI6 s.aL.length y.c x.c) t
      have f:=Cv.1 e.2
      have m:∀j,j < s.aL.length->hasB ((List.take t4 (fF (List.range s.aL.length).reverse y.c x.c)).foldl (fun d (i:Nat)=>iY d (i:Int) false) ((fF (List.range s.aL.length) x.c y.c).foldl (fun d (i:Nat)=>iY d (i:Int) true) x.c)) j=if j∈List.take t4 (fF (List.range s.aL.length).reverse y.c x.c) then false else if j∈fF (List.range s.aL.length) x.c y.c then true else hasB x.c j:=fun j o=>by
       rw[has_fold _ _ _ _ (by rw[aBr,hx.of.c];exact o),has_fold _ _ _ _ (by rw[hx.of.c];exact o)]
      refine .inr (.inr (.inr (.inl ⟨i,rfl,e.1,hx.sw i f.1,?_,fun j V o J=>?_⟩)))
      .dsimp only;rw[m i e.1,aC (fun h=>by have:=((B i).1 h).2;omega)];split
       .rfl
       .exact f.1
      .dsimp only at o
       have r:=Kr o
       rw[aBr,aBr,hx.of.c] at r;rw[m j r] at o
       have T:=aCo hm J
       have A:hasB y.c j=true:=by
        split at o
        .cases o
        .rename_i n
         split at o
         .rename_i D;exact(Cv.1 (Dl.1 D).2).1
         .cases A:hasB y.c j with
          | true=>rfl
          | false=>exact absurd ((B j).2 ⟨Uf.2 ⟨r,Cv.2 ⟨o,A⟩⟩,aA⟩) n
       have:=hy.ch j i A J (hx.sw i f.1)
       rw[f.2] at this;cases this
     .
      obtain⟨i,t,rfl,C⟩:=Sy O;rw[E,H,M,N,F,C,pK,pK,pK,pK,pK,Vh,Zz,aBV,aEZ,aJI,aTi] at z|-
      have e:=Uf.1 (dJ t)
      have B:=aGY (aI6 s.domains.length y.d x.d) t
      have f:=Cv.1 e.2
      have m:∀j,j < s.domains.length->hasB ((List.take t5 (fF (List.range s.domains.length).reverse y.d x.d)).foldl (fun d (i:Nat)=>iY d (i:Int) false) ((fF (List.range s.domains.length) x.d y.d).foldl (fun d (i:Nat)=>iY d (i:Int) true) x.d)) j=if j∈List.take t5 (fF (List.range s.domains.length).reverse y.d x.d) then false else if j∈fF (List.range s.domains.length) x.d y.d then true else hasB x.d j:=fun j o=>by
       rw[has_fold _ _ _ _ (by rw[aBr,hx.of.d];exact o),has_fold _ _ _ _ (by rw[hx.of.d];exact o)]
      refine .inr (.inr (.inr (.inr ⟨i,rfl,e.1,?_,fun j d hd hab=>?_⟩)))
      .dsimp only;rw[m i e.1,aC (fun h=>by have:=((B i).1 h).2;omega)];split
       .rfl
       .exact f.1
      .dsimp only
       have r:=(cE.1 hd).1
       have I:=(hm.domains j d hd).1
       rw[m j r];split
       .rfl
       .rename_i n
        have K:hasB y.d j=false:=by
         cases A:hasB y.d j with
         | false=>rfl
         | true=>
          have:=hy.up j d A hd aA
          rw[show d.above.toNat=i by omega,f.2] at this;cases this
        split
        .rename_i D
         have:=(Cv.1 (Dl.1 D).2).1
         rw[K] at this;cases this
        .cases G:hasB x.d j with
         | false=>rfl
         | true=>exact absurd ((B j).2 ⟨Uf.2 ⟨r,Cv.2 ⟨G,K⟩⟩,aA⟩) n
def aMo{i:Nat}(h:rA s i):pH s i=true:=by
 unfold rA kindOf at h;unfold pH;cases d:s.aL[i]? with
 | none=>rw[d] at h;exact absurd h aB
 | some c=>rw[d] at h;exact eM h
def Gn.goes(hm:s.made){X:bM}{p:eJ}(h:Gn s X p)(c:X.of s):Xc s X p 0:=by
 rcases h with⟨i,rfl,d,e,f⟩ | ⟨i,rfl,d,e,f,_⟩ | ⟨i,rfl,d,e⟩ | ⟨i,rfl,d,e,f,j⟩ | ⟨i,rfl,d,e,f⟩
 .exact aSA hm c aE d e f
 .exact aS8 hm c aE d e f
 .exact aS7 hm c aE d e
 .exact aS9 hm c aE d e f j
 .exact aSB hm c aE d e f
section
variable{h:aS}
end
end
def aNp(h:∀i,pE x.wt i=0)(i:Nat):((kI s x)[i]?).getD 0<=0:=by
 unfold kI;rw[eO];cases(List.range s.aG.length)[i]? with
 | none=>simp
 | some j=>simp[h j]
def Gn.jJ{p:eJ}(h:Gn s X p):Ru p/\(p.msg=4\/p.msg=7):=by
 rcases h with⟨i,rfl,_⟩ | ⟨i,rfl,_⟩ | ⟨i,rfl,_⟩ | ⟨i,rfl,_⟩ | ⟨i,rfl,_⟩<;>simp[Ru]
def aHS(h:kZ y 0=none):gL y 0=y:=by
 unfold kZ at h;unfold gL;rw[aH rfl] at h|-;split at h
 .cases h
 .rename_i c
  rw[aC c]
def aCS(s:aI):bM->List eJ->Prop
 | _,[]=>True
 | X,p::r=>Gn s X p/\aCS s (iB X p) r
def aJt:∀(L:List eJ) (X:bM),(∀k p,L[k]? =some p->Gn s ((L.take k).foldl iB X) p)->aCS s X L
 | [],_,_=>trivial
 | p::r,X,h=>⟨h 0 p rfl,aJt r _ fun k q c=>h (k+1) q c⟩
def vC(P A:bM):Prop:=(∀i,hasB P.d i=true->hasB A.d i=true)/\(∀i,hasB P.c i=true->hasB A.c i=true)/\(∀i,hasB P.l i=true->hasB A.l i=true)
def vC.refl(P:bM):vC P P:=⟨fun _ h=>h,fun _ h=>h,fun _ h=>h⟩
def aAZ(l:List Bool)(i:Nat)(b:Bool)(j:Nat):hasB (nY l i b) j=if j=i/\i < l.length then b else hasB l j:=by
 by_cases d:i < l.length
 .rw[Cx d]
  by_cases h:j=i
  .rw[aH h,aH ⟨h,d⟩]
  .rw[aC h,aC (fun c=>h c.1)]
 .rw[aD5 _ aA,aC (fun c=>d c.2)]
def aD3{l m:List Bool}(c:l.length=m.length)(h:∀i,hasB l i=true->hasB m i=true)(i:Nat)(b:Bool)(j:Nat):hasB (nY l i b) j=true->hasB (nY m i b) j=true:=by
 rw[aAZ,aAZ,c];split
 .exact id
 .exact h j
def aOs{l m:List Bool}(h:∀i,hasB l i=true->hasB m i=true)(i:Nat)(j:Nat):hasB (nY l i false) j=true->hasB m j=true:=by
 rw[aAZ];split
 .intro c;cases c
 .exact h j
def aOr{l m:List Bool}(h:∀i,hasB l i=true->hasB m i=true)(i:Nat)(hi:hasB m i=true)(b:Bool)(j:Nat):hasB (nY l i b) j=true->hasB m j=true:=by
 rw[aAZ];split
 .rename_i e
  intro _;rw[e.1];exact hi
 .exact h j
def aOt(e:P.of s)(f:A.of s)(hk:Dq k)(h:vC P A):vC (iL P k n) (iL A k n):=by
 unfold Dq at hk
 by_cases m:k=117\/k=100\/k=107
 .rw[Jp m,Jp m];exact⟨aD3 (e.d.trans f.d.symm) h.1 n _,h.2.1,h.2.2⟩
 .by_cases j:k=99\/k=111
  .rw[Da j,Da j];exact⟨h.1,aD3 (e.c.trans f.c.symm) h.2.1 n _,h.2.2⟩
  .have i:k=114\/k=97:=aA
   rw[Cy i,Cy i];exact⟨h.1,h.2.1,aD3 (e.l.trans f.l.symm) h.2.2 n _⟩
def aOu(hk:Dq k)(h:vC P A)(hw:gR k->jW A k n=true):vC (iL P k n) A:=by
 unfold Dq at hk
 have c:∀{l m:List Bool},(∀i,hasB l i=true->hasB m i=true)->(gR k->hasB m n=true)->∀j,hasB (nY l n (decide (gR k))) j=true->hasB m j=true:=fun {l m} hl hm j=>by
  by_cases d:gR k
  .exact aOr hl n (hm d) _ j
  .rw[gW d];exact aOs hl n j
 by_cases p:k=117\/k=100\/k=107
 .rw[Jp p];exact⟨c h.1 (fun e=>by rw[<-Md p];exact hw e),h.2.1,h.2.2⟩
 .by_cases f:k=99\/k=111
  .rw[Da f];exact⟨h.1,c h.2.1 (fun e=>by rw[<-aAI f];exact hw e),h.2.2⟩
  .have o:k=114\/k=97:=aA
   rw[Cy o];exact⟨h.1,h.2.1,c h.2.2 (fun e=>by rw[<-aGG o];exact hw e)⟩
def aUP{a:Nat}{wt l:List Int}(h:(eY s A B wt a l).2.1≠0):(bZ s l).1=0/\(bZ s l).2=(eY s A B wt a l).2/\(eY s A B wt a l).1=0:=by
 unfold eY at h|-
 by_cases d:(bZ s l).1≠0\/(bZ s l).2.1=0\/jW (if a=0 then A else B) (bZ s l).2.1 (bZ s l).2.2=decide (gR (bZ s l).2.1)
 .rw[aH d] at h;exact absurd rfl h
 have i:(bZ s l).1=0:=nO fun f=>d (.inl f)
 rw[aC d] at h|-;refine⟨i,?_⟩;split at h
 .split at h
  .exact absurd rfl h
  .rename_i c e
   rw[aH c,aC e];exact⟨rfl,rfl⟩
 .split at h
  .exact absurd rfl h
  .split at h
   .exact absurd rfl h
   .rename_i c e j
    rw[aC c,aC e,aC j];exact⟨rfl,rfl⟩
def Gn.read(hm:s.made){p:eJ}(hg:Gn s P p)(o:P.of s){f:Int}(G:0<=f)(E:f < 1024):bZ s (nW p f)=(0,qV p,p.id)/\nH (nW p f)/\qV p≠0/\iB P p=iL P (qV p) p.id:=by
 have c:=hg.goes hm o
 obtain⟨h,j⟩:=hg.jJ;obtain⟨y,i,t,F,w⟩:=aEE h G E;obtain⟨D,m,r,C,x⟩:=aEE h (k:=0) aE aE
 have hd:aGk p.msg p.pr f:=⟨y,by unfold wN;rw[i];rfl,by unfold Ib;rw[i,F];rfl,by unfold eN;rw[i,w];rfl,by unfold fB;rw[i,t];rfl,i,w,t⟩
 have n:aGk p.msg p.pr 0:=⟨D,by unfold wN;rw[m];rfl,by unfold Ib;rw[m,C];rfl,by unfold eN;rw[m,x];rfl,by unfold fB;rw[m,r];rfl,m,x,r⟩
 have z:Plain (nW p f):=aQ0 hd j c.id c.v
 have e:bZ s (nW p f)=bZ s [(dQ p.msg 0 p.pr 0).1,p.id,p.v]:=by
  unfold bZ nW;dsimp only;rw[hd.un,hd.ty,hd.pr,hd.ms,n.un,n.ty,n.pr,n.ms]
 have d:eY s P (dV s) [] 0 [(dQ p.msg 0 p.pr 0).1,p.id,p.v]=(0,qV p,p.id):=c.dec
 obtain⟨r1,r2,_⟩:=aUP (s:=s) (A:=P) (B:=dV s) (a:=0) (wt:=[]) (l:=[(dQ p.msg 0 p.pr 0).1,p.id,p.v]) (by rw[d];exact c.kind);rw[d] at r2;refine⟨?_,z.u,c.kind,c.done.symm⟩;rw[e];exact Prod.ext r1 r2
def aFv(hm:s.made){p:eJ}(hg:Gn s P p)(k:P.of s)(N:A.of s)(j:vC P A){l:Int}(X:0<=l)(R:l < 1024){wt:List Int}(E:∀i:Nat,(wt[i]?).getD 0<=0):
  ((eY s A B wt 0 (nW p l)).2.1=0/\((eY s A B wt 0 (nW p l)).1=0\/(eY s A B wt 0 (nW p l)).1= -3)/\vC (iB P p) A)\/
  (eY s A B wt 0 (nW p l)=(0,qV p,p.id)/\vC (iB P p) (fH A 0 (qV p) p.id)):=by
 obtain⟨w,U,t,G⟩:=hg.read hm k X R
 have r:Dq (qV p):=by
  rcases aBk (s:=s) U with⟨L,_⟩ | ⟨_,J,_⟩
  .rw[w] at L;exact absurd L t
  .rw[w] at J;exact J
 have C:∃n:Nat,p.id=(n:Int):=⟨p.id.toNat,by have:=(hg.goes hm k).id;omega⟩
 obtain⟨n,H⟩:=C
 have m:Is s wt (qV p) p.id=false:=aF8 (fun i _=>by unfold Fz;rw[show decide (0 < (wt[i]?).getD 0)=false from gW (by have:=E i;omega)];rfl)
 rw[H] at w m;rw[G,H]
 have o:(gR (qV p)->jW A (qV p) n=true)->vC (iL P (qV p) n) A:=aOu r j
 have mono:vC (iL P (qV p) n) (fH A 0 (qV p) n):=by
  unfold fH;rw[aH rfl];exact aOt k N r j
 unfold eY;rw[w];dsimp only;rw[aH rfl]
 by_cases hw:jW A (qV p) n=decide (gR (qV p))
 .rw[aH (.inr (.inr hw))];exact .inl ⟨rfl,.inl rfl,o fun D=>by rw[hw];exact eM D⟩
 have y:¬((0:Int)≠0\/qV p=0\/jW A (qV p) n=decide (gR (qV p))):=fun O=>by
  rcases O with h | h | h
  .exact h rfl
  .exact t h
  .exact hw h
 rw[aC y]
 by_cases e:gR (qV p)
 .rw [aH e];split
  .rename_i z
   exfalso;obtain⟨f,c⟩:=z;rcases hg with⟨i,rfl,V,Y,T⟩ | ⟨i,rfl,_⟩ | ⟨i,rfl,_⟩ | ⟨i,rfl,_⟩ | ⟨i,rfl,_⟩
   .have F:n=i:=by
     have:((i:Nat):Int)=(n:Int):=H
     omega
    subst F;rw[dL] at c;obtain⟨d,hd⟩:=get_some V;rw[hd] at c;simp only[Option.any_some,jY,decide_eq_true_eq,Ml] at c
    have I:=(hm.domains n d hd).1
    have M:=j.1 _ (T d hd aA)
    obtain⟨q,K⟩:∃q:Nat,d.above=(q:Int):=⟨d.above.toNat,aA⟩
    rw[K,dL] at M
    have x:=c.2
    unfold qN at x;rw[K,Md (.inl rfl),M] at x;cases x
   .exact absurd (show(99:Int)=117 from f) aE
   .exact absurd (show(114:Int)=117 from f) aE
   .exact absurd (show(111:Int)=117 from f) aE
   .unfold gR qV rQ at e;dsimp only at e
    revert e
    cases((s.domains[i]?).map (·.ret)).getD false<;>simp
  .exact .inr ⟨rfl,mono⟩
 .rw[aC e];split
  .exact .inl ⟨rfl,.inr rfl,o fun D=>absurd D e⟩
  .rw[m,aC aB];exact .inr ⟨rfl,mono⟩
structure aXz(s:aI)(m:fA):Prop where
 tk:∀j,T3 j->(m.z.tk j).st=0
 cP:m.z.cP= -1
 steps:m.z.steps=[]
 sent:m.z.sent=false
 po:m.z.aV=false
 y:∃l k i:Int,(l=0\/l=1)/\m.y=aMC s m.z.wn l k i
 inv:Inv s m.z.wn none none none m.x
 cl:m.z.wn.cl s
 many:0<=m.z.many/\m.z.many < 1024
 wd:m.z.wn.d=(fL s (eU s m.z.cn)).d
 wc:m.z.wn.c=(fL s (eU s m.z.cn)).c
 wl:∀i,hasB (fL s (eU s m.z.cn)).l i=true->hasB m.z.wn.l i=true
def aQx(a b:List Bool)(n:Nat):(yF a b n).length=b.length:=by simp[yF]
def aIr{a b:List Bool}{n i:Nat}(c:b.length=n)(hi:i < n):hasB (yF a b n) i=(hasB b i||hasB a i):=by
 unfold yF;rw[Fq,wU,Fq b,cX (show i < b.length by omega)];simp[hi]
def aNl(hm:s.made)(z:bA):(pT s z).cl s:=by
 have h:=aGJ hm (eU s z.cn) s.aG.length
 exact⟨⟨h.of.d,h.of.c,by show(yF _ _ _).length=_;rw[aQx];exact h.of.l⟩,h.up,h.ch,h.sw⟩
def aNk(z:bA)(d:z.wn.of s)(i:Nat)(h:hasB z.wn.l i=true):hasB (pT s z).l i=true:=by
 have c:=Kr h
 rw[d.l] at c
 show hasB (yF _ _ _) i=true
 rw[aIr (b:=(fL s (eU s z.cn)).l) (Hg s _ _).l c,h];simp
def aNi(z:bA)(i:Nat)(h:hasB (fL s (eU s z.cn)).l i=true):hasB (pT s z).l i=true:=by
 have c:=Kr h
 have d:(fL s (eU s z.cn)).l.length=s.bG.length:=(Hg s _ _).l
 rw[d] at c
 show hasB (yF _ _ _) i=true
 rw[aIr d c,h];rfl
def Wu(P:bM)(p:eJ)(y:bX):Prop:=
 (y.h0=1/\y.at_≠0/\vC P y.x/\∃c:Int,0<=c/\c < 1024/\y.w0=nW p c)\/(y.at_=0/\vC (iB P p) y.x)\/(y.h0=2/\y.at_≠0/\vC (iB P p) y.x/\Ey y.w0)
structure PlT(s:aI)(P:bM)(z:bA)(y:bX):Prop where
 go:aCS s P z.steps
 fo:z.steps.foldl iB P=z.wn
 of:P.of s
 no:z.sent=false->y.h0=0/\y.at_≠0/\vC P y.x
 yes:z.sent=true->∃p tl,z.steps=p::tl/\Wu P p y
structure kH(s:aI)(z:bA)(y:bX):Prop where
 cl:z.wn.cl s
 use:vC (fL s (eU s z.cn)) z.wn
 po:z.aV=true->z.steps=[]
 pl:∃P,PlT s P z y
def aDD{st:Int}(l:List Int)(h:st=0\/st= -3):Ey (vZ s x l st):=by
 unfold Ey vZ
 show IntKind.i32.wrap (IntKind.u32.wrap st)=0\/IntKind.i32.wrap (IntKind.u32.wrap st)= -3
 rcases h with rfl | rfl
 .exact .inl (by decide+kernel)
 .exact .inr (by decide+kernel)
def aHc(hf:oH s y):
  ((jX s x y).1.h0=y.h0/\(jX s x y).1.w0=y.w0/\(jX s x y).1.x=y.x/\((jX s x y).1.at_=0↔y.at_=0))\/
  (y.at_ < 0/\y.h0=1/\(cY s x y 0).2.1=0/\(jX s x y).1.h0=2/\(jX s x y).1.w0=vZ s x y.w0 (cY s x y 0).1/\(jX s x y).1.x=y.x/\(jX s x y).1.at_=y.at_)\/
  (y.at_ < 0/\y.h0=1/\(cY s x y 0).2.1≠0/\(jX s x y).1.x=fH y.x 0 (cY s x y 0).2.1 (cY s x y 0).2.2/\((jX s x y).1.at_=0\/∃x',(jX s x y).1.at_= -1/\(jX s x y).1.h0=2/\(jX s x y).1.w0=vZ s x' y.w0 0))\/
  (y.at_=0/\(jX s x y).1.x=y.x/\∃x',(jX s x y).1.at_= -1/\(jX s x y).1.h0=2/\(jX s x y).1.w0=vZ s x' y.w0 0):=by
 unfold jX;dsimp only;rcases hf.at_ with i | ⟨a,i,l,_⟩
 .have c:y.at_ < 0:=aA
  cases d:rG y with
  | none=>
   have j:kX s x y=(y,false):=by unfold kX;rw[d]
   rw[j,aH ⟨c,rfl⟩];exact .inl ⟨rfl,rfl,rfl,Iff.rfl⟩
  | some a =>
   have l:=Yq hf.fm.la d
   have f:zT y a=1:=by
    unfold rG at d;split at d
    .cases d;assumption
    .split at d
     .cases d;assumption
     .cases d
   have j:kX s x y=nX s x y a:=by unfold kX;rw[d]
   rw[j]
   by_cases hd:(cY s x y a).2.1=0
   .have e:nX s x y a=(rB s x {y with last:=a} a (cY s x y a).1,false):=by
     unfold nX;dsimp only;rw[aH hd]
    rw[e,aH ⟨c,rfl⟩];obtain rfl | rfl:a=0\/a=1:=by omega
    .exact .inr (.inl ⟨c,f,hd,rfl,rfl,rfl,rfl⟩)
    .exact .inl ⟨rfl,rfl,rfl,Iff.rfl⟩
   .have e:nX s x y a=({y with last:=a,x:=fH y.x a (cY s x y a).2.1 (cY s x y a).2.2,y:=iI y.y a (cY s x y a).2.1 (cY s x y a).2.2,at_:=a,kind:=(cY s x y a).2.1,id:=(cY s x y a).2.2},true):=by
     unfold nX;dsimp only;rw[aC hd]
    rw[e,aC aB,aH c];dsimp only;unfold yO;obtain rfl | rfl:a=0\/a=1:=by omega
    .refine .inr (.inr (.inl ⟨c,f,hd,?_,?_⟩))
     .split<;>rfl
     .split
      .exact .inr ⟨_,rfl,rfl,rfl⟩
      .exact .inl rfl
    .refine .inl ?_;split
     .exact⟨rfl,rfl,rfl,⟨fun h=>absurd (show(-1:Int)=0 from h) aE,fun h=>by omega⟩⟩
     .exact⟨rfl,rfl,rfl,⟨fun h=>absurd (show(1:Int)=0 from h) aE,fun h=>by omega⟩⟩
 .have c:¬y.at_ < 0:=aA
  rw[aC (fun k=>c k.1),aC c];unfold yO;split
  .rw[i,dL];obtain rfl | rfl:a=0\/a=1:=by omega
   .exact .inr (.inr (.inr ⟨rfl,rfl,_,rfl,rfl,rfl⟩))
   .exact .inl ⟨rfl,rfl,rfl,⟨fun h=>absurd (show(-1:Int)=0 from h) aE,fun h=>by omega⟩⟩
  .exact .inl ⟨rfl,rfl,rfl,Iff.rfl⟩
def Wu.dH(hm:s.made)(hf:oH s y){p:eJ}(hg:Gn s P p)(l:P.of s)(o:∀i:Nat,((kI s x)[i]?).getD 0<=0)(h:Wu P p y):Wu P p (jX s x y).1:=by
 rcases aHc (x:=x) hf with⟨m,n,j,e⟩ | ⟨m,n,j,e,k,w,F⟩ | ⟨m,n,j,e,k⟩ | ⟨m,n,G,j,e,k⟩
 .unfold Wu;rw[m,n,j];rcases h with⟨d,c,f⟩ | ⟨d,c⟩ | ⟨d,c,f⟩
  .exact .inl ⟨d,fun h=>c (e.1 h),f⟩
  .exact .inr (.inl ⟨e.2 d,c⟩)
  .exact .inr (.inr ⟨d,fun h=>c (e.1 h),f⟩)
 .rcases h with⟨d,c,f,D,A,z,E⟩ | ⟨d,c⟩ | ⟨d,c,f⟩
  .have C:cY s x y 0=eY s y.x y.y (kI s x) 0 (nW p D):=by
    unfold cY;rw[show jM y 0=y.w0 from rfl,E]
   rw[C] at j k;rcases aFv hm hg l hf.ax (B:=y.y) f A z o with⟨_,t,H⟩ | ⟨r,_⟩
   .refine .inr (.inr ⟨e,aA,by rw[w];exact H,?_⟩);rw[k];exact aDD _ t
   .rw[r] at j;exact absurd j (hg.goes hm l).kind
  .omega
  .omega
 .rcases h with⟨d,c,f,D,A,z,E⟩ | ⟨d,c⟩ | ⟨d,c,f⟩
  .have C:cY s x y 0=eY s y.x y.y (kI s x) 0 (nW p D):=by
    unfold cY;rw[show jM y 0=y.w0 from rfl,E]
   rw[C] at j e;rcases aFv hm hg l hf.ax (B:=y.y) f A z o with⟨r,_⟩ | ⟨r,t⟩
   .exact absurd r j
   .rw[r] at e;rcases k with k | ⟨G,k,w,F⟩
    .exact .inr (.inl ⟨k,by rw[e];exact t⟩)
    .exact .inr (.inr ⟨w,aA,by rw[e];exact t,by rw[F];exact aDD _ (.inl rfl)⟩)
  .omega
  .omega
 .rcases h with⟨d,c,_⟩ | ⟨d,c⟩ | ⟨d,c,_⟩
  .exact absurd m c
  .exact .inr (.inr ⟨e,aA,by rw[n];exact c,by rw[k];exact aDD _ (.inl rfl)⟩)
  .exact absurd m c
def fC.wait(h:fC s n m)(hp:m.z.aV=false)(i:Nat):((kI s m.x)[i]?).getD 0<=0:=aNp (fun j=>by
 unfold pE;rw[h.w0 hp j]
 rfl) i
def kH.dH(hm:s.made)(hk:fC s n m)(h:kH s m.z m.y):kH s m.z (jX s m.x m.y).1:=by
 obtain⟨P,d⟩:=h.pl;refine⟨h.cl,h.use,h.po,P,d.go,d.fo,d.of,fun f=>?_,fun f=>?_⟩
 .obtain⟨t,l,w⟩:=d.no f;rcases aHc (x:=m.x) hk.fw with⟨e,k,A,B⟩ | ⟨_,k,_⟩ | ⟨_,k,_⟩ | ⟨e,_⟩
  .rw[e,A];exact⟨t,fun h=>l (B.1 h),w⟩
  .omega
  .omega
  .exact absurd e l
 .obtain⟨p,tl,c,j⟩:=d.yes f;refine⟨p,tl,c,?_⟩
  have o:=d.go
  rw[c] at o
  have i:m.z.aV=false:=by
   cases r:m.z.aV with
   | false=>rfl
   | true=>rw[h.po r] at c;cases c
  exact j.dH hm hk.fw o.1 d.of (hk.wait i)
def kH.nR(hm:s.made)(hk:fC s n m)(h:kH s m.z m.y):ClO s m.x m.y:=by
 intro H d c i f j R t r
 have T:m.y.h0=1:=by
  unfold rG at d;rcases hk.fw.fm.la with E | E<;>rw[E] at d
  .split at d
   .cases d
   .split at d
    .rename_i l;exact l
    .cases d
  .split at d
   .rename_i l;exact l
   .split at d
    .cases d
    .cases d
 obtain⟨P,k⟩:=h.pl;cases G:m.z.sent with
 | false=>have:=(k.no G).1;omega
 | true =>
  obtain⟨p,tl,e,D⟩:=k.yes G
  have A:=k.go
  rw[e] at A
  have C:m.z.aV=false:=by
   cases J:m.z.aV with
   | false=>rfl
   | true=>rw[h.po J] at e;cases e
  rcases D with⟨_,_,F,M,K,N,U⟩ | ⟨L,_⟩ | ⟨L,_⟩
  .have O:cY s m.x m.y 0=eY s m.y.x m.y.y (kI s m.x) 0 (nW p M):=by
    unfold cY;rw[show jM m.y 0=m.y.w0 from rfl,U]
   rw[O] at c f;rcases aFv hm A.1 k.of hk.fw.ax (B:=m.y.y) F K N (hk.wait C) with⟨o,_⟩ | ⟨o,_⟩
   .rw[o] at c;cases c
   .rw[o] at c f;dsimp only at c f;rcases A.1 with⟨q,rfl,_⟩ | ⟨q,rfl,Y,V,X,I⟩ | ⟨q,rfl,_⟩ | ⟨q,rfl,_⟩ | ⟨q,rfl,_⟩
    .exact absurd (show(117:Int)=99 from c) aE
    .have w:q=i:=by
      have:((q:Nat):Int)=(i:Int):=f
      omega
     subst w;exact F.2.1 j (I j R t (aMo r))
    .exact absurd (show(114:Int)=99 from c) aE
    .exact absurd (show(111:Int)=99 from c) aE
    .exfalso
     revert c
     unfold qV rQ;cases((s.domains[q]?).map (·.ret)).getD false<;>simp
  .omega
  .omega
def kH.adv(h:kH s z y)(hf:oH s y)(hw:rM s z)(H:z.steps≠[]){j:Nat}:kH s (iP z y j).1 (iP z y j).2:=by
 obtain⟨P,i⟩:=h.pl;unfold iP;cases F:z.sent with
 | true =>
  rw[aH rfl];obtain⟨p,tl,e,D⟩:=i.yes F
  have G:=i.go
  have n:=i.fo
  rw[e] at G n;rcases D with⟨w,t⟩ | ⟨w,t⟩ | ⟨w,t,B,J⟩
  .have f:kZ y 0=none:=by unfold kZ;rw[aH rfl,aC aA]
   rw[f];dsimp only;rw[aHS f];exact h
  .by_cases C:y.h0=2
   .exfalso;rcases hf.at_ with r | ⟨a,r,ha,hq1,_⟩
    .omega
    .obtain rfl:a=0:=by omega
     have:y.h0=1:=hq1
     omega
   .have f:kZ y 0=none:=by unfold kZ;rw[aH rfl,aC C]
    rw[f];dsimp only;rw[aHS f];exact h
  .have f:kZ y 0=some y.w0:=by unfold kZ;rw[aH rfl,aH w]
   have E:gL y 0={y with h0:=0,w0:=[]}:=by unfold gL;rw[aH rfl,aH w]
   rw[f,E];dsimp only;rw[aDz J]
   have k:PlT s (iB P p) {z with sent:=false,steps:=z.steps.tail} {y with h0:=0,w0:=[]}:=by
    refine⟨by rw[e];exact G.2,by rw[e];exact n,?_,fun _=>⟨rfl,t,B⟩,fun o=>by cases o⟩;obtain⟨L,I,K⟩:=aKS P p;exact⟨L.trans i.of.d,I.trans i.of.c,K.trans i.of.l⟩
   split
   .rename_i x
    have A:z.steps.tail=[]:=Fh x
    refine⟨h.cl,h.use,fun _=>rfl,iB P p,trivial,?_,k.of,fun _=>k.no rfl,fun o=>by cases o⟩
    have:=k.fo
    dsimp only at this;rw[A] at this;exact this
   .exact⟨h.cl,h.use,fun r=>by show z.steps.tail=[];rw[h.po r];rfl,iB P p,k⟩
 | false =>
  rw[aC aB];cases e:z.steps with
  | nil=>exact absurd e H
  | cons p tl =>
   dsimp only;obtain⟨w,t,B⟩:=i.no F
   have m:fM y 0 (nW p z.many)=(0,{y with h0:=1,w0:=nW p z.many}):=by
    unfold fM;rw[aC aE,aH rfl,aC aA]
   rw[m,aH rfl];refine⟨h.cl,h.use,(fun r=>by have:=h.po r;rw[e] at this;cases this),P,?_,?_,i.of,(fun o=>by cases o),fun _=>⟨p,tl,rfl,.inl ⟨rfl,t,B,z.many,hw.many.1,hw.many.2,rfl⟩⟩⟩
   .have:=i.go
    rw[e] at this;exact this
   .have:=i.fo
    rw[e] at this;exact this
def kH.same{c:bA}{y':bX}(h:kH s z y)(i:c.wn=z.wn)(r:c.cn=z.cn)(f:c.steps=z.steps)(l:c.sent=z.sent)(t:c.aV=true->z.aV=true\/z.steps=[])(k:y'.x=y.x)(o:y'.h0=y.h0)(A:y'.w0=y.w0)(m:y'.at_=y.at_):kH s c y':=by
 obtain⟨P,d⟩:=h.pl;refine⟨by rw[i];exact h.cl,by rw[i,r];exact h.use,fun w=>?_,P,by rw[f];exact d.go,by rw[f,i];exact d.fo,d.of,fun j=>?_,fun j=>?_⟩
 .rw[f];rcases t w with e | e
  .exact h.po e
  .exact e
 .rw[k,o,m];exact d.no (by rw[<-l];exact j)
 .obtain⟨p,tl,e,n⟩:=d.yes (by rw[<-l];exact j);refine⟨p,tl,by rw[f];exact e,?_⟩;unfold Wu at n|-;rw[k,o,A,m];exact n
def kH.over{c:bA}(h:kH s z y)(d:z.steps=[])(i:c.wn=z.wn)(f:c.cn=z.cn)(j:c.steps=[])(e:c.sent=z.sent):kH s c y:=
 h.same i f (j.trans d.symm) e (fun _=>.inr d) rfl rfl rfl rfl
def kH.want(hm:s.made){c:bA}(h:kH s z y)(p:z.steps=[])(hs:z.sent=false)(d:c.wn=z.wn)(l:c.aV=false):kH s (vG s c) y:=by
 obtain⟨P,j⟩:=h.pl
 have n:P=z.wn:=by
  have:=j.fo
  rw[p] at this;exact this
 subst n
 have e:=aNl hm c
 refine⟨e,⟨fun _ h=>h,fun _ h=>h,fun i f=>aNi c i f⟩,fun o=>?_,z.wn,?_,?_,j.of,fun _=>j.no hs,fun m=>by cases m⟩
 .have:c.aV=true:=o
  rw[l] at this;cases this
 .show aCS s z.wn (allM s c.wn (pT s c))
  rw[d];exact aJt _ _ fun t r k=>aWz hm h.cl e (fun i f=>aNk c (d▸h.cl.of) i (d▸f)) k
 .show(allM s c.wn (pT s c)).foldl iB z.wn=pT s c
  rw[d];exact aSQ h.cl.of e.of
def kH.eff(hm:s.made)(h:kH s z y)(c:z.steps=[])(hs:z.sent=false)(hp:z.aV=false)(j:Nat)(k:Int):kH s (kL s x z j k).2.1 y/\(kL s x z j k).2.1.sent=false:=by
 have acc:∀d,kH s (mE s x z j d).2.1 y/\(mE s x z j d).2.1.sent=false:=fun d=>by
  unfold mE;split
  .exact⟨h,hs⟩
  .split
   .exact⟨h,hs⟩
   .split
    .exact⟨h.same rfl rfl rfl rfl (fun _=>.inr c) rfl rfl rfl rfl,hs⟩
    .exact⟨h,hs⟩
 unfold kL;split
 .unfold Ds;split
  .exact⟨h,hs⟩
  .exact⟨h.want hm c hs rfl hp,rfl⟩
 .split
  .unfold zK;split
   .exact⟨h,hs⟩
   .split
    .exact⟨h,hs⟩
    .split
     .exact⟨h,hs⟩
     .exact⟨h.want hm c hs rfl hp,rfl⟩
  .split
   .exact acc false
   .split
    .exact acc true
    .split
     .unfold zA;split
      .exact⟨h,hs⟩
      .exact⟨h.want hm c hs rfl hp,rfl⟩
     .unfold zD;split
      .exact⟨h,hs⟩
      .exact⟨h.want hm c hs rfl hp,rfl⟩
def kH.begin(hm:s.made)(hw:rM s z)(h:kH s z y)(m:z.cP < 0){j:Nat}(hj:T3 j):kH s (gP s x z j).1 y:=by
 obtain⟨_,w,k,d,e⟩:z.cP= -1/\(∀j,T3 j->(z.tk j).st≠2)/\z.aV=false/\z.steps=[]/\z.sent=false:=by
  rcases hw.cP with c | ⟨i,_,c,_⟩
  .exact c
  .omega
 have C:RwB s (nB z j):=by
  have:=hw.toRwB.iX hj (t:={z.tk j with st:=2}) rfl ⟨by show(0:Int)<=2;decide,by show(2:Int)<=3;decide⟩ (hw.val j hj) (fun m=>nN 2 1 m)
  exact⟨this.wn,this.len,this.nn,this.cnt,this.c7,this.call,this.st,this.val,this.many,this.Bg⟩
 have f:kH s (nB z j) y:=h.same rfl rfl rfl rfl (fun p=>.inl p) rfl rfl rfl rfl
 have o:=aJQ hm C x hj (z.tk j).kind
 obtain⟨c,n⟩:=f.eff hm (x:=x) d e k j (z.tk j).kind;unfold gP;dsimp only;generalize kL s x (nB z j) j (z.tk j).kind=r at o c n;split
 .rename_i l
  obtain⟨B,_⟩:=o.err l;rw[B];exact f.over d rfl rfl rfl e.symm
 .split
  .rename_i A
   exact c.over (Fh A.2) rfl rfl rfl n.symm
  .exact c
def aW4(z:bA)(y:bX)(j:Nat):(iP z y j).2.x=y.x/\(iP z y j).2.y=y.y/\(iP z y j).2.at_=y.at_/\(iP z y j).2.kind=y.kind/\(iP z y j).2.id=y.id:=by
 have c:∀a,(gL y a).x=y.x/\(gL y a).y=y.y/\(gL y a).at_=y.at_/\(gL y a).kind=y.kind/\(gL y a).id=y.id:=fun a=>by
  unfold gL
  repeat' split
  all_goals exact⟨rfl,rfl,rfl,rfl,rfl⟩
 have d:∀a l,(fM y a l).2.x=y.x/\(fM y a l).2.y=y.y/\(fM y a l).2.at_=y.at_/\(fM y a l).2.kind=y.kind/\(fM y a l).2.id=y.id:=fun a l=>by
  unfold fM
  repeat' split
  all_goals exact⟨rfl,rfl,rfl,rfl,rfl⟩
 unfold iP;split
 .split
  .exact c 0
  .exact c 0
 .split
  .exact⟨rfl,rfl,rfl,rfl,rfl⟩
  .split
   .exact d _ _
   .exact d _ _
def aT3(s:aI)(x:aS)(z:bA)(j:Nat)(k:Int):(kL s x z j k).2.2.ck=x.ck/\(kL s x z j k).2.2.dm=x.dm/\(kL s x z j k).2.2.ln=x.ln/\(kL s x z j k).2.2.dv=x.dv:=by
 have acc:∀c,(mE s x z j c).2.2.ck=x.ck/\(mE s x z j c).2.2.dm=x.dm/\(mE s x z j c).2.2.ln=x.ln/\(mE s x z j c).2.2.dv=x.dv:=fun c=>by
  unfold mE
  repeat' split
  all_goals exact⟨rfl,rfl,rfl,rfl⟩
 unfold kL;split
 .exact⟨rfl,rfl,rfl,rfl⟩
 .split
  .exact⟨rfl,rfl,rfl,rfl⟩
  .split
   .exact acc false
   .split
    .exact acc true
    .split<;>exact⟨rfl,rfl,rfl,rfl⟩
def aVP(s:aI)(x:aS)(z:bA)(j:Nat):(gP s x z j).2.ck=x.ck/\(gP s x z j).2.dm=x.dm/\(gP s x z j).2.ln=x.ln/\(gP s x z j).2.dv=x.dv:=by
 have h:=aT3 s x (nB z j) j (z.tk j).kind
 unfold gP;dsimp only;split
 .exact h
 .split<;>exact h
structure fU(s:aI)(n:Nat)(m:fA):Prop where
 ok:fC s n m
 fw:xW s m.y m.x
 rp:kH s m.z m.y
def fU.dH(hm:s.made)(h:fU s n m):fU s n (m.dH s):=⟨h.ok.dH hm,h.fw.step hm h.ok.fw (h.rp.nR hm h.ok),h.rp.dH hm h.ok⟩
def fU.start(h:fU s n m)(t k d r v:Int)(e:0<=v/\v < 4294967296):fU s n (m.start t k d r v):=by
 refine⟨h.ok.start t k d r v e,h.fw,?_⟩
 show kH s (lY m.z t k d r v).2 m.y
 unfold lY
 repeat' split
 all_goals first | exact h.rp | exact h.rp.same rfl rfl rfl rfl (fun c=>.inl c) rfl rfl rfl rfl
def fU.done(h:fU s n m)(t:Int):fU s n (m.done t):=by
 refine⟨h.ok.done t,h.fw,?_⟩
 show kH s (fG m.z t).2 m.y
 unfold fG
 repeat' split
 all_goals first | exact h.rp | exact h.rp.same rfl rfl rfl rfl (fun c=>.inl c) rfl rfl rfl rfl
def fU.step(hm:s.made)(h:fU s n m)(t:Int):fU s (n+1) (m.step s t):=by
 have e:=h.ok.step hm t
 refine⟨e,?_,?_⟩
 .have c:=e.hw
  unfold fA.step pI at c|-;dsimp only at c|-;split
  .exact h.fw
  .rename_i d
   rw[aC d] at c;split
   .rename_i f
    rw[aH f] at c;split
    .rename_i k
     rw[aH k] at c;obtain⟨j,o,p,w⟩:=aVP s m.x m.z t.toNat;exact h.fw.same c j o p w rfl rfl rfl rfl rfl
    .exact h.fw
   .split
    .split
     .obtain⟨j,o,p,w,C⟩:=aW4 m.z m.y t.toNat;exact h.fw.same h.ok.hw rfl rfl rfl rfl j o p w C
     .exact h.fw
    .exact h.fw
 .show kH s (pI s m.z m.y m.x t).1 (pI s m.z m.y m.x t).2.1
  unfold pI;split
  .exact h.rp
  .rename_i d
   have A:T3 t.toNat:=by
    have:bJ 3 t=true:=by simpa using d
    have:=eV this
    unfold T3;omega
   split
   .split
    .rename_i k
     exact h.rp.begin hm h.ok.mY k A
    .exact h.rp
   .split
    .rename_i l
     split
     .rename_i r
      refine h.rp.adv h.ok.fw h.ok.mY ?_;rcases h.ok.mY.cP with⟨_,f,_⟩ | ⟨i,E,f,D,B⟩
      .exact absurd l (f _ A)
      .exact B r
     .exact h.rp
    .exact h.rp
def kH.rX(h:kH s z y)(hs:z.aV=true->z.sent=false)(a:gQ):kH s (rX z a) y:=by
 unfold Go.Proofs.YtmpkkaknjkffpaaGreatDoor.rX;split
 .exact h
 .rename_i c
  have c:z.aV=true:=by simpa using c
  split
  .exact h
  .split
   .exact h.over (h.po c) rfl rfl rfl (hs c).symm
   .exact h.over (h.po c) rfl rfl rfl (hs c).symm
def aHm{l:List Bool}{u i:Nat}(h:hasB l i=true):hasB (l.set u true) i=true:=by
 rw[Fq] at h|-;rw[gX];split
 .split
  .rfl
  .rename_i c d
   subst c;rw[eW aA] at h;exact h
 .exact h
def aET{i:Nat}:∀(c:List Nat) {l:List Bool},hasB l i=true->hasB (c.foldl (fun l u=>l.set u true) l) i=true
 | [],_,h=>h
 | _::c,_,h=>aET c (aHm h)
def aLf(g:List (List Int))(c:Cn)(n i:Nat)(hi:i < n)(e:0 < gO c.l (i:Int)):∀t,i < t->hasB (yS g c n t) i=true
 | 0,h=>absurd h aA
 | t + 1, h => by
  unfold yS;rcases dI i t with d | d
  .have ih:=aLf g c n i hi e t d
   split
   .exact ih
   .exact aET _ (aHm ih)
  .obtain rfl:i=t:=by omega
   rw[aC aA];refine aET _ ?_;rw[Fq,kR (by rw[aAm];exact hi)];rfl
def aGN{c:Cn}(e:c.lU=false){i:Nat}(hi:i < s.aG.length)(d:0 < gO c.l (i:Int)):hasB (eU s c) i=true:=by
 unfold eU Rh;rw[e,aC aB,Uc];exact aLf _ c _ i hi d _ hi
def kH.aHr(h:kH s z y)(hp:z.steps=[]):z.sent=false:=by
 obtain⟨P,d⟩:=h.pl;cases e:z.sent with
 | false=>rfl
 | true=>
  obtain⟨p,tl,c,_⟩:=d.yes e;rw[hp] at c;cases c
def aMa:∀(l:List gQ) {z:bA},kH s z y->kH s (pP z l) y
 | [],_,h=>h
 | a::l,_,h=>aMa l (h.rX (fun hp=>h.aHr (h.po hp)) a)
def fU.tick(hm:s.made)(h:fU s n m)(c:Int):fU s n (m.tick s c):=
 ⟨h.ok.tick hm c,h.fw.tick hm h.ok.hw h.ok.wt c,aMa _ h.rp⟩
def kH.le(h:kH s z y)(hp:z.steps=[]):vC z.wn y.x/\y.at_≠0:=by
 obtain⟨P,c⟩:=h.pl
 have d:P=z.wn:=by
  have:=c.fo
  rw[hp] at this;exact this
 obtain⟨_,e,f⟩:=c.no (h.aHr hp);exact⟨d▸f,e⟩
def fU.alive(hm:s.made)(h:fU s n m)(hp:m.z.steps=[]){i:Nat}{t:bR}(hd:s.aG[i]? =some t)(H:hasB (eU s m.z.cn) i=true):uW s m.x i=true/\tT m.x i=114:=by
 have C:=(cE.1 hd).1
 obtain⟨N,L,_⟩:=aNh hm hd H;obtain⟨r,E⟩:=h.rp.le hp
 have p:=h.rp.use
 have A:hasB m.y.x.d t.domain.toNat=true:=r.1 _ (p.1 _ N)
 have M:hasB m.y.x.l t.reset.toNat=true:=r.2.2 _ (p.2.2 _ L)
 have J:∀j∈fV s t.clock.toNat,rA s j->hasB m.y.x.c j=true:=fun c F K=>by
  have D:=aCn F
  exact r.2.1 _ (p.2.1 _ ((Sm (s:=s) (act:=eU s m.z.cn) c D s.aG.length).2 ⟨i,C,H,t,hd,sY.2 ⟨F,aMo K⟩⟩))
 have k:∀bd:Option Nat,bd≠some t.domain.toNat->dY s m.y.x m.y.y bd none none m.x->uW s m.x i=true/\tT m.x i=114:=fun bd G I=>
  ⟨I.alive hm hd A J M G (fun _ h=>by cases h) aB,I.state hd (by unfold iC;rw[A];rfl) G⟩
 rcases h.fw with⟨_,f⟩ | ⟨a,O,B,q,_,f⟩
 .exact k none aB f
 .have o:a≠0:=fun e=>E (by rw[B,e];rfl)
  rcases f with⟨_,w,f⟩ | ⟨_,f⟩ | ⟨_,w,_⟩ | ⟨_,_,f⟩ | ⟨_,w,_⟩ | ⟨_,_,f⟩ | ⟨_,_,f⟩ | ⟨_,_,f⟩ | ⟨_,_,_,f⟩
  .refine k (some q) (fun e=>?_) f.two
   have:=w o
   rw[sJ e,A] at this;cases this
  .refine k (some q) (fun e=>?_) f.two
   have:=f.tS
   unfold iC at this;rw[sJ e,A] at this;cases this
  .exact absurd w o
  .exact k none aB f
  .exact absurd w o
  .exact k none aB f
  .exact k none aB f
  .exact k none aB f
  .exact k none aB f
section
variable{m':fA}{e u:Int}
def aLe(g:List (List Int))(n:Nat):∀t,yS g ⟨[],false⟩ n t=List.replicate n false
 | 0=>rfl
 | t+1=>by
  unfold yS;rw[aH (by show gO [] _<=0;simp[gO])];exact aLe g n t
def aGI(s:aI)(n:Nat):fL s (List.replicate n false)=dV s:=by
 have:∀t,jI s (List.replicate n false) t=dV s:=fun t=>by
  induction t with
  | zero=>rfl
  | succ t ih=>rw[Sk (aJr n t),ih]
 exact this _
def aPv(hm:s.made):aXz s (zO s):=by
 have d:fL s (eU s (zO s).z.cn)=dV s:=by
  show fL s (eU s ⟨[],false⟩)=_
  unfold eU Rh;rw[aC aB,aLe,aGI]
 have hw:(zO s).z.wn=dV s:=aNg s
 have c:=aGJ hm (List.replicate s.aG.length false) s.aG.length
 refine⟨fun j e=>by rcases e with rfl | rfl | rfl<;>rfl,rfl,rfl,rfl,rfl,⟨1,0,0,.inr rfl,by rw[hw];rfl⟩,by rw[hw];exact aIP hm,?_,⟨Br 0,by show(0:Int) < 1024;decide⟩,by rw[d,hw],by rw[d,hw],fun i h=>by rw[d] at h;rw[hw];exact h⟩;rw[hw,<-aGI s s.aG.length];exact c
end
def aOy(y:bX)(l:List Int):(fM y 1 l).2.x=y.x/\(fM y 1 l).2.y=y.y/\(fM y 1 l).2.at_=y.at_/\(fM y 1 l).2.kind=y.kind/\(fM y 1 l).2.id=y.id/\(fM y 1 l).2.h0=y.h0/\(fM y 1 l).2.w0=y.w0:=by
 unfold fM;rw[aC aE,aC aE];split<;>exact⟨rfl,rfl,rfl,rfl,rfl,rfl,rfl⟩
def aPC(y:bX):(gL y 1).x=y.x/\(gL y 1).y=y.y/\(gL y 1).at_=y.at_/\(gL y 1).kind=y.kind/\(gL y 1).id=y.id/\(gL y 1).h0=y.h0/\(gL y 1).w0=y.w0:=by
 unfold gL;rw[aC aE,aH rfl];split<;>exact⟨rfl,rfl,rfl,rfl,rfl,rfl,rfl⟩
def fU.box(h:fU s n m){y':bX}(c:fC s n ⟨m.z,y',m.x⟩)(e:y'.x=m.y.x/\y'.y=m.y.y/\y'.at_=m.y.at_/\y'.kind=m.y.kind/\y'.id=m.y.id/\y'.h0=m.y.h0/\y'.w0=m.y.w0):fU s n ⟨m.z,y',m.x⟩:=by
 obtain⟨f,p,d,k,j,l,i⟩:=e;exact⟨c,h.fw.same h.ok.hw rfl rfl rfl rfl f p d k j,h.rp.same rfl rfl rfl rfl (fun o=>.inl o) f l i d⟩
def fU.le{k:Nat}(h:fU s n m)(hk:n<=k):fU s k m:=⟨h.ok.le hk,h.fw,h.rp⟩
def aN7(hm:s.made):dY s (dV s) (dV s) none none none (hw0 s):=by
 have c:=aIP hm
 have f:∀i,iC (dV s) (dV s) i=hasB (dV s).d i:=fun i=>by unfold iC;rw[Bool.or_self]
 refine⟨c.ok,c.of,c.of,fun i m h n=>by rw[f];exact c.dom i m h n,fun i d hd j _=>?_,c.iO,c.nR,c.vN,c.qC,fun i p d l hd=>?_⟩
 .rw[f,aMD] at j;cases j
 .obtain⟨e,k⟩:=c.oO i p d l hd;rw[f];refine⟨?_,k⟩;rcases e with e | e | e
  .exact .inl e
  .exact .inr (.inl e)
  .cases e.2
def aRz(hm:s.made):fU s 0 (zO s):=by
 have h:=aPv hm
 obtain⟨l,k,j,m,f⟩:=h.y
 have c:(zO s).y.h0=0/\(zO s).y.at_= -1/\(zO s).y.x=(zO s).z.wn:=by rw[f];exact⟨rfl,rfl,rfl⟩
 refine⟨aIG hm,.inl ⟨by rw[c.2.1];decide,aN7 hm⟩,h.cl,⟨fun i d=>by rw[h.wd];exact d,fun i d=>by rw[h.wc];exact d,h.wl⟩,fun _=>h.steps,(zO s).z.wn,?_,?_,h.cl.of,fun _=>⟨c.1,by rw[c.2.1];decide,by rw[c.2.2];exact vC.refl _⟩,fun e=>?_⟩
 .rw[h.steps];exact trivial
 .rw[h.steps];rfl
 .rw[h.sent] at e;cases e
def aAR(h:fU s n w.m)(t:Int):fU s n (w.end_ t).m:=by
 unfold aT.end_;split<;>exact h.done t
def aN3(hm:s.made)(h:fU s n w.m)(t:Int):fU s (n+1) (w.jJ s t).m:=by
 unfold aT.jJ;split<;>exact h.step hm t
def Hj(hm:s.made)(h:fU s n w.m)(t:Int):fU s (n+1) (w.task s t).m:=aAR (aN3 hm h t) t
def aGT(hm:s.made)(h:fU s n w.m)(d:Int):fU s n (w.tick s d).m:=aAR (aAR (aAR (w:=w.mG s d) (h.tick hm d) 0) 1) 2
def aN4(hm:s.made)(h:fU s n w.m)(d:Int):fU s (n+3) (w.round s d).m:=by
 have c:=Hj hm (Hj hm (Hj hm h 0) 1) 2
 have e:fU s (n+3) ((((w.task s 0).task s 1).task s 2).dH s).m:=c.dH hm
 exact aGT hm e d
def aN5(hm:s.made)(h:fU s n w.m){k:Nat}(hw:iK s k w){p:Au}(hp:p.ok):fU s (n+1) (w.nE s p).2.m:=by
 obtain⟨f,hd,i,j⟩:=hp;unfold aT.nE;split
 .unfold aT.call;dsimp only
  have:=(h.start p.task p.c.k p.c.d p.c.r p.c.v f).le (Nat.le_succ n)
  split<;>exact this
 .split
  .exact Hj hm h _
  .split
   .exact(h.dH hm).le (Nat.le_succ n)
   .split
    .exact(aGT hm h p.Vv).le (Nat.le_succ n)
    .split
     .have e:fU s n ⟨w.m.z,(fM w.m.y 1 p.words).2,w.m.x⟩:=h.box (h.ok.aBT (h.ok.fw.send 1 i j)) (aOy _ _)
      unfold aT.send;dsimp only;split<;>exact e.le (Nat.le_succ n)
     .split
      .have e:fU s n ⟨w.m.z,gL w.m.y 1,w.m.x⟩:=h.box (h.ok.aBT (h.ok.fw.read 1)) (aPC _)
       show fU s (n+1) w.take.m
       unfold aT.take;split<;>exact e.le (Nat.le_succ n)
      .exact h.le (Nat.le_succ n)
def aN6(hm:s.made)(h:fU s n w.m){k:Nat}(hw:iK s k w){a:fQ}(c:a.ok):fU s (n+4) (Ab s w a).m:=by
 unfold Ab;split
 .exact(aN4 hm h _).le aA
 .exact(aN5 hm h hw (aIb c _)).le aA
def aAQ(hm:s.made){cK:List fQ}(e:∀a∈cK,a.ok):∀k,k<=cK.length->fU s (k*4) (runN s cK k).m/\iK s (k*4) (runN s cK k)
 | 0,_=>⟨aRz hm,aAK hm⟩
 | k+1,hk=>by
  obtain⟨a,c⟩:=get_some (l:=cK) (i:=k) aA
  have d:=e a (dJ c)
  obtain⟨h,f⟩:=aAQ hm e k aA;rw[Mh c];exact⟨(aN6 hm h f d).le aA,(aC2 hm f d).le aA⟩
def kB(s:aI)(m:fA):Prop:=m.z.aV=true->∀(i:Nat) (t:jN),(m.x.wt[i]?).join=some t->hasB (eU s m.z.cn) i=true
def aLl{j:Nat}{k:Bool}(f:RwB s z)(hj:T3 j)(w:∀i:Nat,(x.wt[i]?).join=none)(hp:z.aV=false):(mE s x z j k).2.1.aV=true->∀(i:Nat) (t:jN),((mE s x z j k).2.2.wt[i]?).join=some t->hasB (eU s (mE s x z j k).2.1.cn) i=true:=by
 unfold mE;split
 .intro h;rw[hp] at h;cases h
 .rename_i c
  split
  .intro h;rw[hp] at h;cases h
  .rename_i d
   split
   .intro _ i t p;dsimp only at p|-
    have o:i=(z.tk j).dev.toNat:=by
     refine nO fun n=>?_
     have:((x.wt.set (z.tk j).dev.toNat (some ⟨x.aV,k,(z.tk j).bF,(z.tk j).val⟩))[i]?).join=some t:=p
     rw[pZ (fN n),w i] at this;cases this
    subst o
    have A:hG (z.tk j) (z.tk j).dev.toNat≠0:=fun e=>d (.inl e)
    have r:z.cn.lU=false:=by
     cases l:z.cn.lU with
     | false=>rfl
     | true=>exact absurd (.inr l) d
    refine aGN r ?_ ?_
    .unfold Cf at c
     have m:bJ s.aG.length (z.tk j).dev=true:=by
      cases l:bJ s.aG.length (z.tk j).dev with
      | true=>rfl
      | false=>simp[l] at c
     have:=eV m
     omega
    .have y:=f.cnt (z.tk j).dev.toNat
     have D:=f.nn 0 (.inl rfl) (z.tk j).dev.toNat
     have C:=f.nn 1 (.inr (.inl rfl)) (z.tk j).dev.toNat
     have B:=f.nn 2 (.inr (.inr rfl)) (z.tk j).dev.toNat
     have E:=f.nn j hj (z.tk j).dev.toNat
     rcases hj with rfl | rfl | rfl<;>omega
   .intro h;rw[hp] at h;cases h
def aTA{j:Nat}(k:Int)(f:RwB s z)(hj:T3 j)(e:∀i:Nat,(x.wt[i]?).join=none)(hp:z.aV=false):(kL s x z j k).2.1.aV=true->∀(i:Nat) (t:jN),((kL s x z j k).2.2.wt[i]?).join=some t->hasB (eU s (kL s x z j k).2.1.cn) i=true:=by
 have no:∀c:bA,c.aV=false->c.aV=true->∀(i:Nat) (t:jN),(x.wt[i]?).join=some t->hasB (eU s c.cn) i=true:=fun c h d=>by rw[h] at d;cases d
 unfold kL;split
 .refine no _ ?_;unfold Ds;split<;>exact hp
 .split
  .refine no _ ?_;unfold zK
   repeat' split
   all_goals exact hp
  .split
   .exact aLl f hj e hp
   .split
    .exact aLl f hj e hp
    .split
     .refine no _ ?_;unfold zA;split<;>exact hp
     .refine no _ ?_;unfold zD;split<;>exact hp
def kB.step(h:kB s m)(hk:fC s n m)(t:Int):kB s (m.step s t):=by
 unfold kB fA.step pI;split
 .exact h
 .rename_i f
  have i:T3 t.toNat:=by
   have:bJ 3 t=true:=by simpa using f
   have:=eV this
   unfold T3;omega
  split
  .split
   .rename_i e
    have c:=hk.free e
    have hw:=hk.mY
    have j:RwB s (nB m.z t.toNat):=by
     have:=hw.toRwB.iX i (t:={m.z.tk t.toNat with st:=2}) rfl ⟨by show(0:Int)<=2;decide,by show(2:Int)<=3;decide⟩ (hw.val _ i) (fun e=>nN 2 1 e)
     exact⟨this.wn,this.len,this.nn,this.cnt,this.c7,this.call,this.st,this.val,this.many,this.Bg⟩
    have k:=aTA (x:=m.x) (m.z.tk t.toNat).kind j i (hk.w0 c) c
    unfold gP;dsimp only;split
    .intro d;cases d
    .split
     .intro d;cases d
     .exact k
   .exact h
  .split
   .split
    .rename_i c
     dsimp only
     have:(iP m.z m.y t.toNat).1.aV=false:=by
      unfold iP qP
      repeat' split
      all_goals first | exact c | rfl
     intro d;rw[this] at d;cases d
    .exact h
   .exact h
def kB.dH(hm:s.made)(h:kB s m)(hk:fC s n m):kB s (m.dH s):=by
 obtain⟨_,_,e,_⟩:=hk.fw.next hm.dM hk.hw;intro d i t c;refine h d i t ?_
 have c:((jX s m.x m.y).2.wt[i]?).join=some t:=c
 rw[e] at c;exact c
def kB.tick(hk:fC s n m)(c:Int):kB s (m.tick s c):=fun d=>by
 rw[hk.aDw c] at d;cases d
def kB.start(h:kB s m)(t k d r v:Int):kB s (m.start t k d r v):=by
 show kB s ⟨(lY m.z t k d r v).2,m.y,m.x⟩
 unfold lY
 repeat' split
 all_goals exact h
def kB.done(h:kB s m)(t:Int):kB s (m.done t):=by
 show kB s ⟨(fG m.z t).2,m.y,m.x⟩
 unfold fG
 repeat' split
 all_goals exact h
def aB8(h:kB s w.m)(t:Int):kB s (w.end_ t).m:=by
 unfold aT.end_;split<;>exact h.done t
def aR0(h:kB s w.m)(hk:fC s n w.m)(t:Int):kB s (w.jJ s t).m:=by
 unfold aT.jJ;split<;>exact h.step hk t
def Qd(h:kB s w.m)(hk:fC s n w.m)(t:Int):kB s (w.task s t).m:=aB8 (aR0 h hk t) t
def aIH(hk:fC s n w.m)(d:Int):kB s (w.tick s d).m:=aB8 (aB8 (aB8 (w:=w.mG s d) (kB.tick hk d) 0) 1) 2
def aR1(hm:s.made)(h:kB s w.m)(hk:iK s n w)(d:Int):kB s (w.round s d).m:=by
 have c:=hk.task hm 0
 have i:=c.task hm 1
 have e:=i.task hm 2
 have f:=e.dH hm
 exact aIH f.m d
def aR2(hm:s.made)(h:kB s w.m)(hk:iK s n w)(p:Au):kB s (w.nE s p).2.m:=by
 unfold aT.nE;split
 .unfold aT.call;dsimp only
  have:=h.start p.task p.c.k p.c.d p.c.r p.c.v
  split<;>exact this
 .split
  .exact Qd h hk.m _
  .split
   .exact h.dH hm hk.m
   .split
    .exact aIH hk.m _
    .split
     .unfold aT.send;dsimp only;split<;>exact h
     .split
      .show kB s w.take.m
       unfold aT.take;split<;>exact h
      .exact h
def aEt(hm:s.made){cK:List fQ}(e:∀a∈cK,a.ok):∀k,k<=cK.length->kB s (runN s cK k).m
 | 0,_=>fun hp=>by cases hp
 | k+1,hk=>by
  obtain⟨a,c⟩:=get_some (l:=cK) (i:=k) aA
  have d:=aEt hm e k aA
  have f:=(aAQ hm e k aA).2
  rw[Mh c];unfold Ab;split
  .exact aR1 hm d f _
  .exact aR2 hm d f _
def tM(es:List dU):Prop:=∀e∈es,e.kind=100->e.alive=true/\e.an.dead=false
def aKn(hm:s.made)(h:fU s n m)(hl:kB s m)(c:Int):∀e∈(mX s m.x c).2.map (tG s m.x),e.alive=true/\e.an.dead=false:=by
 intro e o;cases k:m.z.aV with
 | false=>
  rw[(h.ok.ans c).1 k] at o;cases o
 | true =>
  obtain⟨i,t,w,y,E,F⟩:=h.ok.w1 k;obtain⟨a,j,H,D,A⟩:=aKY h.ok.hw w y F;obtain⟨G,hd⟩:=get_some w
  have f:=(h.alive hm (h.rp.po k) hd (hl k i t y)).1
  have B:(mX s m.x c).2=[a]:=by
   show(gI s m.x s.aG.length).2=[a]
   obtain⟨d,C⟩:=Nat.exists_eq_add_of_lt w;rw[show s.aG.length=i+1+d by omega,A d]
  rw[B,List.map_singleton,mL] at o;subst o;refine⟨by show uW s m.x a.dev.toNat=true;rw[D,dL];exact f,?_⟩
  show a.dead=false
  unfold fZ at j;obtain⟨p,r⟩:=get_some (l:=m.x.dv) (i:=i) (by have:=h.ok.hw.dv;omega);rw[y,hd,r] at j;dsimp only at j;rw[aH f] at j;cases j;rfl
def tM.app{a b:List dU}(d:tM a)(f:∀e∈b,e.kind=100->e.alive=true/\e.an.dead=false):tM (a++b):=fun e c=>(oM.1 c).elim (d e) (f e)
def tM.one{a:List dU}{e:dU}(f:tM a)(h:e.kind≠100):tM (a++[e]):=f.app fun i c d=>by
 rw[mL] at c;subst c;exact absurd d h
def aAY(h:tM w.es)(t:Int):tM (w.end_ t).es:=by
 unfold aT.end_;split
 .exact h.one (show(101:Int)≠100 by decide)
 .exact h
def aAX(h:tM w.es)(t:Int):tM (w.task s t).es:=by
 refine aAY ?_ t;unfold aT.jJ;split
 .exact h.one (show(98:Int)≠100 by decide)
 .exact h
def aHk(hm:s.made)(h:tM w.es)(f:fU s n w.m)(hl:kB s w.m)(d:Int):tM (w.tick s d).es:=aAY (aAY (aAY (w:=w.mG s d) (tM.app h fun e c _=>aKn hm f hl d e c) 0) 1) 2
def aOo(hm:s.made)(h:tM w.es)(j:fU s n w.m)(hl:kB s w.m)(hk:iK s n w)(d:Int):tM (w.round s d).es:=by
 have c:=hk.task hm 0
 have e:=c.task hm 1
 have i:=Qd (Qd (Qd hl hk.m 0) c.m 1) e.m 2
 have f:=Hj hm (Hj hm (Hj hm j 0) 1) 2
 have k:fU s (n+3) ((((w.task s 0).task s 1).task s 2).dH s).m:=f.dH hm
 exact aHk hm (w:=(((w.task s 0).task s 1).task s 2).dH s) (aAX (aAX (aAX h 0) 1) 2) k (i.dH hm (e.task hm 2).m) d
def aOp(hm:s.made)(h:tM w.es)(c:fU s n w.m)(hl:kB s w.m)(p:Au):tM (w.nE s p).2.es:=by
 unfold aT.nE;split
 .unfold aT.call;dsimp only;split<;>exact h
 .split
  .exact aAX h _
  .split
   .exact h
   .split
    .exact aHk hm h c hl _
    .split
     .unfold aT.send;dsimp only;split
      .exact h
      .exact h.one (show(115:Int)≠100 by decide)
     .split
      .show tM w.take.es
       unfold aT.take;split
       .exact h.one (show(114:Int)≠100 by decide)
       .exact h
      .exact h
def aHl(hm:s.made){cK:List fQ}(d:∀a∈cK,a.ok):∀k,k<=cK.length->tM (runN s cK k).es
 | 0,_=>fun _ h=>by cases h
 | k+1,hk=>by
  obtain⟨a,c⟩:=get_some (l:=cK) (i:=k) aA
  have e:=aHl hm d k aA
  obtain⟨j,m⟩:=aAQ hm d k aA
  have f:=aEt hm d k aA
  rw[Mh c];unfold Ab;split
  .exact aOo hm e j f m _
  .exact aOp hm e j f _
structure sB where
 c:Cn
 h:Nat->Nat->Int
 last:Nat->Int
def Dc:sB:=⟨⟨[],false⟩,fun _ _=>0,fun _=>0⟩
def Jq(h:Nat->Nat->Int)(t d:Nat)(v:Int):Nat->Nat->Int:=fun c e=>if c=t/\e=d then v else h c e
def iH(s:aI)(x:sB)(t:Nat)(c:mW):Int×Cn×(Nat->Nat->Int):=
 if c.k=103 then(if(lC s.aG.length x.c c.d).1≠0 then((lC s.aG.length x.c c.d).1,x.c,x.h) else(0,(lC s.aG.length x.c c.d).2,Jq x.h t c.d.toNat (x.h t c.d.toNat+1)))
 else if c.k=112 then(if bJ s.aG.length c.d=false then(4,x.c,x.h) else if x.h t c.d.toNat=0 then(6,x.c,x.h) else if(mS s.aG.length x.c c.d).1≠0 then((mS s.aG.length x.c c.d).1,x.c,x.h) else(0,(mS s.aG.length x.c c.d).2,Jq x.h t c.d.toNat (x.h t c.d.toNat - 1)))
 else if c.k=115 then((qF x.c).1,(qF x.c).2,x.h)
 else if c.k=109 then((qG x.c).1,(qG x.c).2,x.h)
 else(if bJ s.aG.length c.d=false\/c.r < 0\/De s c.d<=c.r then 4 else if x.h t c.d.toNat=0\/x.c.lU=true then 6 else 0,x.c,x.h)
def We(s:aI)(x:sB)(t:Nat)(c:mW):sB:=⟨(iH s x t c).2.1,(iH s x t c).2.2,fun i=>if i=t then(iH s x t c).1 else x.last i⟩
def aCt(x:sB)(e:dU):Prop:=e.err≠x.last e.task.toNat\/(e.res≠0/\(x.last e.task.toNat≠0\/¬(e.c.k=114\/e.c.k=119)))
instance(x:sB)(e:dU):Decidable (aCt x e):=by unfold aCt;infer_instance
def uQ(s:aI)(x:sB)(e:dU):Option sB:=if e.kind=98 then(if uC e.c.k then some (We s x e.task.toNat e.c) else none) else if e.kind=101 then(if aCt x e then none else some x) else if e.kind=100\/e.kind=114\/e.kind=115 then some x else none
def tZ(s:aI):sB->List dU->Option sB
 | x,[]=>some x
 | x,e::r=>(uQ s x e).bind fun x'=>tZ s x' r
def Tz(s:aI):∀(a b:List dU) (x:sB),tZ s x (a++b)=(tZ s x a).bind fun x'=>tZ s x' b
 | [],_,_=>rfl
 | e::r,b,x=>by
  show(uQ s x e).bind (fun x'=>tZ s x' (r++b))=((uQ s x e).bind fun x'=>tZ s x' r).bind _
  cases uQ s x e with
  | none=>rfl
  | some x'=>exact Tz s r b x'
def aIo(s:aI){es:List dU}{x:sB}(e:dU)(h:tZ s Dc es=some x):tZ s Dc (es++[e])=uQ s x e:=by
 rw[Tz,h]
 show(uQ s x e).bind (fun c=>some c)=_
 cases uQ s x e<;>rfl
structure Gl(w:aT)(x:sB):Prop where
 c:x.c=w.m.z.cn
 h:∀t,T3 t->∀i,x.h t i=hG (w.m.z.tk t) i
 ls:∀t,T3 t->((w.m.z.tk t).st=2->x.last t=0)/\((w.m.z.tk t).st=3->x.last t=(w.m.z.tk t).err/\((w.m.z.tk t).res≠0->(w.m.z.tk t).err=0/\((w.m.z.tk t).kind=114\/(w.m.z.tk t).kind=119)))
section
variable{x:sB}{hw:aS}
def aT8(M:RwB s z)(O:s.aG.length<=4){j:Nat}(hj:T3 j){c:mW}(N:Oq (z.tk j) c)(hk:uC c.k)(e1:x.c=z.cn)(e2:∀t,T3 t->∀i,x.h t i=hG (z.tk t) i)(F:0<=c.d->c.d < s.aG.length->hG (z.tk j) c.d.toNat≠0->z.cn.lU=false->tT hw c.d.toNat=114):
  (kL s hw z j c.k).1=(iH s x j c).1/\(kL s hw z j c.k).2.1.cn=(iH s x j c).2.1/\∀t,T3 t->∀i,(iH s x j c).2.2 t i=hG ((kL s hw z j c.k).2.1.tk t) i:=by
 obtain⟨U,y,K,T⟩:=N
 have L:=Uc s
 have G:∀(d:Nat) (q:Int) (p:Cn) (t:Nat),T3 t->(vG s {z.iX j (rO (z.tk j) d q) with cn:=p}).tk t=if t=j then rO (z.tk j) d q else z.tk t:=fun d q p t A=>(show _=(z.iX j (rO (z.tk j) d q)).tk t from rfl).trans (Cw A hj)
 have C:∀(d:Nat) (q:Int) (p:Cn),d < 6->∀t,T3 t->∀i,Jq x.h j d (x.h j d+q) t i=hG ((vG s {z.iX j (rO (z.tk j) d q) with cn:=p}).tk t) i:=fun d q p hd t A i=>by
  rw[G d q p t A];unfold Jq
  by_cases w:t=j
  .subst w;rw[aH rfl]
   show _=hG {z.tk t with hs:=(z.tk t).hs.set d (hG (z.tk t) d+q)} i
   rw[aEP (M.len t A) hd,e2 t A d]
   by_cases o:i=d
   .rw[aH ⟨rfl,o⟩,aH o.symm]
   .rw[aC (fun h=>o h.2),aC (fun h=>o h.symm)];exact e2 t A i
  .rw[aC (fun h=>w h.1),aC w];exact e2 t A i
 have acc : ∀ E, (mE s hw z j E).1 = (if bJ s.aG.length c.d = false \/ c.r < 0 \/ De s c.d <= c.r then 4 else if x.h j c.d.toNat = 0 \/ x.c.lU = true then 6 else 0) /\ (mE s hw z j E).2.1.cn = x.c /\ ∀ t, T3 t -> ∀ i, x.h t i = hG ((mE s hw z j E).2.1.tk t) i := fun E => by
  have D:=e2 j hj c.d.toNat
  unfold mE
  by_cases l:bJ s.aG.length c.d=false\/c.r < 0\/De s c.d<=c.r
  .rw[aH (show Cf s (z.tk j) by unfold Cf;rw[y,K];exact l),aH l];exact⟨rfl,e1.symm,e2⟩
  .rw [aC (show ¬ Cf s (z.tk j) by unfold Cf; rw [y, K]; exact l), aC l]
   by_cases n:x.h j c.d.toNat=0\/x.c.lU=true
   .rw[aH (show hG (z.tk j) (z.tk j).dev.toNat=0\/z.cn.lU=true by rw[y,<-e1,<-D];exact n),aH n];exact⟨rfl,e1.symm,e2⟩
   .rw[aC (show ¬(hG (z.tk j) (z.tk j).dev.toNat=0\/z.cn.lU=true) by rw[y,<-e1,<-D];exact n),aC n]
    have m:bJ s.aG.length c.d=true:=by
     cases I:bJ s.aG.length c.d with
     | true=>rfl
     | false=>exact absurd (.inl I) l
    have m:=eV m
    rw[aH (show tT hw (z.tk j).dev.toNat=114 by
     rw[y]
     exact F m.1 m.2 (fun h=>n (.inl (D.trans h))) (by
      cases I:z.cn.lU with
      | false=>rfl
      | true=>exact absurd (.inr (e1▸I)) n))]
    exact⟨rfl,e1.symm,e2⟩
 have B:∀d:Int,0<=d->d < s.aG.length->d.toNat < 6:=fun d V R=>by omega
 rcases hk with e | e | e | e | e | e
 .unfold kL iH Ds;rw[e,aH rfl,aH rfl,L,y,<-e1]
  by_cases f:(lC s.aG.length x.c c.d).1≠0
  .rw[aH f,aH f];exact⟨rfl,e1.symm,e2⟩
  .rw[aC f,aC f]
   have hd:=aAf (nO f)
   exact⟨rfl,rfl,C _ 1 _ (B _ hd.1 hd.2)⟩
 .have D:=e2 j hj c.d.toNat
  have r1:kL s hw z j c.k=((zK s z j).1,(zK s z j).2,hw):=by rw[e];exact(aC aE).trans (aH rfl)
  unfold iH;rw[r1,aC (show ¬c.k=103 by omega),aH e];unfold zK;rw[L,y,<-e1,<-D]
  by_cases o:bJ s.aG.length c.d=false
  .rw[aH o,aH o];exact⟨rfl,e1.symm,e2⟩
  rw[aC o,aC o]
  by_cases n:x.h j c.d.toNat=0
  .rw[aH n,aH n];exact⟨rfl,e1.symm,e2⟩
  rw[aC n,aC n]
  by_cases f:(mS s.aG.length x.c c.d).1≠0
  .rw[aH f,aH f];exact⟨rfl,e1.symm,e2⟩
  .rw[aC f,aC f]
   have m:bJ s.aG.length c.d=true:=by simpa using o
   have hd:=eV m
   exact⟨rfl,rfl,C _ (-1) _ (B _ hd.1 hd.2)⟩
 .have r1:kL s hw z j c.k=mE s hw z j false:=by rw[e];exact(aC aE).trans ((aC aE).trans (aH rfl))
  unfold iH;rw[r1,aC (show ¬c.k=103 by omega),aC (show ¬c.k=112 by omega),aC (show ¬c.k=115 by omega),aC (show ¬c.k=109 by omega)];exact acc false
 .have r1:kL s hw z j c.k=mE s hw z j true:=by rw[e];exact(aC aE).trans ((aC aE).trans ((aC aE).trans (aH rfl)))
  unfold iH;rw[r1,aC (show ¬c.k=103 by omega),aC (show ¬c.k=112 by omega),aC (show ¬c.k=115 by omega),aC (show ¬c.k=109 by omega)];exact acc true
 .have r1:kL s hw z j c.k=((zA s z).1,(zA s z).2,hw):=by rw[e];exact(aC aE).trans ((aC aE).trans ((aC aE).trans ((aC aE).trans (aH rfl))))
  unfold iH;rw[r1,aC (show ¬c.k=103 by omega),aC (show ¬c.k=112 by omega),aH e];unfold zA;rw[<-e1]
  by_cases f:(qF x.c).1≠0
  .rw[aH f];refine⟨rfl,?_,e2⟩
   show z.cn=(qF x.c).2
   rw[e1];unfold qF at f|-;split
   .rfl
   .rename_i J
    rw[e1,aC J] at f;exact absurd rfl f
  .rw[aC f];exact⟨(nO fun h=>f fun H=>h H.symm),rfl,e2⟩
 .have r1:kL s hw z j c.k=((zD s z).1,(zD s z).2,hw):=by rw[e];exact(aC aE).trans ((aC aE).trans ((aC aE).trans ((aC aE).trans (aC aE))))
  unfold iH;rw[r1,aC (show ¬c.k=103 by omega),aC (show ¬c.k=112 by omega),aC (show ¬c.k=115 by omega),aH e];unfold zD;rw[<-e1]
  by_cases f:(qG x.c).1≠0
  .rw[aH f];refine⟨rfl,?_,e2⟩
   show z.cn=(qG x.c).2
   rw[e1];unfold qG at f|-;split
   .rename_i J
    rw[e1,aH J] at f;exact absurd rfl f
   .rfl
  .rw[aC f];exact⟨(nO fun h=>f fun H=>h H.symm),rfl,e2⟩
end
def kW(s:aI)(w:aT):Prop:=∃x,tZ s Dc w.es=some x/\Gl w x
def aQt{x:sB}{e:dU}(h:e.kind=100\/e.kind=114\/e.kind=115):uQ s x e=some x:=by
 unfold uQ;rw[aC aA,aC aA,aH h]
def aIp:∀(b:List dU) (x:sB),(∀e∈b,e.kind=100\/e.kind=114\/e.kind=115)->tZ s x b=some x
 | [],_,_=>rfl
 | e::b,x,h=>by
  have f:=h e aB
  show(uQ s x e).bind (fun c=>tZ s c b)=some x
  rw[aQt f];exact aIp b x fun i d=>h i (vL _ d)
def kW.more{m':fA}{d:Nat->mW}{c:Nat->Bool}{b:List dU}(h:kW s w)(i:∀x,Gl w x->Gl ⟨m',d,c,w.es++b⟩ x)(k:∀e∈b,e.kind=100\/e.kind=114\/e.kind=115):kW s ⟨m',d,c,w.es++b⟩:=by
 obtain⟨x,j,f⟩:=h;refine⟨x,?_,i x f⟩
 show tZ s Dc (w.es++b)=_
 rw[Tz,j];exact aIp b x k
def Gl.same{w':aT}{x:sB}(h:Gl w x)(d:w'.m.z=w.m.z):Gl w' x:=⟨by rw[d];exact h.c,by rw[d];exact h.h,by rw[d];exact h.ls⟩
def aTw{j:Nat}(h3:(w.m.z.tk j).st≠3):w.end_ j=w:=by
 unfold aT.end_;rw[aCd h3];rw[aC aB]
 show({w with m:=⟨(fG w.m.z j).2,w.m.y,w.m.x⟩}:aT)=w
 rw[aCd h3]
def aTV(z:bA)(t:Int):(fG z t).2.cn=z.cn:=by
 unfold fG;split
 .rfl
 .split<;>rfl
def kW.end_{d:Option Nat}(G:NE w d)(h:kW s w){j:Nat}(hj:T3 j):kW s (w.end_ j):=by
 by_cases p:(w.m.z.tk j).st=3
 .obtain⟨x,F,o⟩:=h
  have hd:fG w.m.z j=(((w.m.z.tk j).err,(w.m.z.tk j).res,true),(fG w.m.z j).2):=by
   unfold fG;rw[aC (by rcases hj with rfl | rfl | rfl<;>decide),dL,aC (by rw[p];simp)]
  have k:=fun {i} hi=>aJW (z:=w.m.z) hj (i:=i) hi p
  have hw:w.end_ j={w with m:=w.m.done j,es:=w.es++[rU w j]}:=by
   unfold aT.end_;rw[hd];exact aH rfl
  rw[hw];refine⟨x,?_,?_⟩
  .show tZ s Dc (w.es++[rU w j])=_
   rw[aIo s _ F];obtain⟨I,y⟩:=(o.ls j hj).2 p
   have C:=(G.cl j hj aA).1
   unfold uQ;rw[aC (show ¬(rU w j).kind=98 by show ¬(101:Int)=98;decide),aH (show(rU w j).kind=101 from rfl),aC];intro f
   have A:(rU w j).err=(w.m.z.tk j).err:=by
    show(fG w.m.z j).1.1=_
    rw[hd]
   have D:(rU w j).res=(w.m.z.tk j).res:=by
    show(fG w.m.z j).1.2.1=_
    rw[hd]
   have E:(rU w j).task.toNat=j:=dL j
   have H:(rU w j).c=w.cl j:=by
    show w.cl (j:Int).toNat=_
    rw[dL]
   unfold aCt at f;rw[A,D,E,H,I,<-C] at f;rcases f with f | ⟨f,l⟩
   .exact f rfl
   .obtain⟨B,J⟩:=y f;rcases l with l | l
    .exact l B
    .exact l J
  .refine⟨o.c.trans (aTV _ _).symm,fun t n i=>?_,fun t n=>?_⟩
   .show _=hG ((fG w.m.z j).2.tk t) i
    rw[k n,o.h t n i];split
    .rename_i e
     rw[e];rfl
    .rfl
   .show(((fG w.m.z j).2.tk t).st=2->x.last t=0)/\(((fG w.m.z j).2.tk t).st=3->x.last t=((fG w.m.z j).2.tk t).err/\(((fG w.m.z j).2.tk t).res≠0->((fG w.m.z j).2.tk t).err=0/\(((fG w.m.z j).2.tk t).kind=114\/((fG w.m.z j).2.tk t).kind=119)))
    rw[k n];split
    .exact⟨fun r=>absurd (show(0:Int)=2 from r) aE,fun r=>absurd (show(0:Int)=3 from r) aE⟩
    .exact o.ls t n
 .rw[aTw p];exact h
def Gl.Ow(A:NE w none){x':sB}{m':fA}{f:Nat->mW}{o:Nat->Bool}{n:List dU}{j:Nat}(r:x'.c=m'.z.cn)(d:∀t,T3 t->∀i,x'.h t i=hG (m'.z.tk t) i)(k:∀i,T3 i->i≠j->(m'.z.tk i).st=(w.m.z.tk i).st/\(w.m.z.tk i).st≠2)
  (hl:((m'.z.tk j).st=2->x'.last j=0)/\((m'.z.tk j).st=3->x'.last j=(m'.z.tk j).err/\((m'.z.tk j).res≠0->(m'.z.tk j).err=0/\((m'.z.tk j).kind=114\/(m'.z.tk j).kind=119)))):Gl ⟨m',f,o,n⟩ x':=by
 refine⟨r,d,fun t p=>?_⟩
 by_cases e:t=j
 .rw[e];exact hl
 .obtain⟨y,x⟩:=k t p e
  have l:(w.m.z.tk t).st≠3:=fun l=>by
   have:=(A.Kf t p).1 l
   cases this
  show((m'.z.tk t).st=2->_)/\((m'.z.tk t).st=3->_)
  rw[y];exact⟨fun d=>absurd d x,fun d=>absurd d l⟩
def Vm{z:bA}{j:Nat}(hj:T3 j)(e r:Int){i:Nat}(hi:T3 i):(qE z j e r).tk i=if i=j then {z.tk j with st:=3,err:=e,res:=r} else z.tk i:=by
 rcases hj with rfl | rfl | rfl<;>rcases hi with rfl | rfl | rfl<;>rfl
def aBX{z:bA}{j:Nat}(hj:T3 j)(e r:Int){t:Nat}(c:T3 t)(i:Nat):hG ((qE z j e r).tk t) i=hG (z.tk t) i:=by
 rw[Vm hj e r c];split
 .rename_i h
  rw[h];rfl
 .rfl
def aW6{z:bA}{y:bX}{j:Nat}(hj:T3 j)(n:(z.tk j).st=2):(iP z y j).1.cn=z.cn/\(∀t,T3 t->∀i,hG ((iP z y j).1.tk t) i=hG (z.tk t) i)/\(((iP z y j).1.tk j).st=3->((iP z y j).1.tk j).err=0/\((iP z y j).1.tk j).res=0):=by
 have l:(z.tk j).st=3->(z.tk j).err=0/\(z.tk j).res=0:=fun h=>by omega
 have tk:∀a,(qP z a).cn=z.cn/\∀i,T3 i->(qP z a).tk i=z.tk i:=fun a=>by
  unfold qP;split<;>exact⟨rfl,fun i e=>by rcases e with rfl | rfl | rfl<;>rfl⟩
 have m:∀L b k,({z with steps:=L,sent:=b,many:=k}:bA).cn=z.cn/\∀i,T3 i->({z with steps:=L,sent:=b,many:=k}:bA).tk i=z.tk i:=fun L b k=>⟨rfl,fun i e=>by rcases e with rfl | rfl | rfl<;>rfl⟩
 have fin:∀c:bA,(c.cn=z.cn/\∀i,T3 i->c.tk i=z.tk i)->c.cn=z.cn/\(∀t,T3 t->∀i,hG (c.tk t) i=hG (z.tk t) i)/\((c.tk j).st=3->(c.tk j).err=0/\(c.tk j).res=0):=fun c f=>⟨f.1,fun t d i=>by rw[f.2 t d],by rw[f.2 j hj];exact l⟩
 unfold iP;split
 .split
  .exact fin _ ⟨rfl,fun _ _=>rfl⟩
  .rename_i a _
   split
   .refine⟨(tk a).1,fun t d i=>?_,fun _=>?_⟩
    .rw[aBX hj 0 0 d,(tk a).2 t d]
    .rw[Vm hj 0 0 hj,aH rfl];exact⟨rfl,rfl⟩
   .exact fin _ (tk a)
 .split
  .exact fin _ ⟨rfl,fun _ _=>rfl⟩
  .split
   .exact fin _ (m _ _ _)
   .exact fin _ ⟨rfl,fun _ _=>rfl⟩
def kW.jJ(hm:s.made)(T:fU s n w.m)(K:NE w none)(h:kW s w)(t:Int):kW s (w.jJ s t):=by
 obtain⟨x,hx,J⟩:=h
 have o:=T.ok
 have cP:=o.mY.cP
 have aYb:∀i,T3 i->(w.m.z.tk i).st≠3:=fun i D h3=>by
  have:=(K.Kf i D).1 h3
  cases this
 by_cases V:w.nS t=true
 .have H:=V
  unfold aT.nS at H;simp only[jY,decide_eq_true_eq] at H;obtain⟨U,N,M⟩:=H;obtain⟨j,rfl,f⟩:=zP U;rw[dL] at N
  have R:=(K.wt j f).1 N
  obtain⟨hno,O⟩:=aJd cP M
  have F:pI s w.m.z w.m.y w.m.x j=((gP s w.m.x w.m.z j).1,w.m.y,(gP s w.m.x w.m.z j).2):=by
   unfold pI;rw[aC (by rw[U];simp),dL,aH R,aH M]
  have hw:w.jJ s j=⟨⟨(gP s w.m.x w.m.z j).1,w.m.y,(gP s w.m.x w.m.z j).2⟩,w.cl,iE w.wt j false,w.es++[pO w j]⟩:=by
   unfold aT.jJ fA.step;rw[aH V,F,dL]
  rw[hw]
  have G:Oq (w.m.z.tk j) (w.cl j):=K.cl j f aA
  have hk:uC (w.cl j).k:=by
   rw[<-G.1];exact o.mY.call j f R
  refine⟨We s x j (w.cl j),?_,?_⟩
  .show tZ s Dc (w.es++[pO w j])=_
   rw[aIo s _ hx]
   show(if(98:Int)=98 then(if uC (w.cl (j:Int).toNat).k then some (We s x (j:Int).toNat (w.cl (j:Int).toNat)) else none) else _)=_
   rw[aH rfl,dL,aH hk]
  .have Y:w.m.z.steps=[]:=by
    rcases cP with⟨_,_,_,e,_⟩ | ⟨i,_,e,_⟩
    .exact e
    .omega
   have E:=aBv (z:=w.m.z) f
   have hbb:RwB s (nB w.m.z j):=by
    have:=o.mY.toRwB.iX f (t:={w.m.z.tk j with st:=2}) rfl ⟨by show(0:Int)<=2;decide,by show(2:Int)<=3;decide⟩ (o.mY.val j f) (fun p=>nN 2 1 p)
    exact⟨this.wn,this.len,this.nn,this.cnt,this.c7,this.call,this.st,this.val,this.many,this.Bg⟩
   have C:∀t,T3 t->∀i,hG ((nB w.m.z j).tk t) i=hG (w.m.z.tk t) i:=fun t r i=>by
    by_cases e:t=j
    .rw[e,E];rfl
    .have:(nB w.m.z j).tk t=w.m.z.tk t:=by
      show(w.m.z.iX j _).tk t=_
      rw[Cw r f,aC e]
     rw[this]
   have L:=aT8 (s:=s) (z:=nB w.m.z j) (x:=x) (hw:=w.m.x) hbb (by have:=hm.nv;omega) f (c:=w.cl j) (by rw[E];exact G) hk J.c (fun t r i=>(J.h t r i).trans (C t r i).symm) (fun d0 d1 p X=>by
    obtain⟨dd,hd⟩:=get_some (l:=s.aG) (i:=(w.cl j).d.toNat) aA;refine(T.alive hm Y hd (aGN X aA ?_)).2;rw[C j f] at p
    have c0:=o.mY.cnt (w.cl j).d.toNat
    have n0:=o.mY.nn 0 (.inl rfl) (w.cl j).d.toNat
    have n1:=o.mY.nn 1 (.inr (.inl rfl)) (w.cl j).d.toNat
    have n2:=o.mY.nn 2 (.inr (.inr rfl)) (w.cl j).d.toNat
    have nj:=o.mY.nn j f (w.cl j).d.toNat
    have:0 < gO w.m.z.cn.l ((w.cl j).d.toNat:Int):=by rcases f with rfl | rfl | rfl<;>omega
    exact this)
   rw[<-G.1] at L;obtain⟨k1,k2,k3⟩:=L
   have hsa:=aD9 (s:=s) (x:=w.m.x) (z:=nB w.m.z j) f (w.m.z.tk j).kind
   have Z:=(aJz (s:=s) (x:=w.m.x) (z:=w.m.z) f).1
   have hlj:(We s x j (w.cl j)).last j=(iH s x j (w.cl j)).1:=aH rfl
   refine Gl.Ow K (j:=j) ?_ ?_ (fun i D B=>⟨(Z i D).2.2.2.2 B,hno i D⟩) ?_
   .show(iH s x j (w.cl j)).2.1=(gP s w.m.x w.m.z j).1.cn
    rw[<-k2];unfold gP;dsimp only;split
    .rfl
    .split<;>rfl
   .intro t r i
    show(iH s x j (w.cl j)).2.2 t i=hG ((gP s w.m.x w.m.z j).1.tk t) i
    rw[k3 t r i];unfold gP;dsimp only;split
    .rw[aBX f _ _ r]
    .split
     .rw[aBX f _ _ r]
     .rfl
   .rw[hlj,<-k1]
    show(((gP s w.m.x w.m.z j).1.tk j).st=2->_)/\(((gP s w.m.x w.m.z j).1.tk j).st=3->_=((gP s w.m.x w.m.z j).1.tk j).err/\(((gP s w.m.x w.m.z j).1.tk j).res≠0->((gP s w.m.x w.m.z j).1.tk j).err=0/\_))
    unfold gP;dsimp only;split
    .rw[Vm f _ _ f,aH rfl];exact⟨fun p=>absurd (show(3:Int)=2 from p) aE,fun _=>⟨rfl,fun p=>absurd rfl p⟩⟩
    .rename_i I
     have I:=nO I
     split
     .rw[Vm f _ _ f,aH rfl];exact⟨fun p=>absurd (show(3:Int)=2 from p) aE,fun _=>⟨I,fun p=>absurd rfl p⟩⟩
     .refine⟨fun _=>I,fun p=>?_⟩;rw[(hsa j f).2.2.2.2,E] at p;exact absurd (show(2:Int)=3 from p) aE
 .have hw:w.jJ s t={w with m:=w.m.step s t}:=by unfold aT.jJ;rw[aC V]
  rw[hw];refine⟨x,hx,?_⟩
  by_cases X:∃j:Nat,t=(j:Int)/\T3 j/\(w.m.z.tk j).st=2/\w.m.z.aV=false
  .obtain⟨j,rfl,f,A,O⟩:=X
   have F:pI s w.m.z w.m.y w.m.x j=((iP w.m.z w.m.y j).1,(iP w.m.z w.m.y j).2,w.m.x):=by
    unfold pI;rw[aC (by rcases f with rfl | rfl | rfl<;>decide),dL,aC aA,aH A,aH O]
   have p:=(Km cP f).2 A
   obtain⟨a1,a2,a3⟩:=aW6 (y:=w.m.y) f A;obtain⟨f1,_⟩:=aJ0 (y:=w.m.y) (z:=w.m.z) f A
   have l2:=(J.ls j f).1 A
   unfold fA.step;rw[F];refine Gl.Ow K (j:=j) (J.c.trans a1.symm) (fun t r i=>(J.h t r i).trans (a2 t r i).symm) (fun i D B=>⟨(f1 i D).2.2.2.2 B,fun h'=>B (by have:=(Km cP D).2 h';omega)⟩) ⟨fun _=>l2,fun h3=>?_⟩;obtain⟨b1,b2⟩:=a3 h3;exact⟨l2.trans b1.symm,fun p=>absurd b2 p⟩
  .obtain⟨I,_⟩:=aHb (s:=s) (z:=w.m.z) (y:=w.m.y) (x:=w.m.x) (t:=t) (fun j r f U=>by
    by_cases hl:w.m.z.cP < 0
    .exfalso;refine V ?_;unfold aT.nS;rw[r,dL,(K.wt j f).2 U,eM hl,show bJ 3 (j:Int)=true by rcases f with rfl | rfl | rfl<;>rfl];rfl
    .omega) (fun j r f T=>by
    cases hp:w.m.z.aV with
    | true=>rfl
    | false=>exact absurd ⟨j,r,f,T,hp⟩ X)
   exact J.same I
def kW.aTy{d:Option Nat}(e:NE w d)(h:kW s w)(t:Int):kW s (w.end_ t):=by
 by_cases c:bJ 3 t=false
 .rw[aIk c];exact h
 .obtain⟨j,rfl,f⟩:=zP (t:=t) (by cases i:bJ 3 t with | true=>rfl | false=>exact absurd i c);exact h.end_ e f
def kW.task(hm:s.made)(e:fU s n w.m)(c:NE w none)(h:kW s w)(t:Int):kW s (w.task s t):=by
 obtain⟨d,hd,_⟩:=c.jJ hm e.ok t;exact(h.jJ hm e c t).aTy hd t
def kW.mG(hm:s.made)(G:fU s n w.m)(hl:kB s w.m)(I:NE w none)(h:kW s w)(d:Int):kW s (w.mG s d):=by
 have l:=G.ok
 have cP:=l.mY.cP
 obtain⟨D,B⟩:=l.ans d
 refine h.more (b:=(mX s w.m.x d).2.map (tG s w.m.x)) (fun x p=>?_) (fun e M=>by
  obtain⟨a,_,rfl⟩:=fR.1 M
  exact .inl rfl)
 cases r:w.m.z.aV with
 | false=>
  refine p.same ?_
  show pP w.m.z (mX s w.m.x d).2=w.m.z
  rw[D r];rfl
 | true =>
  obtain⟨a,F,E⟩:=B r
  have f:a.dead=false:=(aKn hm G hl d (tG s w.m.x a) (by rw[F];exact mL.2 rfl)).2
  obtain⟨j,k,y,L,_⟩:=I.po r
  have C:=(Km cP k).1 y
  have K:=(p.ls j k).1 C
  have A:(w.m.tick s d).z=qE w.m.z j 0 a.val:=by
   show pP w.m.z (mX s w.m.x d).2=_
   rw[F]
   show rX w.m.z a=_
   unfold rX;rw[aC (by rw[r];simp),aC (by rw[E];simp),aC (by rw[f];simp),y,dL]
  refine Gl.Ow I (j:=j) (by rw[A];exact p.c) (fun t J i=>by rw[A,aBX k _ _ J];exact p.h t J i) (fun i H o=>⟨by rw[A,Vm k _ _ H,aC o],fun N=>o (by have:=(Km cP H).2 N;omega)⟩) ?_;rw[A,Vm k _ _ k,aH rfl];exact⟨fun y=>absurd (show(3:Int)=2 from y) aE,fun _=>⟨K,fun _=>⟨rfl,L⟩⟩⟩
def kW.tick(hm:s.made)(e:fU s n w.m)(hl:kB s w.m)(f:NE w none)(h:kW s w)(c:Int):kW s (w.tick s c):=by
 obtain⟨d,hd⟩:=f.mG hm e.ok c
 have i:=hd.end_ (j:=0) (.inl rfl)
 have k:=i.end_ (j:=1) (.inr (.inl rfl))
 exact(((h.mG hm e hl f c).end_ hd (j:=0) (.inl rfl)).end_ i (j:=1) (.inr (.inl rfl))).end_ k (j:=2) (.inr (.inr rfl))
def kW.call(D:NE w none)(h:kW s w)(t:Int)(c:mW):kW s (w.call t c).2:=by
 obtain⟨x,A,o⟩:=h;unfold aT.call;dsimp only;rcases aHd (z:=w.m.z) (t:=t) (k:=c.k) (d:=c.d) (r:=c.r) (v:=c.v) with⟨y,n⟩ | ⟨y,j,C,rfl,E,n⟩
 .rw[aH y];exact⟨x,A,o.same n⟩
 .rw[aC aA];refine⟨x,A,?_⟩
  have f:∀i,T3 i->(lY w.m.z j c.k c.d c.r c.v).2.tk i=if i=j then {w.m.z.tk j with st:=1,kind:=c.k,dev:=c.d,bF:=c.r,val:=c.v} else w.m.z.tk i:=fun i B=>by
   rw[n];exact Cw B C
  refine⟨by show x.c=(lY w.m.z j c.k c.d c.r c.v).2.cn;rw[n];exact o.c,fun t l i=>?_,fun t l=>?_⟩
  .show _=hG ((lY w.m.z j c.k c.d c.r c.v).2.tk t) i
   rw[f t l,o.h t l i];split
   .rename_i e
    rw[e];rfl
   .rfl
  .show(((lY w.m.z j c.k c.d c.r c.v).2.tk t).st=2->x.last t=0)/\(((lY w.m.z j c.k c.d c.r c.v).2.tk t).st=3->x.last t=((lY w.m.z j c.k c.d c.r c.v).2.tk t).err/\(((lY w.m.z j c.k c.d c.r c.v).2.tk t).res≠0->((lY w.m.z j c.k c.d c.r c.v).2.tk t).err=0/\(((lY w.m.z j c.k c.d c.r c.v).2.tk t).kind=114\/((lY w.m.z j c.k c.d c.r c.v).2.tk t).kind=119)))
   rw[f t l];split
   .exact⟨fun p=>absurd (show(1:Int)=2 from p) aE,fun p=>absurd (show(1:Int)=3 from p) aE⟩
   .exact o.ls t l
def kW.nE(hm:s.made)(j:fU s n w.m)(hl:kB s w.m)(f:NE w none)(h:kW s w)(p:Au):kW s (w.nE s p).2:=by
 have keep:∀{c:fA},c.z=w.m.z->kW s {w with m:=c}:=fun i=>by
  obtain⟨x,l,d⟩:=h;exact⟨x,l,d.same i⟩
 have more:∀{c:fA} (e:dU),c.z=w.m.z->e.kind=115\/e.kind=114->kW s {w with m:=c,es:=w.es++[e]}:=fun e i o=>
  h.more (b:=[e]) (fun x d=>d.same i) fun r k=>by
   rw[mL] at k;subst k;omega
 unfold aT.nE;split
 .exact h.call f _ _
 .split
  .exact h.task hm j f _
  .split
   .exact keep rfl
   .split
    .exact h.tick hm j hl f _
    .split
     .unfold aT.send;dsimp only;split
      .exact keep rfl
      .exact more _ rfl (.inl rfl)
     .split
      .show kW s w.take
       unfold aT.take;split
       .exact more _ rfl (.inr rfl)
       .exact keep rfl
      .exact h
def kW.round(hm:s.made)(e:fU s n w.m)(hl:kB s w.m)(l:NE w none)(h:kW s w)(c:Int):kW s (w.round s c):=by
 have f:=Hj hm e 0
 have d:=Hj hm f 1
 have i:=Hj hm d 2
 have r:=Qd hl e.ok 0
 have B:=Qd r f.ok 1
 have C:=Qd B d.ok 2
 have k:=l.task hm e.ok 0
 have j:=k.task hm f.ok 1
 have o:=j.task hm d.ok 2
 have t:=((h.task hm e l 0).task hm f k 1).task hm d j 2
 have y:kW s ((((w.task s 0).task s 1).task s 2).dH s):=by
  obtain⟨x,p,A⟩:=t;exact⟨x,p,A.same rfl⟩
 have z:fU s (n+1+1+1) ((((w.task s 0).task s 1).task s 2).dH s).m:=i.dH hm
 exact y.tick hm z (C.dH hm i.ok) (o.dH hm i.ok) c
def aQw(s:aI):kW s (Mf s):=by
 refine⟨Dc,rfl,rfl,fun t c i=>?_,fun t c=>?_⟩
 .rcases c with rfl | rfl | rfl<;>(show(0:Int)=(List.replicate 6 (0:Int)).getD i 0;rw[mZ,zJ];split<;>rfl)
 .have d:((Mf s).m.z.tk t).st=0:=by rcases c with rfl | rfl | rfl<;>rfl
  rw[d];exact⟨fun h=>absurd h aE,fun h=>absurd h aE⟩
def aIm(hm:s.made){cK:List fQ}(c:∀a∈cK,a.ok):∀k,k<=cK.length->kW s (runN s cK k)
 | 0,_=>aQw s
 | k+1,hk=>by
  obtain⟨a,d⟩:=get_some (l:=cK) (i:=k) aA
  have j:=aIm hm c k aA
  obtain⟨h,_⟩:=aAQ hm c k aA
  have f:=aEt hm c k aA
  have e:=(aDA hm c k aA).2
  rw[Mh d];unfold Ab;split
  .exact j.round hm h f e _
  .exact j.nE hm h f e _
def NR(st:Int):Prop:=st= -10\/st= -1\/st= -4\/st= -2
instance(st:Int):Decidable (NR st):=by unfold NR;infer_instance
def aKr(s:aI)(x y:bM)(wt:List Int)(ag:Nat)(l:List Int):(eY s x y wt ag l).1=(bZ s l).1\/((bZ s l).1=0/\((eY s x y wt ag l).1= -3\/(eY s x y wt ag l).1= -6)):=by
 unfold eY
 by_cases h:(bZ s l).1≠0\/(bZ s l).2.1=0\/jW (if ag=0 then x else y) (bZ s l).2.1 (bZ s l).2.2=decide (gR (bZ s l).2.1)
 .rw[aH h];exact .inl rfl
 .rw[aC h]
  have c:(bZ s l).1=0:=nO fun d=>h (.inl d)
  clear h;split
  .split
   .exact .inr ⟨c,.inl rfl⟩
   .exact .inl c.symm
  .split
   .exact .inr ⟨c,.inl rfl⟩
   .split
    .exact .inr ⟨c,.inr rfl⟩
    .exact .inl c.symm
def aIw(s:aI)(x y:bM)(wt:List Int)(ag:Nat)(l:List Int):NR (eY s x y wt ag l).1↔NR (bZ s l).1:=by
 rcases aKr s x y wt ag l with h | ⟨h,h' | h'⟩
 .rw[h]
 .rw[h,h'];decide
 .rw[h,h'];decide
def aP9(s:aI)(l:List Int): -100<=(bZ s l).1/\(bZ s l).1<=0:=by
 unfold bZ xI
 repeat' split
 all_goals first | decide | (dsimp only;omega)
def aUQ{s:aI}{x y:bM}{wt:List Int}{ag:Nat}{l:List Int}(h:(eY s x y wt ag l).2.1≠0):(eY s x y wt ag l).1=0:=by
 unfold eY at h|-
 by_cases c:(bZ s l).1≠0\/(bZ s l).2.1=0\/jW (if ag=0 then x else y) (bZ s l).2.1 (bZ s l).2.2=decide (gR (bZ s l).2.1)
 .rw[aH c] at h;exact absurd rfl h
 .rw[aC c] at h|-;clear c
  revert h
  split
  .split
   .exact fun h=>absurd rfl h
   .exact fun _=>rfl
  .split
   .exact fun h=>absurd rfl h
   .split
    .exact fun h=>absurd rfl h
    .exact fun _=>rfl
def aUO(s:aI)(x y:bM)(wt:List Int)(ag:Nat)(l:List Int): -100<=(eY s x y wt ag l).1/\(eY s x y wt ag l).1<=0:=by
 have:=aP9 s l
 rcases aKr s x y wt ag l with h | ⟨h,h' | h'⟩<;>omega
structure RI(s:aI)(y:bX)(o:Option (List Int)):Prop where
 no:o=none->y.h1=0
 yes:∀l,o=some l->(y.h1=1/\y.w1=l)\/(y.h1=2/\∃st r,y.w1=l.headD 0::IntKind.u32.wrap st::r/\(NR st↔NR (bZ s l).1)/\ -100<=st/\st<=0)
 at1:y.at_=1->∃l,o=some l/\y.h1=1/\y.w1=l/\¬NR (bZ s l).1
section
variable{o:Option (List Int)}
def RI.same{y':bX}(h:RI s y o)(c:y'.h1=y.h1)(d:y'.w1=y.w1)(h3:y'.at_=y.at_):RI s y' o:=⟨fun e=>by rw[c];exact h.no e,fun l e=>by rw[c,d];exact h.yes l e,fun e=>by rw[c,d];exact h.at1 (h3▸e)⟩
def RI.msg(h:RI s y o)(d:y.h1=1):∃l,o=some l/\y.w1=l:=by
 cases o with
 | none=>have:=h.no rfl;omega
 | some l=>
  rcases h.yes l rfl with⟨_,c⟩ | ⟨c,_⟩
  .exact⟨l,rfl,c⟩
  .omega
def aMe{l:List Int}{st:Int}(h:y.h1=1)(d:y.w1=l)(c:y.at_≠1)(f:NR st↔NR (bZ s l).1)(hs: -100<=st/\st<=0):RI s (rB s x y 1 st) (some l):=by
 refine⟨(fun e=>by cases e),fun i e=>?_,fun e=>absurd e c⟩;obtain rfl:=sJ e;refine .inr ⟨rfl,st,if st=0 then qT s x l else[],?_,f,hs⟩
 show vZ s x (jM y 1) st=_
 unfold vZ
 show y.w1.headD 0::_::(if st=0 then qT s x y.w1 else[])=_
 rw[d]
def RI.aHM(h:RI s y o)(st:Int):RI s (rB s x y 0 st) o:=h.same rfl rfl rfl
def RI.step(hm:s.made)(hf:oH s y)(h:RI s y o):RI s (jX s x y).1 o:=by
 unfold jX;dsimp only
 have j:∀(k:bX) (a:Nat) (r:aS×Bool),RI s k o->k.at_=(a:Int)->a < 2->RI s (yO s k r) o:=fun k a r n d p=>by
  unfold yO;split
  .rw[d,dL];obtain rfl | rfl:a=0\/a=1:=by omega
   .have:RI s {k with at_:= -1} o:=⟨n.no,n.yes,fun e=>absurd (show(-1:Int)=1 from e) aE⟩
    exact this.aHM 0
   .obtain⟨l,G,B,E,C⟩:=n.at1 (by rw[d];rfl);subst G;exact aMe (y:={k with at_:= -1}) B E (show(-1:Int)≠1 by decide) ⟨fun h=>absurd h aE,fun h=>absurd h C⟩ aE
  .exact n
 rcases hf.at_ with d | ⟨a,d,p,_⟩
 .have c:y.at_ < 0:=aA
  cases i:rG y with
  | none=>
   have t:kX s x y=(y,false):=by unfold kX;rw[i]
   rw[t,aH ⟨c,rfl⟩];exact h
  | some a =>
   have p:=Yq hf.fm.la i
   have f:zT y a=1:=by
    unfold rG at i;split at i
    .cases i;assumption
    .split at i
     .cases i;assumption
     .cases i
   have t:kX s x y=nX s x y a:=by unfold kX;rw[i]
   rw[t]
   by_cases hd:(cY s x y a).2.1=0
   .have e:nX s x y a=(rB s x {y with last:=a} a (cY s x y a).1,false):=by
     unfold nX;dsimp only;rw[aH hd]
    rw[e,aH ⟨c,rfl⟩]
    have n:RI s {y with last:=(a:Int)} o:=h.same rfl rfl rfl
    obtain rfl | rfl:a=0\/a=1:=by omega
    .exact n.aHM _
    .obtain⟨l,rfl,m⟩:=h.msg f;refine aMe (y:={y with last:=((1:Nat):Int)}) f m (by show y.at_≠1;omega) ?_ (aUO _ _ _ _ _ _)
     have:=aIw s y.x y.y (kI s x) 1 (jM y 1)
     rw[show jM y 1=l from m] at this;unfold cY;rw[show jM y 1=l from m];exact this
   .have e:nX s x y a=({y with last:=a,x:=fH y.x a (cY s x y a).2.1 (cY s x y a).2.2,y:=iI y.y a (cY s x y a).2.1 (cY s x y a).2.2,at_:=a,kind:=(cY s x y a).2.1,id:=(cY s x y a).2.2},true):=by
     unfold nX;dsimp only;rw[aC hd]
    rw[e,aC aB,aH c];dsimp only;refine j _ a _ ⟨h.no,h.yes,fun w=>?_⟩ rfl p
    have w:(a:Int)=1:=w
    obtain rfl:a=1:=by omega
    obtain⟨l,rfl,m⟩:=h.msg f;refine⟨l,rfl,f,m,?_⟩
    have z:=aIw s y.x y.y (kI s x) 1 l
    have F:(eY s y.x y.y (kI s x) 1 l).1=0:=by
     have hd:(eY s y.x y.y (kI s x) 1 (jM y 1)).2.1≠0:=hd
     rw[show jM y 1=l from m] at hd;exact aUQ hd
    rw[F] at z;intro A;exact absurd (z.2 A) aE
 .have c:¬y.at_ < 0:=aA
  rw[aC (fun D=>c D.1),aC c];exact j y a _ h d p
def uN(s:aI)(o:Option (List Int))(e:dU):Option (Option (List Int)):=
 if e.kind=115 then(match o with | none=>some (some e.words) | some _=>none)
 else if e.kind=114 then(match o with | some l=>if 2<=e.words.length/\e.words.headD 0=l.headD 0/\(NR (IntKind.i32.wrap (e.words.getD 1 0))↔NR (bZ s l).1) then some none else none | none=>none)
 else some o
def sW(s:aI):Option (List Int)->List dU->Option (Option (List Int))
 | o,[]=>some o
 | o,e::es=>(uN s o e).bind fun c=>sW s c es
def Mi:∀(a b:List dU) (o:Option (List Int)),sW s o (a++b)=(sW s o a).bind fun c=>sW s c b
 | [],b,o=>rfl
 | e::a,b,o=>by
  show(uN s o e).bind (fun c=>sW s c (a++b))=((uN s o e).bind fun c=>sW s c a).bind _
  cases uN s o e with
  | none=>rfl
  | some c=>exact Mi a b c
def aHA:∀(b:List dU) (o:Option (List Int)),(∀e∈b,e.kind≠115/\e.kind≠114)->sW s o b=some o
 | [],o,_=>rfl
 | e::b,o,h=>by
  have c:=h e aB
  show(uN s o e).bind (fun f=>sW s f b)=some o
  rw[show uN s o e=some o by unfold uN;rw[aC c.1,aC c.2]];exact aHA b o fun i d=>h i (vL _ d)
def RW(s:aI)(w:aT):Prop:=∃o,sW s none w.es=some o/\RI s w.m.y o
def RW.more{w:aT}{m':fA}{d:Nat->mW}{c:Nat->Bool}{b:List dU}(h:RW s w)(hy:∀o,RI s w.m.y o->RI s m'.y o)(j:∀e∈b,e.kind≠115/\e.kind≠114):RW s ⟨m',d,c,w.es++b⟩:=by
 obtain⟨o,i,f⟩:=h;refine⟨o,?_,hy o f⟩
 show sW s none (w.es++b)=_
 rw[Mi,i];exact aHA b o j
def RW.keep{w:aT}{m':fA}{d:Nat->mW}{c:Nat->Bool}(h:RW s w)(hy:∀o,RI s w.m.y o->RI s m'.y o):RW s ⟨m',d,c,w.es⟩:=by
 obtain⟨o,e,f⟩:=h;exact⟨o,e,hy o f⟩
def RW.end_{w:aT}(h:RW s w)(t:Int):RW s (w.end_ t):=by
 unfold aT.end_;split
 .exact h.more (fun _ h=>h) (fun e c=>by rw[mL] at c;subst c;exact⟨show(101:Int)≠115 by decide,show(101:Int)≠114 by decide⟩)
 .exact h.keep fun _ h=>h
def aNT(s:aI)(z:bA)(y:bX)(x:aS)(t:Int):∀o,RI s y o->RI s (pI s z y x t).2.1 o:=fun o h=>by
 have c:RI s (gL y 0) o:=by
  unfold gL;rw[aH rfl];split<;>exact h.same rfl rfl rfl
 have d:∀l,RI s (fM y 0 l).2 o:=fun l=>by
  unfold fM;rw[aC aE,aH rfl];split<;>exact h.same rfl rfl rfl
 unfold pI;split
 .exact h
 .split
  .split<;>exact h
  .split
   .split
    .unfold iP;split
     .split<;>exact c
     .split
      .exact h
      .split<;>exact d _
    .exact h
   .exact h
def RW.task{w:aT}(h:RW s w)(t:Int):RW s (w.task s t):=by
 refine RW.end_ ?_ t
 have d:=aNT s w.m.z w.m.y w.m.x t
 unfold aT.jJ;split
 .exact h.more d (fun e c=>by rw[mL] at c;subst c;exact⟨show(98:Int)≠115 by decide,show(98:Int)≠114 by decide⟩)
 .exact h.keep d
def RW.dH{w:aT}(hm:s.made)(hf:oH s w.m.y)(h:RW s w):RW s (w.dH s):=h.keep fun _ h=>h.step hm hf
def RW.tick{w:aT}(h:RW s w)(c:Int):RW s (w.tick s c):=by
 refine RW.end_ (RW.end_ (RW.end_ ?_ 0) 1) 2
 exact h.more (fun _ h=>h) (fun e d=>by
  obtain⟨a,_,rfl⟩:=fR.1 d
  exact⟨show(100:Int)≠115 by decide,show(100:Int)≠114 by decide⟩)
def RW.send{w:aT}(h:RW s w)(l:List Int):RW s (w.send l).2:=by
 obtain⟨o,i,f⟩:=h;unfold aT.send;dsimp only;split
 .rename_i c
  have:(fM w.m.y 1 l).2=w.m.y:=by
   unfold fM at c|-;rw[aC aE,aC aE] at c|-;split at c
   .rename_i d;rw[aH d]
   .exact absurd rfl c
  refine⟨o,i,?_⟩
  show RI s (fM w.m.y 1 l).2 o
  rw[this];exact f
 .rename_i c
  have n:w.m.y.h1=0/\(fM w.m.y 1 l).2={w.m.y with h1:=1,w1:=l}:=by
   unfold fM at c|-;rw[aC aE,aC aE] at c|-;split at c
   .exact absurd aB c
   .rename_i d
    rw[aC d];exact⟨nO d,rfl⟩
  cases o with
  | some k=>
   rcases f.yes k rfl with⟨j,_⟩ | ⟨j,_⟩<;>omega
  | none =>
   refine⟨some l,?_,?_⟩
   .show sW s none (w.es++[_])=_
    rw[Mi,i];rfl
   .show RI s (fM w.m.y 1 l).2 (some l)
    rw[n.2];refine⟨(fun e=>by cases e),fun k e=>.inl ⟨rfl,sJ e⟩,fun e=>?_⟩;obtain⟨k,j,_⟩:=f.at1 e;cases j
def RW.take{w:aT}(h:RW s w):RW s w.take:=by
 obtain⟨o,i,f⟩:=h
 have d:kZ w.m.y 1=if w.m.y.h1=2 then some w.m.y.w1 else none:=by
  unfold kZ;rw[aC aE,aH rfl]
 have n:gL w.m.y 1=if w.m.y.h1=2 then {w.m.y with h1:=0,w1:=[]} else w.m.y:=by
  unfold gL;rw[aC aE,aH rfl]
 unfold aT.take;rw[d,n]
 by_cases c:w.m.y.h1=2
 .rw [aH c, aH c];dsimp only;cases o with
  | none=>have:=f.no rfl;omega
  | some l =>
   rcases f.yes l rfl with⟨j,_⟩ | ⟨_,st,r,j,k,t,z⟩
   .omega
   refine⟨none,?_,fun _=>rfl,(fun _ e=>by cases e),fun e=>?_⟩
   .show sW s none (w.es++[_])=_
    rw[Mi,i]
    have hw:IntKind.i32.wrap (IntKind.u32.wrap st)=st:=by
     simp[IntKind.wrap,IntKind.signed,IntKind.bits];split<;>omega
    show(uN s (some l) {Qy with kind:=114,words:=w.m.y.w1}).bind (fun p=>some p)=_
    unfold uN;rw[aC (show ¬(114:Int)=115 by decide),aH rfl];dsimp only;rw[j,aH ⟨aB,rfl,by simp only[List.getD_cons_succ,List.getD_cons_zero,hw];exact k⟩];rfl
   .obtain⟨x,_,h7,_⟩:=f.at1 e;omega
 .rw[aC c,aC c];exact⟨o,i,f⟩
def RW.nE{w:aT}(hm:s.made)(hf:oH s w.m.y)(h:RW s w)(p:Au):RW s (w.nE s p).2:=by
 unfold aT.nE;split
 .unfold aT.call;dsimp only;split<;>exact h.keep fun _ h=>h
 .split
  .exact h.task _
  .split
   .exact h.dH hm hf
   .split
    .exact h.tick _
    .split
     .exact h.send _
     .split
      .exact h.take
      .exact h
def rw0:RW s (Mf s):=⟨none,rfl,fun _=>rfl,(fun _ e=>by cases e),fun e=>absurd (show(-1:Int)=1 from e) aE⟩
def RW.round{w:aT}{n:Nat}(hm:s.made)(hw:iK s n w)(h:RW s w)(c:Int):RW s (w.round s c):=by
 have d:=((hw.task hm 0).task hm 1).task hm 2
 exact((((h.task 0).task 1).task 2).dH hm d.m.fw).tick c
def aH4(hm:s.made){cK:List fQ}(f:∀a∈cK,a.ok):∀k,k<=cK.length->iK s (k*4) (runN s cK k)/\RW s (runN s cK k)
 | 0,_=>⟨aAK hm,rw0⟩
 | k+1,hk=>by
  obtain⟨d,h⟩:=aH4 hm f k aA;obtain⟨a,c⟩:=get_some (l:=cK) (i:=k) aA
  have e:=f a (dJ c)
  rw[Mh c];refine⟨(aC2 hm d e).le aA,?_⟩;unfold Ab;split
  .exact h.round hm d _
  .exact h.nE hm d.m.fw _
end
def aMk(s:aI)(v:Value)(hs:List HP)(q:Piece):Prop:=∃c d A k,v=.tuple #[pt c,iv 0]/\hs=[pR c d (.slice A (dS s).length k) ⟨[],false⟩]/\qK q A (dS s).length (dS s)
def aQJ(s:aI)(A1 A2 A3 A4:Option Addr)(n1 k1 n2 k2 n3 k3 n4 k4:Nat)(w:World)(hW:jH w s A1 n1 A2 n2 A3 n3 A4 n4)(f:Rf s=0):
  Cz 35 #[.agg #[.slice A1 n1 k1,.slice A2 n2 k2,.slice A3 n3 k3,.slice A4 n4 k4]] w (fun y w'=>(∃v hs q,y=.returned v/\q.w=w'/\aMk s v hs q/\iV w hs q)/\Below w.heap.size w w'):=by
 refine bQ func35 ntmps35 ?_;refine iG fun z=>?_;refine gZ (fun e st=>aAd s A1 A2 A3 A4 n1 k1 n2 k2 n3 k3 n4 k4 e (hW.le (st.started aB))) ?_;rw[f];refine kC rfl aE ?_;refine iJ ?_;refine fO ?_;refine jS ?_;refine jP rfl aE ?_;refine aDa rfl rfl aE ?_;refine iJ ?_;refine eG (fun h=>?_) (fun h=>?_)
 .
  exact absurd rfl h
 .
  refine jL [] (Jc (dS s)) (fun e st=>aEg s A1 A2 A3 A4 n1 k1 n2 k2 n3 k3 n4 k4 e (hW.le (st.started aB))) ?_;rintro _ e l ⟨x,r,rfl,c⟩ k _ d
  have d:=d aB
  have c:=c.le k
  clear k;refine Xj aE fun o=>?_;refine aF ?_;refine iG fun t=>?_;refine oP ?_;refine dX [l] [] [0] fun q _ j i=>?_;refine kN fun e st=>⟨⟨_,_,⟨e,q.Z⟩,rfl,rfl,⟨t,o,x,r,rfl,rfl,(c.le (j l aB)).le (fun b n=>⟨n,?_⟩)⟩,st.newR aB aB (i aB (fun p m=>by simp at m;subst m;exact d))⟩,st.below aB⟩
  exact st.ro (by simp:q∈_) n
structure Je where
 c:Cn
 h:List Int
def xE(h:List Int)(t d:Nat):Int:=h[t*6+d]?.getD 0
def Pg(aG:List bR)(d:Nat):Nat:=(aG[d]?.map (·.aX.length)).getD 0
def kT(aG:List bR)(x:Je)(t:Nat)(d dev bF:Int):Int×Je:=
 if d=103 then((lC aG.length x.c dev).1,⟨(lC aG.length x.c dev).2,if(lC aG.length x.c dev).1=0 then x.h.set (t*6+dev.toNat) (IntKind.i64.wrap (xE x.h t dev.toNat+1)) else x.h⟩)
 else if d=112 then(if ¬(0<=dev/\dev < aG.length) then(4,x) else if xE x.h t dev.toNat=0 then(6,x) else
  ((mS aG.length x.c dev).1,⟨(mS aG.length x.c dev).2,if(mS aG.length x.c dev).1=0 then x.h.set (t*6+dev.toNat) (IntKind.i64.wrap (xE x.h t dev.toNat - 1)) else x.h⟩))
 else if d=115 then((qF x.c).1,⟨(qF x.c).2,x.h⟩)
 else if d=109 then((qG x.c).1,⟨(qG x.c).2,x.h⟩)
 else if d=114\/d=119 then(if ¬(0<=dev/\dev < aG.length)\/bF < 0\/(Pg aG dev.toNat:Int)<=bF then(4,x) else if xE x.h t dev.toNat=0\/x.c.lU=true then(6,x) else(0,x))
 else(0,x)
def aJS{aG:List bR}{x:Je}{t:Nat}{c dev bF:Int}:(kT aG x t c dev bF).2.h.length=x.h.length:=by
 unfold kT
 repeat (split<;>try (simp only[pJ];done))
 all_goals first | rfl | (dsimp only;split<;>simp)
def aV5{d:Nat}{c:Cn}{dev:Int}(h:(lC d c dev).1=0):0<=dev/\dev < d:=by
 unfold lC at h
 by_cases f:c.lU=true
 .rw[aH f] at h;cases h
 .rw[aC f] at h
  by_cases e:0<=dev/\dev < d
  .exact e
  .rw[aH e] at h;cases h
def Ic(h:List Int):List Value:=h.map (Value.int .i64)
def aKG{a b:Value}{l:List Value}{i:Nat}:(a::b::l)[2+i]? =l[i]? :=by rw[Nat.add_comm];rfl
def aOx{a b v:Value}{l:List Value}{i:Nat}:(a::b::l).set (2+i) v=a::b::l.set i v:=by rw[Nat.add_comm];rfl
def hcell{a b:Value}{h:List Int}{t d:Nat}{v:Int}(c:h[t*6+d]? =some v):(a::b::Ic h)[2+t*6+d]? =some (iv v):=by rw[wT,aKG,Ic,eO,c];rfl
def jE{a b:Value}{h:List Int}{t d:Nat}{v:Int}:(a::b::Ic h).set (2+t*6+d) (iv v)=a::b::Ic (h.set (t*6+d) v):=by rw[wT,aOx,Ic,Ic,Fi]
def Gu(d gc gm:Nat)(f e:Value)(x:Je):HP:=HP.many [HP.aK d 115 (f::pt gc::Ic x.h),pR gc gm e x.c]
def aXA{gc gm:Nat}{v:Value}{c:Cn}{w:World}(h:∃F,(pR gc gm v c).sat F w):iD w gc 2 (.bool c.lU):=by
 obtain⟨F,G,e,_⟩:=h
 have d:vE w gc _ _:=(e 0 _ rfl).2
 exact⟨d.lt,by rw[d.cell];rfl⟩
instance:Ba 113 3 112 6:={}
instance:Ba 112 6 3 1:={}
def Du{w:World}{e:Env}{R:List Piece}{d gc gm j:Nat}{f k:Value}{m:HP}{F:Nat->Prop}{fn:Func}{r:Int×Je}{n:Nat}(v:Int)(y:Je)(l:r=(v,y))(hF:∀b,F b->b < w.heap.size)(p:fn.results=#[.tmp j]:=by rfl)(o:e.get j=some (iv v):=by rfl)(t:⟨w,fun b=>b < w.heap.size/\¬F b⟩∈R:=by simp):
  XK ⟨n,[]⟩ w (bodyPost Tryz.prog fn (Wr (iv r.1) (Gu d gc gm f k r.2) w F) .ret) e R [m,pR gc gm k y.c,HP.aK d 115 (f::pt gc::Ic y.h),HP.many [cS,cS]]:=by
 subst l;refine aZ [1,2,3] ?_;refine aP 1 1 ?_;refine aP 0 0 ?_;exact xM p o fun x st=>⟨rfl,st.turns hF t (i:=0) rfl⟩
def aT9(E gc gm d L kn:Nat)(J k:Option Addr)(aG:List bR)(x:Je)(t:Nat)(C dev bF V:Int)(w:World)(F:Nat->Prop)(hp:(Gu E gc gm (.slice J d L) (.slice k d kn) x).sat F w)(hF:∀b,F b->b < w.heap.size)
  (D:kQ (gB ⟨w,fun b=>b < w.heap.size/\¬F b⟩) (sV (gB ⟨w,fun b=>b < w.heap.size/\¬F b⟩)) 80 6 J d aG) (N:d=aG.length) (M:d<=6) (ht:t < 3) (hl:x.h.length=18):
  Cz 37 #[pt E,iv (t:Int),.agg #[.int .u8 C,iv dev,iv bF,.int .u32 V]] w (Wr (iv (kT aG x t C dev bF).1) (Gu E gc gm (.slice J d L) (.slice k d kn) (kT aG x t C dev bF).2) w F):=by
 refine fS func37 ntmps37 hp hF ?_;unfold Gu;refine bB 0 0 ?_;refine bB 1 1 ?_;refine aF ?_;refine eI fun g1=>?_;refine kC rfl aE ?_;refine iJ ?_
 have n:0<=dev->dev < (d:Int)->∃(e:Nat) (v:Int),dev=(e:Int)/\e < d/\x.h[t*6+e]? =some v/\xE x.h t e=v:=fun h0 h1=>by
  have l:x.h[t*6+dev.toNat]? =some _:=cX aA
  exact⟨dev.toNat,_,aA,aA,l,by rw[xE,l];rfl⟩
 refine Rn 7 (0<=dev/\dev < (d:Int)) ?_ ?_
 .refine Nz ?_;refine Ob 13 rfl (fun o=>?_) (fun o=>?_)
  .refine lJ 4 ?_;refine lW ?_;refine eR ?_;exact Gd
  .refine lJ 4 ?_;refine lW ?_;refine eR ?_;exact Gd
 refine aF ?_;refine eG (fun h=>?_) (fun h=>?_)
 .refine Rm [6,7] ?_;refine aF ?_;refine gH 1 (pR gc gm (.slice k d kn) (lC d x.c dev).2) (fun m z _ j f _=>aK1 gc gm d kn k x.c m z dev j f) ?_;refine bP (fun h=>?_) (fun h=>?_)
  .have B:=aV5 h
   obtain⟨e,v,rfl,r,l,A⟩:=n B.1 B.2;refine aF ?_;refine Nz ?_;refine kG 8 ?_ (bL:=by exact bT rfl (Rd.aK 2 rfl (hcell l)));refine kG 9 ?_ (bL:=by exact aCg rfl rfl rfl);refine lJ 10 ?_;refine aR 14 ?_;refine tR 2 rfl aJ rfl rfl rfl (by simp[Ic];omega) ?_;dsimp only[List.set];rw[jE];refine cT ?_;refine kA ?_;exact Du ((lC d x.c e).1) ⟨_,x.h.set (t*6+e) _⟩ (by unfold kT;simp_all) hF
  .refine aF ?_;exact Du ((lC d x.c dev).1) ⟨_,x.h⟩ (by unfold kT;simp_all) hF
 refine eG (fun h=>?_) (fun h=>?_)
 .refine bP (fun h=>?_) (fun h=>?_)
  .refine aF ?_;exact Du 4 x (by unfold kT;simp_all) hF
  obtain⟨e,v,rfl,r,l,A⟩:=n (by simp_all) (by simp_all);refine aF ?_;refine Nz ?_;refine kG 8 ?_ (bL:=by exact bT rfl (Rd.aK 2 rfl (hcell l)));refine lJ 9 ?_;refine kA ?_;refine eG (fun h=>?_) (fun h=>?_)
  .exact Du 6 x (by unfold kT;simp_all) hF
  refine Rm [6,7] ?_;refine aF ?_;refine gH 1 (pR gc gm (.slice k d kn) (mS d x.c e).2) (fun m z _ j f _=>aKz gc gm d kn k x.c m z e j f) ?_;refine eG (fun h=>?_) (fun h=>?_)
  .refine Nz ?_;refine kG 8 ?_ (bL:=by exact bT rfl (Rd.aK 2 rfl (hcell l)));refine kG 9 ?_ (bL:=by exact aCf rfl rfl rfl);refine lJ 10 ?_;refine aR 14 ?_;refine tR 2 rfl aJ rfl rfl rfl (by simp[Ic];omega) ?_;dsimp only[List.set];rw[jE];refine cT ?_;refine kA ?_;exact Du ((mS d x.c e).1) ⟨_,x.h.set (t*6+e) _⟩ (by unfold kT;simp_all) hF
  .exact Du ((mS d x.c e).1) ⟨_,x.h⟩ (by unfold kT;simp_all) hF
 refine eG (fun h=>?_) (fun h=>?_)
 .refine gH 1 (pR gc gm (.slice k d kn) (qF x.c).2) (fun m z _ j f _=>aKx gc gm d kn k x.c m z j f) ?_;exact Du ((qF x.c).1) ⟨_,x.h⟩ (by unfold kT;simp_all) hF
 refine bP (fun h=>?_) (fun h=>?_)
 .refine aF ?_;refine gH 1 (pR gc gm (.slice k d kn) (qG x.c).2) (fun m z _ j f _=>aKy gc gm d kn k x.c m z j f) ?_;exact Du ((qG x.c).1) ⟨_,x.h⟩ (by unfold kT;simp_all) hF
 refine Rn 103 (C=114\/C=119) ?_ ?_
 .refine aF ?_;refine eG (fun h=>?_) (fun h=>?_)
  .exact Gd
  .exact Gd
 refine bP (fun h=>?_) (fun h=>?_)
 .refine fO ?_;refine Rn 127 (¬(0<=dev/\dev < (d:Int))\/bF < 0\/(Pg aG dev.toNat:Int)<=bF) ?_ ?_
  .refine Nz ?_;refine Ob 108 rfl (fun o=>?_) (fun o=>?_)
   .refine lJ 3 ?_;refine lW ?_;refine eR ?_;exact Gd
   refine lJ 3 ?_;refine Ob 113 rfl (fun o=>?_) (fun o=>?_)
   .refine lJ 8 ?_;refine lW ?_;refine eR ?_;exact Gd
   obtain⟨e,v,rfl,r,_,_⟩:=n (by simp_all) (by simp_all);obtain⟨y,K⟩:∃y,aG[e]? =some y:=⟨_,cX aA⟩
   have I:Pg aG e=y.aX.length:=by rw[Pg,K];rfl
   obtain⟨bV,X,rV,rfl,H,_,U,G⟩:=D.aHH K;obtain⟨Ar,Y,kr,R,Z,T,rfl,O,_⟩:=U;refine lJ 8 ?_;refine aXi 18 ?_ (bL:=by exact bT rfl (Rd.ro (p:=⟨w,fun b=>b < w.heap.size/\¬F b⟩) aB H (G 4 _ rfl)));refine lJ 19 ?_;refine lW ?_;refine eR ?_;exact Wk (by repeat (first | exact trivial | refine⟨rfl,?_⟩)) (Zq rfl (by rw[dL,I];omega))
  refine bP (fun h=>?_) (fun h=>?_)
  .refine aF ?_;exact Du 4 x (by unfold kT;simp_all) hF
  refine sQ ?_;refine eR ?_;refine Rn 144 (xE x.h t dev.toNat=0\/x.c.lU=true) ?_ ?_
  .obtain⟨e,v,rfl,r,l,A⟩:=n aA aA;refine Nz ?_;refine kG 8 ?_ (bL:=by exact bT rfl (Rd.aK 2 rfl (hcell l)));refine lJ 9 ?_;refine Ob 138 rfl (fun o=>?_) (fun o=>?_)
   .refine lJ 11 ?_;refine Iz 15 ?_;refine lJ 16 ?_;refine lW ?_;refine eR ?_;exact Gd
   refine lJ 11 ?_;refine aR 15 ?_;refine aF ?_;refine gZ (fun m st=>aK2 gc x.c.lU m (aXA (st.sat (i:=1) rfl))) ?_;refine bH ?_;refine lJ 16 ?_;refine lW ?_;refine eR ?_;exact Wk (by repeat (first | exact trivial | refine⟨rfl,?_⟩)) (by show some (Value.bool x.c.lU)=some (Value.bool (decide _));congr 2;simp[A,o])
  refine eG (fun h=>?_) (fun h=>?_)
  .exact Du 6 x (by unfold kT;simp_all) hF
  exact Du 0 x (by unfold kT;simp_all) hF
 refine aF ?_;exact Du 0 x (by unfold kT;simp_all) hF
section
attribute [local irreducible] KC KI KQ
instance:Inhabited Ev:=⟨⟨0,0,0,0,0,0,0,0,0,0,false,0,false,none,0,[]⟩⟩
def dZ(aM:List Ev):List Ev:=(jK aM).map fun i=>aM[i]?.getD default
def aHu{aM:List Ev}{k i:Nat}(h:(jK aM)[k]? =some i):∃x,aM[i]? =some x/\(dZ aM)[k]? =some x/\gD x=true:=by
 have e:=dJ h
 unfold jK at e;obtain⟨j,f⟩:=sY.1 e
 have c:=mI.1 j
 have d:aM[i]? =some aM[i]:=cX c
 refine⟨aM[i],d,?_,?_⟩
 .rw[dZ,eO,h,lO,d];rfl
 .rw[mH,d] at f;exact f
structure Ay where
 x:Je
 last:List Int
def aDU:Ay:=⟨⟨⟨[],false⟩,List.replicate 18 0⟩,[0,0,0]⟩
def Qf(σ:Ay)(e:Ev):Int:=σ.last[e.task.toNat]?.getD 0
def uP(aG:List bR)(σ:Ay)(e:Ev):Ay:=if e.kind=98 then⟨(kT aG σ.x e.task.toNat e.ck e.dev e.bF).2,σ.last.set e.task.toNat (kT aG σ.x e.task.toNat e.ck e.dev e.bF).1⟩ else σ
def Di(σ:Ay)(e:Ev):Prop:=e.kind≠98/\(e.err≠Qf σ e\/(e.rv≠0/\(Qf σ e≠0\/¬(e.ck=114\/e.ck=119))))
instance(σ:Ay)(e:Ev):Decidable (Di σ e):=by unfold Di;infer_instance
def mM(aG:List bR)(L:List Ev)(k:Nat):Ay:=(L.take k).foldl (uP aG) aDU
def rJ(aG:List bR)(L:List Ev)(k:Nat):Bool:=match L[k]? with | some e=>decide (Di (mM aG L k) e) | none=>false
def Qu(p:Nat->Bool):Nat->Option Nat
 | 0=>none
 | n+1=>match Qu p n with | some k=>some k | none=>if p n then some n else none
def aFa{p:Nat->Bool}:∀{n:Nat},(∀j,j < n->p j=false)->Qu p n=none
 | 0,_=>rfl
 | n+1,h=>by
  have ih:=aFa (n:=n) fun j c=>h j aA
  simp[Qu,ih,h n aA]
def aJD{p:Nat->Bool}{k:Nat}(hk:∀j,j < k->p j=false)(hp:p k=true):∀{n:Nat},k < n->Qu p n=some k
 | 0,h=>by omega
 | n + 1, h => by
  rcases dI k n with c | c
  .have ih:=aJD hk hp (n:=n) c
   simp[Qu,ih]
  .obtain rfl:k=n:=by omega
   simp[Qu,aFa hk,hp]
def aDW(aG:List bR)(L:List Ev):Option Nat:=Qu (rJ aG L) L.length
def Dh(aG:List bR)(aM:List Ev):Int:=match aDW aG (dZ aM) with | some k=>((jK aM)[k]?.getD 0:Nat) | none=> -1
def Xt(aM:List Ev):(dZ aM).length=(jK aM).length:=by simp[dZ]
def aQv{aG:List bR}{aM:List Ev}(h:∀j,j < (jK aM).length->rJ aG (dZ aM) j=false):Dh aG aM= -1:=by
 rw[Dh,aDW,aFa (by rw[Xt];exact h)]
def aIq{aG:List bR}{aM:List Ev}{k i:Nat}(hi:(jK aM)[k]? =some i)(h:∀j,j < k->rJ aG (dZ aM) j=false)(c:rJ aG (dZ aM) k=true):Dh aG aM=(i:Int):=by
 rw[Dh,aDW,aJD h c (by rw[Xt];exact(cE.1 hi).1)];simp[hi]
def aIv{aG:List bR}{L:List Ev}{k:Nat}{x:Ev}(h:L[k]? =some x):mM aG L (k+1)=uP aG (mM aG L k) x:=by
 rw[mM,mM,vK,h,Jz,pK];rfl
def aJ2(aG:List bR):∀(l:List Ev) (σ:Ay),σ.last.length=3/\σ.x.h.length=18->(l.foldl (uP aG) σ).last.length=3/\(l.foldl (uP aG) σ).x.h.length=18
 | [],σ,h=>h
 | e::l,σ,h=>by
  refine aJ2 aG l _ ?_;unfold uP;split
  .exact⟨by simpa using h.1,by rw[aJS];exact h.2⟩
  .exact h
def aEb(aG:List bR)(L:List Ev)(k:Nat):(mM aG L k).last.length=3/\(mM aG L k).x.h.length=18:=aJ2 aG _ _ ⟨rfl,rfl⟩
def aHt{e:Ev}(h:gD e=true):0<=e.task/\e.task < 3:=by
 unfold gD at h;simp only[jY,decide_eq_true_eq] at h;exact h.2
def aT7(f gc gm c kd kn:Nat)(j k:Option Addr)(aG:List bR)(x:Je)(tk i dev bF m:Int)(w:World)(F:Nat->Prop)(hp:(Gu f gc gm (.slice j c kd) (.slice k c kn) x).sat F w)(hF:∀b,F b->b < w.heap.size)
  (e:kQ (gB ⟨w,fun b=>b < w.heap.size/\¬F b⟩) (sV (gB ⟨w,fun b=>b < w.heap.size/\¬F b⟩)) 80 6 j c aG) (l:c=aG.length) (d:c<=6) (n:0<=tk) (h3:tk < 3) (hl:x.h.length=18):
  Cz 37 #[pt f,iv tk,.agg #[.int .u8 i,iv dev,iv bF,.int .u32 m]] w (Wr (iv (kT aG x tk.toNat i dev bF).1) (Gu f gc gm (.slice j c kd) (.slice k c kn) (kT aG x tk.toNat i dev bF).2) w F):=by
 obtain⟨t,rfl⟩:∃t:Nat,tk=(t:Int):=⟨tk.toNat,aA⟩
 exact aT9 f gc gm c kd kn j k aG x t i dev bF m w F hp hF e l d aA hl
def aTr{w:World}{b o:Nat}{x:Ev}(h:∀f u,x.cells[f]? =some u->w.cell? ⟨b,o+f,none⟩=some u):∀j v,[Value.int .u8 x.ck,iv x.dev,iv x.bF,.int .u32 x.cv][j]? =some v->w.cell? ⟨b,o+2+j,none⟩=some v:=by
 intro j v c;rw[wT];refine h (2+j) v ?_;rw[Ev.cells,aKG]
 match j,c with
 | 0,c=>exact c
 | 1,c=>exact c
 | 2,c=>exact c
 | 3,c=>exact c
 | j+4,c=>simp at c
def Dr(l:List Int):List Value:=l.map (Value.int .i64)
def aIR{l:List Int}{i:Nat}{v:Int}(h:l[i]? =some v):(Dr l)[i]? =some (iv v):=by rw[Dr,eO,h];rfl
def aRM{l:List Int}{i:Nat}{v:Int}:(Dr l).set i (iv v)=Dr (l.set i v):=by rw[Dr,Dr,Fi]
def aGt(p0:Piece)(A:Option Addr)(n:Nat)(aM:List Ev)(y:Value)(w w':World):Prop:=∃g,y=.func (.func 56) #[] #[pt g]/\∀q,p0.Le q->(fresh w w').Le q->∀b off,(0 < n->A=some ⟨b,off,none⟩)->Iter Tryz.prog 56 [pt g] (jZ b off (jK aM)) q
def aKI(p0:Piece)(A:Option Addr)(n c:Nat)(aM:List Ev)(w:World)(hs:Er p0 A aM)(l:n=aM.length)(f:(n:Int)<=9223372036854775807):Cz 36 #[.slice A n c] w (fun y w'=>(∃x,y=.returned x/\aGt p0 A n aM x w w')/\Below w.heap.size w w'):=by
 refine fP func36 ntmps36 ?_;refine fO ?_;refine jS ?_;refine eI fun e=>?_;refine kC rfl aE ?_;refine iJ ?_;refine fO ?_;refine jS ?_;refine lH (vf:=[]) (vc:=[pt e]) rfl rfl aE ?_;refine kC rfl aE ?_;refine iJ ?_;refine Rl ?_;refine eR ?_;refine dX [] [0] [] fun q h _ d=>?_;refine Ai fun p st=>⟨⟨_,rfl,e,rfl,fun j m k b off i=>?_⟩,st.below aB⟩
 exact aVB j e b off n c A aM l i ((uI (o:=0) (v:=.slice A n c) (h 0 _ aB rfl) rfl).le ((st.oA aB (d aB aB)).trans' k)) (hs.le m) f
def Ws{nn:Nat}{w0:World}{L:List Nat}{Q:Exit->Act->World->Prop}{e e0:Env}{R:List Piece}{H:List HP}{u:Nat}{p:Prop}[Decidable p](hs:e0.Sub e:=by repeat (first | exact trivial | refine⟨rfl,?_⟩))(d:e.get u=some (.bool (decide p)):=by exact aJv):XK ⟨nn,[]⟩ w0 (KQ L (Exit.then (fun c w'=>∃b,c=mk L b/\eT ⟨nn,[]⟩ ((u,.bool (decide p))::e0) b/\St w0 R H w') Q) .normal) e R H:=aXf hs d
def aQn(s:aI)(A1 A2 A3 A4:Option Addr)(n1 k1 n2 k2 n3 k3 n4 k4:Nat)(A:Option Addr)(n c:Nat)(aM:List Ev)(w:World)(hW:jH w s A1 n1 A2 n2 A3 n3 A4 n4)(aEJ:Rf s=0)(Y:n4<=6)(hs:Er (all w) A aM)(hn:n=aM.length)(hn2:(n:Int)<=9223372036854775807):
  Cz 19 #[.agg #[.slice A1 n1 k1,.slice A2 n2 k2,.slice A3 n3 k3,.slice A4 n4 k4],.slice A n c] w (Rt (.tuple #[iv (Dh s.aG aM),iv 0]) w):=by
 have Qn:=hW.vO
 refine Gg (vs:=[.agg #[.slice A1 n1 k1,.slice A2 n2 k2,.slice A3 n3 k3,.slice A4 n4 k4],.slice A n c]) func19 rfl ntmps19 aB (St.start w) ?_;refine aW ?_;refine eI fun g1=>?_;refine eE fun B=>?_;refine eE fun C=>?_;refine aW ?_;refine gN (aMk s) (fun G st=>aQJ s A1 A2 A3 A4 n1 k1 n2 k2 n3 k3 n4 k4 G (hW.le (st.started aB)) aEJ) ?_;rintro _ _ qn ⟨N,R,O,T,rfl,rfl,_⟩ _
 have vT:(dS s).length=n4:=by rw[Qn];simp[dS]
 rw[vT];dsimp only[dW,dG]
 .
  refine aW ?_;refine eE fun E=>?_;refine Jg rfl rfl ?_;simp only[jR,Value.cells,List.set,List.take,List.drop,sI,nZ,mK,Bl,sZ,Nat.reduceAdd];refine lV ?_;refine lE ?_;refine qX ?_;refine aZ [0,1,2,3,5] ?_ (R':=[all w]);refine oP ?_;refine aFR (q:=∀j,j < 0->rJ s.aG (dZ aM) j=false) (fun _ h=>absurd h (Ju _)) ?_;refine aW ?_;refine eE fun H=>?_;refine aW ?_;refine jL [all w] (aGt (all w) A n aM) (fun G st=>aKI (all w) A n c aM G hs hn hn2) ?_;rintro _ G m ⟨g6,rfl,I⟩ hf Lc _
  have Lc:=Lc (all w) aB
  have yM:=hs.le Lc
  obtain⟨b,off,hA⟩:∃b off,0 < n->A=some ⟨b,off,none⟩:=by
   rcases zI n with h0 | h0
   .exact⟨0,0,fun h=>by omega⟩
   .obtain⟨b,off,hA,_⟩:=hs.2 aA;exact⟨b,off,fun _=>hA⟩
  have hit:=I m Lc hf b off hA
  clear I hf;refine lV ?_;refine lE ?_;refine Lo ?_;refine cF [(27,.func (.func 56) #[] #[pt g6]),(9,pt H),(8,pt E),(5,pt C),(4,pt B)] ?_;refine aZ [2,0,3,4,1,5] ?_ (R':=[m,all w])
  refine Ln (gf:=56) (lb:=[pt g6]) (encs:=jZ b off (jK aM)) (p:=m) rfl aJ hit aB (fun Z y=>?_) aE (fun k=>[Gu E N R (.slice A4 n4 k4) (.slice O n4 T) ((mM s.aG (dZ aM) k).x),HP.aK H 116 (Dr (mM s.aG (dZ aM) k).last),HP.aK C 45 [iv 0],HP.aK B 3 [iv 0],qJ (∀j,j < k->rJ s.aG (dZ aM) j=false)]) (fun _=>[HP.aK C 45 [iv 0],HP.aK B 3 [iv (Dh s.aG aM)]])
   (fun k Z e1 H1=>∃i:Nat,(jK aM)[k]? =some i/\e1=[(11,rT b off i),(10,iv (i:Int)),(9,pt H),(8,pt E),(5,pt C),(4,pt B)]/\H1=[Gu E N R (.slice A4 n4 k4) (.slice O n4 T) ((mM s.aG (dZ aM) k).x),HP.aK H 116 (Dr (mM s.aG (dZ aM) k).last),HP.aK C 45 [iv 0],HP.aK B 3 [iv 0],qJ (∀j,j < k->rJ s.aG (dZ aM) j=false)]) rfl ?_ ?_ ?_ ?_
  .simp only[jZ,fR] at y;obtain⟨i,_,rfl⟩:=y;rfl
  .
   intro l2 k Z W1 q X y Bw;obtain⟨i,F,rfl⟩:=Ut y;dsimp only[It,dW,dG];refine qX ?_;refine rL aJ ?_;refine kC rfl aE ?_;refine lV ?_;refine lE ?_;refine rL aJ ?_;refine kC rfl aE ?_;refine lV ?_;refine lE ?_;refine cF [(11,rT b off i),(10,iv (i:Int)),(9,pt H),(8,pt E),(5,pt C),(4,pt B)] ?_;exact Lp (H1:=[Gu E N R (.slice A4 n4 k4) (.slice O n4 T) ((mM s.aG (dZ aM) k).x),HP.aK H 116 (Dr (mM s.aG (dZ aM) k).last),HP.aK C 45 [iv 0],HP.aK B 3 [iv 0],qJ (∀j,j < k->rJ s.aG (dZ aM) j=false)]) ⟨i,F,rfl,rfl⟩
  .
   rintro l2 k Z W1 q X _ _ y Bw ⟨i,F,rfl,rfl⟩;obtain⟨x,Zg,r,U⟩:=aHu F
   have Qk:=aHt U
   have hin:i < n:=by rw[hn];exact(cE.1 Zg).1
   obtain rfl:=hA aA;obtain⟨z,d⟩:=yM.ev Zg
   have hl3:=(aEb s.aG (dZ aM) k).1
   obtain⟨lv,J⟩:∃v,(mM s.aG (dZ aM) k).last[x.task.toNat]? =some v:=⟨_,cX aA⟩
   have hla:Qf (mM s.aG (dZ aM) k) x=lv:=by rw[Qf,J];rfl
   dsimp only[dW,dG,rT];refine aW ?_;refine iF (Rd.ro (p:=m) aB z (d 0 _ rfl)) ?_;refine aW ?_;refine sA rfl (fun e=>?_) (fun e=>?_)
   .
    refine qX ?_;refine aXh [m,all w,q] [HP.aK H 116 (Dr (mM s.aG (dZ aM) k).last),HP.aK C 45 [iv 0],HP.aK B 3 [iv 0],qJ (∀j,j < k->rJ s.aG (dZ aM) j=false),X] 13 aJ aJ ?_;simp only[Fe,Po,Mn,List.drop_zero];refine bE 0 ?_;refine bE 1 ?_;refine bE 2 ?_;refine bE 3 ?_ (bL:=(vW aJ rfl (Rd.ro (p:=m) aB z (d 1 _ rfl))));refine bE 4 ?_;refine bE 5 ?_;refine bE 6 ?_;refine bE 7 ?_ (bL:=(vW aJ rfl (Rd.ro (p:=m) aB z (d 1 _ rfl))));refine bE 8 ?_;refine bE 9 ?_;refine bE 10 ?_;refine bE 11 ?_ (bL:=(aFo 4 aJ rfl (cI.of (vs:=[.int .u8 x.ck,iv x.dev,iv x.bF,.int .u32 x.cv]) fun f v hf=>Rd.ro (p:=m) aB z (aTr d f v hf)) rfl));refine dB 12 ?_;refine aDe (f:=37) (fi:=[]) (ca:=[]) 0 (Gu E N R (.slice A4 n4 k4) (.slice O n4 T) ((kT s.aG (mM s.aG (dZ aM) k).x x.task.toNat x.ck x.dev x.bF).2)) aJ rfl rfl rfl ⟨aE,rfl⟩ (fun G F1 st hp1 hF1 V=>aT7 E N R n4 k4 T A4 O s.aG _ x.task x.ck x.dev x.bF x.cv G F1 hp1 hF1 (hW.dev.mono (lN (V (all w) aB)) (fun _ _ h=>h.mono (lN (V (all w) aB)))) Qn Y Qk.1 Qk.2 (aEb _ _ _).2) ?_;refine aW ?_;refine jA ?_;refine iU ?_;refine mF (fun _ h=>h.tail) ?_;refine kV ?_;refine aW ?_;refine tR 1 rfl aJ rfl rfl rfl (by rw[Dr,Jv,(aEb _ _ _).1];omega) ?_;refine aW ?_;rw[aRM];refine aW ?_
    have M:mM s.aG (dZ aM) (k+1)=uP s.aG (mM s.aG (dZ aM) k) x:=aIv r
    have hb:rJ s.aG (dZ aM) k=false:=by rw[rJ,r];simp[Di,e]
    refine Eh 4 rfl fun l=>?_
    refine Wi 4 (q:=∀j,j < k+1->rJ s.aG (dZ aM) j=false) rfl (fun j hj=>by
     rcases dI j k with h1 | h1
     .exact l j h1
     .obtain rfl:j=k:=by omega
      exact hb) ?_
    refine aW ?_;rw[M,uP];rw[aH e];exact oX
   .
    refine aW ?_;refine iF (Rd.ro (p:=m) aB z (d 1 _ rfl)) ?_;refine Xo x.task.toNat x.task.toNat (n:=3) (el:=45) (sz:=1) aJ aJ rfl rfl aA aA aA aE ?_;refine iF (Rd.aK 1 rfl (aIR J)) ?_;refine aDa rfl rfl aE ?_;refine kC rfl aE ?_;refine lV ?_;refine lE ?_;refine aLD 13 (x.ck=114\/x.ck=119) ?_ ?_
    .skip
     refine aW ?_;refine iF (Rd.ro (p:=m) aB z (d 2 _ rfl)) ?_;refine aW ?_;refine cH (t:=62) rfl (fun K=>?_) (fun K=>?_)
     .
      refine aW ?_;exact Ws
     .
      refine aW ?_;refine iF (Rd.ro (p:=m) aB z (d 2 _ rfl)) ?_;refine aW ?_;exact Ws
    refine aLD 96 (x.err≠Qf (mM s.aG (dZ aM) k) x\/(x.rv≠0/\(Qf (mM s.aG (dZ aM) k) x≠0\/¬(x.ck=114\/x.ck=119)))) ?_ ?_
    .skip
     refine aFX 11 aJ aJ ?_;simp only[Fe,Po,Mn,List.drop_zero];refine bE 0 ?_;refine bE 1 ?_;refine bE 2 ?_;refine bE 3 ?_;refine bE 4 ?_ (bL:=(vW aJ rfl (Rd.ro (p:=m) aB z (d 6 _ rfl))));refine bE 5 ?_;refine bE 6 ?_;refine bE 7 ?_;refine bE 8 ?_ (bL:=(vW aJ rfl (Rd.ro (p:=m) aB z (d 1 _ rfl))));refine bE 9 ?_ (bL:=by exact aKh rfl rfl);refine bE 10 ?_ (bL:=(vW aJ rfl (Rd.aK 1 rfl (aIR J))));refine kV ?_;refine aW ?_;refine cH (t:=82) rfl (fun K=>?_) (fun K=>?_)
     .
      refine aW ?_;exact Ws
     .
      refine aW ?_;refine iF (Rd.ro (p:=m) aB z (d 7 _ rfl)) ?_;refine aW ?_;refine cH (t:=89) rfl (fun K=>?_) (fun K=>?_)
      .
       refine aW ?_;refine cH (t:=91) rfl (fun K=>?_) (fun K=>?_)
       .
        refine aW ?_;exact Ws
       .
        refine aW ?_;exact Ws
      .
       refine aW ?_;exact Ws
    refine sA rfl (fun o=>?_) (fun o=>?_)
    .
     refine aW ?_;refine Eh 4 rfl fun l=>?_
     have L:Dh s.aG aM=(i:Int):=aIq F l (by rw[rJ,r];exact eM ⟨e,o⟩)
     rw[<-L];refine aZ [2,3,5] ?_;exact Iy
    .
     refine aW ?_
     have M:mM s.aG (dZ aM) (k+1)=uP s.aG (mM s.aG (dZ aM) k) x:=aIv r
     have hb:rJ s.aG (dZ aM) k=false:=by rw[rJ,r];exact gW fun h=>o h.2
     refine Eh 4 rfl fun l=>?_
     refine Wi 4 (q:=∀j,j < k+1->rJ s.aG (dZ aM) j=false) rfl (fun j hj=>by
      rcases dI j k with h1 | h1
      .exact l j h1
      .obtain rfl:j=k:=by omega
       exact hb) ?_
     refine aW ?_;rw[M,uP];rw[aC e];exact oX
  rotate_left
  .
   intro D k hk;refine aW ?_;exact aL7 (Hs:=[HP.aK C 45 [iv 0],HP.aK B 3 [iv (Dh s.aG aM)]]) rfl aJ aJ rfl rfl (Rd.aK 1 rfl rfl) (Rd.aK 0 rfl rfl) fun G st=>⟨rfl,st.below aB⟩
  intro D;refine aW ?_;refine Eh 4 rfl fun l=>?_
  have L:Dh s.aG aM= -1:=aQv fun j hj=>l j (by simpa[jZ] using hj)
  rw[L];refine aW ?_;exact aL7 (Hs:=[Gu E N R (.slice A4 n4 k4) (.slice O n4 T) ((mM s.aG (dZ aM) (jZ b off (jK aM)).length).x),HP.aK H 116 (Dr (mM s.aG (dZ aM) (jZ b off (jK aM)).length).last),HP.aK C 45 [iv 0],HP.aK B 3 [iv (-1)],qJ (∀j,j < (jZ b off (jK aM)).length->rJ s.aG (dZ aM) j=false)]) rfl aJ aJ rfl rfl (Rd.aK 3 rfl rfl) (Rd.aK 2 rfl rfl) fun G st=>⟨rfl,st.below aB⟩
end
def Rp.add(x y:Rp):Rp:=⟨x.begun+y.begun,x.ended+y.ended,x.errs+y.errs,x.zV+y.zV,x.dead+y.dead,x.sent+y.sent,x.Hp+y.Hp⟩
def aXy(x y:Rp)(e:Ev):x.add (y.step e)=(x.add y).step e:=by
 unfold Rp.step Rp.add
 repeat' split
 all_goals(first | rfl | (congr 1<;>(dsimp only;omega)))
def aBA(a b:List Ev):gG (a++b)=(gG a).add (gG b):=by
 have:∀(b:List Ev) (x y:Rp),b.foldl Rp.step (x.add y)=x.add (b.foldl Rp.step y):=by
  intro b
  induction b with
  | nil=>intro x y;rfl
  | cons e b ih=>intro x y;rw[pW,pW,<-aXy,ih]
 unfold gG;rw[pK,<-this]
 congr 1
 unfold Rp.add Rp.zero;simp
def aUT(a:List Ev):((gG a).dead==0)=(wQ a== -1):=by
 have d:∀(l:List Ev) (r:Rp),0<=r.dead->r.dead<=(l.foldl Rp.step r).dead/\((l.foldl Rp.step r).dead=r.dead↔∀e∈l,mB e=false):=by
  intro l
  induction l with
  | nil=>intro r h;simp
  | cons e l ih =>
   intro r h
   have j:(r.step e).dead=if mB e then r.dead+1 else r.dead:=by
    unfold Rp.step mB
    by_cases n:e.kind=98
    .simp[n]
    by_cases m:e.kind=101
    .simp[m];split<;>rfl
    by_cases i:e.kind=100
    .simp[i,mB];split<;>rfl
    .simp[n,m,i];split<;>(try split)<;>rfl
   have:=ih (r.step e) (by rw[j];split<;>omega)
   rw[pW];rw[j] at this;cases hd:mB e with
   | true=>
    simp[hd] at this|-;constructor
    .omega
    .intro h;omega
   | false=>
    simp[hd] at this|-;exact this
 have h:=d a Rp.zero aE
 rw[show a.foldl Rp.step Rp.zero=gG a from rfl,show Rp.zero.dead=0 from rfl] at h;rw[Bool.eq_iff_iff,beq_iff_eq,beq_iff_eq];rw[h.2];unfold wQ;cases o:a.findIdx? mB with
 | some k =>
  obtain⟨c,hd,_⟩:=List.findIdx?_eq_some_iff_getElem.1 o;constructor
  .intro f
   have:=f _ (Mu c)
   rw[hd] at this;cases this
  .intro f;dsimp only at f;omega
 | none=>simpa using List.findIdx?_eq_none_iff.1 o
def aJN(k:Int):Ev:=⟨k,0,0,0,0,0,0,0,0,0,false,0,false,none,0,[]⟩
def aTp{w:World}{g:Nat}{t:TypeId}{e:Ev}(h:vE w g t e.cells.toArray)(d:aM3 w w.heap.size e):Gs w w.heap.size (some ⟨g,0,none⟩) [e]:=
 ⟨by simpa using aLU (n:=1) (sz:=14) h rfl,fun x c=>by simp at c;subst c;exact d⟩
def aFi(l:List Ev):∀u∈l.flatMap Ev.cells,u.oneCell'=true:=by
 intro u d;obtain⟨e,_,c⟩:=List.mem_flatMap.1 d;simp[Ev.cells] at c;rcases c with rfl | rfl | rfl | rfl | rfl | rfl | rfl | rfl | rfl | rfl | rfl | rfl | rfl | rfl<;>rfl
section
open Go.RowKit Go.Shelf
attribute [local go_sem] Oper.semAt_some
def lM(l:List Ev)(t:Int):Int:=l.foldl (fun n e=>if e.task=t then(if e.kind=98 then n+1 else n - 1) else n) 0
def aD0(l:List Ev)(e:Ev)(t:Int):lM (l++[e]) t=if e.task=t then(if e.kind=98 then lM l t+1 else lM l t - 1) else lM l t:=by simp[lM]
def aNI(l:List Ev)(t:Int): -(l.length:Int)<=lM l t/\lM l t<=l.length:=by
 have:∀(l:List Ev) (n:Int),n - l.length<=l.foldl (fun n e=>if e.task=t then(if e.kind=98 then n+1 else n - 1) else n) n/\l.foldl (fun n e=>if e.task=t then(if e.kind=98 then n+1 else n - 1) else n) n<=n+l.length:=by
  intro l
  induction l with
  | nil=>intro n;simp
  | cons e l ih =>
   intro n;rw[pW,mK]
   have:=ih (if e.task=t then(if e.kind=98 then n+1 else n - 1) else n)
   have c:n - 1<=(if e.task=t then(if e.kind=98 then n+1 else n - 1) else n)/\(if e.task=t then(if e.kind=98 then n+1 else n - 1) else n)<=n+1:=by
    split
    .split<;>omega
    .omega
   generalize (if e.task=t then(if e.kind=98 then n+1 else n - 1) else n)=m at *;omega
 have h:=this l 0
 unfold lM;omega
def Px(l:List Ev):List Int:=([0,1,2]:List Int).filter fun t=>decide (0 < lM (l.filter gD) t)
def upTo(p:Int->Bool)(k:Int):List Int:=(([0,1,2]:List Int).take k.toNat).filter p
def aN0(p:Int->Bool)(k:Int)(h:k=0\/k=1\/k=2):upTo p (k+1)=upTo p k++if p k then[k] else[]:=by
 rcases h with rfl | rfl | rfl<;>cases d:p 0<;>cases c:p 1<;>cases e:p 2<;>simp[upTo,To,d,c,e]
def aN1(p:Int->Bool)(k:Int):(upTo p k).length<=3:=by
 unfold upTo;refine oL (Pj _ _) ?_;simp;omega
end
def aO2{a b:List Ev}{i:Nat}(h:i < a.length):mH (a++b) i=mH a i:=by rw[mH,mH,pL h]
def aO1{a b:List Ev}{i:Nat}:mH (a++b) (a.length+i)=mH b i:=by rw[mH,mH,nA aA,Pm]
def aD7(a b:List Ev):jK (a++b)=jK a++(jK b).map (a.length+ ·):=by
 unfold jK;rw[rF,List.range_add,Pr]
 congr 1
 .exact List.filter_congr fun i c=>aO2 (mI.1 c)
 .rw[List.filter_map]
  congr 1
  exact List.filter_congr fun i _=>aO1
def aO0{a:List Ev}{k i:Nat}(h:(jK a)[k]? =some i):i < a.length:=by
 have:=dJ h
 unfold jK at this;exact mI.1 (sY.1 this).1
def aHx(a b:List Ev):dZ (a++b)=dZ a++dZ b:=by
 unfold dZ;rw[aD7,Jw,Mr]
 congr 1
 .refine Tt fun i c=>?_;obtain⟨k,d⟩:=lA c;rw[pL (aO0 d)]
 .refine Tt fun i _=>?_;simp only[Function.comp];rw[nA aA,Pm]
def aVS{aG:List bR}{a b:List Ev}{j:Nat}(h:j < a.length):rJ aG (a++b) j=rJ aG a j:=by
 rw[rJ,rJ,pL h]
 have:mM aG (a++b) j=mM aG a j:=by
  rw[mM,mM,List.take_append_of_le_length aA]
 rw[this]
def aEX{α:Type}(g:α->List Value)(sz:Nat):∀(l:List α) (k:Nat),(∀e∈l,(g e).length=sz)->(l.take k).flatMap g=(l.flatMap g).take (k*sz)
 | [],k,_=>by simp
 | x::l,0,_=>by simp
 | x::l,k+1,h=>by
  have hx:=h x aB
  rw[Fe,Df,Df,aEX g sz l k (fun e c=>h e (by simp[c])),List.take_append,yE (l:=g x) (by rw[hx,Nat.add_mul];omega)]
  congr 2
  rw[hx,Nat.add_mul];omega
def aJB{α:Type}(g:α->List Value)(sz:Nat):∀(l:List α) (k:Nat),(∀e∈l,(g e).length=sz)->(l.drop k).flatMap g=(l.flatMap g).drop (k*sz)
 | [],k,_=>by simp
 | x::l,0,_=>by simp
 | x::l,k+1,h=>by
  have hx:=h x aB
  rw[Mn,Df,aJB g sz l k (fun e c=>h e (by simp[c])),List.drop_append,List.drop_of_length_le (l:=g x) (by rw[hx,Nat.add_mul];omega),sI]
  congr 1
  rw[hx,Nat.add_mul];omega
def Gs.S{w:World}{A:Option Addr}{aM:List Ev}(h:Gs w w.heap.size A aM):Er (all w) A aM:=⟨h.1.1,fun d=>by
 obtain⟨b,off,e,f,c⟩:=h.1.2 d
 exact⟨b,off,e,f,c⟩⟩
end Go.Proofs.YtmpkkaknjkffpaaGreatDoor
