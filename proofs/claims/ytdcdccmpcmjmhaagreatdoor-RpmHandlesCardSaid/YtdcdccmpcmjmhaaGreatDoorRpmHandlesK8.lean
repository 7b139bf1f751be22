/- The reference's check of a chip that is made. -/
import Derived.Shelf.SlMaps.Clone
import Derived.Test.YtdcdccmpcmjmhaaGreatDoorRpmHandlesK7
namespace Go.Proofs.YtdcdccmpcmjmhaaGreatDoor
set_option linter.all false
set_option maxHeartbeats 4000000
set_option maxRecDepth 20000
open Go.RowKit Go.Proofs.Tryz
section
theorem aGS(v n:Int)(w:World):Cz 216 #[iv v,iv n] w (Rt (.bool (decide (0≤v∧v < n))) w):=by
 refine aN func216 ntmps216 ?_;refine aB ?_;refine bU (t:=7) rfl (fun hg=>?_) (fun hg=>?_)
 ·
  refine aB ?_;rw[show decide (0≤v∧v < n)=decide (v < n) from decide_eq_decide.2 ⟨fun h=>h.2,fun h=>⟨hg,h⟩⟩];exact aT (h:=fun _ _=>rfl)
 ·
  refine aB ?_;rw[show decide (0≤v∧v < n)=false from decide_eq_false (fun h=>hg h.1)];exact aT (h:=fun _ _=>rfl)
theorem aCY(v a b:Int)(w:World):Cz 158 #[iv v,iv a,iv b] w (Rt (.bool (decide (a≤v∧v≤b))) w):=by
 refine aN func158 ntmps158 ?_;refine aB ?_;refine bU (t:=10) rfl (fun hg=>?_) (fun hg=>?_)
 ·
  refine aB ?_;rw[show decide (a≤v∧v≤b)=decide (v≤b) from decide_eq_decide.2 ⟨fun h=>h.2,fun h=>⟨hg,h⟩⟩];exact aT (h:=fun _ _=>rfl)
 ·
  refine aB ?_;rw[show decide (a≤v∧v≤b)=false from decide_eq_false (fun h=>hg h.1)];exact aT (h:=fun _ _=>rfl)
set_option maxRecDepth 100000 in
theorem aNe(c:eG)(k0 nn:Nat)(As:Option Addr)(ns ks:Nat)(w:World)(hs:aI (all w) 1 As ns (aL c.src))(hns:ns=c.src.length)(hf:c.fit k0)(hk:k0≤nn)(hnn:nn≤1000):Cz 213 #[.agg #[.int .u8 c.kind,.slice As ns ks,.int .u64 c.rate,iv c.mul,iv c.div,iv c.lock],iv (nn:Int)] w (Rt (iv 0) w):=by
  have hk9:=hf.1
  have hc:(c.kind=111∧ns=0∧1≤c.rate∧c.rate≤1000000)∨(c.kind=112∧ns=1∧1≤c.mul∧c.mul≤8∧1≤c.div∧c.div≤4∧0≤c.lock∧c.lock≤3)∨(c.kind=100∧ns=1∧1≤c.div∧c.div≤8)∨(c.kind=103∧ns=1)∨(c.kind=109∧ns=2):=by
    rcases hf.2 with h | h | h | h | h
    · exact .inl ⟨h.1,by rw[hns,h.2.1];rfl,h.2.2.1,h.2.2.2.1⟩
    · omega
    · omega
    · omega
    · omega
  clear hf;obtain⟨kind,src,rate,mul,div,lock⟩:=c;dsimp only at hs hns hk9 hc⊢
  have win:∀v a b:Int,a≤v∧v≤b→∀w1,Cz 158 #[iv v,iv a,iv b] w1 (Rt (.bool true) w1):=fun v a b h w1=>by
    have:=aCY v a b w1
    rwa [decide_eq_true h] at this
  have inn:∀v:Int,v∈src→∀w1,Cz 216 #[iv v,iv (nn:Int)] w1 (Rt (.bool true) w1):=fun v h w1=>by
    have:=aGS v nn w1
    have h2:=hk9 v h
    rwa [decide_eq_true (by omega)] at this
  refine aN func213 ntmps213 ?_;refine aB ?_;refine bF fun g1=>?_;rcases hc with⟨rfl,rfl,h⟩ | ⟨rfl,rfl,h⟩ | ⟨rfl,rfl,h⟩ | ⟨rfl,rfl⟩ | ⟨rfl,rfl⟩
  all_goals
    refine aB ?_
  · refine Og (fun i=>[(7,iv i),(5,_),(2,pt g1),(1,iv nn)]) 4 fun i hi=>?_
    refine aB ?_;refine bU (t:=68) rfl (fun h3=>by omega) (fun _=>?_);refine aB ?_;refine aG rfl (fun h3=>by omega) (fun _=>?_);refine aB ?_;exact cZ
  rotate_left 3
  refine aU (fun w1 t=>win ((2:Nat):Int) 1 4 (by decide) w1) ?_;refine aB ?_
  rotate_left
  all_goals
    refine Og (fun i=>[(7,iv i),(5,_),(2,pt g1),(1,iv nn)]) 4 fun i hi=>?_;refine aB ?_;refine aG rfl (fun h2=>?_) (fun h2=>?_)
    · obtain⟨f,hf⟩:=get_some (l:=src) (i:=i) (by omega)
      obtain⟨b,off,rfl,gF,iD⟩:=hs.2 (by omega)
      have Na:fO w b (off+i) (iv f):=⟨gF,iD i _ (by simp[aL,hf])⟩
      refine aB ?_;refine aU (fun w1 t=>inn f (List.mem_of_getElem? hf) w1) ?_;refine aB ?_;exact jL ()
    refine aB ?_
  · refine aU (fun w1 t=>win mul 1 1000 (by omega) w1) ?_
    refine aB ?_;refine aU (fun w1 t=>win div 1 1000 (by omega) w1) ?_;refine aB ?_;refine aU (fun w1 t=>win lock 0 20 (by omega) w1) ?_;refine aB ?_;exact cZ
  · refine aU (fun w1 t=>win div 1 1000 (by omega) w1) ?_
    refine aB ?_;exact cZ
  all_goals exact cZ
theorem aNb(s:aC)(A1 A2 A3 A4:Option Addr)(n1 k1 n2 k2 n3 k3 n4 k4:Nat)(w:World)(hW:fM w s A1 n1 A2 n2 A3 n3 A4 n4)(hm:s.made):Cz 155 #[.agg #[.slice A1 n1 k1,.slice A2 n2 k2,.slice A3 n3 k3,.slice A4 n4 k4]] w (Rt (.bool true) w):=by
 have pH:=hW.nJ
 have hn2:=hW.nT
 have pG:=hW.pS
 have rB:=hW.oK
 have hnc:=hm.nc
 have hnd:=hm.nd
 have iL:=hm.nr
 have mK:=hm.nv
 have cR:=hW.small
 refine aN func155 ntmps155 ?_;refine aB ?_;refine bF fun g1=>?_;refine aB ?_;refine bU (t:=8) rfl (fun h=>by omega) (fun _=>?_);refine aB ?_;refine bU (t:=14) rfl (fun h=>by omega) (fun _=>?_);refine aB ?_;refine bU (t:=20) rfl (fun h=>by omega) (fun _=>?_);refine aB ?_;refine aG rfl (fun h=>by omega) (fun _=>?_);refine aB ?_;refine Og (fun i=>[(3,iv i),(1,pt g1)]) n4 fun i hi=>?_;refine aB ?_;refine aG rfl (fun h=>?_) (fun h=>?_)
 ·obtain⟨d,hd⟩:∃d,s.aD[i]? =some d:=⟨_,List.getElem?_eq_getElem (by omega)⟩
  obtain⟨b,off,r,rfl,hrl,hR,hro⟩:=hW.dev.row hd;obtain⟨Ar,nr,kr,An,nn,kn,rfl,aIa,aP4,Ka,hsn⟩:=hR;obtain⟨_,_,_,_,_,_,_,_,hd9,_,aQa,_⟩:=hm.aD i d hd
  have h4:=hro.at_ (j:=4) rfl
  have h5:=hro.at_ (j:=5) rfl
  refine aB ?_;refine bU (t:=41) rfl (fun h=>by omega) (fun _=>?_);refine aB ?_;refine aG rfl (fun h=>by omega) (fun _=>?_);refine aB ?_;exact jL ()
 ·refine aB ?_;exact cZ
theorem Vg{v n:Int}(h:0≤v∧v < n)(w:World):Cz 216 #[iv v,iv n] w (Rt (.bool true) w):=by
 have:=aGS v n w
 rwa [decide_eq_true h] at this
theorem aGR{v a b:Int}(h:a≤v∧v≤b)(w:World):Cz 158 #[iv v,iv a,iv b] w (Rt (.bool true) w):=by
 have:=aCY v a b w
 rwa [decide_eq_true h] at this
theorem aNd(s:aC)(A1 A2 A3 A4:Option Addr)(n1 k1 n2 k2 n3 k3 n4 k4:Nat)(w:World)(hW:fM w s A1 n1 A2 n2 A3 n3 A4 n4)(hm:s.made):Cz 156 #[.agg #[.slice A1 n1 k1,.slice A2 n2 k2,.slice A3 n3 k3,.slice A4 n4 k4]] w (Rt (iv 0) w):=by
 have pH:=hW.nJ
 have hn2:=hW.nT
 have pG:=hW.pS
 have rB:=hW.oK
 have hnc:=hm.nc
 have hnd:=hm.nd
 have iL:=hm.nr
 have mK:=hm.nv
 have cR:=hW.small
 unfold aC.small at cR;obtain⟨hs1,gB,rZ,tH,oM,pF⟩:=cR;refine aN func156 ntmps156 ?_;refine aB ?_;refine bF fun g1=>?_;refine aB ?_;refine Og (fun i=>[(3,iv i),(1,pt g1)]) n1 fun i hi=>?_;refine aB ?_;refine aG rfl (fun h=>?_) (fun h=>?_)
 ·obtain⟨c,hc⟩:∃c,s.aF[i]? =some c:=⟨_,List.getElem?_eq_getElem (by omega)⟩
  obtain⟨b,off,r,rfl,hrl,hR,hro⟩:=hW.jO.row hc;obtain⟨Af,nf,kf,rfl,hnf,pT⟩:=hR
  have hfit:=hm.aF i c hc
  refine aB ?_;refine aCg ?_;refine aJ 8 ?_;refine aU (fun w1 st=>aNe c i n1 Af nf kf w1 (aI.le pT (jW (st.started (by simp)))) hnf hfit (by omega) (by omega)) ?_;refine bB ?_;refine nZ 9 ?_;refine eN ?_;refine aB ?_;exact jL ()
 ·refine aB ?_;refine jS [] (wN (gY s)) (fun w1 st=>aNc s A1 A2 A3 A4 n1 k1 n2 k2 n3 k3 n4 k4 w1 (hW.le (st.started (by simp)))) ?_;rintro _ w1 q1 ⟨Ag,cg,rfl,lH⟩ hf hle hfr
  have lH:=lH.le hf
  refine aB ?_
  refine aU (fun w1 st=>aDa Ag _ cg (gY s) w1 (lH.le (st.le (by simp))) rfl (by simp[gY];omega) (fun l hl=>by
   simp only[gY,List.mem_map] at hl;obtain⟨z,hz,rfl⟩:=hl
   have:=oM z hz;omega) (aHB hm)) ?_
  refine aB ?_;exact cZ
theorem aMZ(s:aC)(A1 A2 A3 A4:Option Addr)(n1 k1 n2 k2 n3 k3 n4 k4:Nat)(w:World)(hW:fM w s A1 n1 A2 n2 A3 n3 A4 n4)(hm:s.made):Cz 157 #[.agg #[.slice A1 n1 k1,.slice A2 n2 k2,.slice A3 n3 k3,.slice A4 n4 k4]] w (Rt (iv 0) w):=by
 have pH:=hW.nJ
 have hn2:=hW.nT
 have pG:=hW.pS
 have rB:=hW.oK
 have hnc:=hm.nc
 have hnd:=hm.nd
 have iL:=hm.nr
 have mK:=hm.nv
 refine aN func157 ntmps157 ?_;refine aB ?_;refine bF fun g1=>?_;refine aB ?_;refine Og (fun i=>[(3,iv i),(1,pt g1)]) n2 fun i hi=>?_;refine aB ?_;refine aG rfl (fun h=>?_) (fun h=>?_)
 ·obtain⟨d,hd⟩:∃d,s.domains[i]? =some d:=⟨_,List.getElem?_eq_getElem (by omega)⟩
  obtain⟨b,off,r,rfl,hrl,rfl,hro⟩:=hW.dom.row hd;obtain⟨dI,Rv,nL⟩:=hm.domains i d hd;refine aB ?_;refine bT fun g2=>?_;refine aB ?_;refine bU (t:=20) rfl (fun h2=>?_) (fun h2=>?_)
  ·refine aB ?_;refine aU (fun w1 _=>Vg (v:=d.above) (n:=(n2:Nat)) (by omega) w1) ?_;refine aB ?_;refine aU (fun w1 _=>aGR (v:=d.delay) (a:=0) (b:=20) (by omega) w1) ?_;refine aB ?_;exact jL ()
  ·refine aB ?_;refine aU (fun w1 _=>aGR (v:=d.delay) (a:=0) (b:=20) (by omega) w1) ?_;refine aB ?_;exact jL ()
 ·refine aB ?_;refine jS [] (wN (gX s)) (fun w1 st=>aMY s A1 A2 A3 A4 n1 k1 n2 k2 n3 k3 n4 k4 w1 (hW.le (st.started (by simp)))) ?_;rintro _ w1 q1 ⟨Ag,cg,rfl,lH⟩ hf hle hfr
  have lH:=lH.le hf
  refine aB ?_
  refine aU (fun w1 st=>aDa Ag _ cg (gX s) w1 (lH.le (st.le (by simp))) rfl (by simp[gX];omega) (fun l hl=>by
   simp only[gX,List.mem_map] at hl;obtain⟨z,_,rfl⟩:=hl
   split<;>simp) (aH9 hm)) ?_
  refine aB ?_;exact cZ
theorem aCZ(s:aC)(A1 A2 A3 A4:Option Addr)(n1 k1 n2 k2 n3 k3 n4 k4:Nat)(w:World)(hW:fM w s A1 n1 A2 n2 A3 n3 A4 n4):
  Cz 160 #[.agg #[.slice A1 n1 k1,.slice A2 n2 k2,.slice A3 n3 k3,.slice A4 n4 k4]] w (fun y w'=>(∃v,y=.returned v∧wN (cY s) v w w')∧Below w.heap.size w w'):=by
 have hn:=hW.oK
 have cR:=hW.small
 unfold aC.small at cR;obtain⟨hs1,gB,rZ,tH,oM,pF⟩:=cR;refine aN func160 ntmps160 ?_;refine cQ ?_;refine eD ?_;refine bF fun g1=>?_;refine fV rfl (by decide) ?_;refine dO ?_;refine cQ ?_;refine eD ?_;refine fV rfl (by decide) ?_;refine dO ?_;refine cQ ?_;refine cQ ?_;refine eD ?_;refine fV rfl (by decide) ?_;refine dO ?_;refine bL [(4,iv 0),(3,sn),(1,pt g1)] ?_;refine iR 22 1 ?_;refine dP [] [] [0,1] (by simp) rfl (by decide) (by decide) fun q0 _ _ Cy=>?_;refine sF ?_;refine eJ (fun m e R H=>∃(k:Nat) (vs:List Value) (q:Piece) (Ag:Option Addr) (cg:Nat),k≤n4∧m=n4 - k∧qV w q∧Rows (qT (fQ q)) 1 ((cY s).take k) (vs.map fun v=>[v])∧e=[(4,iv k),(3,.slice Ag k cg),(1,pt g1)]∧R=[q,all w]∧H=[HP.own 22 1 (.slice Ag k cg) k vs,HP.aE g1 30 [.slice A1 n1 k1,.slice A2 n2 k2,.slice A3 n3 k3,.slice A4 n4 k4]]) n4 ⟨0,[],_,none,0,by omega,rfl,Cy (by simp) (by simp),trivial,rfl,rfl,rfl⟩ fun m e R H hI=>?_;obtain⟨k,vs,q,Ag,cg,hk,rfl,rE,hrows,rfl,rfl,rfl⟩:=hI;refine cQ ?_;refine cQ ?_;refine eD ?_;refine cS rfl (by decide) ?_;refine qE (off:=3) (by kernel_rfl) rfl (by decide) ?_;refine Ee rfl ?_;refine Ed (el:=38) (by kernel_rfl) rfl (by decide) ?_;refine Pm rfl rfl (by decide) ?_;refine dO ?_;refine aG rfl (fun h=>?_) (fun h=>?_)
 ·
  refine lY ?_;refine dN ?_;refine cQ ?_;refine sF ?_
  have hkn:k < s.aD.length:=by omega
  obtain⟨e,he⟩:∃e,s.aD[k]? =some e:=⟨_,List.getElem?_eq_getElem hkn⟩
  obtain⟨b,off,r,rfl,hrl,hR,hro⟩:=hW.dev.row he;obtain⟨Ar,nr,kr,Af,nf,kf,rfl,aIa,hnf,Ka,pT⟩:=hR
  have yK:(cY s)[k]? =some (e.iZ):=by simp[cY,he]
  refine eD ?_;refine cS rfl (by decide) ?_;refine Ec (el:=3) (sz:=1) (by kernel_rfl) (by kernel_rfl) (by decide) fun g4=>?_;refine Bq 0 1 0 rfl rfl (by omega) ?_;dsimp only[List.set];refine qE (off:=3) (by kernel_rfl) rfl (by decide) ?_;refine Ee rfl ?_;refine cS rfl (by decide) ?_;refine kd (dat k (off+k*6)) ?_;refine qE (off:=5) (by kernel_rfl) rfl (by decide) ?_;refine jG (by kernel_rfl) rfl (Bv (by simp) (hro.at_ (j:=5) rfl)) (by decide) ?_;refine gM 0 1 8 nf (n':=nf) (el:=3) (by kernel_rfl) (by kernel_rfl) (by decide) rfl rfl rfl (qZ (p:=all w) (by simp) pT) (by simp[aL,Value.oneCell']) (by omega) (by have:=pF e (List.mem_of_getElem? he);omega) (by have:=pF e (List.mem_of_getElem? he);omega) (by decide) fun A5 c5=>?_;dsimp only[List.set,List.nil_append];refine eK fun g3=>?_;refine gM 2 1 24 1 (n':=k+1) (el:=22) (by kernel_rfl) (by kernel_rfl) (by decide) rfl rfl rfl (nS 0 rfl rfl) (by simp[Value.oneCell']) rfl (by omega) (by omega) (by decide) fun A6 c6=>?_;dsimp only[List.set];refine fV rfl (by decide) ?_;refine dO ?_;refine eD ?_;refine cS rfl (by decide) ?_;refine zN rfl rfl (iT (by omega)) (by decide) ?_;refine fV rfl (by decide) ?_;refine dO ?_;refine dP [q] [1] [2,3] (by simp) rfl (by decide) (by decide) fun q' mI hle Fi=>?_;obtain⟨Fg,Ms,Mm⟩:=mI 1 _ (by simp) rfl;obtain⟨A7,c7,e7,Ct⟩:=vD (Y:=q'.Z) Ms Mm
  injection e7 with f1 f2 f3
  subst f1;exact dX (n4 - (k+1)) ⟨k+1,vs++[_],q',A6,c6,by omega,rfl,Fi (by simp) (by simpa using rE),Jm hrows (hle q (by simp)) yK ⟨A5,nf,c5,rfl,hnf,Ct⟩,rfl,rfl,rfl⟩
 ·
  refine Zy ?_;refine dN ?_;refine cQ ?_;obtain rfl:k=n4:=by omega
  rw[List.take_of_length_le (by simp[cY];omega)] at hrows;refine eD ?_;refine cS rfl (by decide) ?_;refine fV rfl (by decide) ?_;refine dO ?_;refine Lj ?_;refine dN ?_;refine dP [q] [0] [] (by simp) rfl (by decide) (by decide) fun q2 hq hle hfr=>?_
  have kM:k=(cY s).length:=by simp[cY];omega
  exact aT (h:=fun w1 st=>⟨_,rfl,Ag,cg,by rw[←kM],by rw[←kM];exact(aFs hrows (hle q (by simp)) (hq 0 _ (by simp) rfl) kM).le (st.mL (by simp) (hfr (by simp) (by simpa using rE)))⟩)
theorem aNa(s:aC)(A1 A2 A3 A4:Option Addr)(n1 k1 n2 k2 n3 k3 n4 k4:Nat)(w:World)(hW:fM w s A1 n1 A2 n2 A3 n3 A4 n4)(hm:s.made):Cz 159 #[.agg #[.slice A1 n1 k1,.slice A2 n2 k2,.slice A3 n3 k3,.slice A4 n4 k4]] w (Rt (iv 0) w):=by
 have pH:=hW.nJ
 have hn2:=hW.nT
 have pG:=hW.pS
 have rB:=hW.oK
 have hnc:=hm.nc
 have hnd:=hm.nd
 have iL:=hm.nr
 have mK:=hm.nv
 have cR:=hW.small
 unfold aC.small at cR;obtain⟨hs1,gB,rZ,tH,oM,pF⟩:=cR;refine aN func159 ntmps159 ?_;refine aB ?_;refine bF fun g1=>?_;refine aB ?_;refine Og (fun i=>[(3,iv i),(1,pt g1)]) n4 fun i hi=>?_;refine aB ?_;refine aG rfl (fun h=>?_) (fun h=>?_)
 ·obtain⟨d,hd⟩:∃d,s.aD[i]? =some d:=⟨_,List.getElem?_eq_getElem (by omega)⟩
  obtain⟨b,off,r,rfl,hrl,hR,hro⟩:=hW.dev.row hd;obtain⟨Ar,nr,kr,An,nn,kn,rfl,aIa,aP4,Ka,hsn⟩:=hR;obtain⟨dI,Rv,nL,hd4,hd5,Az,hd7,hd8,hd9,aUT,aQa,aPZ⟩:=hm.aD i d hd;refine aB ?_;refine bT fun g2=>?_;refine aB ?_;refine aU (fun w1 _=>Vg (v:=d.clock) (n:=(n1:Nat)) (by omega) w1) ?_;refine aB ?_;refine aU (fun w1 _=>Vg (v:=d.domain) (n:=(n2:Nat)) (by omega) w1) ?_;refine aB ?_;refine aU (fun w1 _=>Vg (v:=d.reset) (n:=(n3:Nat)) (by omega) w1) ?_;refine aB ?_;refine Og (fun k=>[(5,iv k),(4,pt g2),(3,iv i),(1,pt g1)]) nn fun k hk=>?_;refine aB ?_;refine aG rfl (fun h2=>?_) (fun h2=>?_)
  ·obtain⟨y,hy⟩:∃y,d.iZ[k]? =some y:=⟨_,List.getElem?_eq_getElem (by omega)⟩
   have hyb:=aPZ y (List.mem_of_getElem? hy)
   obtain⟨bI,oI,rfl,Nb⟩:=aI.aD5 hsn (by omega)
   have Kk:=Nb k y hy
   refine aB ?_;refine aCg ?_;refine aJ 8 ?_;refine aU (fun w1 _=>Vg (v:=y) (n:=(n4:Nat)) (by omega) w1) ?_;refine bB ?_;refine nZ 9 ?_;refine eN ?_;refine aB ?_;exact jL ()
  ·refine aB ?_;exact jL ()
 ·refine aB ?_;refine jS [] (wN (cY s)) (fun w1 st=>aCZ s A1 A2 A3 A4 n1 k1 n2 k2 n3 k3 n4 k4 w1 (hW.le (st.started (by simp)))) ?_;rintro _ w1 q1 ⟨Ag,cg,rfl,lH⟩ hf hle hfr
  have lH:=lH.le hf
  refine aB ?_
  refine aU (fun w1 st=>aDa Ag _ cg (cY s) w1 (lH.le (st.le (by simp))) rfl (by simp[cY];omega) (fun l hl=>by
   simp only[cY,List.mem_map] at hl;obtain⟨z,hz,rfl⟩:=hl
   have:=pF z hz;omega) (aH8 hm)) ?_
  refine aB ?_;exact cZ
theorem Vh(s:aC)(A1 A2 A3 A4:Option Addr)(n1 k1 n2 k2 n3 k3 n4 k4:Nat)(w:World)(hW:fM w s A1 n1 A2 n2 A3 n3 A4 n4)(hm:s.made):Cz 84 #[.agg #[.slice A1 n1 k1,.slice A2 n2 k2,.slice A3 n3 k3,.slice A4 n4 k4]] w (Rt (iv 0) w):=by
 have pH:=hW.nJ
 have hn2:=hW.nT
 have pG:=hW.pS
 have rB:=hW.oK
 have hnc:=hm.nc
 have hnd:=hm.nd
 have iL:=hm.nr
 have mK:=hm.nv
 refine aN func84 ntmps84 ?_;refine cQ ?_;refine eD ?_;refine bF fun g1=>?_;refine fV rfl (by decide) ?_;refine dO ?_;refine cQ ?_;refine cQ ?_;refine eD ?_;refine Uc 4 rfl ?_;refine dJ (fun w1 st=>aNb s A1 A2 A3 A4 n1 k1 n2 k2 n3 k3 n4 k4 w1 (hW.le (st.started (by simp))) hm) ?_
 (first | refine Lu rfl (by decide) ?_ | refine zJ rfl (by decide) ?_)
 refine dO ?_;refine aG rfl (fun h=>by first | exact absurd rfl h | cases h | (exfalso;omega)) (fun h=>?_)
 ·
  refine lY ?_;refine dN ?_;refine cQ ?_;refine eD ?_;refine Uc 4 rfl ?_;refine dJ (fun w1 st=>aNd s A1 A2 A3 A4 n1 k1 n2 k2 n3 k3 n4 k4 w1 (hW.le (st.started (by simp))) hm) ?_;refine fV rfl (by decide) ?_;refine dO ?_;refine cQ ?_;refine cQ ?_;refine eD ?_;refine cS rfl (by decide) ?_;refine aAr rfl rfl (by decide) ?_;refine dO ?_;refine aG rfl (fun h=>by first | exact absurd rfl h | cases h | (exfalso;omega)) (fun h=>?_)
  ·
   refine lY ?_;refine dN ?_;refine cQ ?_;refine eD ?_;refine Uc 4 rfl ?_;refine dJ (fun w1 st=>aMZ s A1 A2 A3 A4 n1 k1 n2 k2 n3 k3 n4 k4 w1 (hW.le (st.started (by simp))) hm) ?_;refine fV rfl (by decide) ?_;refine dO ?_;refine cQ ?_;refine cQ ?_;refine eD ?_;refine cS rfl (by decide) ?_;refine aAr rfl rfl (by decide) ?_;refine dO ?_;refine aG rfl (fun h=>by first | exact absurd rfl h | cases h | (exfalso;omega)) (fun h=>?_)
   ·
    refine lY ?_;refine dN ?_;refine cQ ?_;refine cQ ?_;refine eD ?_;refine fV rfl (by decide) ?_;refine dO ?_;refine bL [(4,iv 0),(1,pt g1)] ?_;refine sF ?_;refine eJ (fun m e R H=>∃(i:Nat),i≤n3∧m=n3 - i∧e=[(4,iv i),(1,pt g1)]∧R=[all w]∧H=[HP.aE g1 30 [.slice A1 n1 k1,.slice A2 n2 k2,.slice A3 n3 k3,.slice A4 n4 k4]]) n3 ⟨0,by omega,rfl,rfl,rfl,rfl⟩ fun m e R H hI=>?_;obtain⟨i,hi,rfl,rfl,rfl,rfl⟩:=hI;refine cQ ?_;refine cQ ?_;refine eD ?_;refine cS rfl (by decide) ?_;refine qE (off:=2) (by kernel_rfl) rfl (by decide) ?_;refine Ee rfl ?_;refine Ed (el:=88) (by kernel_rfl) rfl (by decide) ?_;refine Pm rfl rfl (by decide) ?_;refine dO ?_;refine aG rfl (fun hil=>?_) (fun hil=>?_)
    ·
     refine lY ?_;refine dN ?_;refine cQ ?_;refine sF ?_;refine cQ ?_;refine eD ?_;refine qE (off:=2) (by kernel_rfl) rfl (by decide) ?_;refine Ee rfl ?_;refine cS rfl (by decide) ?_
     have aBr:i < n3:=by have h':(i:Int) < (n3:Int):=hil;omega
     obtain⟨r0,Ap⟩:∃r0,s.aR[i]? =some r0:=⟨_,List.getElem?_eq_getElem (by omega)⟩
     obtain⟨b,off,r,rfl,hrl,rfl,hro⟩:=hW.Co.row Ap
     have hrb:=hm.aR r0 (List.mem_of_getElem? Ap)
     refine kd (dat (i) (off+i*1)) ?_;refine qE (off:=0) (by kernel_rfl) rfl (by decide) ?_;refine jG (by kernel_rfl) rfl (Bv (by simp) (hro.at_ (j:=0) rfl)) (by decide) ?_;refine dJ (fun w1 st=>aCY _ _ _ w1) ?_
     (first | refine Lu rfl (by decide) ?_ | refine zJ rfl (by decide) ?_)
     refine dO ?_;refine aG rfl (fun h=>by first | exact absurd rfl h | cases h | (exfalso;omega)) (fun h=>?_)
     ·
      refine lY ?_;refine dN ?_;refine eD ?_;refine cS rfl (by decide) ?_;refine zN rfl rfl (iT (by omega)) (by decide) ?_;refine fV rfl (by decide) ?_;refine dO ?_;exact dX (n3 - (i+1)) ⟨i+1,by omega,rfl,rfl,rfl,rfl⟩
    ·
     refine Zy ?_;refine dN ?_;refine cQ ?_;refine eD ?_;refine Uc 4 rfl ?_;refine dJ (fun w1 st=>aNa s A1 A2 A3 A4 n1 k1 n2 k2 n3 k3 n4 k4 w1 (hW.le (st.started (by simp))) hm) ?_;refine fV rfl (by decide) ?_;refine dO ?_;refine Lj ?_;refine dN ?_;exact aT (h:=fun _ _=>rfl)
end
section
def wJ(v:Value):Prop:=∃(p:Option Addr) (e:Int),v=.tuple #[.pointer p,iv e]
theorem jQ.aCW{α:Type}{w:World}{R:α→List Value→Prop}{t:TypeId}{sz n k:Nat}{A:Option Addr}{es:List α}{e:α}(h:jQ (fQ (all w)) R t sz A n es)(hk:es[k]? =some e):∃b off r,A=some ⟨b,off,none⟩∧R e r∧eE w b (off+k*sz) r:=by
 obtain⟨b,off,r,h1,h2,_,h3,h4⟩:=h.aGG hk;exact⟨b,off,r,h1,h3,h2,fun j v hv=>h4 j v hv⟩
theorem aS3{s:aC}(hm:s.made){i:Nat}{c:eG}(hc:s.aF[i]? =some c):c.src.length≤2:=by
 rcases(hm.aF i c hc).2 with h | h | h | h | h
 ·rw[h.2.1];simp
 all_goals(have:=h.2.1;omega)
theorem aPi(l:List Int):∀v∈aL l,v.oneCell'=true:=fun v hv=>by
 simp[aL] at hv;obtain⟨_,_,rfl⟩:=hv;rfl
section
variable(s:aC)(A1 A2 A3 A4:Option Addr)(n1 k1 n2 k2 n3 k3 n4 k4:Nat)(w:World)(hW:fM w s A1 n1 A2 n2 A3 n3 A4 n4)(hm:s.made)
include hW hm
theorem aNh:Cz 80 #[.agg #[.slice A1 n1 k1,.slice A2 n2 k2,.slice A3 n3 k3,.slice A4 n4 k4]] w (fun y w'=>(∃v,y=.returned v∧wJ v)∧Below w.heap.size w w'):=by
 have iL:=hm.nr
 obtain⟨rr,cK,pG,hst⟩:=hW.Co
 have cK:=aCR cK
 subst cK;subst pG;refine aN func80 ntmps80 ?_;refine aB ?_;refine bF fun g1=>?_;refine aB ?_;refine aU (fun w1 t=>Vh s A1 A2 A3 A4 n1 k1 n2 k2 _ k3 n4 k4 w1 (hW.le (t.started (by simp))) hm) ?_;refine aB ?_;refine bF fun g2=>?_;refine aB ?_;refine iR 3 1 ?_;refine iR 320 3 ?_;refine qA (α:=((Option Addr×Nat)×List Value)×(Option Addr×Nat)×List Value) (fun i _=>[(6,iv i),(5,pt g2),(1,pt g1)]) (fun i x=>[HP.own 320 3 (.slice x.1.1.1 i x.1.1.2) i x.1.2,HP.own 3 1 (.slice x.2.1.1 i x.2.1.2) i x.2.2,HP.aE g2 318 [.slice x.2.1.1 i x.2.1.2,.slice x.1.1.1 i x.1.1.2],HP.aE g1 30 [.slice A1 n1 k1,.slice A2 n2 k2,.slice A3 s.aR.length k3,.slice A4 n4 k4]]) (fun _ _=>True) s.aR.length (((none,0),[]),(none,0),[]) trivial fun i x hi _=>?_;obtain⟨⟨⟨L1,L2⟩,L3⟩,⟨⟨M1,M2⟩,M3⟩⟩:=x;dsimp only;refine aB ?_;refine aG rfl (fun hlt=>?_) (fun hge=>?_)
 ·have hlt:i < s.aR.length:=by omega
  obtain⟨c,hc⟩:=get_some hlt;obtain⟨b,off,rfl,hro⟩:=aI.row hst (fun r hr=>by obtain⟨q,_,rfl⟩:=List.mem_map.1 hr;rfl) (r:=[iv c]) (by rw[List.getElem?_map,hc];rfl) hlt
  have k0:=hro.at_ (j:=0) rfl
  simp only[Nat.mul_one] at k0;refine aB ?_;refine pN ?_;refine aJ 11 ?_;refine eK fun g3=>?_;refine bB ?_;refine nC [12,13,14,15] ?_;refine aB ?_;refine sU 2 fun A' k'=>?_;dsimp only[List.set];refine aB ?_;refine eK fun g4=>?_;refine aB ?_;refine sU 2 fun A'' k''=>?_;dsimp only[List.set];refine aB ?_;exact jL (((_,_),_),(_,_),_)
 ·refine aB ?_;exact eL rfl rfl rfl fun w1 t=>⟨⟨_,rfl,⟨_,_,rfl⟩⟩,t.below (by simp)⟩
theorem aNi:Cz 79 #[.agg #[.slice A1 n1 k1,.slice A2 n2 k2,.slice A3 n3 k3,.slice A4 n4 k4]] w (fun y w'=>(∃v,y=.returned v∧wJ v)∧Below w.heap.size w w'):=by
 have hnd:=hm.nd
 obtain⟨rr,cK,hn2,hst⟩:=hW.dom
 have cK:=aEv cK
 subst cK;subst hn2;refine aN func79 ntmps79 ?_;refine aB ?_;refine bF fun g1=>?_;refine aB ?_;refine aU (fun w1 t=>Vh s A1 A2 A3 A4 _ k1 _ k2 _ k3 n4 k4 w1 (hW.le (t.started (by simp))) hm) ?_;refine aB ?_;refine Ec (el:=50) (sz:=3) (by kernel_rfl) (by kernel_rfl) (by decide) fun g=>?_;refine Bq 0 3 0 rfl rfl (by omega) ?_;dsimp only[List.set];refine aB ?_
 refine gM 0 3 24 s.domains.length (n':=s.domains.length) (el:=50) (by kernel_rfl) (by kernel_rfl) (by decide) rfl rfl rfl (qZ (by simp) hst) (fun v hv=>by
  simp only[List.mem_flatten,List.mem_map] at hv;obtain⟨_,⟨d,_,rfl⟩,hv⟩:=hv;simp only[List.mem_cons,List.not_mem_nil,or_false] at hv
  rcases hv with rfl | rfl | rfl<;>rfl) (by omega) (by omega) (by omega) (by decide) fun A k=>?_
 dsimp only[List.set,List.nil_append];refine aB ?_;refine bF fun g2=>?_;refine aB ?_;refine iR 315 3 ?_;refine qA (α:=(Option Addr×Nat)×List Value) (fun i _=>[(6,iv i),(5,pt g2)]) (fun i x=>[HP.own 315 3 (.slice x.1.1 i x.1.2) i x.2,HP.aE g2 313 [.slice A s.domains.length k,.slice x.1.1 i x.1.2]]) (fun _ _=>True) s.domains.length ((none,0),[]) trivial fun i x hi _=>?_;obtain⟨⟨L1,L2⟩,L3⟩:=x;dsimp only;refine aB ?_;refine aG rfl (fun hlt=>?_) (fun hge=>?_)
 ·have hlt:i < s.domains.length:=by omega
  refine aB ?_;refine eK fun g4=>?_;refine aB ?_;refine sU 1 fun A'' k''=>?_;dsimp only[List.set];refine aB ?_;exact jL ((_,_),_)
 ·refine aB ?_;exact eL rfl rfl rfl fun w1 t=>⟨⟨_,rfl,⟨_,_,rfl⟩⟩,t.below (by simp)⟩
theorem aNj:Cz 78 #[.agg #[.slice A1 n1 k1,.slice A2 n2 k2,.slice A3 n3 k3,.slice A4 n4 k4]] w (fun y w'=>(∃v,y=.returned v∧wJ v)∧Below w.heap.size w w'):=by
 have hnc:=hm.nc
 obtain rfl:=hW.nJ;refine aN func78 ntmps78 ?_;refine aB ?_;refine bF fun g1=>?_;refine aB ?_;refine aU (fun w1 t=>Vh s A1 A2 A3 A4 _ k1 _ k2 _ k3 n4 k4 w1 (hW.le (t.started (by simp))) hm) ?_;refine aB ?_;refine bF fun g2=>?_;refine aB ?_;refine iR 86 6 ?_;refine iR 310 5 ?_;refine qA (α:=((Option Addr×Nat)×List Value)×(Option Addr×Nat)×List Value) (fun i _=>[(6,iv i),(5,pt g2),(1,pt g1)]) (fun i x=>[HP.own 310 5 (.slice x.1.1.1 i x.1.1.2) i x.1.2,HP.own 86 6 (.slice x.2.1.1 i x.2.1.2) i x.2.2,HP.aE g2 308 [.slice x.2.1.1 i x.2.1.2,.slice x.1.1.1 i x.1.1.2],HP.aE g1 30 [.slice A1 s.aF.length k1,.slice A2 n2 k2,.slice A3 n3 k3,.slice A4 n4 k4]]) (fun _ _=>True) s.aF.length (((none,0),[]),(none,0),[]) trivial fun i x hi _=>?_;obtain⟨⟨⟨L1,L2⟩,L3⟩,⟨⟨M1,M2⟩,M3⟩⟩:=x;dsimp only;refine aB ?_;refine aG rfl (fun hlt=>?_) (fun hge=>?_)
 ·have hlt:i < s.aF.length:=by omega
  obtain⟨c,hc⟩:=get_some hlt;obtain⟨b,off,_,rfl,⟨AF,_,kF,rfl,rfl,hF⟩,hro⟩:=hW.jO.aCW hc
  have gB:=aS3 hm hc
  refine aB ?_;refine bT fun g3=>?_;refine aB ?_;refine Ec (el:=3) (sz:=1) (by kernel_rfl) (by kernel_rfl) (by decide) fun g=>?_;refine Bq 0 1 0 rfl rfl (by omega) ?_;dsimp only[List.set];refine aB ?_;refine gM 0 1 8 c.src.length (n':=c.src.length) (el:=3) (by kernel_rfl) (by kernel_rfl) (by decide) rfl rfl rfl (qZ (by simp) hF) (aPi _) (by omega) (by omega) (by omega) (by decide) fun A k=>?_;dsimp only[List.set,List.nil_append];refine aB ?_;refine pN ?_;refine aJ 6 ?_;refine eK fun g4=>?_;refine bB ?_;refine nC [7,8,9,10] ?_;refine aB ?_;refine sU 4 fun A' k'=>?_;dsimp only[List.set];refine aB ?_;refine bT fun g5=>?_;refine aB ?_;refine Oi (α:=Int) (fun _=>[(8,pt g5),(6,iv i),(5,pt g2),(1,pt g1)]) (fun v=>[HP.aE g5 310 [.bool false,iv v,iv 0,iv 0,iv c.div],HP.own 310 5 (.slice L1 i L2) i L3,HP.own 86 6 (.slice A' (i+1) k') (i+1) (M3++[.int .u8 c.kind,.slice A c.src.length k,.int .u64 c.rate,iv c.mul,iv c.div,iv c.lock]),HP.aE g2 308 [.slice A' (i+1) k',.slice L1 i L2],HP.aE g1 30 [.slice (some ⟨b,off,none⟩) s.aF.length k1,.slice A2 n2 k2,.slice A3 n3 k3,.slice A4 n4 k4]]) (fun _=>True) ?_ fun v _=>?_
  ·refine aB ?_;refine aG rfl (fun _=>?_) (fun _=>?_)
   ·refine aB ?_;exact iB _
   ·refine aB ?_;exact iB _
  refine aB ?_;refine pN ?_;refine aJ 6 ?_;refine eK fun g6=>?_;refine bB ?_;refine nC [7,8,9,10] ?_;refine aB ?_;refine sU 2 fun A'' k''=>?_;dsimp only[List.set];refine aB ?_;exact jL (((_,_),_),(_,_),_)
 ·refine aB ?_;exact eL rfl rfl rfl fun w1 t=>⟨⟨_,rfl,⟨_,_,rfl⟩⟩,t.below (by simp)⟩
end
end
section
section
variable{N:cH}{w0 w:World}{e:Env}{R:List Piece}{H:List HP}{Q:Exit→Act→World→Prop}{ops:Array Oper}{rest:List Oper}{pos:String}{ty:TypeId}{aH:Array Edge}{p:HP}
theorem aPb(i:Nat){x y:Operand}{s t:TypeId}{g o:Nat}{cs vs:List Value}(hi:H[i]? =some (HP.aE g t cs))(k:XK N w0 (wpList Tryz.prog ops Q rest) e R (H.set i (HP.aE g t (fJ cs o vs))))(hx:e.ev x=some (.pointer (some ⟨g,o,none⟩)):=by rfl)(hy:e.ev y=some (.agg vs.toArray):=by rfl)(hs:(Tryz.prog.info? s).any (·.size==vs.length)=true:=by kernel_rfl)(h1:vs.all Value.oneCell'=true:=by rfl)(hl:decide (o+vs.length≤cs.length)=true:=by rfl):
  XK N w0 (wpList Tryz.prog ops Q (⟨none,.store s x y,ty,pos,aH,none⟩::rest)) e R H:=
 mU i hi hx hy hs (fun u hu=>List.all_eq_true.1 h1 u (by simpa[Value.cells] using hu)) (by simpa[Value.cells] using of_decide_eq_true hl) (by simpa[Value.cells] using k)
end
section
variable(s:aC)(A1 A2 A3 A4:Option Addr)(n1 k1 n2 k2 n3 k3 n4 k4:Nat)(w:World)(hm:s.made)
include hm
theorem aNo:Cz 85 #[.agg #[.slice A1 s.aF.length k1,.slice A2 s.domains.length k2,.slice A3 s.aR.length k3,.slice A4 n4 k4]] w (fun y w'=>(∃v,y=.returned v∧∃v1 v2 v3 v4 v5 v6:Value,v=.agg #[v1,v2,v3,v4,v5,v6])∧Below w.heap.size w w'):=by
 have hnc:=hm.nc
 have hnd:=hm.nd
 have iL:=hm.nr
 refine aN func85 ntmps85 ?_;refine aB ?_;refine bF fun g1=>?_;refine bT fun g2=>?_;refine aB ?_;refine bT fun g3=>?_;refine aB ?_;refine qA (α:=(Value×Value×Value)×Value×Value×Value) (fun i _=>[(4,iv i),(3,pt g3),(2,pt g2),(1,pt g1)]) (fun i x=>[HP.aE g3 201 [x.1.1,x.1.2.1,x.1.2.2,x.2.1,x.2.2.1,x.2.2.2],HP.aE g2 201 [sn,sn,sn,sn,sn,sn],HP.aE g1 30 [.slice A1 s.aF.length k1,.slice A2 s.domains.length k2,.slice A3 s.aR.length k3,.slice A4 n4 k4]]) (fun _ x=>∀v∈[x.1.1,x.1.2.1,x.1.2.2,x.2.1,x.2.2.1,x.2.2.2],v.oneCell'=true) 2 ((sn,sn,sn),sn,sn,sn) (by simp[Value.oneCell']) fun i x hi hx=>?_;obtain⟨⟨a1,a2,a3⟩,a4,a5,a6⟩:=x;dsimp only at hx⊢;refine aB ?_;refine aG rfl (fun hlt=>?_) (fun hge=>?_)
 ·obtain rfl | rfl:i=0∨i=1:=by omega
  all_goals
   refine aB ?_;refine rI 15 (by kernel_rfl) (by kernel_rfl) ?_;refine bJ 0 ?_;refine bJ 1 ?_;refine bJ 2 ?_;refine bJ 3 ?_;refine bJ 5 ?_;refine bJ 6 ?_;refine bJ 7 ?_;refine bJ 9 ?_;refine bJ 10 ?_;refine bJ 11 ?_;refine bJ 14 ?_;refine aCl (fuel:=3) [4,8,12] [[4,8,12]] (fun i=>match i with | 4=>⟨13,4,List.replicate s.domains.length (.bool false),fun g=>.slice (some ⟨g,0,none⟩) s.domains.length s.domains.length⟩ | 8=>⟨17,4,List.replicate s.aF.length (.bool false),fun g=>.slice (some ⟨g,0,none⟩) s.aF.length s.aF.length⟩ | _=>⟨21,4,List.replicate s.aR.length (.bool false),fun g=>.slice (some ⟨g,0,none⟩) s.aR.length s.aR.length⟩) (fun i hi=>?_) (by show[13,17,21].Nodup;decide) (by kernel_rfl) (fun _ h=>h) (fun sub hsub hex g=>?_)
   ·simp only[List.mem_cons,List.not_mem_nil,or_false] at hi;rcases hi with rfl | rfl | rfl
    ·exact uD.of rfl rfl rfl (zZ 1 (el:=4) (z:=.bool false) (by kernel_rfl) (by kernel_rfl) rfl rfl rfl (by omega) (by omega)) (Nat.le_of_ble_eq_true rfl) rfl
    ·exact uD.of rfl rfl rfl (zZ 1 (el:=4) (z:=.bool false) (by kernel_rfl) (by kernel_rfl) rfl rfl rfl (by omega) (by omega)) (Nat.le_of_ble_eq_true rfl) rfl
    ·exact uD.of rfl rfl rfl (zZ 1 (el:=4) (z:=.bool false) (by kernel_rfl) (by kernel_rfl) rfl rfl rfl (by omega) (by omega)) (Nat.le_of_ble_eq_true rfl) rfl
   have gB:sub=[4,8,12]:=by simpa using hex
   subst gB;dsimp only[rF,tJ,kX,List.map,List.foldr,List.cons_append,List.nil_append,List.length_cons,List.length_nil,Nat.reduceAdd,Nat.reduceSub];refine bJ 13 ?_ (hi:=rfl) (dD:=fL rfl) (hsub:=fun _ h=>h.tail.tail.tail);refine cJ 15 ?_;refine kz ?_;refine eZ ?_;refine cJ 16 ?_;refine aPb 3 rfl ?_;simp only[fJ,List.set,Nat.reduceAdd,Nat.zero_add,List.take,List.drop,List.cons_append,List.nil_append,List.length_cons,List.length_nil];refine eZ ?_;refine kH ?_;refine aB ?_;exact jL ((_,_,_),_,_,_) (hg:=by simp[Value.oneCell'] at hx⊢;simp[hx])
 ·refine aB ?_;refine oL 1 rfl ?_ (h1:=List.all_eq_true.2 hx);dsimp only[List.set];refine aB ?_;exact Li (vs:=[a1,a2,a3,a4,a5,a6]) rfl (by kernel_rfl) rfl rfl (aQ.whole 1 rfl) fun w1 t=>⟨⟨_,rfl,_,_,_,_,_,_,rfl⟩,t.below (by simp)⟩
end
end
section
section
variable(s:aC)(A1 A2 A3 A4:Option Addr)(n1 k1 n2 k2 n3 k3 n4 k4:Nat)(w:World)(hW:fM w s A1 n1 A2 n2 A3 n3 A4 n4)(hm:s.made)
include hW hm
theorem aNl:Cz 87 #[.agg #[.slice A1 n1 k1,.slice A2 n2 k2,.slice A3 n3 k3,.slice A4 n4 k4],sn] w (fun y w'=>(∃v,y=.returned v∧∃v1 v2 v3:Value,v=.agg #[v1,v2,v3])∧Below w.heap.size w w'):=by
 obtain rfl:=hW.nJ;obtain rfl:=hW.nT;obtain rfl:=hW.pS;obtain rfl:=hW.oK
 have hnc:=hm.nc
 have hnd:=hm.nd
 have iL:=hm.nr
 have mK:=hm.nv
 refine aN func87 ntmps87 ?_;refine aB ?_;refine bF fun g1=>?_;refine bT fun g2=>?_;refine aB ?_;refine Oi (α:=Nat×Nat×Nat×Nat) (fun x=>[(5,.pointer (some ⟨x.2.2.2,0,none⟩)),(4,pt g2),(2,pt g1),(1,sn)]) (fun x=>[HP.aE x.2.2.2 198 [.slice (some ⟨x.1,0,none⟩) s.domains.length s.domains.length,.slice (some ⟨x.2.1,0,none⟩) s.aF.length s.aF.length,.slice (some ⟨x.2.2.1,0,none⟩) s.aR.length s.aR.length],HP.aE g2 198 [sn,sn,sn],HP.aE g1 30 [.slice A1 s.aF.length k1,.slice A2 s.domains.length k2,.slice A3 s.aR.length k3,.slice A4 s.aD.length k4]]) (fun _=>True) ?_ fun x _=>?_
 ·refine rI 14 (by kernel_rfl) (by kernel_rfl) ?_;refine bJ 0 ?_;refine bJ 1 ?_;refine bJ 2 ?_;refine bJ 4 ?_;refine bJ 5 ?_;refine bJ 6 ?_;refine bJ 8 ?_;refine bJ 9 ?_;refine bJ 10 ?_;refine aCl (fuel:=2) [3,7,11,13] [[3,7,11],[3,7,11,13]] (fun i=>match i with | 3=>⟨14,4,List.replicate s.domains.length (.bool false),fun g=>.slice (some ⟨g,0,none⟩) s.domains.length s.domains.length⟩ | 7=>⟨18,4,List.replicate s.aF.length (.bool false),fun g=>.slice (some ⟨g,0,none⟩) s.aF.length s.aF.length⟩ | 11=>⟨22,4,List.replicate s.aR.length (.bool false),fun g=>.slice (some ⟨g,0,none⟩) s.aR.length s.aR.length⟩ | _=>⟨5,198,[sn,sn,sn],fun g=>pt g⟩) (fun i hi=>?_) (by show[14,18,22,5].Nodup;decide) (by kernel_rfl) (fun _ h=>h) (fun sub hsub hex g=>?_)
  ·simp only[List.mem_cons,List.not_mem_nil,or_false] at hi;rcases hi with rfl | rfl | rfl | rfl
   ·exact uD.of rfl rfl rfl (zZ 1 (el:=4) (z:=.bool false) (by kernel_rfl) (by kernel_rfl) rfl rfl rfl (by omega) (by omega)) (Nat.le_of_ble_eq_true rfl) rfl
   ·exact uD.of rfl rfl rfl (zZ 1 (el:=4) (z:=.bool false) (by kernel_rfl) (by kernel_rfl) rfl rfl rfl (by omega) (by omega)) (Nat.le_of_ble_eq_true rfl) rfl
   ·exact uD.of rfl rfl rfl (zZ 1 (el:=4) (z:=.bool false) (by kernel_rfl) (by kernel_rfl) rfl rfl rfl (by omega) (by omega)) (Nat.le_of_ble_eq_true rfl) rfl
   ·exact uD.of rfl rfl rfl (aH7 (iK (by kernel_rfl))) (Nat.le_of_ble_eq_true rfl) rfl
  have gB:sub=[3,7,11]∨sub=[3,7,11,13]:=by simpa using hex
  rcases gB with rfl | rfl
  ·dsimp only[rF,tJ,kX,List.map,List.foldr,List.cons_append,List.nil_append,List.length_cons,List.length_nil,Nat.reduceAdd,Nat.reduceSub];refine bJ 12 ?_ (hi:=rfl) (dD:=fL rfl) (hsub:=fun _ h=>h.tail.tail.tail);refine cJ 13 ?_;refine bT fun g6=>?_;refine iG ?_;refine iA ?_;refine lA (fun _ h=>h.tail.tail.tail.tail) ?_;refine cJ 14 ?_;refine oL 0 rfl ?_;dsimp only[List.set];refine eZ ?_;refine kH ?_;refine aB ?_;exact iB (_,_,_,_)
  ·dsimp only[rF,tJ,kX,List.map,List.foldr,List.cons_append,List.nil_append,List.length_cons,List.length_nil,Nat.reduceAdd,Nat.reduceSub];refine bJ 12 ?_ (hi:=rfl) (dD:=fL rfl) (hsub:=fun _ h=>h.tail.tail.tail.tail);refine cJ 14 ?_;refine oL 3 rfl ?_;dsimp only[List.set];refine eZ ?_;refine kH ?_;refine aB ?_;exact iB (_,_,_,_)
 obtain⟨ga,gb,gc,gw⟩:=x;dsimp only;refine aB ?_;refine qA (α:=Unit) (fun i _=>[(6,iv i),(5,pt gw),(4,pt g2),(2,pt g1),(1,sn)]) (fun _ _=>[HP.aE gw 198 [.slice (some ⟨ga,0,none⟩) s.domains.length s.domains.length,.slice (some ⟨gb,0,none⟩) s.aF.length s.aF.length,.slice (some ⟨gc,0,none⟩) s.aR.length s.aR.length],HP.aE g2 198 [sn,sn,sn],HP.aE g1 30 [.slice A1 s.aF.length k1,.slice A2 s.domains.length k2,.slice A3 s.aR.length k3,.slice A4 s.aD.length k4]]) (fun _ _=>True) 0 () trivial fun i _ hi _=>?_;obtain rfl:i=0:=by omega
 refine aB ?_;refine bU (t:=29) rfl (fun hg=>?_) (fun hg=>?_)
 all_goals
  refine aB ?_;exact Li (vs:=[.slice (some ⟨ga,0,none⟩) s.domains.length s.domains.length,.slice (some ⟨gb,0,none⟩) s.aF.length s.aF.length,.slice (some ⟨gc,0,none⟩) s.aR.length s.aR.length]) rfl (by kernel_rfl) rfl rfl (aQ.whole 1 rfl) fun w1 t=>⟨⟨_,rfl,_,_,_,rfl⟩,t.below (by simp)⟩
theorem aNm:Cz 86 #[.agg #[.slice A1 n1 k1,.slice A2 n2 k2,.slice A3 n3 k3,.slice A4 n4 k4]] w (fun y w'=>(∃v,y=.returned v∧∃p:Option Addr,v=.tuple #[.pointer p,iv 0])∧Below w.heap.size w w'):=by
 obtain rfl:=hW.oK
 have mK:=hm.nv
 refine aN func86 ntmps86 ?_;refine aB ?_;refine bF fun g1=>?_;refine aB ?_;refine aU (fun w1 t=>Vh s A1 A2 A3 A4 _ k1 _ k2 _ k3 _ k4 w1 (hW.le (t.started (by simp))) hm) ?_;refine aB ?_;refine pN ?_;refine Ja 1 5 rfl rfl (by kernel_rfl) ?_ ?_
 ·refine uS (fun v=>∃(A:Option Addr) (n c:Nat),v=.slice A n c) (fun w1 t=>(aCZ s A1 A2 A3 A4 _ k1 _ k2 _ k3 _ k4 w1 (hW.le (t.started (by simp)))).mono fun y w' ⟨⟨v,h1,h2⟩,h3⟩=>⟨⟨v,h1,by obtain⟨A,c,rfl,_⟩:=h2;exact⟨_,_,_,rfl⟩⟩,h3⟩) fun v hv=>?_;obtain⟨A,n,c,rfl⟩:=hv;refine bB ?_;refine aJ 5 ?_;refine mA 8 (n:=s.aD.length) (el:=3) (z:=iv 0) (by kernel_rfl) (by kernel_rfl) rfl rfl rfl (by omega) (by omega) (by decide) fun g2=>?_;refine bB ?_;refine nC [6,7,8,9] ?_;refine aB ?_;refine bF fun g3=>?_;refine aB ?_;exact eL rfl rfl rfl fun w1 t=>⟨⟨_,rfl,⟨_,rfl⟩⟩,t.below (by simp)⟩
 ·refine mA 8 (n:=s.aD.length) (el:=3) (z:=iv 0) (by kernel_rfl) (by kernel_rfl) rfl rfl rfl (by omega) (by omega) (by decide) fun g2=>?_;refine bB ?_;refine aJ 1 ?_;refine uS (fun v=>∃(A:Option Addr) (n c:Nat),v=.slice A n c) (fun w1 t=>(aCZ s A1 A2 A3 A4 _ k1 _ k2 _ k3 _ k4 w1 (hW.le (t.started (by simp)))).mono fun y w' ⟨⟨v,h1,h2⟩,h3⟩=>⟨⟨v,h1,by obtain⟨A,c,rfl,_⟩:=h2;exact⟨_,_,_,rfl⟩⟩,h3⟩) fun v hv=>?_;obtain⟨A,n,c,rfl⟩:=hv;refine bB ?_;refine nC [6,7,8,9] ?_;refine aB ?_;refine bF fun g3=>?_;refine aB ?_;exact eL rfl rfl rfl fun w1 t=>⟨⟨_,rfl,⟨_,rfl⟩⟩,t.below (by simp)⟩
theorem aNn(p:Option Addr):Cz 38 #[.pointer p,.agg #[.slice A1 n1 k1,.slice A2 n2 k2,.slice A3 n3 k3,.slice A4 n4 k4]] w (fun y w'=>(∃v,y=.returned v∧wJ v)∧Below w.heap.size w w'):=by
 obtain rfl:=hW.nJ;obtain rfl:=hW.nT;obtain rfl:=hW.pS;refine aN func38 ntmps38 ?_;refine aB ?_;refine bF fun g1=>?_;refine aB ?_;refine aU (fun w1 t=>Vh s A1 A2 A3 A4 _ k1 _ k2 _ k3 _ k4 w1 (hW.le (t.started (by simp))) hm) ?_;refine aB ?_;cases p with
 | none=>
  refine aB ?_;exact eL rfl rfl rfl fun w1 t=>⟨⟨_,rfl,⟨_,_,rfl⟩⟩,t.below (by simp)⟩
 | some a=>
  refine aB ?_;refine pN ?_;refine aJ 3 ?_;refine uS (fun v=>∃v1 v2 v3 v4 v5 v6:Value,v=.agg #[v1,v2,v3,v4,v5,v6]) (fun w1 t=>aNo s A1 A2 A3 A4 k1 k2 k3 n4 k4 w1 hm) fun v hv=>?_;obtain⟨v1,v2,v3,v4,v5,v6,rfl⟩:=hv;refine bB ?_;refine nC [4,5,6,7] ?_;refine aB ?_;refine bF fun g2=>?_;refine aB ?_;exact eL rfl rfl rfl fun w1 t=>⟨⟨_,rfl,⟨_,_,rfl⟩⟩,t.below (by simp)⟩
end
end
section
theorem aMN{l:List Rg}{i k:Nat}{a:Rg}{v:Value}(h:l[i]? =some a)(hk:k < 2)(hv:a.cells[k]? =some v):(l.flatMap Rg.cells)[i*2+k]? =some v:=(Nk Rg.cells 2 l (fun _ _=>rfl) i k a h hk).trans hv
theorem aNg(f n kR:Nat)(RA:Option Addr)(v1 v2 v3:Value)(aP:List Rg)(hn:n=aP.length)(hn8:n≤8)(w:World)(F:Nat→Prop)(hp:(HP.many [HP.aE f 322 [.slice RA n kR,v1,v2,v3],HP.own 48 2 (.slice RA n kR) n (aP.flatMap Rg.cells)]).sat F w)(hF:∀b,F b→b < w.heap.size):
  Cz 154 #[pt f] w (Wr (.tuple #[]) (HP.many [cM,cM]) w F):=by
 subst hn;refine dB func154 ntmps154 hp hF ?_;generalize cN:(⟨w,fun b=>b < w.heap.size∧¬F b⟩:Piece)=R0;refine aZ 0 0 ?_;refine aZ 1 1 ?_;refine aB ?_;refine iR 23 1 ?_;refine qA (α:=(Option Addr×Nat)×List Value) (fun i _=>[(2,iv i),(0,pt f)]) (fun i x=>[HP.own 23 1 (.slice x.1.1 i x.1.2) i x.2,HP.own 48 2 (.slice RA aP.length kR) aP.length (aP.flatMap Rg.cells),HP.aE f 322 [.slice RA aP.length kR,.slice x.1.1 i x.1.2,v2,v3],HP.many [cM,cM]]) (fun _ _=>True) aP.length ((none,0),[]) trivial fun i x hi _=>?_;obtain⟨⟨L1,L2⟩,L3⟩:=x;dsimp only;refine aB ?_;refine aG rfl (fun hlt=>?_) (fun hge=>?_)
 ·have hlt:i < aP.length:=by omega
  obtain⟨r,hr⟩:=get_some hlt
  have hx:=aMN (k:=0) hr (by omega) rfl
  refine aJU 1 rfl (by omega) fun⟨gR,hgR⟩=>?_;subst hgR;refine aB ?_;refine pN ?_;refine aJ 13 ?_;refine eK fun g3=>?_;refine bB ?_;refine nC [14,15,16,17] ?_;refine aB ?_;refine sU 1 fun A' k'=>?_;dsimp only[List.set];refine aB ?_;exact jL ((_,_),_)
 ·refine aB ?_;subst cN;exact jE 3 hF
theorem aMM(l:List Rg):∀v∈l.flatMap Rg.cells,v.oneCell'=true:=fun v hv=>by
 obtain⟨r,_,hv⟩:=List.mem_flatMap.1 hv;simp only[Rg.cells,List.mem_cons,List.not_mem_nil,or_false] at hv;rcases hv with rfl | rfl<;>rfl
theorem aNf(aP:List Rg)(hl:aP.length≤8)(A:Option Addr)(c:Nat)(w:World)(hs:aI (all w) 2 A aP.length (aP.flatMap Rg.cells)):
  Cz 81 #[.slice A aP.length c] w (fun y w'=>(∃v,y=.returned v∧wJ v)∧Below w.heap.size w w'):=by
 refine aN func81 ntmps81 ?_;refine aB ?_;refine aG rfl (fun h=>absurd h (by omega)) (fun _=>?_);refine aB ?_;refine Ec (el:=48) (sz:=2) (by kernel_rfl) (by kernel_rfl) (by decide) fun g=>?_;refine Bq 0 2 0 rfl rfl (by omega) ?_;dsimp only[List.set];refine aB ?_;refine gM 0 2 8 aP.length (n':=aP.length) (el:=48) (by kernel_rfl) (by kernel_rfl) (by decide) rfl rfl rfl (qZ (by simp) hs) (aMM _) (by omega) (by omega) (by omega) (by decide) fun A' k'=>?_;dsimp only[List.set,List.nil_append];refine aB ?_;refine bF fun g2=>?_;refine aB ?_;refine nB ?_;refine eC 0 (HP.many [cM,cM]) (fun w1 F1 t h1 h2 h3=>aNg g2 aP.length k' A' _ _ _ aP rfl hl w1 F1 h1 h2) ?_;refine aB ?_;exact eL rfl rfl rfl fun w1 t=>⟨⟨_,rfl,⟨_,_,rfl⟩⟩,t.below (by simp)⟩
end
section
def aU1(v:Value)(_ _:World):Prop:=∃p:Option Addr,v=.pointer p
def aU2(v:Value)(_ _:World):Prop:=∃(p:Option Addr) (e:Int),v=.tuple #[.pointer p,iv e]
theorem aNr(w:World):Cz 82 #[] w (fun y w'=>(∃v,y=.returned v∧aU1 v w w')∧Below w.heap.size w w'):=by
 refine aN func82 ntmps82 ?_;refine aA ?_;refine kd (fL rfl) ?_;refine bF fun g1=>?_;refine aA ?_;exact aT (h:=fun _ _=>⟨_,rfl,⟨_,rfl⟩⟩)
theorem aNq(A:Option Addr)(n c:Nat)(zs:List Int)(w:World)(hs:aI (all w) 1 A n (aL zs))(hn:n=zs.length)(hn2:n≤1000):Cz 83 #[.slice A n c] w (fun y w'=>(∃v,y=.returned v∧aU2 v w w')∧Below w.heap.size w w'):=by
 subst hn;refine aN func83 ntmps83 ?_;refine aA ?_;refine aG rfl (fun h6=>?_) (fun h6=>?_)
 ·refine aA ?_;exact eL rfl rfl rfl fun w1 t=>⟨⟨_,rfl,⟨_,_,rfl⟩⟩,t.below (by simp)⟩
 ·refine aA ?_;refine bL [(4,iv 0),(3,iv 0),(2,.pointer none),(0,.slice A zs.length c)] ?_;refine eJ (fun m e R H=>∃i:Nat,i≤zs.length∧m=zs.length - i∧e=[(4,iv i),(3,iv 0),(2,.pointer none),(0,.slice A zs.length c)]∧R=[all w]∧H=[]) zs.length ⟨0,by omega,rfl,rfl,rfl,rfl⟩ fun m e R H hI=>?_;obtain⟨i,hi,rfl,rfl,rfl,rfl⟩:=hI;refine aA ?_;refine aG rfl (fun hlt=>?_) (fun hge=>?_)
  ·have hlt:i < zs.length:=by omega
   obtain⟨x,hx⟩:=get_some hlt;obtain⟨b,off,rfl,hr⟩:=aI.int hs (by omega)
   have k1:=hr i x hx
   refine aA ?_;refine kd (dat i (off+i)) ?_;refine aA ?_;refine bU (t:=19) rfl (fun h0=>?_) (fun h0=>?_)
   ·refine aA ?_;exact eL rfl rfl rfl fun w1 t=>⟨⟨_,rfl,⟨_,_,rfl⟩⟩,t.below (by simp)⟩
   ·refine aA ?_;refine kd (dat i (off+i)) ?_;refine aA ?_;refine aG rfl (fun h8=>?_) (fun h8=>?_)
    ·refine aA ?_;exact eL rfl rfl rfl fun w1 t=>⟨⟨_,rfl,⟨_,_,rfl⟩⟩,t.below (by simp)⟩
    ·refine aA ?_;exact dX (zs.length - (i+1)) ⟨i+1,hlt,rfl,rfl,rfl,rfl⟩
  ·refine aA ?_;refine Ec (el:=3) (sz:=1) (by kernel_rfl) (by kernel_rfl) (by decide) fun g=>?_;refine Bq 0 1 0 rfl rfl (by omega) ?_;dsimp only[List.set];refine aA ?_;refine gM 0 1 8 zs.length (n':=zs.length) (el:=3) (by kernel_rfl) (by kernel_rfl) (by decide) rfl rfl rfl (qZ (by simp) hs) (fun v hv=>by simp[aL] at hv;obtain⟨_,_,rfl⟩:=hv;rfl) (by omega) (by omega) (by omega) (by decide) fun A' k'=>?_;dsimp only[List.set,List.nil_append];refine kd (fL rfl) ?_;refine bF fun g1=>?_;refine aA ?_;exact eL rfl rfl rfl fun w1 t=>⟨⟨_,rfl,⟨_,_,rfl⟩⟩,t.below (by simp)⟩
end
section
section
variable(s:aC)(A1 A2 A3 A4:Option Addr)(n1 k1 n2 k2 n3 k3 n4 k4:Nat)(w:World)(hW:fM w s A1 n1 A2 n2 A3 n3 A4 n4)(hm:s.made)
include hW hm
theorem aNp:Cz 37 #[.agg #[.slice A1 n1 k1,.slice A2 n2 k2,.slice A3 n3 k3,.slice A4 n4 k4]] w (fun y w'=>(∃v,y=.returned v∧wJ v)∧Below w.heap.size w w'):=by
 have mK:=hm.nv
 obtain rfl:=hW.oK;refine aN func37 ntmps37 ?_;refine aB ?_;refine bF fun g1=>?_;refine aB ?_;refine uS wJ (fun w1 t=>aNj s A1 A2 A3 A4 _ k1 _ k2 _ k3 _ k4 w1 (hW.le (t.started (by simp))) hm) fun v hv=>?_;obtain⟨p6,e6,rfl⟩:=hv;refine aB ?_;refine aG rfl (fun h6=>?_) (fun h6=>?_)
 ·refine aB ?_;exact eL rfl rfl rfl fun w1 t=>⟨⟨_,rfl,⟨_,_,rfl⟩⟩,t.below (by simp)⟩
 refine aB ?_;refine uS wJ (fun w1 t=>aNi s A1 A2 A3 A4 _ k1 _ k2 _ k3 _ k4 w1 (hW.le (t.started (by simp))) hm) fun v hv=>?_;obtain⟨p7,e7,rfl⟩:=hv;refine aB ?_;refine uS wJ (fun w1 t=>aNh s A1 A2 A3 A4 _ k1 _ k2 _ k3 _ k4 w1 (hW.le (t.started (by simp))) hm) fun v hv=>?_;obtain⟨p8,e8,rfl⟩:=hv;refine aB ?_;refine bF fun g2=>?_;refine aB ?_;refine iR 38 6 ?_;refine iR 191 1 ?_;refine iR 194 1 ?_;refine iR 3 1 ?_;refine qA (α:=((Option Addr×Nat)×List Value)×((Option Addr×Nat)×List Value)×((Option Addr×Nat)×List Value)×(Option Addr×Nat)×List Value) (fun i x=>[(12,iv i),(11,.slice x.2.2.2.1.1 i x.2.2.2.1.2),(10,pt g2),(1,pt g1)]) (fun i x=>[HP.own 38 6 (.slice x.1.1.1 i x.1.1.2) i x.1.2,HP.own 191 1 (.slice x.2.1.1.1 i x.2.1.1.2) i x.2.1.2,HP.own 194 1 (.slice x.2.2.1.1.1 i x.2.2.1.1.2) i x.2.2.1.2,HP.own 3 1 (.slice x.2.2.2.1.1 i x.2.2.2.1.2) i x.2.2.2.2,HP.aE g2 190 [.slice x.1.1.1 i x.1.1.2,.pointer p6,.pointer p7,.pointer p8,.slice x.2.1.1.1 i x.2.1.1.2,.slice x.2.2.1.1.1 i x.2.2.1.1.2,.pointer none],HP.aE g1 30 [.slice A1 n1 k1,.slice A2 n2 k2,.slice A3 n3 k3,.slice A4 s.aD.length k4]]) (fun i x=>∃zs,x.2.2.2.2=aL zs∧zs.length=i) s.aD.length (((none,0),[]),((none,0),[]),((none,0),[]),(none,0),[]) ⟨[],rfl,rfl⟩ fun i x hi hx=>?_;obtain⟨⟨⟨L1,L2⟩,L3⟩,⟨⟨M1,M2⟩,M3⟩,⟨⟨N1,N2⟩,N3⟩,⟨O1,O2⟩,O3⟩:=x;obtain⟨zs,rfl,hzl⟩:=hx;dsimp only;refine aB ?_;refine aG rfl (fun hlt=>?_) (fun hge=>?_)
 ·have hlt:i < s.aD.length:=by omega
  obtain⟨d,hd⟩:=get_some hlt;obtain⟨b,off,_,rfl,⟨AR,_,kR,AN,_,kN,rfl,rfl,rfl,hR,hN⟩,hro⟩:=hW.dev.aCW hd
  have k4:=hro.at_ (j:=4) rfl
  have Ay:d.aP.length≤8:=by
   have:=(hm.aD i d hd).2.2.2.2.2.2.2.2.1
   omega
  refine aB ?_;refine pN ?_;refine aJ 10 ?_;refine eK fun g3=>?_;refine bB ?_;refine nC [11,12,13,14] ?_;refine aB ?_;refine sU 1 fun A' k'=>?_;dsimp only[List.set];refine aB ?_;refine uS wJ (fun w1 t=>aNf d.aP Ay AR kR w1 (hR.le (t.le (by simp)))) fun v hv=>?_;obtain⟨p9,e9,rfl⟩:=hv;refine aB ?_;refine eK fun g4=>?_;refine aB ?_;refine sU 3 fun A'' k''=>?_;dsimp only[List.set];refine aB ?_;refine pN ?_;refine aJ 5 ?_;refine uS (fun v=>∃p:Option Addr,v=.pointer p) (fun w1 t=>aNr w1) fun v hv=>?_;obtain⟨p10,rfl⟩:=hv;refine bB ?_;refine aJ 6 ?_;refine eK fun g5=>?_;refine bB ?_;refine nC [7,8,9,10] ?_;refine aB ?_;refine sU 5 fun A3' k3'=>?_;dsimp only[List.set];refine aB ?_;refine eK fun g6=>?_;refine aB ?_;refine sU 7 fun A4' k4'=>?_;dsimp only[List.set];refine aB ?_;exact jL (((_,_),_),((_,_),_),((_,_),_),(_,_),_) (hg:=⟨zs++[(d.aP.length:Int)],by simp[aL],by simp[hzl]⟩)
 ·obtain rfl:i=s.aD.length:=by omega
  refine aB ?_;refine uS wJ (fun w1 t=>aNq O1 s.aD.length O2 zs w1 (t.Un (i:=3) rfl) hzl.symm (by omega)) fun v hv=>?_;obtain⟨p11,e11,rfl⟩:=hv;refine aB ?_;exact eL rfl rfl rfl fun w1 t=>⟨⟨_,rfl,⟨_,_,rfl⟩⟩,t.below (by simp)⟩
theorem aNk(p q:Option Addr):Cz 39 #[.pointer p,.pointer q,.agg #[.slice A1 n1 k1,.slice A2 n2 k2,.slice A3 n3 k3,.slice A4 n4 k4]] w (fun y w'=>(∃v,y=.returned v∧wJ v)∧Below w.heap.size w w'):=by
 have mK:=hm.nv
 obtain rfl:=hW.nJ;obtain rfl:=hW.nT;obtain rfl:=hW.pS;obtain rfl:=hW.oK;refine aN func39 ntmps39 ?_;refine aB ?_;refine bF fun g1=>?_;refine aB ?_;refine uS (fun v=>∃p:Option Addr,v=.tuple #[.pointer p,iv 0]) (fun w1 t=>aNm s A1 A2 A3 A4 _ k1 _ k2 _ k3 _ k4 w1 (hW.le (t.started (by simp))) hm) fun v hv=>?_;obtain⟨p16,rfl⟩:=hv;refine aB ?_;cases p with
 | none=>
  refine aB ?_;exact eL rfl rfl rfl fun w1 t=>⟨⟨_,rfl,⟨_,_,rfl⟩⟩,t.below (by simp)⟩
 | some a =>
  refine aB ?_;cases q with
  | none=>
   refine aB ?_;exact eL rfl rfl rfl fun w1 t=>⟨⟨_,rfl,⟨_,_,rfl⟩⟩,t.below (by simp)⟩
  | some b =>
   refine aB ?_;refine pN ?_;refine aJ 5 ?_;refine uS (fun v=>∃v1 v2 v3:Value,v=.agg #[v1,v2,v3]) (fun w1 t=>aNl s A1 A2 A3 A4 _ k1 _ k2 _ k3 _ k4 w1 (hW.le (t.started (by simp))) hm) fun v hv=>?_;obtain⟨v1,v2,v3,rfl⟩:=hv;refine bB ?_;refine nC [6,7,8] ?_;refine aB ?_;refine bF fun g2=>?_;refine aB ?_;refine qA (α:=Value×Value×Value) (fun i _=>[(11,iv i),(10,pt g2),(5,pt g1)]) (fun i x=>[HP.aE g2 220 [.pointer (some a),.pointer (some b),.slice A1 s.aF.length k1,.slice A2 s.domains.length k2,.slice A3 s.aR.length k3,.slice A4 s.aD.length k4,iv 0,.int .u8 0,iv 0,iv 0,.int .u32 0,iv 0,.int .u32 0,x.1,iv 0,.int .u8 0,iv 0,iv 0,.int .u32 0,iv 0,.int .u32 0,x.2.1,iv 0,.int .u8 0,iv 0,iv 0,.int .u32 0,iv 0,.int .u32 0,x.2.2,.pointer p16,v1,v2,v3,sn,iv 0,.bool false,iv (-1)],HP.aE g1 30 [.slice A1 s.aF.length k1,.slice A2 s.domains.length k2,.slice A3 s.aR.length k3,.slice A4 s.aD.length k4]]) (fun _ _=>True) 3 (sn,sn,sn) trivial fun i x hi _=>?_;obtain⟨x1,x2,x3⟩:=x;dsimp only;refine aB ?_;refine aG rfl (fun hlt=>?_) (fun hge=>?_)
   ·obtain rfl | rfl | rfl:i=0∨i=1∨i=2:=by omega
    all_goals
     refine aB ?_;refine pN ?_;refine aJ 5 ?_;refine mA 8 (n:=s.aD.length) (el:=3) (z:=iv 0) (by kernel_rfl) (by kernel_rfl) rfl rfl rfl (by omega) (by omega) (by decide) fun g3=>?_;refine bB ?_;refine On 8 ?_;refine On 9 ?_;refine nC [10] ?_;refine aB ?_;exact jL (_,_,_)
   ·refine aB ?_;exact eL rfl rfl rfl fun w1 t=>⟨⟨_,rfl,⟨_,_,rfl⟩⟩,t.below (by simp)⟩
end
end
section
def aFl(s:aC)(v:Value)(hs:List HP)(_:Piece):Prop:=∃(g f r:Nat) (hL:HL) (p:Option Addr),v=.tuple #[pt g,.bool true]∧hs=[HP.aE g 58 [.pointer (some ⟨hL.h,0,none⟩),pt f,pt r,.pointer p],gL r hL.h f s (Jk s),Bz f hL.h s (tO s),dY hL s (hw0 s)]∧gE hL s
theorem aGH(s:aC)(A1 A2 A3 A4:Option Addr)(n1 k1 n2 k2 n3 k3 n4 k4:Nat)(w:World)(hW:fM w s A1 n1 A2 n2 A3 n3 A4 n4)(hm:s.made):
  Cz 10 #[.agg #[.slice A1 n1 k1,.slice A2 n2 k2,.slice A3 n3 k3,.slice A4 n4 k4]] w (fun y w'=>(∃v hs q,y=.returned v∧q.w=w'∧aFl s v hs q∧kC w hs q)∧Below w.heap.size w w'):=by
 have hH:=hm.cX
 refine aN func10 ntmps10 ?_;refine aB ?_;refine bF fun g1=>?_;refine aB ?_;refine fR (aK1 s) (fun w1 t=>aQi s hH A1 A2 A3 A4 n1 k1 n2 k2 n3 k3 n4 k4 w1 (hW.le (t.started (by simp)))) ?_;rintro _ _ q2 ⟨hL,rfl,rfl,iU,Hr⟩ _;dsimp only[List.cons_append,List.nil_append];refine aB ?_;refine fR (aK9 hL.h s) (fun w1 t=>aRb hL.h s hH A1 A2 A3 A4 n1 k1 n2 k2 n3 k3 n4 k4 w1 (hW.le (t.started (by simp)))) ?_;rintro _ _ q3 ⟨f,rfl,rfl⟩ _;dsimp only[List.cons_append,List.nil_append];refine aB ?_;refine fR (aKn hL.h f s) (fun w1 t=>aM0 s A1 A2 A3 A4 n1 k1 n2 k2 n3 k3 n4 k4 w1 hL.h f hm (hW.le (t.started (by simp)))) ?_;rintro _ _ q4 ⟨r,rfl,rfl⟩ _;dsimp only[List.cons_append,List.nil_append];refine aB ?_;refine uS wJ (fun w1 t=>aNp s A1 A2 A3 A4 n1 k1 n2 k2 n3 k3 n4 k4 w1 (hW.le (t.started (by simp))) hm) fun v hv=>?_;obtain⟨p12,e12,rfl⟩:=hv;refine aB ?_;refine uS wJ (fun w1 t=>aNn s A1 A2 A3 A4 n1 k1 n2 k2 n3 k3 n4 k4 w1 (hW.le (t.started (by simp))) hm p12) fun v hv=>?_;obtain⟨p15,e15,rfl⟩:=hv;refine aB ?_;refine uS wJ (fun w1 t=>aNk s A1 A2 A3 A4 n1 k1 n2 k2 n3 k3 n4 k4 w1 (hW.le (t.started (by simp))) hm p12 p15) fun v hv=>?_;obtain⟨p18,e18,rfl⟩:=hv;refine aB ?_;refine bF fun g2=>?_;refine aB ?_;refine aY [0,1,2,3] rfl (by decide) (R':=[all w]) (by simp) ?_;refine dP [] [] [0,1,2,3] (by simp) rfl (by decide) (by decide) fun q _ _ hfr=>?_;exact eL rfl rfl rfl fun w1 t=>⟨⟨_,_,⟨w1,q.Z⟩,rfl,rfl,⟨g2,f,r,hL,_,rfl,rfl,⟨iU,Hr⟩⟩,t.newR (by simp) (by simp) (hfr (by simp) (by simp))⟩,t.below (by simp)⟩
end
section
theorem aLz{p:HP}{F:Nat→Prop}{w w':World}{v:Value}{y:Ending}(hp:p.sat F w)(hF:∀b,F b→b < w.heap.size)(h:Rt v w y w'):y=.returned v∧∃F',p.sat F' w'∧iH w w' F F':=
 ⟨h.1,F,p.loc _ _ _ hp (fun b hb=>h.2.block b (hF b hb)),h.2.os,h.2.tape,h.2.output,h.2.size,fun b hb=>⟨.inl hb,Nat.lt_of_lt_of_le (hF b hb) h.2.size⟩,fun b hb _=>h.2.block b hb⟩
section
variable(g h f:Nat)(s:aC)(z:aW)(w:World)(F:Nat→Prop)(d:bQ)(hk:z.t0.kind=114)(tL:z.t0.dev=0)(Ak:z.t0.bX=0)(Kj:s.aD[0]? =some d)(Ay:1≤d.aP.length)(Rp:hG z.t0 0=0)
include hk tL Ak Kj Ay Rp
theorem aMG(L:dK)(hR:Ds w g h f L s z):Cz 291 #[.agg #[.bool false],pt g,.pointer (some ⟨g,10,none⟩)] w (Rt (iv 6) w):=by
 have hlt:=(List.getElem?_eq_some_iff.1 Kj).1
 have hin:bN s.aD.length 0=true:=decide_eq_true (by omega)
 have c4:eE w g (10+1) [.int .u8 114,iv 0,iv 0,.int .u32 z.t0.val]:=by
  refine⟨hR.r0.1,fun j v hv=>?_⟩
  have h4:j < 4:=by simpa using(List.getElem?_eq_some_iff.1 hv).1
  have:=hR.r0.2 (11+j) v (by
   rw[←hk,←tL] at hv
   have h5:j=0∨j=1∨j=2∨j=3:=by omega
   rcases h5 with rfl | rfl | rfl | rfl
   ·exact hv
   ·exact hv
   ·rw[tL,←Ak] at hv;exact hv
   ·exact hv)
  rwa [Nat.zero_add] at this
 have k5:=hR.r0.at_ (j:=5) rfl
 have k17:fO w g 17 (iv 0):=by
  have:=hR.r0.at_ (j:=17) rfl
  rwa [Rp] at this
 obtain⟨b,off,_,hA,⟨AR,_,kR,AN,_,kN,rfl,rfl,rfl,_,_⟩,hro⟩:=hR.so.dev.aCW Kj;rw[hA] at k5
 have k4:=hro.at_ (j:=4) rfl
 simp only[Nat.zero_mul,Nat.add_zero] at k4;refine aN func291 ntmps291 ?_;refine aB ?_;refine bF fun g1=>?_;refine aB ?_;refine bT fun g7=>?_;refine aB ?_;refine mM ?_;refine jC ?_;refine tT (fun w1 t=>aCT g h f L s z w1 0 (hR.below (t.started (by simp)))) ?_;rw[hin];refine jC ?_;refine xF (dat 0 off) ?_;refine jD ?_;refine aB ?_;refine aG rfl (fun h1=>absurd h1 (by omega)) (fun _=>?_);refine aB ?_;refine mM ?_;refine jC ?_;refine xF (fB 0 17 (ho:=rfl)) ?_;refine jD ?_;refine aB ?_;exact cZ
variable(hp:(gL g h f s z).sat F w)(hF:∀b,F b→b < w.heap.size)
include hp hF
theorem aMD:Cz 47 #[pt g,iv 0] w (Wr (.tuple #[]) (gL g h f s (kE (kD z 0) 0 6 0)) w F):=by
 have hj:T3 0:=.inl rfl
 refine dB func47 ntmps47 hp hF ?_;generalize cN:(⟨w,fun b=>b < w.heap.size∧¬F b⟩:Piece)=R0;refine kB 0 fun L=>?_;refine aZ 0 0 ?_;refine aA ?_;refine fF rfl rfl ?_ (hs:=eO.mk 0 rfl cG.h rfl (of_decide_eq_true rfl));dsimp only[List.set];rw[show(kW h f L s z).set (0+49) (iv 0)=kW h f L s {z with eX:=0} from rfl];refine aA ?_;refine kd (fB 0 10 (ho:=rfl)) ?_;refine aA ?_;refine fF rfl rfl ?_ (hs:=eO.mk 0 rfl cG.h rfl (by rw[aAF];omega));dsimp only[List.set];rw[show(kW h f L s {z with eX:=0}).set (10+0) (iv 2)=kW h f L s (kD z 0) from rfl];refine aM 0 0 ?_
 change XK _ _ _ _ _ [fT g h f L s (kD z 0)]
 refine aA ?_;refine kd (bP rfl (pO 0 rfl (zQ (j:=0) (k:=1) hj rfl))) ?_;rw[show((kD z 0).tk 0).kind=114 from hk];refine aU (fun w1 _=>aAE 114 w1) ?_;rw[show Nq 114=.iface 240 (.agg #[.bool false]) from rfl];refine aA ?_;refine aFB 0 (fT g h f L s (kD z 0)) (f:=291) (by kernel_rfl) rfl (fun w=>by kernel_rfl) rfl rfl ⟨by decide,rfl⟩ (fun w1 F1 t h1 h2 h3=>(aMG g h f s (kD z 0) w1 d hk tL Ak Kj Ay Rp L (aCo h1 h2)).mono fun y w' hy=>aLz h1 h2 hy) ?_;dsimp only[List.set];refine fC 0 (fun L:dK=>fT g h f L s (kD z 0)) L ?_;refine aA ?_;refine kd (fL rfl) ?_;refine aA ?_;refine eC 0 (gL g h f s (kE (kD z 0) 0 6 0)) (fun w1 F1 t h1 h2 h3=>Jl g h f s (kD z 0) w1 F1 0 rfl hj 6 0 h1 h2) ?_;refine aA ?_;subst cN;exact jE 0 hF
theorem aM4(h1:z.t0.st=1)(hh:z.eX < 0):Cz 19 #[pt g,iv 0] w (fun v w'=>v=.returned (.tuple #[])∧∃F',(gL g h f s (kE (kD z 0) 0 6 0)).sat F' w'∧iH w w' F F'):=by
 refine Zz (vs:=[pt g,iv 0]) (p:=gL g h f s z) func19 rfl ntmps19 (by simp) hp hF ?_;generalize cN:(⟨w,fun b=>b < w.heap.size∧¬F b⟩:Piece)=R0;refine aA ?_;refine Ud (f:=46) (fi:=[]) (ca:=[]) rfl ?_;refine aA ?_;refine aU (fun w1 _=>Vd 0 w1) ?_;rw[show bN 3 0=true from rfl];refine aA ?_;refine kB 0 fun L=>?_;refine aA ?_;refine kd (fB 0 10 (ho:=rfl)) ?_;refine aA ?_;refine kd (bP rfl (pO 0 rfl (zQ (j:=0) (k:=0) (.inl rfl) rfl))) ?_;rw[show(z.tk 0).st=1 from h1];refine aA ?_;refine kd (bP rfl (pO 0 rfl rfl)) ?_;refine aA ?_;refine fC 0 (fun L:dK=>fT g h f L s z) L ?_;refine aG rfl (fun h2=>?_) (fun h2=>absurd hh h2);refine aA ?_;refine eC 0 (gL g h f s (kE (kD z 0) 0 6 0)) (fun w1 F1 t Xx Xw h3=>aMD g h f s z w1 F1 d hk tL Ak Kj Ay Rp Xx Xw) ?_;refine aA ?_;subst cN;exact Bo (.inr rfl) (by kernel_rfl) Md rfl fun w1 t=>⟨rfl,t.turns hF (by simp) (i:=0) rfl⟩
end
end
section
def yA:aC:=⟨[⟨111,[],1,0,0,0⟩],[⟨-1,0,false⟩],[0],[⟨0,0,0,0,[⟨0,false⟩],[]⟩]⟩
theorem aGm:yA.made:=by
 refine⟨?_,?_,by simp[yA],?_,by decide,by decide,by decide,by decide⟩
 ·exact(Fits.nil eG.fit).snoc ⟨by simp,.inl ⟨rfl,rfl,by decide,by decide,rfl,rfl,rfl⟩⟩
 ·exact(Fits.nil Dom.fit).snoc ⟨.inl rfl,by decide,by decide⟩
 ·exact(Fits.nil (bQ.fit 1 1 1)).snoc ⟨by decide,by decide,by decide,by decide,by decide,by decide,by decide,by decide,by decide,by simp,by decide,by simp⟩
section
variable{N:cH}{w0 w:World}{e:Env}{R:List Piece}{H:List HP}
theorem aLN(st:St w0 R H w){i1 i2 i3 i4 i5 g1 g2 g3 g4 g5:Nat}(h1:H[i1]? =some (HP.aE g1 86 [.int .u8 111,sn,.int .u64 1,iv 0,iv 0,iv 0]))(h2:H[i2]? =some (HP.aE g2 50 [iv (-1),iv 0,.bool false]))(h3:H[i3]? =some (HP.aE g3 88 [iv 0]))(h5:H[i5]? =some (HP.aE g5 48 [.int .u32 0,.bool false]))(h4:H[i4]? =some (HP.aE g4 38 [iv 0,iv 0,iv 0,.int .u32 0,.slice (some ⟨g5,0,none⟩) 1 1,sn])):
  fM w yA (some ⟨g1,0,none⟩) 1 (some ⟨g2,0,none⟩) 1 (some ⟨g3,0,none⟩) 1 (some ⟨g4,0,none⟩) 1:=
 ⟨⟨[_],⟨rfl,⟨none,0,0,rfl,rfl,rfl,fun h=>absurd h (by omega)⟩,trivial⟩,rfl,st.rT h1 rfl⟩,⟨[_],⟨rfl,rfl,trivial⟩,rfl,st.rT h2 rfl⟩,⟨[_],⟨rfl,rfl,trivial⟩,rfl,st.rT h3 rfl⟩,⟨[_],⟨rfl,⟨some ⟨g5,0,none⟩,1,1,none,0,0,rfl,rfl,rfl,st.rT h5 rfl,rfl,fun h=>absurd h (by omega)⟩,trivial⟩,rfl,st.rT h4 rfl⟩,Vz aGm⟩
end
theorem aLQ(w:World):Cz 8 #[] w (Rt (.bool true) w):=by
 refine aN func8 ntmps8 ?_;refine aB ?_;refine eK fun g1=>?_;refine aB ?_;refine eK fun g2=>?_;refine aB ?_;refine eK fun g3=>?_;refine aB ?_;refine eK fun g5=>?_;refine aB ?_;refine eK fun g4=>?_;refine aB ?_;refine bT fun g6=>?_;refine aB ?_;refine fR (aFl yA) (fun w1 t=>aGH yA _ _ _ _ 1 1 1 1 1 1 1 1 w1 (aLN t (i1:=5) (i2:=4) (i3:=3) (i4:=1) (i5:=2) rfl rfl rfl rfl rfl) aGm) ?_;rintro _ _ q2 ⟨gR,f,r,hL,pX,rfl,rfl,aV⟩ _;dsimp only[List.cons_append,List.nil_append];refine aB ?_;obtain⟨z1,mQ,hk,tL,Ak,Rp,hst,hho⟩:∃z1,vN (Jk yA) 0 114 0 0 0=(0,z1)∧z1.t0.kind=114∧z1.t0.dev=0∧z1.t0.bX=0∧hG z1.t0 0=0∧z1.t0.st=1∧z1.eX < 0:=⟨_,rfl,rfl,rfl,rfl,rfl,rfl,by decide⟩
 refine eC 1 (gL r hL.h f yA z1) (fun w1 F1 t h1 h2 h3=>by
  have:=aG6 r hL.h f yA (Jk yA) w1 F1 0 114 0 0 0 h1 h2
  rw[mQ] at this
  exact this) ?_
 refine aB ?_;refine eC 1 (gL r hL.h f yA (kE (kD z1 0) 0 6 0)) (fun w1 F1 t h1 h2 h3=>aM4 r hL.h f yA z1 w1 F1 _ hk tL Ak rfl (Nat.le_refl 1) Rp h1 h2 hst hho) ?_;refine aB ?_;refine eC 1 (gL r hL.h f yA (nM (kE (kD z1 0) 0 6 0) 0).2) (fun w1 F1 t h1 h2 h3=>aG8 r hL.h f yA (kE (kD z1 0) 0 6 0) w1 F1 0 h1 h2) ?_;rw[show(nM (kE (kD z1 0) 0 6 0) 0).1=(6,0,true) from rfl];refine aB ?_;refine bT fun g7=>?_;refine aB ?_;exact cZ
end
section
structure pP where
 op:Int
 task:Int
 kind:Int
 dev:Int
 bX:Int
 v:Int
 ag:Int
 pr:Int
 ms:Int
 id:Int
 aw:Int
 od:Int
def pP.cells(a:pP):List Value:=[iv a.op,iv a.task,iv a.kind,iv a.dev,iv a.bX,.int .u32 a.v,iv a.ag,iv a.pr,iv a.ms,iv a.id,iv a.aw,iv a.od]
def wK(a:Int):Prop:= -9223372036854775808≤a∧a≤9223372036854775807
structure pP.ok(a:pP):Prop where
 op:wK a.op
 task:wK a.task
 kind:wK a.kind
 dev:wK a.dev
 bX:wK a.bX
 v:0≤a.v∧a.v < 4294967296
 pr:wK a.pr
 ms:wK a.ms
 id:wK a.id
 aw:wK a.aw
 od:wK a.od
theorem pP.len(a:pP):a.cells.length=12:=rfl
end
section
def yE(c n:Int):Int:=(if c < 0 then 0 - (c+1) else c) % n
theorem Qf(c n:Int)(hn:0 < n):0≤yE c n∧yE c n < n:=⟨Int.emod_nonneg _ (by omega),Int.emod_lt_of_pos _ hn⟩
def Jw(r:Int):Int:=([103,103,103,112,112,114,119,114,119,115,109,109,120]:List Int).getD r.toNat 0
theorem aPf{r:Int}(h0:0≤r)(h1:r < 13):([.int .u8 103,.int .u8 103,.int .u8 103,.int .u8 112,.int .u8 112,.int .u8 114,.int .u8 119,.int .u8 114,.int .u8 119,.int .u8 115,.int .u8 109,.int .u8 109,.int .u8 120]:List Value)[r.toNat]? =some (.int .u8 (Jw r)):=by
 obtain⟨n,rfl⟩:∃n:Nat,r=(n:Int):=⟨r.toNat,by omega⟩
 have hn:n < 13:=by omega
 unfold Jw;rw[Int.toNat_natCast]
 match n,hn with
 | 0,_ | 1,_ | 2,_ | 3,_ | 4,_ | 5,_ | 6,_ | 7,_ | 8,_ | 9,_ | 10,_ | 11,_ | 12,_=>rfl
 | n+13,h=>omega
def aEC(a:pP):Int:=Jw (yE a.kind 13)
def aBK(a:pP)(many:Int):Int:=yE a.dev (many+1)
def aEB(a:pP):Int:=yE a.bX 4
end
section
theorem aAN(c n:Int)(w:World)(hc:wK c)(hn:0 < n):Cz 11 #[iv c,iv n] w (Rt (iv (yE c n)) w):=by
 unfold wK at hc;refine aN func11 ntmps11 ?_;refine aB ?_;refine aG rfl (fun h=>?_) (fun h=>?_)
 ·refine aB ?_;refine kA (by simp) ?_;rw[yE,if_pos h]
 ·refine aB ?_;refine kA (by simp) ?_;rw[yE,if_neg h]
theorem aJx(a:pP)(many:Int)(w:World)(ha:a.ok)(hm:0≤many∧many≤1000):Cz 18 #[.agg a.cells.toArray,iv many] w (Rt (.agg #[.int .u8 (aEC a),iv (aBK a many),iv (aEB a),.int .u32 a.v]) w):=by
 obtain⟨a0,a1,a2,a3,a4,a5,b0,b1,b2,b3,b4,b5⟩:=a
 have h2:wK a2:=ha.kind
 have h3:wK a3:=ha.dev
 have h4:wK a4:=ha.bX
 obtain⟨p0,p1⟩:=Qf a2 13 (by decide)
 have hk:=aPf p0 p1
 have q:=Qf a3 (many+1) (by omega)
 refine aN func18 ntmps18 ?_;refine aB ?_;refine bF fun g1=>?_;refine aB ?_;refine bT fun g2=>?_;refine aB ?_;refine eK fun g3=>?_;refine aB ?_;refine aCg ?_;refine aJ 3 ?_;refine aU (fun w1 t=>aAN _ 13 w1 h2 (by decide)) ?_;refine bB ?_;refine On 4 ?_;refine On 5 ?_ (dD:=bP rfl (Rd.aE 0 rfl (by simpa using hk)));refine aJ 10 ?_;refine aU (fun w1 t=>aAN _ (many+1) w1 h3 (by omega)) ?_;refine bB ?_;refine aJ 13 ?_;refine aU (fun w1 t=>aAN _ 4 w1 h4 (by decide)) ?_;refine bB ?_;refine nZ 16 ?_;refine aJ 17 ?_;refine oL 1 rfl ?_;dsimp only[List.set];refine bO ?_;refine eN ?_;refine aB ?_;exact Li (vs:=[.int .u8 (Jw (yE a2 13)),iv (yE a3 (many+1)),iv (yE a4 4),.int .u32 a5]) rfl (by kernel_rfl) rfl rfl (aQ.whole 1 rfl) fun w1 t=>⟨rfl,t.below (by simp)⟩
end
section
def Pf(cs:List eG)(rows:List (List Value))(p:Piece):Prop:=Rows (uC (fQ p)) 6 cs rows
theorem Pf.le{cs:List eG}{rows:List (List Value)}(p q:Piece)(h:p.Le q)(k:Pf cs rows p):Pf cs rows q:=Rows.mono (fun _ _=>uC.mono (oF h)) k
def Pd(vs:List bQ)(rows:List (List Value))(p:Piece):Prop:=Rows (tA (fQ p)) 6 vs rows
theorem Pd.le{vs:List bQ}{rows:List (List Value)}(p q:Piece)(h:p.Le q)(k:Pd vs rows p):Pd vs rows q:=Rows.mono (fun _ _=>tA.mono (oF h)) k
def zA(sz:Nat)(A:Option Addr)(n:Nat)(xs:List Value)(p:Piece):Prop:=aI p sz A n xs
theorem zA.le{sz n:Nat}{A:Option Addr}{xs:List Value}(p q:Piece)(h:p.Le q)(k:zA sz A n xs p):zA sz A n xs q:=aI.le k h
def rH(cs:List eG)(rows:List (List Value)):HP:=HP.cE (Pf cs rows) (Pf.le (cs:=cs) (rows:=rows))
def Dj(vs:List bQ)(rows:List (List Value)):HP:=HP.cE (Pd vs rows) (Pd.le (vs:=vs) (rows:=rows))
section
variable{N:cH}{w0:World}{K:Act→World→Prop}{e:Env}{R:List Piece}{H:List HP}
theorem aJY{p:HP}(hp:∀w,p.sat (fun _=>False) w)(h:XK N w0 K e R (p::H)):XK N w0 K e R H:=fun a w hr st=>by
 obtain⟨Z,F,hz,cK,hs,dH,dR⟩:=st.ex;refine h a w hr ⟨st.os,st.tape,st.output,st.size,Z,fun i=>match i with | 0=>fun _=>False | i+1=>F i,hz,cK,fun i r hi=>?_,fun i b hb=>?_,fun i j b hij hi=>?_⟩
 ·cases i with
  | zero=>simp at hi;subst hi;exact hp w
  | succ i=>exact hs i r (by simpa using hi)
 ·cases i with
  | zero=>exact hb.elim
  | succ i=>exact dH i b hb
 ·cases i with
  | zero=>exact hi.elim
  | succ i=>cases j with
   | zero=>exact id
   | succ j=>exact dR i j b (by omega) hi
theorem aTV{cs:List eG}{rows:List (List Value)}{cl:eG}{A:Option Addr}{c:Nat}(h:XK N w0 K e R (rH (cs++[cl]) (rows++[[.int .u8 cl.kind,.slice A cl.src.length c,.int .u64 cl.rate,iv cl.mul,iv cl.div,iv cl.lock]])::H)):XK N w0 K e R (HP.own 3 1 (.slice A cl.src.length c) cl.src.length (aL cl.src)::rH cs rows::H):=
 wF 0 (Φ:=zA 1 A cl.src.length (aL cl.src)) (hm:=zA.le) rfl (fun _ h=>h) (Th (X:=Pf (cs++[cl]) (rows++[_])) (h3:=Pf.le) (fun p h1 h2=>h2.snoc rfl ⟨A,_,c,rfl,rfl,h1⟩) h)
theorem aTT{vs:List bQ}{rows:List (List Value)}{d:bQ}{A A':Option Addr}{c c':Nat}(h:XK N w0 K e R (Dj (vs++[d]) (rows++[[iv d.clock,iv d.domain,iv d.reset,.int .u32 d.iV,.slice A d.aP.length c,.slice A' d.iZ.length c']])::H)):XK N w0 K e R (HP.own 48 2 (.slice A d.aP.length c) d.aP.length (d.aP.flatMap Rg.cells)::HP.own 3 1 (.slice A' d.iZ.length c') d.iZ.length (aL d.iZ)::Dj vs rows::H):=
 wF 0 (Φ:=zA 2 A d.aP.length (d.aP.flatMap Rg.cells)) (hm:=zA.le) rfl (fun _ h=>h) (wF 1 (Φ:=zA 1 A' d.iZ.length (aL d.iZ)) (hm:=zA.le) rfl (fun _ h=>h) (Th (X:=fun p=>zA 2 A d.aP.length (d.aP.flatMap Rg.cells) p∧zA 1 A' d.iZ.length (aL d.iZ) p) (h3:=fun p q hl h=>⟨zA.le p q hl h.1,zA.le p q hl h.2⟩) (fun p h1 h2=>⟨h1,h2⟩) (Th (X:=Pd (vs++[d]) (rows++[_])) (h3:=Pd.le) (fun p h1 h2=>h2.snoc rfl ⟨A,_,c,A',_,c',rfl,rfl,rfl,h1.1,h1.2⟩) h)))
end
def aKF(v:Value)(hs:List HP)(_:Piece):Prop:=∃(s:aC) (A1 A2 A3 A4:Option Addr×Nat) (r1 r2 r3 r4:List (List Value)),v=.agg #[.slice A1.1 s.aF.length A1.2,.slice A2.1 s.domains.length A2.2,.slice A3.1 s.aR.length A3.2,.slice A4.1 s.aD.length A4.2]∧s.made∧Rows uB 3 s.domains r2∧Rows xM 1 s.aR r3∧
 hs=[HP.own 86 6 (.slice A1.1 s.aF.length A1.2) s.aF.length r1.flatten,rH s.aF r1,HP.own 50 3 (.slice A2.1 s.domains.length A2.2) s.domains.length r2.flatten,HP.own 88 1 (.slice A3.1 s.aR.length A3.2) s.aR.length r3.flatten,HP.own 38 6 (.slice A4.1 s.aD.length A4.2) s.aD.length r4.flatten,Dj s.aD r4]
end
section
theorem St.aSD{w0 w:World}{R:List Piece}{H:List HP}(st:St w0 R H w){s:aC}{A1 A2 A3 A4:Option Addr}{n1 n2 n3 n4 k1 k2 k3 k4:Nat}{r1 r2 r3 r4:List (List Value)}(i1 i2 i3 i4 i5 i6:Nat)(h1:H[i1]? =some (HP.own 86 6 (.slice A1 n1 k1) n1 r1.flatten))(h2:H[i2]? =some (rH s.aF r1))(h3:H[i3]? =some (HP.own 50 3 (.slice A2 n2 k2) n2 r2.flatten))(h4:H[i4]? =some (HP.own 88 1 (.slice A3 n3 k3) n3 r3.flatten))(h5:H[i5]? =some (HP.own 38 6 (.slice A4 n4 k4) n4 r4.flatten))(h6:H[i6]? =some (Dj s.aD r4))
  (e1:n1=s.aF.length) (e2:n2=s.domains.length) (e3:n3=s.aR.length) (e4:n4=s.aD.length) (gD:Rows uB 3 s.domains r2) (tI:Rows xM 1 s.aR r3) (hs:s.small):fM w s A1 n1 A2 n2 A3 n3 A4 n4:=
 ⟨⟨r1,st.cE i2 h2,e1,st.Un h1⟩,⟨r2,gD,e2,st.Un h3⟩,⟨r3,tI,e3,st.Un h4⟩,⟨r4,st.cE i6 h6,e4,st.Un h5⟩,hs⟩
end
section
theorem aNG(c n:Int)(w:World)(hc: -9223372036854775808≤c∧c≤9223372036854775807)(hn:0 < n):
  Cz 11 #[iv c,iv n] w fun x w'=>(∃v,x=.returned v∧∃r:Int,v=iv r∧0≤r∧r < n)∧Below w.heap.size w w':=by
 refine aN func11 ntmps11 ?_;refine aB ?_;refine Oi (α:=Int) (fun c=>[(0,iv c),(1,iv n)]) (fun _=>[]) (fun c=>0≤c) ?_ fun c hc0=>?_
 ·refine aB ?_;refine aG rfl (fun h=>?_) (fun h=>?_)
  ·refine aB ?_;exact iB _
  ·refine aB ?_;exact iB _
 refine aB ?_;exact nA rfl rfl fun w' st=>⟨⟨_,rfl,_,rfl,Int.emod_nonneg _ (by omega),Int.emod_lt_of_pos _ hn⟩,st.below (by simp)⟩
set_option maxRecDepth 100000 in
theorem aSE(A : Option Addr)(n c : Nat)(zs : List Int)(w : World)(h0 : aI (all w) 1 A n (aL zs))(hz : aFq zs)(hn : n = zs.length)(hn2 : n ≤ 9223372036854775807) :
    Cz 9 #[.slice A n c] w fun x w'=>(∃v hs q,x=.returned v∧q.w=w'∧(∃p hs',hs=p::hs'∧aKF v hs' q)∧kC w hs q)∧Below w.heap.size w w':=by
  refine aN func9 ntmps9 ?_;refine aB ?_;refine bT fun g1=>?_;refine aB ?_;refine mA 8 (n:=120) (el:=3) (z:=iv 0) (by kernel_rfl) (by kernel_rfl) rfl rfl rfl (by omega) (by omega) (by decide) fun g2=>?_;refine aB ?_;refine Gd (α:=List Int) (fun _=>[(4,.slice (some ⟨g2,0,none⟩) 120 120),(2,pt g1)]) (fun ds=>[HP.aE g2 3 (aL ds),HP.aE g1 30 [sn,sn,sn,sn]]) zF ?_ fun ds hd=>?_
  · refine qA (α:=List Int) (fun i _=>[(5,iv i),(4,.slice (some ⟨g2,0,none⟩) 120 120),(2,pt g1),(0,.slice A n c)]) (fun _ ds=>[HP.aE g2 3 (aL ds),HP.aE g1 30 [sn,sn,sn,sn]]) (fun _ ds=>zF ds) 120 (List.replicate 120 0) zF.zero fun k ds hk hd=>?_
    refine aB ?_;refine bU (t:=23) rfl (fun hg=>?_) (fun hg=>?_)
    · refine aB ?_
      refine aG rfl (fun h=>?_) (fun h=>?_)
      · have hk2:k < 120:=by omega
        have hn0:0 < n:=by omega
        obtain⟨b,off,rfl,gF,hc⟩:=h0.2 hn0
        have hkb:=Ig (k:Int) (n:=(n:Int)) (by omega)
        have hdb:0≤(k:Int) / (n:Int)∧(k:Int) / (n:Int)≤k:=⟨Int.ediv_nonneg (by omega) (by omega),Int.ediv_le_self _ (by omega)⟩
        have k0:fO w b (off+((k:Int) % (n:Int)).toNat) (iv (zs[((k:Int) % (n:Int)).toNat]?.getD 0)):=⟨gF,hc _ _ (aD6 zs _ (by omega))⟩
        have hyb:=aLA (z:=zs[((k:Int) % (n:Int)).toNat]?.getD 0) (d:=1+(k:Int) / (n:Int)) (lo:= -9223372036854775808) (hi:=9223372036854775807) (by omega) (by omega) (by omega) (hz _)
        refine aB ?_;refine pN ?_;refine aJ 15 ?_;refine uS (fun v=>∃r:Int,v=iv r∧0≤r∧r < 1000000) (fun w1 st=>aNG _ _ w1 hyb (by omega)) fun v hv=>?_;obtain⟨r,rfl,Ap,eI⟩:=hv;refine bB ?_;refine nC [16,17] ?_;refine aB ?_;refine fF rfl rfl ?_ (hs:=eO.mk 0 rfl cG.h rfl (by simp[aL,hd.1];omega));dsimp only[List.set];rw[aBe];refine aB ?_;exact jL _ (hg:=hd.jY k Ap eI)
      · refine aB ?_
        exact iB _
    · refine aB ?_
      exact iB _
  refine aB ?_;refine eK fun g3=>?_;refine aB ?_;refine bT fun g4=>?_;refine aB ?_;refine Bq 1 6 1 rfl rfl (by omega) ?_;dsimp only[List.set];refine aJY (p:=rH [⟨111,[],1+dv ds 0 % 1000000,0,0,0⟩] [[.int .u8 111,sn,.int .u64 (1+dv ds 0 % 1000000),iv 0,iv 0,iv 0]]) (fun w=>⟨rfl,⟨none,0,0,rfl,rfl,rfl,fun h=>absurd h (by omega)⟩,trivial⟩) ?_;refine Gd (α:=(List eG×List (List Value))×(Option Addr×Nat)×Nat) (fun _=>[(6,pt g4),(4,.slice (some ⟨g2,0,none⟩) 120 120),(2,pt g1)]) (fun x=>[rH x.1.1 x.1.2,HP.own 86 6 (.slice x.2.1.1 x.2.2 x.2.1.2) x.2.2 x.1.2.flatten,HP.aE g4 30 [.slice x.2.1.1 x.2.2 x.2.1.2,sn,sn,sn],HP.aE g2 3 (aL ds),HP.aE g1 30 [sn,sn,sn,sn]]) (fun x=>x.1.1.length=x.2.2∧1≤x.2.2∧x.2.2≤9∧Fits eG.fit x.1.1) ?_ fun x hx=>?_
  · refine qA (α:=(List eG×List (List Value))×(Option Addr×Nat)×List Value) (fun i _=>[(8,iv i),(7,.string ⟨#[112,100,103,109,103]⟩),(6,pt g4),(4,.slice (some ⟨g2,0,none⟩) 120 120),(3,iv 1),(2,pt g1)]) (fun i x=>[rH x.1.1 x.1.2,HP.own 86 6 (.slice x.2.1.1 (i+1) x.2.1.2) (i+1) x.2.2,HP.aE g4 30 [.slice x.2.1.1 (i+1) x.2.1.2,sn,sn,sn],HP.aE g2 3 (aL ds),HP.aE g1 30 [sn,sn,sn,sn]]) (fun i x=>x.1.1.length=i+1∧i≤8∧Fits eG.fit x.1.1∧x.2.2=x.1.2.flatten) 9 (([⟨111,[],1+dv ds 0 % 1000000,0,0,0⟩],[[.int .u8 111,sn,.int .u64 (1+dv ds 0 % 1000000),iv 0,iv 0,iv 0]]),(_,_),_) ⟨rfl,by omega,(Fits.nil eG.fit).snoc ⟨by simp,.inl ⟨rfl,rfl,by dsimp only;omega,by dsimp only;omega,rfl,rfl,rfl⟩⟩,rfl⟩ fun i x hi hx=>?_
    obtain⟨⟨cs,rows⟩,⟨B,cB⟩,xs⟩:=x;dsimp only at hx⊢;obtain⟨iD,hi8,Na,rfl⟩:=hx;refine aB ?_;refine aG rfl (fun h=>?_) (fun h=>?_)
    · obtain⟨kb,hkb,aP8⟩:=aPd (q:=(dv ds (10+3*(i:Int)).toNat % 1000000 % 5).toNat) (by omega)
      have f0:=Ig (dv ds ((10+3*(i:Int))+1).toNat % 1000000) (n:=((i+1:Nat):Int)) (by omega)
      refine aB ?_;refine Oi (α:=Nat×Nat) (fun x=>[(10,.pointer (some ⟨x.2,0,none⟩)),(9,iv (10+3*(i:Int))),(8,iv i),(7,.string ⟨#[112,100,103,109,103]⟩),(6,pt g4),(4,.slice (some ⟨g2,0,none⟩) 120 120),(3,iv 1),(2,pt g1)]) (fun x=>[HP.aE x.2 86 [.int .u8 kb.toNat,.slice (some ⟨x.1,0,none⟩) 1 1,.int .u64 0,iv 0,iv 0,iv 0],HP.aE x.1 3 [iv (dv ds ((10+3*(i:Int))+1).toNat % 1000000 % ((i+1:Nat):Int))],rH cs rows,HP.own 86 6 (.slice B (i+1) cB) (i+1) rows.flatten,HP.aE g4 30 [.slice B (i+1) cB,sn,sn,sn],HP.aE g2 3 (aL ds),HP.aE g1 30 [sn,sn,sn,sn]]) (fun _=>True) ?_ fun x _=>?_
      · refine pN ?_
        refine Ja 16 18 rfl rfl (by kernel_rfl) ?_ ?_
        · refine eK fun g5=>?_
          refine bB ?_;refine On 17 ?_;refine aJ 18 ?_;refine bT fun g6=>?_;refine bB ?_;refine nC [19] ?_;refine aB ?_;exact iB (_,_)
        · refine bT fun g6=>?_
          refine bB ?_;refine aJ 16 ?_;refine eK fun g5=>?_;refine bB ?_;refine On 17 ?_;refine nC [19] ?_;refine aD4 ?_;refine oL 1 rfl ?_;dsimp only[List.set];refine aB ?_;exact iB (_,_)
      obtain⟨g5,g6⟩:=x;dsimp only
      have f1:=Ig (dv ds ((10+3*(i:Int))+2).toNat % 1000000) (n:=((i+1:Nat):Int)) (by omega)
      refine Bq 1 1 1 rfl rfl (by omega) ?_;dsimp only[List.set];refine aB ?_;refine Gd (α:=eG×(Option Addr×Nat)) (fun _=>[(10,pt g6),(8,iv i),(7,.string ⟨#[112,100,103,109,103]⟩),(6,pt g4),(4,.slice (some ⟨g2,0,none⟩) 120 120),(3,iv 1),(2,pt g1)]) (fun x=>[HP.aE g6 86 [.int .u8 x.1.kind,.slice x.2.1 x.1.src.length x.2.2,.int .u64 x.1.rate,iv x.1.mul,iv x.1.div,iv x.1.lock],HP.own 3 1 (.slice x.2.1 x.1.src.length x.2.2) x.1.src.length (aL x.1.src),rH cs rows,HP.own 86 6 (.slice B (i+1) cB) (i+1) rows.flatten,HP.aE g4 30 [.slice B (i+1) cB,sn,sn,sn],HP.aE g2 3 (aL ds),HP.aE g1 30 [sn,sn,sn,sn]]) (fun x=>x.1.fit (i+1)) ?_ fun x hx=>?_
      · refine aG rfl (fun h1=>?_) (fun h1=>?_)
        · refine aB ?_
          exact iB (⟨_,[dv ds ((10+3*(i:Int))+1).toNat % 1000000 % ((i+1:Nat):Int)],_,_,_,_⟩,_,_) (hg:=⟨(fun f hf=>by rcases List.mem_singleton.1 hf with rfl;exact f0),.inr (.inl ⟨h1,rfl,rfl,by dsimp only;omega,by dsimp only;omega,by dsimp only;omega,by dsimp only;omega,by dsimp only;omega,by dsimp only;omega⟩)⟩)
        refine aB ?_;refine aG rfl (fun h2=>?_) (fun h2=>?_)
        · refine aB ?_
          exact iB (⟨_,[dv ds ((10+3*(i:Int))+1).toNat % 1000000 % ((i+1:Nat):Int)],_,_,_,_⟩,_,_) (hg:=⟨(fun f hf=>by rcases List.mem_singleton.1 hf with rfl;exact f0),.inr (.inr (.inl ⟨h2,rfl,rfl,rfl,by dsimp only;omega,by dsimp only;omega,rfl⟩))⟩)
        refine aB ?_;refine aG rfl (fun h3=>?_) (fun h3=>?_)
        · refine pN ?_
          refine aJ 11 ?_;refine eK fun g7=>?_;refine bB ?_;refine nC [12,13,14] ?_;refine aB ?_;refine sU 2 fun A' k'=>?_;dsimp only[List.set];refine aB ?_;exact iB (⟨_,[dv ds ((10+3*(i:Int))+1).toNat % 1000000 % ((i+1:Nat):Int),dv ds ((10+3*(i:Int))+2).toNat % 1000000 % ((i+1:Nat):Int)],_,_,_,_⟩,_,_) (hg:=⟨(fun f hf=>by simp only[List.mem_cons,List.not_mem_nil,or_false] at hf;rcases hf with rfl | rfl;exact f0;exact f1),.inr (.inr (.inr (.inr ⟨h3,rfl,rfl,rfl,rfl,rfl⟩)))⟩)
        · refine aB ?_
          exact iB (⟨_,[dv ds ((10+3*(i:Int))+1).toNat % 1000000 % ((i+1:Nat):Int)],_,_,_,_⟩,_,_) (hg:=⟨(fun f hf=>by rcases List.mem_singleton.1 hf with rfl;exact f0),.inr (.inr (.inr (.inl ⟨by rcases aP8 with h | h | h | h<;>simp_all,rfl,rfl,rfl,rfl,rfl⟩)))⟩)
      obtain⟨cl,Af,cf⟩:=x;dsimp only at hx⊢;refine aB ?_;refine eK fun g7=>?_;refine aB ?_;refine sU 4 fun A' k'=>?_;dsimp only[List.set];refine aB ?_;refine aY [2,3,4,5,6,7] rfl (by decide) (fun _ h=>h) ?_;refine aTV ?_;exact jL ((_,_),(_,_),_) (hg:=⟨by simp[iD],by omega,Na.snoc (by rw[iD];exact hx),by simp⟩)
    · refine aB ?_
      exact iB ((_,_),(_,_),_) (hg:=⟨iD,Nat.succ_pos i,Nat.succ_le_succ hi8,Na⟩)
  obtain⟨⟨cs,rows⟩,⟨B,cB⟩,nc⟩:=x;dsimp only at hx⊢;obtain⟨iD,Xo,hc9,Na⟩:=hx;refine aB ?_;refine iR 50 3 ?_;refine Gd (α:=(List Dom×List (List Value))×(Option Addr×Nat)×Nat) (fun _=>[(6,pt g4),(4,.slice (some ⟨g2,0,none⟩) 120 120),(2,pt g1)]) (fun x=>[HP.own 50 3 (.slice x.2.1.1 x.2.2 x.2.1.2) x.2.2 x.1.2.flatten,rH cs rows,HP.own 86 6 (.slice B nc cB) nc rows.flatten,HP.aE g4 30 [.slice B nc cB,.slice x.2.1.1 x.2.2 x.2.1.2,sn,sn],HP.aE g2 3 (aL ds),HP.aE g1 30 [sn,sn,sn,sn]]) (fun x=>x.1.1.length=x.2.2∧1≤x.2.2∧x.2.2≤4∧Fits Dom.fit x.1.1∧Rows uB 3 x.1.1 x.1.2) ?_ fun x hx=>?_
  · refine qA (α:=(List Dom×List (List Value))×(Option Addr×Nat)×List Value) (fun i _=>[(11,iv i),(6,pt g4),(4,.slice (some ⟨g2,0,none⟩) 120 120),(2,pt g1)]) (fun i x=>[HP.own 50 3 (.slice x.2.1.1 i x.2.1.2) i x.2.2,rH cs rows,HP.own 86 6 (.slice B nc cB) nc rows.flatten,HP.aE g4 30 [.slice B nc cB,.slice x.2.1.1 i x.2.1.2,sn,sn],HP.aE g2 3 (aL ds),HP.aE g1 30 [sn,sn,sn,sn]]) (fun i x=>x.1.1.length=i∧Fits Dom.fit x.1.1∧Rows uB 3 x.1.1 x.1.2∧x.2.2=x.1.2.flatten) 4 (([],[]),(none,0),[]) ⟨rfl,Fits.nil _,trivial,rfl⟩ fun i x hi hx=>?_
    obtain⟨⟨dm,Bf⟩,⟨D,cD⟩,xs⟩:=x;dsimp only at hx⊢;obtain⟨jB,hdf,Ay,rfl⟩:=hx;refine aB ?_;refine aG rfl (fun h=>?_) (fun h=>?_)
    · refine aB ?_
      refine pN ?_;refine aJ 15 ?_;refine bT fun g5=>?_;refine bB ?_;refine nC [16] ?_;refine aD4 ?_;refine oL 0 rfl ?_;dsimp only[List.set];refine aHI ?_;refine iA ?_;refine Tm (α:=Int) (fun _=>[(12,pt g5),(11,iv i),(6,pt g4),(4,.slice (some ⟨g2,0,none⟩) 120 120),(2,pt g1)]) (fun v=>[HP.aE g5 50 [iv v,iv (dv ds (40+(i:Int)).toNat % 4),.bool (decide (dv ds (40+(i:Int)).toNat % 1000000 / 4 % 2=1))],HP.own 50 3 (.slice D i cD) i Bf.flatten,rH cs rows,HP.own 86 6 (.slice B nc cB) nc rows.flatten,HP.aE g4 30 [.slice B nc cB,.slice D i cD,sn,sn],HP.aE g2 3 (aL ds),HP.aE g1 30 [sn,sn,sn,sn]]) (fun v=>v= -1∨(0≤v∧v < i)) ?_ fun v hv=>?_
      · refine aB ?_
        refine bU (t:=172) rfl (fun hg=>?_) (fun hg=>?_)
        · have f2:=Ig (dv ds (44+(i:Int)).toNat % 1000000 / 3) (n:=(i:Int)) hg
          refine aB ?_;refine aG rfl (fun h3=>?_) (fun h3=>?_)
          · refine aB ?_
            exact iB _ (hg:=.inr f2)
          · refine aB ?_
            exact iB _ (hg:=.inl rfl)
        · refine aB ?_
          exact iB _ (hg:=.inl rfl)
      refine aB ?_;refine eK fun g7=>?_;refine aB ?_;refine sU 2 fun A' k'=>?_;dsimp only[List.set];refine aB ?_;exact jL ((dm++[⟨v,dv ds (40+(i:Int)).toNat % 4,decide (dv ds (40+(i:Int)).toNat % 1000000 / 4 % 2=1)⟩],Bf++[_]),(_,_),_) (hg:=⟨by simp[jB],hdf.snoc ⟨by rw[jB];exact hv,by dsimp only;omega,by dsimp only;omega⟩,Ay.snoc rfl rfl,by simp⟩)
    · refine aB ?_
      exact iB ((_,_),(_,_),_) (hg:=⟨jB,by show 1≤i;omega,hi,hdf,Ay⟩)
  obtain⟨⟨dm,Bf⟩,⟨D,cD⟩,nd⟩:=x;dsimp only at hx⊢;obtain⟨jB,dI,hd4,hdf,Ay⟩:=hx;refine aB ?_;refine iR 88 1 ?_;refine Gd (α:=(List Int×List (List Value))×(Option Addr×Nat)×Nat) (fun _=>[(6,pt g4),(4,.slice (some ⟨g2,0,none⟩) 120 120),(2,pt g1)]) (fun x=>[HP.own 88 1 (.slice x.2.1.1 x.2.2 x.2.1.2) x.2.2 x.1.2.flatten,HP.own 50 3 (.slice D nd cD) nd Bf.flatten,rH cs rows,HP.own 86 6 (.slice B nc cB) nc rows.flatten,HP.aE g4 30 [.slice B nc cB,.slice D nd cD,.slice x.2.1.1 x.2.2 x.2.1.2,sn],HP.aE g2 3 (aL ds),HP.aE g1 30 [sn,sn,sn,sn]]) (fun x=>x.1.1.length=x.2.2∧1≤x.2.2∧x.2.2≤3∧(∀r∈x.1.1,0≤r∧r≤3)∧Rows xM 1 x.1.1 x.1.2) ?_ fun x hx=>?_
  · refine qA (α:=(List Int×List (List Value))×(Option Addr×Nat)×List Value) (fun i _=>[(13,iv i),(6,pt g4),(4,.slice (some ⟨g2,0,none⟩) 120 120),(2,pt g1)]) (fun i x=>[HP.own 88 1 (.slice x.2.1.1 i x.2.1.2) i x.2.2,HP.own 50 3 (.slice D nd cD) nd Bf.flatten,rH cs rows,HP.own 86 6 (.slice B nc cB) nc rows.flatten,HP.aE g4 30 [.slice B nc cB,.slice D nd cD,.slice x.2.1.1 i x.2.1.2,sn],HP.aE g2 3 (aL ds),HP.aE g1 30 [sn,sn,sn,sn]]) (fun i x=>x.1.1.length=i∧(∀r∈x.1.1,0≤r∧r≤3)∧Rows xM 1 x.1.1 x.1.2∧x.2.2=x.1.2.flatten) 3 (([],[]),(none,0),[]) ⟨rfl,by simp,trivial,rfl⟩ fun i x hi hx=>?_
    obtain⟨⟨rs,rrs⟩,⟨L,cL⟩,xs⟩:=x;dsimp only at hx⊢;obtain⟨hrl,yG,cK,rfl⟩:=hx;refine aB ?_;refine aG rfl (fun h=>?_) (fun h=>?_)
    · refine aB ?_
      refine pN ?_;refine aJ 9 ?_;refine eK fun g7=>?_;refine bB ?_;refine nC [10,11,12] ?_;refine aB ?_;refine sU 1 fun A' k'=>?_;dsimp only[List.set];refine aB ?_
      exact jL ((rs++[dv ds (50+(i:Int)).toNat % 4],rrs++[_]),(_,_),_) (hg:=⟨by simp[hrl],(fun r hr=>by
        rcases List.mem_append.1 hr with hr | hr
        · exact yG r hr
        · rcases List.mem_singleton.1 hr with rfl
          omega),cK.snoc rfl rfl,by simp⟩)
    · refine aB ?_
      exact iB ((_,_),(_,_),_) (hg:=⟨hrl,by show 1≤i;omega,hi,yG,cK⟩)
  obtain⟨⟨rs,rrs⟩,⟨L,cL⟩,nr⟩:=x;dsimp only at hx⊢;obtain⟨hrl,eI,tI,yG,cK⟩:=hx;refine aB ?_;refine iR 38 6 ?_;refine aJY (p:=Dj [] []) (fun w=>trivial) ?_;refine Gd (α:=(List bQ×List (List Value))×(Option Addr×Nat)×Nat) (fun _=>[(6,pt g4),(4,.slice (some ⟨g2,0,none⟩) 120 120),(2,pt g1)]) (fun x=>[Dj x.1.1 x.1.2,HP.own 38 6 (.slice x.2.1.1 x.2.2 x.2.1.2) x.2.2 x.1.2.flatten,HP.own 88 1 (.slice L nr cL) nr rrs.flatten,HP.own 50 3 (.slice D nd cD) nd Bf.flatten,rH cs rows,HP.own 86 6 (.slice B nc cB) nc rows.flatten,HP.aE g4 30 [.slice B nc cB,.slice D nd cD,.slice L nr cL,.slice x.2.1.1 x.2.2 x.2.1.2],HP.aE g2 3 (aL ds),HP.aE g1 30 [sn,sn,sn,sn]]) (fun x=>x.1.1.length=x.2.2∧1≤x.2.2∧x.2.2≤4∧Fits (bQ.fit nc nd nr) x.1.1) ?_ fun x hx=>?_
  · refine qA (α := (List bQ × List (List Value)) × (Option Addr × Nat) × List Value) (fun i _ => [(14, iv i), (6, pt g4), (4, .slice (some ⟨g2, 0, none⟩) 120 120), (2, pt g1)]) (fun i x => [Dj x.1.1 x.1.2, HP.own 38 6 (.slice x.2.1.1 i x.2.1.2) i x.2.2, HP.own 88 1 (.slice L nr cL) nr rrs.flatten, HP.own 50 3 (.slice D nd cD) nd Bf.flatten, rH cs rows, HP.own 86 6 (.slice B nc cB) nc rows.flatten, HP.aE g4 30 [.slice B nc cB, .slice D nd cD, .slice L nr cL, .slice x.2.1.1 i x.2.1.2], HP.aE g2 3 (aL ds), HP.aE g1 30 [sn, sn, sn, sn]]) (fun i x => x.1.1.length = i ∧ Fits (bQ.fit nc nd nr) x.1.1 ∧ x.2.2 = x.1.2.flatten) 4 (([], []), (none, 0), []) ⟨rfl, Fits.nil _, rfl⟩ fun i x hi hx => ?_
    obtain⟨⟨vs,r4⟩,⟨V,cV⟩,xs⟩:=x;dsimp only at hx⊢;obtain⟨hvl,hvf,rfl⟩:=hx;refine aB ?_;refine aG rfl (fun h=>?_) (fun h=>?_)
    · have q0 := Ig (dv ds (60 + 12 * (i : Int)).toNat % 1000000) (n := (nc : Int)) (by omega)
      have q1:=Ig (dv ds (60+12*(i:Int)+1).toNat % 1000000) (n:=(nd:Int)) (by omega)
      have q2:=Ig (dv ds (60+12*(i:Int)+2).toNat % 1000000) (n:=(nr:Int)) (by omega)
      refine aB ?_;refine pN ?_;refine aJ 34 ?_;refine bT fun g5=>?_;refine bB ?_;refine nC [35] ?_;refine aB ?_;refine iR 48 2 ?_;refine Gd (α:=List Rg×(Option Addr×Nat)×Nat) (fun _=>[(16,pt g5),(15,iv (60+12*(i:Int))),(14,iv i),(6,pt g4),(4,.slice (some ⟨g2,0,none⟩) 120 120),(2,pt g1)]) (fun x=>[HP.own 48 2 (.slice x.2.1.1 x.2.2 x.2.1.2) x.2.2 (x.1.flatMap Rg.cells),HP.aE g5 38 [iv (dv ds (60+12*(i:Int)).toNat % 1000000 % (nc:Int)),iv (dv ds (60+12*(i:Int)+1).toNat % 1000000 % (nd:Int)),iv (dv ds (60+12*(i:Int)+2).toNat % 1000000 % (nr:Int)),.int .u32 (dv ds (60+12*(i:Int)+3).toNat % 1000000 % 3),.slice x.2.1.1 x.2.2 x.2.1.2,sn],Dj vs r4,HP.own 38 6 (.slice V i cV) i r4.flatten,HP.own 88 1 (.slice L nr cL) nr rrs.flatten,HP.own 50 3 (.slice D nd cD) nd Bf.flatten,rH cs rows,HP.own 86 6 (.slice B nc cB) nc rows.flatten,HP.aE g4 30 [.slice B nc cB,.slice D nd cD,.slice L nr cL,.slice V i cV],HP.aE g2 3 (aL ds),HP.aE g1 30 [sn,sn,sn,sn]]) (fun x=>x.1.length=x.2.2∧x.2.2≤4∧∀r∈x.1,0≤r.reset∧r.reset≤6) ?_ fun x hx=>?_
      · refine qA (α:=List Rg×(Option Addr×Nat)×List Value) (fun j _=>[(17,iv j),(16,pt g5),(15,iv (60+12*(i:Int))),(14,iv i),(6,pt g4),(4,.slice (some ⟨g2,0,none⟩) 120 120),(2,pt g1)]) (fun j x=>[HP.own 48 2 (.slice x.2.1.1 j x.2.1.2) j x.2.2,HP.aE g5 38 [iv (dv ds (60+12*(i:Int)).toNat % 1000000 % (nc:Int)),iv (dv ds (60+12*(i:Int)+1).toNat % 1000000 % (nd:Int)),iv (dv ds (60+12*(i:Int)+2).toNat % 1000000 % (nr:Int)),.int .u32 (dv ds (60+12*(i:Int)+3).toNat % 1000000 % 3),.slice x.2.1.1 j x.2.1.2,sn],Dj vs r4,HP.own 38 6 (.slice V i cV) i r4.flatten,HP.own 88 1 (.slice L nr cL) nr rrs.flatten,HP.own 50 3 (.slice D nd cD) nd Bf.flatten,rH cs rows,HP.own 86 6 (.slice B nc cB) nc rows.flatten,HP.aE g4 30 [.slice B nc cB,.slice D nd cD,.slice L nr cL,.slice V i cV],HP.aE g2 3 (aL ds),HP.aE g1 30 [sn,sn,sn,sn]]) (fun j x=>x.1.length=j∧(∀r∈x.1,0≤r.reset∧r.reset≤6)∧x.2.2=x.1.flatMap Rg.cells) 4 ([],(none,0),[]) ⟨rfl,by simp,rfl⟩ fun j x hj hx=>?_
        obtain⟨rg,⟨W,cW⟩,xs⟩:=x;dsimp only at hx⊢;obtain⟨kM,hgf,rfl⟩:=hx;refine aB ?_;refine aG rfl (fun h5=>?_) (fun h5=>?_)
        · refine aB ?_
          refine pN ?_;refine aJ 22 ?_;refine eK fun g7=>?_;refine bB ?_;refine nC [23,24,25] ?_;refine aB ?_;refine sU 1 fun A' k'=>?_;dsimp only[List.set];refine aB ?_
          exact jL (rg++[⟨dv ds (60+12*(i:Int)+5+(j:Int)).toNat % 1000000 % 7,decide (dv ds (60+12*(i:Int)+5+(j:Int)).toNat % 1000000 / 7 % 2=0)⟩],(_,_),_) (hg:=⟨by simp[kM],(fun r hr=>by
            rcases List.mem_append.1 hr with hr | hr
            · exact hgf r hr
            · rcases List.mem_singleton.1 hr with rfl
              dsimp only
              omega),by simp[Rg.cells]⟩)
        · refine aB ?_
          exact iB (_,(_,_),_) (hg:=⟨kM,hj,hgf⟩)
      obtain⟨rg,⟨W,cW⟩,ng⟩:=x;dsimp only at hx⊢;obtain⟨rfl,hg4,hgf⟩:=hx;refine iR 3 1 ?_;refine Tm (α:=(List Int×List Value)×(Option Addr×Nat)×Nat) (fun _=>[(16,pt g5),(15,iv (60+12*(i:Int))),(14,iv i),(6,pt g4),(4,.slice (some ⟨g2,0,none⟩) 120 120),(2,pt g1)]) (fun x=>[HP.own 3 1 (.slice x.2.1.1 x.2.2 x.2.1.2) x.2.2 x.1.2,HP.own 48 2 (.slice W rg.length cW) rg.length (rg.flatMap Rg.cells),HP.aE g5 38 [iv (dv ds (60+12*(i:Int)).toNat % 1000000 % (nc:Int)),iv (dv ds (60+12*(i:Int)+1).toNat % 1000000 % (nd:Int)),iv (dv ds (60+12*(i:Int)+2).toNat % 1000000 % (nr:Int)),.int .u32 (dv ds (60+12*(i:Int)+3).toNat % 1000000 % 3),.slice W rg.length cW,.slice x.2.1.1 x.2.2 x.2.1.2],Dj vs r4,HP.own 38 6 (.slice V i cV) i r4.flatten,HP.own 88 1 (.slice L nr cL) nr rrs.flatten,HP.own 50 3 (.slice D nd cD) nd Bf.flatten,rH cs rows,HP.own 86 6 (.slice B nc cB) nc rows.flatten,HP.aE g4 30 [.slice B nc cB,.slice D nd cD,.slice L nr cL,.slice V i cV],HP.aE g2 3 (aL ds),HP.aE g1 30 [sn,sn,sn,sn]]) (fun x=>x.1.1.length=x.2.2∧x.2.2≤1∧x.1.2=aL x.1.1∧∀f∈x.1.1,0≤f∧f < i) ?_ fun x hx=>?_
      · refine aB ?_
        refine bU (t:=300) rfl (fun hg=>?_) (fun hg=>?_)
        · have f2:=Ig (dv ds (60+12*(i:Int)+10).toNat % 1000000) (n:=(i:Int)) hg
          refine aB ?_;refine aG rfl (fun h3=>?_) (fun h3=>?_)
          · refine pN ?_
            refine aJ 9 ?_;refine eK fun g7=>?_;refine bB ?_;refine nC [10,11,12] ?_;refine aB ?_;refine sU 1 fun A' k'=>?_;dsimp only[List.set];refine aB ?_;exact iB (([_],_),(_,_),_) (hg:=⟨rfl,Nat.le_refl _,rfl,fun f hf=>by rcases List.mem_singleton.1 hf with rfl;exact f2⟩)
          · refine aB ?_
            exact iB (([],_),(_,_),_) (hg:=⟨rfl,Nat.zero_le _,rfl,by simp⟩)
        · refine aB ?_
          exact iB (([],_),(_,_),_) (hg:=⟨rfl,Nat.zero_le _,rfl,by simp⟩)
      obtain⟨⟨ns,xs⟩,⟨U,cU⟩,nn⟩:=x;dsimp only at hx⊢;obtain⟨iM,pH,rfl,hnf⟩:=hx;refine Tm (α:=(List Int×List Value)×(Option Addr×Nat)×Nat) (fun _=>[(16,pt g5),(15,iv (60+12*(i:Int))),(14,iv i),(6,pt g4),(4,.slice (some ⟨g2,0,none⟩) 120 120),(2,pt g1)]) (fun x=>[HP.own 3 1 (.slice x.2.1.1 x.2.2 x.2.1.2) x.2.2 x.1.2,HP.own 48 2 (.slice W rg.length cW) rg.length (rg.flatMap Rg.cells),HP.aE g5 38 [iv (dv ds (60+12*(i:Int)).toNat % 1000000 % (nc:Int)),iv (dv ds (60+12*(i:Int)+1).toNat % 1000000 % (nd:Int)),iv (dv ds (60+12*(i:Int)+2).toNat % 1000000 % (nr:Int)),.int .u32 (dv ds (60+12*(i:Int)+3).toNat % 1000000 % 3),.slice W rg.length cW,.slice x.2.1.1 x.2.2 x.2.1.2],Dj vs r4,HP.own 38 6 (.slice V i cV) i r4.flatten,HP.own 88 1 (.slice L nr cL) nr rrs.flatten,HP.own 50 3 (.slice D nd cD) nd Bf.flatten,rH cs rows,HP.own 86 6 (.slice B nc cB) nc rows.flatten,HP.aE g4 30 [.slice B nc cB,.slice D nd cD,.slice L nr cL,.slice V i cV],HP.aE g2 3 (aL ds),HP.aE g1 30 [sn,sn,sn,sn]]) (fun x=>x.1.1.length=x.2.2∧x.2.2≤2∧x.1.2=aL x.1.1∧∀f∈x.1.1,0≤f∧f < i) ?_ fun x hx=>?_
      · refine aB ?_
        refine bU (t:=323) rfl (fun hg=>?_) (fun hg=>?_)
        · have f2:=Ig (dv ds (60+12*(i:Int)+11).toNat % 1000000 / 3) (n:=(i:Int)) (by omega)
          refine aB ?_;refine aG rfl (fun h3=>?_) (fun h3=>?_)
          · refine pN ?_
            refine aJ 10 ?_;refine eK fun g7=>?_;refine bB ?_;refine nC [11,12,13] ?_;refine aB ?_;refine sU 1 fun A' k'=>?_;dsimp only[List.set];refine aB ?_
            exact iB ((ns++[dv ds (60+12*(i:Int)+11).toNat % 1000000 / 3 % (i:Int)],_),(_,_),_) (hg:=⟨by simp[iM],by show nn+1≤2;omega,by simp[aL],fun f hf=>by
              rcases List.mem_append.1 hf with hf | hf
              · exact hnf f hf
              · rcases List.mem_singleton.1 hf with rfl
                exact f2⟩)
          · refine aB ?_
            exact iB ((_,_),(_,_),_) (hg:=⟨iM,Nat.le_succ_of_le pH,rfl,hnf⟩)
        · refine aB ?_
          exact iB ((_,_),(_,_),_) (hg:=⟨iM,Nat.le_succ_of_le pH,rfl,hnf⟩)
      obtain⟨⟨ns,xs⟩,⟨U,cU⟩,nn⟩:=x;dsimp only at hx⊢;obtain⟨rfl,hn2,rfl,hnf⟩:=hx;refine aB ?_;refine eK fun g7=>?_;refine aB ?_;refine sU 5 fun A' k'=>?_;dsimp only[List.set];refine aB ?_;refine aY [2,1,4,5,6,7,8,9,10,11,12] rfl (by decide) (fun _ h=>h) ?_;refine aTT (d:=⟨dv ds (60+12*(i:Int)).toNat % 1000000 % (nc:Int),dv ds (60+12*(i:Int)+1).toNat % 1000000 % (nd:Int),dv ds (60+12*(i:Int)+2).toNat % 1000000 % (nr:Int),dv ds (60+12*(i:Int)+3).toNat % 1000000 % 3,rg,ns⟩) ?_;exact jL ((_,_),(_,_),_) (hg:=⟨by simp[hvl],hvf.snoc ⟨q0.1,q0.2,q1.1,q1.2,q2.1,q2.2,by dsimp only;omega,by dsimp only;omega,hg4,hgf,hn2,by rw[hvl];exact hnf⟩,by simp⟩)
    · refine aB ?_
      exact iB ((_,_),(_,_),_) (hg:=⟨hvl,by show 1≤i;omega,hi,hvf⟩)
  obtain⟨⟨vs,r4⟩,⟨V,cV⟩,nv⟩:=x;dsimp only at hx⊢;obtain⟨rfl,Mp,hv4,hvf⟩:=hx;subst iD;subst jB;subst hrl;refine aB ?_;refine oL 8 rfl ?_;dsimp only[List.set];refine aB ?_;refine aY [8,5,4,3,2,1,0] rfl (by decide) (fun _ h=>h) ?_;refine dP [] [] [0,1,2,3,4,5,6] (by simp) rfl (by decide) (by decide) fun q _ _ hfr=>?_;exact Li rfl (by kernel_rfl) rfl rfl (aQ.whole 0 rfl) fun w1 t=>⟨⟨_,_,⟨w1,q.Z⟩,rfl,rfl,⟨_,_,rfl,⟨⟨cs,dm,rs,vs⟩,(B,cB),(D,cD),(L,cL),(V,cV),rows,Bf,rrs,r4,rfl,⟨Na,hdf,yG,hvf,⟨Xo,hc9⟩,⟨dI,hd4⟩,⟨eI,tI⟩,⟨Mp,hv4⟩⟩,Ay,cK,rfl⟩⟩,t.newR (by simp) (by simp) (hfr (by simp) (by simp))⟩,t.below (by simp)⟩
end
section
section
variable{s:aC}{n:Nat}{m:dW}
end
theorem aTC{Bk:List pP}{i k:Nat}{a:pP}{v:Value}(h:Bk[i]? =some a)(hv:a.cells[k]? =some v):(Bk.flatMap pP.cells)[i*12+k]? =some v:=by
 have hk:k < 12:=by
  have:=(List.getElem?_eq_some_iff.1 hv).1
  rwa [pP.len] at this
 exact(Nk pP.cells 12 Bk (fun _ _=>rfl) i k a h hk).trans hv
section
variable{g f:Nat}{hL:HL}{s:aC}{n:Nat}{m:dW}{w:World}{F:Nat→Prop}
theorem aOG{t k d r v e:Int}{z':aW}(hs:vN m.z t k d r v=(e,z'))(hp:(kI g f hL s m).sat F w)(hF:∀b,F b→b < w.heap.size):
  Cz 17 #[pt g,iv t,.agg #[.int .u8 k,iv d,iv r,.int .u32 v]] w (Wr (iv e) (kI g f hL s ⟨z',m.y,m.x⟩) w F):=by
 have:=aOH g f hL s m w F t k d r v hp hF
 unfold dW.start at this;rw[hs] at this;exact this
theorem fE.aGi(h:fE s n m){t k d r v e:Int}{z':aW}(hs:vN m.z t k d r v=(e,z'))(hv:0≤v∧v < 4294967296):fE s n ⟨z',m.y,m.x⟩:=by
 have:=h.start t k d r v hv
 unfold dW.start at this;rw[hs] at this;exact this
theorem aAV{t e v:Int}{b:Bool}{z':aW}(hs:nM m.z t=((e,v,b),z'))(hp:(kI g f hL s m).sat F w)(hF:∀b,F b→b < w.heap.size):
  Cz 23 #[pt g,iv t] w (Wr (.tuple #[.agg #[iv e,.int .u32 v],.bool b]) (kI g f hL s ⟨z',m.y,m.x⟩) w F):=by
 have:=aOJ g f hL s m w F t hp hF
 unfold dW.done at this;rw[hs] at this;exact this
theorem fE.aIR(h:fE s n m){t e v:Int}{b:Bool}{z':aW}(hs:nM m.z t=((e,v,b),z')):fE s n ⟨z',m.y,m.x⟩:=by
 have:=h.done t
 unfold dW.done at this;rw[hs] at this;exact this
end
end
section
def dW.qH(s:aC)(t:Int)(m:dW):dW:=((m.step s t).fA s).tick s 0
def sG(s:aC)(t:Int):Nat→dW→Int→Int→dW→Prop
 | 0,_,_,_,_=>False
 | N + 1, m, e, u, m' =>
  (∃z,nM (m.step s t).z t=((e,u,true),z)∧m'=⟨z,(m.step s t).y,(m.step s t).x⟩)∨
  (nM (m.step s t).z t=((0,0,false),(m.step s t).z)∧
   ((∃z,nM (m.qH s t).z t=((e,u,true),z)∧m'=⟨z,(m.qH s t).y,(m.qH s t).x⟩)∨(nM (m.qH s t).z t=((0,0,false),(m.qH s t).z)∧sG s t N (m.qH s t) e u m')))
theorem fE.qH{s:aC}{n:Nat}{m:dW}(hm:s.made)(h:fE s n m)(t:Int):fE s (n+1) (m.qH s t):=((h.step hm t).fA hm).tick hm 0
def aKq(hL:HL)(f r:Nat)(X:Value):List Value:=[pt hL.h,pt f,pt r,X]
def aFj(g r f:Nat)(hL:HL)(X:Value)(s:aC)(m:dW):HP:=HP.many [HP.aE g 58 (aKq hL f r X),kI r f hL s m]
theorem aLX(g r f:Nat)(hL:HL)(X:Value)(s:aC)(n N:Nat)(m m':dW)(t:Nat)(k d q v e u:Int)(z1:aW)(w:World)(F:Nat→Prop)(hm:s.made)(aV:gE hL s)(hok:fE s n m)(hn:n+1500≤1000000000)(hN:N≤1500)(hv:0≤v∧v < 4294967296)
  (hs:vN m.z t k d q v=(0,z1)) (hrun:sG s t N ⟨z1,m.y,m.x⟩ e u m') (fG:kQ ⟨w,fun b=>b < w.heap.size∧¬F b⟩) (hp:(aFj g r f hL X s m).sat F w) (hF:∀b,F b→b < w.heap.size):
  Cz 12 #[pt g,iv t,.agg #[.int .u8 k,iv d,iv q,.int .u32 v]] w (Wr (.tuple #[.agg #[iv e,.int .u32 u],.bool true]) (aFj g r f hL X s m') w F):=by
 refine dB func12 ntmps12 hp hF ?_;refine aB ?_;refine bF fun g5=>?_;refine bT fun g6=>?_;refine aB ?_;refine aZ 2 0 ?_;refine aZ 3 1 ?_
 have Mx:=hok.aGi hs hv
 refine Oh [1,2,3,5] ?_;refine bH 0 ?_ (hsub:=fun _ h=>h.cT);refine aK 1 ?_ (hsub:=fun _ h=>h.cT);refine aK 2 ?_ (hsub:=fun _ h=>h.cT);refine aK 3 ?_ (hsub:=fun _ h=>h.cT);refine bH 4 ?_ (hsub:=fun _ h=>h.cT);refine aK 5 ?_ (hsub:=fun _ h=>h.cT);refine aJ 6 ?_;refine eC 0 (kI r f hL s ⟨z1,m.y,m.x⟩) (fun w1 F1 t h1 h2 h3=>aOG hs h1 h2) ?_;refine bB ?_ (hS:=fun _ h=>h.cT);refine nC [7] ?_;refine aB ?_;refine qA (α:=dW) (fun i _=>[(8,iv i),(7,.bool false),(6,pt g6),(1,iv t),(0,pt g)]) (fun _ m=>[kI r f hL s m,HP.aE g 58 (aKq hL f r X),HP.aE g6 42 [iv 0,.int .u32 0],HP.many [cM,cM]]) (fun i m=>fE s (n+i) m∧∃N,i+N≤1500∧sG s t N m e u m') 1500 ⟨z1,m.y,m.x⟩ ⟨Mx,N,by omega,hrun⟩ fun i m hi hx=>?_;obtain⟨hok,N,hiN,hrun⟩:=hx;cases N with
 | zero=>exact hrun.elim
 | succ N =>
  refine aB ?_;refine aG rfl (fun hlt=>?_) (fun hge=>absurd (by omega) hge);refine aB ?_;refine eC 0 (kI r f hL s (m.step s t)) (fun w1 F1 t' h1 h2 h3=>aOF r f hL s (n+i) m w1 F1 hm aV hok (by omega) t h1 h2 (kQ.le fG (h3 _ (by simp)))) ?_
  have mS:=hok.step hm t
  refine aB ?_;rcases hrun with⟨z,hd,rfl⟩ | ⟨hd,Cu⟩
  ·refine eC 0 (kI r f hL s ⟨z,(m.step s t).y,(m.step s t).x⟩) (fun w1 F1 t' h1 h2 h3=>aAV hd h1 h2) ?_;refine aB ?_;refine bT fun g9=>?_;refine aB ?_;refine aY [1,2,4,3] rfl (by decide) (fun _ h=>h) ?_;refine aM 1 1 ?_;refine aM 0 0 ?_;exact xH (vs:=[iv e,.int .u32 u]) rfl (by kernel_rfl) rfl rfl (aQ.whole 1 rfl) rfl fun w1 t=>⟨rfl,t.turns hF (by simp) (i:=0) rfl⟩
  refine eC 0 (kI r f hL s (m.step s t)) (fun w1 F1 t' h1 h2 h3=>aAV hd h1 h2) ?_;refine aB ?_;refine bT fun g9=>?_;refine aB ?_;refine eC 1 (kI r f hL s ((m.step s t).fA s)) (fun w1 F1 t' h1 h2 h3=>aOI r f hL s (n+i+1) (m.step s t) w1 F1 hm aV mS h1 h2 (kQ.le fG (h3 _ (by simp)))) ?_
  have Kf:=mS.fA hm
  have mK:=Kf.hw.dv
  have Fe:(oX s ((m.step s t).fA s).x 0).2.length≤1000:=Nat.le_trans (aEJ (s:=s) (x:=((m.step s t).fA s).x) s.aD.length) (by have:=hm.nv;omega)
  refine aB ?_;refine aY [1,2,3,4] rfl (by decide) (fun _ h=>h) ?_;refine Oh [1,2,3,5,6,7] ?_;refine bH 0 ?_ (hsub:=fun _ h=>h.cT);refine aK 1 ?_ (hsub:=fun _ h=>h.cT);refine aK 2 ?_ (hsub:=fun _ h=>h.cT);refine aK 3 ?_ (hsub:=fun _ h=>h.cT);refine bH 4 ?_ (hsub:=fun _ h=>h.cT);refine aK 5 ?_ (hsub:=fun _ h=>h.cT);refine aK 6 ?_ (hsub:=fun _ h=>h.cT);refine aK 7 ?_ (hsub:=fun _ h=>h.cT);refine aJ 8 ?_;refine zM (α:=Option Addr×Nat) 0 (f:=22) (fi:=[]) (ca:=[]) (fun a=>.slice a.1 (oX s ((m.step s t).fA s).x 0).2.length a.2) (fun a=>aFe r f hL s ⟨((m.step s t).fA s).z,((m.step s t).fA s).y,(oX s ((m.step s t).fA s).x 0).1⟩ (oX s ((m.step s t).fA s).x 0).2 a) (fun _=>True) (by kernel_rfl) rfl rfl rfl (by decide) (fun w1 F1 t' h1 h2 h3=>by simpa using aOE r f hL s (n+i+1) ((m.step s t).fA s) w1 F1 hm aV Kf 0 (by decide) h1 h2) fun aa _=>?_;dsimp only[List.set];refine bB ?_ (hS:=fun _ h=>h.cT);refine aJ 9 ?_;refine eC 0 (kI r f hL s (m.qH s t)) (fun w1 F1 t' h1 h2 h3=>aOK r f hL s ⟨((m.step s t).fA s).z,((m.step s t).fA s).y,(oX s ((m.step s t).fA s).x 0).1⟩ w1 F1 Kf.wU _ Fe aa h1 h2) ?_;refine bB ?_ (hS:=fun _ h=>h.cT);refine eN ?_
  have aP3:fE s (n+i+1) (m.qH s t):=Kf.tick hm 0
  refine aB ?_;rcases Cu with⟨z,hd',rfl⟩ | ⟨hd',hrun⟩
  ·refine eC 0 (kI r f hL s ⟨z,(m.qH s t).y,(m.qH s t).x⟩) (fun w1 F1 t' h1 h2 h3=>aAV hd' h1 h2) ?_;refine aB ?_;refine bT fun g9=>?_;refine aB ?_;refine aY [1,2,4,3] rfl (by decide) (fun _ h=>h) ?_;refine aM 1 1 ?_;refine aM 0 0 ?_;exact xH (vs:=[iv e,.int .u32 u]) rfl (by kernel_rfl) rfl rfl (aQ.whole 1 rfl) rfl fun w1 t=>⟨rfl,t.turns hF (by simp) (i:=0) rfl⟩
  refine eC 0 (kI r f hL s (m.qH s t)) (fun w1 F1 t' h1 h2 h3=>aAV hd' h1 h2) ?_;refine aB ?_;refine bT fun g9=>?_;refine aB ?_;exact jL (m.qH s t) (hg:=⟨aP3,N,by omega,hrun⟩)
end
section
section
variable{s:aC}{X:bM}{x:aO}
theorem aSi{x y:bM}{wt:List Int}{ag:Nat}{l:List Int}(h:∀i:Nat,(wt[i]?).getD 0≤0):jK s x y wt ag l=jK s x y [] ag l:=by
 unfold jK;rw[aED (fun i _=>by unfold Dm;rw[show decide (0 < (wt[i]?).getD 0)=false from decide_eq_false (by have:=h i;omega)];rfl),aBL]
theorem aLn(h:∀i,iS x.wt i=0)(i:Nat):((mB s x)[i]?).getD 0≤0:=by
 unfold mB;rw[List.getElem?_map];cases(List.range s.aD.length)[i]? with
 | none=>simp
 | some j=>simp[h j]
theorem Dx.stp{p:dG}(h:Dx s X p):Ot p∧(p.msg=4∨p.msg=7):=by
 rcases h with⟨i,rfl,_⟩ | ⟨i,rfl,_⟩ | ⟨i,rfl,_⟩ | ⟨i,rfl,_⟩ | ⟨i,rfl,_⟩<;>simp[Ot]
theorem Dx.msg(hm:s.made){p:dG}(hg:Dx s X p)(hi:Inv s X none none none x){k l k0 i0:Int}(h0:0≤k)(h1:k < 1024)(hl:l=0∨l=1):
  ∃(N:Nat) (k' i':Int) (x':aO),N≤9∧Tr s N (Ca s X l k0 i0 (qF p k)) x [(qF p k).headD 0,IntKind.u32.wrap 0] (rP s (gZ X p) 0 k' i') x'∧Inv s (gZ X p) none none none x':=by
 have vY:=hg.goes hm hi.of
 obtain⟨hsp,aP6⟩:=hg.stp;obtain⟨e1,e2,e3,e4,e5⟩:=aDS hsp h0 h1;obtain⟨f1,f2,f3,f4,f5⟩:=aDS hsp (k:=0) (by decide) (by decide)
 have hd:aFp p.msg p.pr k:=⟨e1,by unfold uG;rw[e2];rfl,by unfold Fo;rw[e2,e4];rfl,by unfold eF;rw[e2,e5];rfl,by unfold eM;rw[e2,e3];rfl,e2,e5,e3⟩
 have hf:aFp p.msg p.pr 0:=⟨f1,by unfold uG;rw[f2];rfl,by unfold Fo;rw[f2,f4];rfl,by unfold eF;rw[f2,f5];rfl,by unfold eM;rw[f2,f3];rfl,f2,f5,f3⟩
 have hp:Plain (qF p k):=aOf hd aP6 vY.id vY.v
 have hread:dZ s (qF p k)=dZ s [(eB p.msg 0 p.pr 0).1,p.id,p.v]:=by
  unfold dZ qF;dsimp only;rw[hd.un,hd.ty,hd.pr,hd.ms,hf.un,hf.ty,hf.pr,hf.ms]
 have aDU:jK s X (dQ s) (mB s x) 0 (qF p k)=(0,uQ p,p.id):=by
  rw[aSi (aLn hi.wt),←vY.dec];unfold jK;rw[hread];rfl
 obtain⟨N,x',hN,hr,hi',hk⟩:=hg.run hm hi
 have hX:(jZ X 0 (uQ p) p.id).of s:=by rw[vY.done];exact hi'.of
 cases N with
 | zero=>exact hr.elim
 | succ n=>
  have h2:=aGn hm (X:=jZ X 0 (uQ p) p.id) hX hp hk _ hr
  rw[vY.done] at h2;refine⟨n+1,uQ p,p.id,x',hN,aLW hm hi.of hp hl hi.ok aDU vY.kind hk ?_,hi'⟩;rw[vY.done];exact h2
end
section
variable{s:aC}{j:Nat}{z:aW}{x:aO}{y:bY}
theorem aHp(h:∀i,iS x.wt i=0)(i:Nat):(x.wt[i]?).join=none:=by
 have:=h i
 unfold iS at this;cases hq:(x.wt[i]?).join with
 | none=>rfl
 | some t=>rw[hq] at this;simp at this
theorem aL2(h:∀i,iS x.wt i=0):oX s x 0=(iQ s x 0,[]):=by
 unfold oX;rw[aBS _ fun k _=>aHp h k]
theorem aHC(h:∀i,iS x.wt i=0):(dW.mk z y x).tick s 0=⟨z,y,iQ s x 0⟩:=by
 unfold dW.tick;dsimp only;rw[aL2 h];rfl
theorem aGK{X:bM}{l k i:Int}(hl:l=0∨l=1):lB s x (rP s X l k i)=(rP s X l k i,x):=by
 have hn:sP (rP s X l k i)=none:=by rcases hl with rfl | rfl<;>rfl
 have ht:mW s x (rP s X l k i)=(rP s X l k i,false):=by unfold mW;rw[hn]
 unfold lB;dsimp only;rw[ht,if_pos ⟨by show(-1:Int) < 0;decide,rfl⟩]
def rU(z:aW)(j:Nat)(k:Int):aW:={z.jR j {z.tk j with st:=0,kind:=0,dev:=0,bX:=0,val:=0,err:=0,res:=0} with eX:= -1,steps:=[],sent:=false,aS:=false,many:=k}
structure Pg(z:aW)(j:Nat):Prop where
 t3:T3 j
 eX:z.eX=(j:Int)
 st:(z.tk j).st=2
 po:z.aS=false
def lO(z:aW)(L:List dG)(b:Bool)(k:Int):aW:={z with steps:=L,sent:=b,many:=k}
theorem aFN(L:List dG)(b:Bool)(k:Int):(lO z L b k).tk j=z.tk j:=by
 unfold lO aW.tk;split<;>rfl
theorem aAz(hj:T3 j)(L:List dG)(b:Bool)(k e r:Int):nM (kE (lO z L b k) j e r) j=((e,r,true),rU z j k):=by
 rcases hj with rfl | rfl | rfl<;>rfl
theorem Lw(h:Pg z j)(L:List dG)(b:Bool)(k:Int):nM (lO z L b k) j=((0,0,false),lO z L b k):=by
 unfold nM;rw[if_neg (by rcases h.t3 with rfl | rfl | rfl<;>decide),Int.toNat_natCast,aFN,h.st,if_pos (by decide)]
theorem aC7(h:Pg z j)(L:List dG)(b:Bool)(k:Int):(dW.mk (lO z L b k) y x).step s j=⟨(qR (lO z L b k) y j).1,(qR (lO z L b k) y j).2,x⟩:=by
 unfold dW.step Em;dsimp only;rw[if_neg (by rcases h.t3 with rfl | rfl | rfl<;>decide),Int.toNat_natCast,aFN,h.st,if_neg (by decide),if_pos rfl,if_pos (show(lO z L b k).aS=false from h.po)]
theorem sG.mono{t:Int}:∀{N N':Nat} {m m':dW} {e u:Int},sG s t N m e u m'→N≤N'→sG s t N' m e u m'
 | 0,_,_,_,_,_,h,_=>h.elim
 | _+1,0,_,_,_,_,_,hN=>absurd hN (by omega)
 | N+1,N'+1,_,_,_,_,h,hN=>by
  rcases h with h | ⟨h1,h | ⟨h2,h3⟩⟩
  ·exact .inl h
  ·exact .inr ⟨h1,.inl h⟩
  ·exact .inr ⟨h1,.inr ⟨h2,h3.mono (by omega)⟩⟩
theorem aCP(h:Pg z j){L:List dG}{k:Int}{a:List Int}{z':bY}{x':aO}{B:Nat}{e u:Int}{m':dW}(aHM:∀i,iS x'.wt i=0)(wZ:∀y',oZ y' 0=some a→oY y' 0=z'→sG s j B ⟨lO z L true k,y',iQ s x' 0⟩ e u m'):
  ∀(N:Nat) {m:dW} {y:bY} {x:aO},m.step s j=⟨lO z L true k,y,x⟩→Tr s N y x a z' x'→sG s j (N+B) m e u m'
 | 0,_,_,_,_,hr=>hr.elim
 | N + 1, m, y, x, hs, ⟨_, hr⟩ => by
  have hrnd:∀i,(∀i,iS (lB s x y).2.wt i=0)→m.qH s j=i→i=⟨lO z L true k,(lB s x y).1,iQ s (lB s x y).2 0⟩:=fun i hw hi=>by
   rw[←hi];unfold dW.qH;rw[hs];exact aHC hw
  rw[show N+1+B=(N+B)+1 by omega];refine .inr ⟨by rw[hs];exact Lw h _ _ _,.inr ?_⟩;rcases hr with⟨h1,h2,h3⟩ | ⟨h1,_,h2,h3⟩
  ·have hh:=(wZ _ h1 h2.symm).mono (show B≤N+B by omega)
   rw[hrnd _ (h3▸aHM) rfl];exact⟨Lw h _ _ _,by rw[←h3];exact hh⟩
  ·rw[hrnd _ h2 rfl];refine⟨Lw h _ _ _,aCP h aHM wZ N ?_ h3⟩;rw[aC7 h];unfold qR;rw[if_pos (show(lO z L true k).sent=true from rfl),h1]
def aCs(s:aC):bM→List dG→Prop
 | _,[]=>True
 | X,p::r=>Dx s X p∧aCs s (gZ X p) r
theorem aIz:∀(L:List dG) (X:bM),(∀k p,L[k]? =some p→Dx s ((L.take k).foldl gZ X) p)→aCs s X L
 | [],_,_=>trivial
 | p::r,X,h=>⟨h 0 p rfl,aIz r _ fun k q hq=>h (k+1) q hq⟩
theorem aGc(h:Pg z j){p:dG}{L:List dG}{k v:Int}{y1:bY}(hy:oZ y 0=some [v,IntKind.u32.wrap 0])(hz:oY y 0=y1):
  (dW.mk (lO z (p::L) true k) y x).step s j=⟨if L.length=0 then kE (lO z L false k) j 0 0 else lO z L false k,y1,x⟩:=by
 have ht:sL (lO z (p::L) true k) [v,IntKind.u32.wrap 0]=lO z L false k:=by
  unfold sL;rw[if_pos (.inl (by rw[List.getD_cons_succ,List.getD_cons_zero];decide))];rfl
 rw[aC7 h];unfold qR;rw[if_pos (show(lO z (p::L) true k).sent=true from rfl),hy];dsimp only;rw[ht,hz];rfl
theorem aGv(h:Pg z j){p:dG}{L:List dG}{X:bM}{k l k0 i0:Int}:(dW.mk (lO z (p::L) false k) (rP s X l k0 i0) x).step s j=⟨lO z (p::L) true ((k+1) % 1024),Ca s X l k0 i0 (qF p k),x⟩:=by
 rw[aC7 h];unfold qR;rw[if_neg (show ¬(lO z (p::L) false k).sent=true by simp[lO])]
 show(⟨(if(oH (rP s X l k0 i0) 0 (qF p k)).1=0 then _ else _:aW×bY).1,_,x⟩:dW)=_
 rw[aKJ];rfl
theorem aAG{m:dW}{X:bM}{l k0 i0:Int}(hl:l=0∨l=1)(hw:∀i,iS x.wt i=0)(hs:m.step s j=⟨z,rP s X l k0 i0,x⟩):m.qH s j=⟨z,rP s X l k0 i0,iQ s x 0⟩:=by
 unfold dW.qH;rw[hs];unfold dW.fA;dsimp only;rw[aGK hl];exact aHC hw
theorem aLG(hm:s.made)(h:Pg z j):∀(L:List dG) (p:dG) (X:bM) (k l k0 i0:Int) (x:aO),aCs s X (p::L)→Inv s X none none none x→0≤k→k < 1024→(l=0∨l=1)→
  ∃(k' k1 i1:Int) (x':aO),sG s j (10*(L.length+1)) ⟨lO z (p::L) false k,rP s X l k0 i0,x⟩ 0 0 ⟨rU z j k',rP s ((p::L).foldl gZ X) 0 k1 i1,x'⟩∧Inv s ((p::L).foldl gZ X) none none none x'∧0≤k'∧k' < 1024:=by
 intro L
 induction L with
 | nil=>
  intro p X k l k0 i0 x hg hi h0 h1 hl;obtain⟨N,k1,i1,x1,hN,hr,hi1⟩:=hg.1.msg hm hi (k0:=k0) (i0:=i0) h0 h1 hl;refine⟨(k+1) % 1024,k1,i1,iQ s x1 0,(aCP h (B:=1) hi1.wt (fun y' hy hz=>?_) N (aGv h) hr).mono (show N+1≤10*(([]:List dG).length+1) by simp;omega),hi1.tick hm,by omega,by omega⟩
  have hst:=aGc (s:=s) (x:=iQ s x1 0) h (p:=p) (L:=[]) (k:=(k+1) % 1024) hy hz
  exact .inl ⟨rU z j ((k+1) % 1024),by rw[hst];exact aAz h.t3 _ _ _ _ _,by rw[hst];rfl⟩
 | cons q L ih =>
  intro p X k l k0 i0 x hg hi h0 h1 hl;obtain⟨N,k1,i1,x1,hN,hr,hi1⟩:=hg.1.msg hm hi (k0:=k0) (i0:=i0) h0 h1 hl
  have hi2:=hi1.tick hm
  obtain⟨k',k2,i2,x',r1,r2,r3,r4⟩:=ih q (gZ X p) ((k+1) % 1024) 0 k1 i1 (iQ s (iQ s x1 0) 0) hg.2 (hi2.tick hm) (by omega) (by omega) (.inl rfl);refine⟨k',k2,i2,x',(aCP h (B:=1+10*(L.length+1)) hi1.wt (fun y' hy hz=>?_) N (aGv h) hr).mono (by simp only[List.length_cons];omega),r2,r3,r4⟩
  have hst:=aGc (s:=s) (x:=iQ s x1 0) h (p:=p) (L:=q::L) (k:=(k+1) % 1024) hy hz
  rw[if_neg (by simp)] at hst;rw[Nat.add_comm];refine .inr ⟨by rw[hst];exact Lw h _ _ _,.inr ⟨?_,?_⟩⟩
  ·rw[aAG (.inl rfl) hi2.wt hst];exact Lw h _ _ _
  ·rw[aAG (.inl rfl) hi2.wt hst];exact r1
end
end
section
structure rM(s:aC)(m:dW):Prop where
 tk:∀j,T3 j→(m.z.tk j).st=0
 eX:m.z.eX= -1
 steps:m.z.steps=[]
 sent:m.z.sent=false
 po:m.z.aS=false
 y:∃l k i:Int,(l=0∨l=1)∧m.y=rP s m.z.wn l k i
 inv:Inv s m.z.wn none none none m.x
 cl:m.z.wn.cl s
 many:0≤m.z.many∧m.z.many < 1024
 wd:m.z.wn.d=(eU s (eP s m.z.cn)).d
 wc:m.z.wn.c=(eU s (eP s m.z.cn)).c
 wl:∀i,hasB (eU s (eP s m.z.cn)).l i=true→hasB m.z.wn.l i=true
section
variable{s:aC}{m:dW}{j:Nat}{k d q v:Int}
theorem aOb(a b:List Bool)(n:Nat):(vP a b n).length=b.length:=by simp[vP]
theorem aHm{a b:List Bool}{n i:Nat}(hb:b.length=n)(hi:i < n):hasB (vP a b n) i=(hasB b i||hasB a i):=by
 unfold vP;rw[Fk,List.getElem?_mapIdx,Fk b,List.getElem?_eq_getElem (show i < b.length by omega)];simp[hi]
theorem aCC(hm:s.made)(z:aW):(kT s z).cl s:=by
 have h:=aFQ hm (eP s z.cn) s.aD.length
 exact⟨⟨h.of.d,h.of.c,by show(vP _ _ _).length=_;rw[aOb];exact h.of.l⟩,h.up,h.ch,h.sw⟩
theorem aLj(z:aW)(hz:z.wn.of s)(i:Nat)(h:hasB z.wn.l i=true):hasB (kT s z).l i=true:=by
 have hi:=Rx h
 rw[hz.l] at hi
 show hasB (vP _ _ _) i=true
 rw[aHm (b:=(eU s (eP s z.cn)).l) (Eh s _ _).l hi,h];simp
theorem aLh(z:aW)(i:Nat)(h:hasB (eU s (eP s z.cn)).l i=true):hasB (kT s z).l i=true:=by
 have hi:=Rx h
 have hl:(eU s (eP s z.cn)).l.length=s.aR.length:=(Eh s _ _).l
 rw[hl] at hi
 show hasB (vP _ _ _) i=true
 rw[aHm hl hi,h];rfl
def oQ(z:aW)(j:Nat)(k d q v:Int):aW:=z.jR j {z.tk j with st:=1,kind:=k,dev:=d,bX:=q,val:=v}
theorem aGh(h:rM s m)(hj:T3 j)(hk:qK k):vN m.z j k d q v=(0,oQ m.z j k d q v):=by
 unfold vN;rw[if_neg (by rcases hj with rfl | rfl | rfl<;>decide),Int.toNat_natCast,h.tk j hj,if_neg (by decide),if_neg (fun hn=>hn hk)];rfl
def eT(z:aW)(j:Nat)(k d q v:Int):aW:=kD (oQ z j k d q v) j
theorem aCv(hj:T3 j)(z:aW):(eT z j k d q v).tk j={z.tk j with st:=2,kind:=k,dev:=d,bX:=q,val:=v}:=by
 rcases hj with rfl | rfl | rfl<;>rfl
theorem aBQ(h:rM s m)(hj:T3 j):(dW.mk (oQ m.z j k d q v) m.y m.x).step s j=⟨(pM s m.x (oQ m.z j k d q v) j).1,m.y,(pM s m.x (oQ m.z j k d q v) j).2⟩:=by
 have hst:((oQ m.z j k d q v).tk j).st=1:=by rcases hj with rfl | rfl | rfl<;>rfl
 unfold dW.step Em;dsimp only;rw[if_neg (by rcases hj with rfl | rfl | rfl<;>decide),Int.toNat_natCast,hst,if_pos rfl,if_pos (show(oQ m.z j k d q v).eX < 0 by show m.z.eX < 0;rw[h.eX];decide)]
theorem aMn(h:rM s m)(hj:T3 j){e:Int}(he:e≠0)(hr:qP s m.x (eT m.z j k d q v) j k=(e,eT m.z j k d q v,m.x)):
  sG s j 1 ⟨oQ m.z j k d q v,m.y,m.x⟩ e 0 ⟨rU (eT m.z j k d q v) j m.z.many,m.y,m.x⟩:=by
 have hk:((oQ m.z j k d q v).tk j).kind=k:=by rcases hj with rfl | rfl | rfl<;>rfl
 have hb:pM s m.x (oQ m.z j k d q v) j=(kE (eT m.z j k d q v) j e 0,m.x):=by
  unfold pM;dsimp only;rw[hk,show kD (oQ m.z j k d q v) j=eT m.z j k d q v from rfl,hr,if_pos he]
 have hw:eT m.z j k d q v=lO (eT m.z j k d q v) (eT m.z j k d q v).steps (eT m.z j k d q v).sent m.z.many:=rfl
 refine .inl ⟨rU (eT m.z j k d q v) j m.z.many,?_,?_⟩
 ·rw[aBQ h hj,hb];dsimp only;rw[hw];exact aAz hj _ _ _ _ _
 ·rw[aBQ h hj,hb]
theorem aMd(hm:s.made)(h:rM s m)(hj:T3 j){z2:aW}(hr:qP s m.x (eT m.z j k d q v) j k=(0,lP s z2,m.x))(hwn:z2.wn=m.z.wn)(lU:z2.aS=false)(aBn:z2.many=m.z.many)(aDO:z2.eX=(j:Int))(hst:(z2.tk j).st=2):
  ∃(k' l' k1 i1:Int) (x':aO),sG s j 400 ⟨oQ m.z j k d q v,m.y,m.x⟩ 0 0 ⟨rU (lP s z2) j k',rP s (kT s z2) l' k1 i1,x'⟩∧(l'=0∨l'=1)∧Inv s (kT s z2) none none none x'∧0≤k'∧k' < 1024:=by
 have hk:((oQ m.z j k d q v).tk j).kind=k:=by rcases hj with rfl | rfl | rfl<;>rfl
 obtain⟨l,k0,i0,hl,hy⟩:=h.y
 have hL:(allM s z2.wn (kT s z2)).foldl gZ m.z.wn=kT s z2:=by
  rw[hwn];exact aQF h.cl.of (aCC hm z2).of
 have aPt:(lP s z2).steps=allM s z2.wn (kT s z2):=rfl
 have Nd:=aBQ (k:=k) (d:=d) (q:=q) (v:=v) h hj
 have hb:pM s m.x (oQ m.z j k d q v) j=if(allM s z2.wn (kT s z2)).length=0 then(kE (lP s z2) j 0 0,m.x) else(lP s z2,m.x):=by
  unfold pM;dsimp only;rw[hk,show kD (oQ m.z j k d q v) j=eT m.z j k d q v from rfl,hr,if_neg (by simp)];dsimp only;rw[aPt]
  by_cases h0:(allM s z2.wn (kT s z2)).length=0
  ·rw[if_pos h0,if_pos ⟨lU,h0⟩]
  ·rw[if_neg h0,if_neg (fun hh=>h0 hh.2)]
 have fN:Pg (lP s z2) j:=⟨hj,aDO,by
  have:(lP s z2).tk j=z2.tk j:=by rcases hj with rfl | rfl | rfl<;>rfl
  rw[this];exact hst,lU⟩
 cases hc:allM s z2.wn (kT s z2) with
 | nil =>
  rw[hc] at hb hL;rw[if_pos (show([]:List dG).length=0 from rfl)] at hb
  have hw:lP s z2=lO (lP s z2) (lP s z2).steps (lP s z2).sent z2.many:=rfl
  have he:m.z.wn=kT s z2:=hL
  refine⟨m.z.many,l,k0,i0,m.x,sG.mono (N:=1) (.inl ⟨rU (lP s z2) j m.z.many,?_,?_⟩) (by omega),hl,he▸h.inv,h.many.1,h.many.2⟩
  ·rw[Nd,hb];dsimp only;rw[hw,aBn];exact aAz hj _ _ _ _ _
  ·rw[Nd,hb,←he,←hy]
 | cons p L =>
  have hlen:=aT5 hm z2.wn (kT s z2)
  rw[hc] at hb hL hlen;rw[if_neg (by simp)] at hb
  have hw:lP s z2=lO (lP s z2) (p::L) false m.z.many:=by
   unfold lO;rw[←hc,←aBn];rfl
  have hi1:=h.inv.tick hm
  have aPD:aCs s m.z.wn (p::L):=by
   rw[←hc,hwn];exact aIz _ _ fun t p' hp'=>aT6 hm h.cl (aCC hm z2) (fun i hi=>aLj z2 (hwn▸h.cl.of) i (hwn▸hi)) hp'
  obtain⟨k',k1,i1,x',r1,r2,r3,r4⟩:=aLG hm fN L p m.z.wn m.z.many l k0 i0 (iQ s m.x 0) aPD hi1 h.many.1 h.many.2 hl;rw[hL] at r1 r2;simp only[List.length_cons] at hlen
  have hs:(dW.mk (oQ m.z j k d q v) m.y m.x).step s j=⟨lO (lP s z2) (p::L) false m.z.many,rP s m.z.wn l k0 i0,m.x⟩:=by
   rw[Nd,hb,←hy,←hw]
  refine⟨k',0,k1,i1,x',sG.mono (N:=10*(L.length+1)+1) (.inr ⟨?_,.inr ⟨?_,?_⟩⟩) (by omega),.inl rfl,r2,r3,r4⟩
  ·rw[hs];exact Lw fN _ _ _
  ·rw[aAG hl h.inv.wt hs];exact Lw fN _ _ _
  ·rw[aAG hl h.inv.wt hs];exact r1
theorem Inv.acc{X:bM}{x:aO}(hi:Inv s X none none none x){dn:Nat}{dd:bQ}{p:cO×dL}(hd:s.aD[dn]? =some dd)(hp:x.dv[dn]? =some p){t:jF}(ht:0≤t.val∧t.val < 4294967296){ws:List (Option jF)}(hws:ws.length=s.aD.length)(hw:∀i,iS ws i=0)(po:Int):
  Inv s X none none none {x with wt:=ws,dv:=x.dv.set dn (wO p t),aS:=po}:=by
 have hlp:=(List.getElem?_eq_some_iff.1 hp).1
 have h2:(wO p t).2=p.2:=by unfold wO;split<;>rfl
 refine⟨⟨hi.ok.ck,hi.ok.dm,hi.ok.ln,by simp[hi.ok.dv],fun i d p' hd' hp'=>?_,hws⟩,hw,hi.of,hi.dom,hi.jO,hi.sD,hi.zV,hi.tE,fun i p' d hp' hd'=>?_⟩
 ·dsimp only at hp';rw[List.getElem?_set] at hp'
  by_cases h:dn=i
  ·subst h;rw[if_pos rfl,if_pos hlp] at hp';cases hp'
   have:=hi.ok.each dn d p hd' hp
   exact⟨aC3 this.1 ht,h2▸this.2⟩
  ·rw[if_neg h] at hp';exact hi.ok.each i d p' hd' hp'
 ·dsimp only at hp';rw[List.getElem?_set] at hp'
  by_cases h:dn=i
  ·subst h;rw[if_pos rfl,if_pos hlp] at hp';cases hp';rw[h2];exact hi.rA dn p d hp hd'
  ·rw[if_neg h] at hp';exact hi.rA i p' d hp' hd'
def Zl(s:aC)(x:aO)(dn:Nat)(p:cO×dL)(wr:Bool)(q v:Int):aO:=iQ s {x with wt:=(x.wt.set dn (some ⟨x.aS,wr,q,v⟩)).set dn none,dv:=x.dv.set dn (wO p ⟨x.aS,wr,q,v⟩),aS:=x.aS+1} 0
theorem aMu(hm:s.made)(h:rM s m)(hj:T3 j){dn:Nat}{dd:bQ}{p:cO×dL}{wr:Bool}(hd:s.aD[dn]? =some dd)(hp:m.x.dv[dn]? =some p)(hal:yY s m.x dn=true)(hv:0≤v∧v < 4294967296)
  (hr:qP s m.x (eT m.z j k d q v) j k=(0,{eT m.z j k d q v with aS:=true,id:=m.x.aS},wW m.x dn wr q v)):
  sG s j 1 ⟨oQ m.z j k d q v,m.y,m.x⟩ 0 (p.1.now.getD q.toNat 0) ⟨rU {eT m.z j k d q v with aS:=true,id:=m.x.aS} j m.z.many,m.y,Zl s m.x dn p wr q v⟩∧Inv s m.z.wn none none none (Zl s m.x dn p wr q v):=by
 have hk:((oQ m.z j k d q v).tk j).kind=k:=by rcases hj with rfl | rfl | rfl<;>rfl
 obtain⟨l,k0,i0,hl,hy⟩:=h.y
 have hi:=h.inv
 have jB:=(List.getElem?_eq_some_iff.1 hd).1
 have vT:=hi.ok.wt
 have hws:∀i,iS ((m.x.wt.set dn (some ⟨m.x.aS,wr,q,v⟩)).set dn none) i=0:=fun i=>by
  have:=hi.wt i
  unfold iS at this⊢
  by_cases hh:dn=i
  ·subst hh;rw[List.getElem?_set_self (by simp;omega)];rfl
  ·rw[List.getElem?_set_ne hh,List.getElem?_set_ne hh];exact this
 have Nd:=aBQ (k:=k) (d:=d) (q:=q) (v:=v) h hj
 have hb:pM s m.x (oQ m.z j k d q v) j=({eT m.z j k d q v with aS:=true,id:=m.x.aS},wW m.x dn wr q v):=by
  unfold pM;dsimp only;rw[hk,show kD (oQ m.z j k d q v) j=eT m.z j k d q v from rfl,hr,if_neg (by simp),if_neg (by simp)]
 rw[hb] at Nd;generalize hzp:({eT m.z j k d q v with aS:=true,id:=m.x.aS}:aW)=zp at *
 have aPo:(zp.tk j).st=2:=by subst hzp;rcases hj with rfl | rfl | rfl<;>rfl
 have hnone:nM zp j=((0,0,false),zp):=by
  unfold nM;rw[if_neg (by rcases hj with rfl | rfl | rfl<;>decide),Int.toNat_natCast,aPo,if_pos (by decide)]
 have Mx:cF s (wW m.x dn wr q v):=aAw hi.ok dn _ _
 have Ex:((wW m.x dn wr q v).wt[dn]?).join=some ⟨m.x.aS,wr,q,v⟩:=by
  show((m.x.wt.set dn (some _))[dn]?).join=_
  rw[List.getElem?_set_self (by omega)];rfl
 have Wt:∀i:Nat,i≠dn→((wW m.x dn wr q v).wt[i]?).join=none:=fun i hne=>by
  show((m.x.wt.set dn (some _))[i]?).join=none
  rw[List.getElem?_set_ne (Ne.symm hne)];exact aHp hi.wt i
 obtain⟨a,ha,hid,_,hn⟩:=aJ9 Mx jB Ex Wt
 have hax:jP s (wW m.x dn wr q v) dn=({m.x with wt:=(m.x.wt.set dn (some ⟨m.x.aS,wr,q,v⟩)).set dn none,dv:=m.x.dv.set dn (wO p ⟨m.x.aS,wr,q,v⟩),aS:=m.x.aS+1},some ⟨m.x.aS,dn,false,p.1.now.getD q.toNat 0⟩):=by
  unfold jP;rw[Ex,hd,show(wW m.x dn wr q v).dv[dn]? =some p from hp];dsimp only;rw[if_pos (show yY s (wW m.x dn wr q v) dn=true from hal)];rfl
 rw[hax] at ha hn;cases ha
 have aBk:oX s (wW m.x dn wr q v) 0=(Zl s m.x dn p wr q v,[⟨m.x.aS,dn,false,p.1.now.getD q.toNat 0⟩]):=by
  obtain⟨e,he⟩:∃e,s.aD.length=dn+1+e:=⟨s.aD.length - (dn+1),by omega⟩
  unfold oX;rw[he,hn e];rfl
 have hrnd:(dW.mk (oQ m.z j k d q v) m.y m.x).qH s j=⟨kE zp j 0 (p.1.now.getD q.toNat 0),m.y,Zl s m.x dn p wr q v⟩:=by
  unfold dW.qH;rw[Nd];unfold dW.fA;dsimp only;rw[hy,aGK hl];unfold dW.tick;dsimp only;rw[aBk];dsimp only
  have:xE zp [⟨m.x.aS,dn,false,p.1.now.getD q.toNat 0⟩]=kE zp j 0 (p.1.now.getD q.toNat 0):=by
   show Bj zp _=_
   unfold Bj;subst hzp;dsimp only;rw[if_neg (by simp),if_neg (by simp),if_neg (by simp)]
   show kE _ ((j:Int).toNat) _ _=_
   rw[Int.toNat_natCast]
  rw[this]
 have hw:zp=lO zp zp.steps zp.sent m.z.many:=by subst hzp;rfl
 refine⟨.inr ⟨?_,.inl ⟨rU zp j m.z.many,?_,?_⟩⟩,(hi.acc hd hp hv (by simpa using vT) hws _).tick hm⟩
 ·rw[Nd];exact hnone
 ·rw[hrnd];dsimp only;rw[hw];exact aAz hj _ _ _ _ _
 ·rw[hrnd]
end
end
section
section
variable{s:aC}{m:dW}{j n:Nat}{k d q v:Int}
theorem aGo{l:List Bool}{u i:Nat}(h:hasB l i=true):hasB (l.set u true) i=true:=by
 rw[Fk] at h⊢;rw[List.getElem?_set];split
 ·split
  ·rfl
  ·rename_i h1 h2
   subst h1;rw[List.getElem?_eq_none (by omega)] at h;exact h
 ·exact h
theorem aEh{i:Nat}:∀(us:List Nat) {l:List Bool},hasB l i=true→hasB (us.foldl (fun l u=>l.set u true) l) i=true
 | [],_,h=>h
 | _::us,_,h=>aEh us (aGo h)
theorem aJH(g:List (List Int))(c:Cn)(n i:Nat)(hi:i < n)(hc:0 < gT c.l (i:Int)):∀t,i < t→hasB (wE g c n t) i=true
 | 0,h=>absurd h (by omega)
 | t + 1, h => by
  unfold wE;rcases Nat.lt_or_ge i t with h1 | h1
  ·have ih:=aJH g c n i hi hc t h1
   split
   ·exact ih
   ·exact aEh _ (aGo ih)
  ·obtain rfl:i=t:=by omega
   rw[if_neg (by omega)];refine aEh _ ?_;rw[Fk,List.getElem?_set_self (by rw[Zk];exact hi)];rfl
theorem aLx{c:Cn}(ha:c.gJ=false){i:Nat}(hi:i < s.aD.length)(hc:0 < gT c.l (i:Int)):hasB (eP s c) i=true:=by
 unfold eP Oa;rw[ha,if_neg (by simp),Qh];exact aJH _ c _ i hi hc _ hi
theorem rM.alive(hm:s.made)(h:rM s m){i:Nat}{dd:bQ}(hd:s.aD[i]? =some dd)(hu:hasB (eP s m.z.cn) i=true):yY s m.x i=true∧uI m.x i=114:=by
 have hlt:=(List.getElem?_eq_some_iff.1 hd).1
 obtain⟨h1,h2,_⟩:=aLg hm hd hu
 have hD:hasB m.z.wn.d dd.domain.toNat=true:=by rw[h.wd];exact h1
 refine⟨h.inv.alive hm hd hD (fun c hc hs=>?_) (h.wl _ h2),h.inv.state hd hD⟩
 have iD:=aBH hc
 rw[h.wc];exact(Pp (s:=s) (act:=eP s m.z.cn) c iD s.aD.length).2 ⟨i,hlt,hu,dd,hd,List.mem_filter.2 ⟨hc,aK0 hs⟩⟩
theorem Mf(hj:T3 j){z:aW}{i:Nat}(hi:T3 i)(t:Int):(rU z j t).tk i=if i=j then {z.tk j with st:=0,kind:=0,dev:=0,bX:=0,val:=0,err:=0,res:=0} else z.tk i:=by
 rcases hj with rfl | rfl | rfl<;>rcases hi with rfl | rfl | rfl<;>rfl
theorem aAm(hj:T3 j)(z:aW){i:Nat}(hi:T3 i)(hne:i≠j):(eT z j k d q v).tk i=z.tk i:=by
 rcases hj with rfl | rfl | rfl<;>rcases hi with rfl | rfl | rfl<;>first | rfl | exact absurd rfl hne
theorem aGN(hj:T3 j){z:aW}{t:Int}{y:bY}{x:aO}(mR:∀i,T3 i→i≠j→(z.tk i).st=0)(hy:∃l k i:Int,(l=0∨l=1)∧y=rP s z.wn l k i)(hi:Inv s z.wn none none none x)(iD:z.wn.cl s)(ht:0≤t∧t < 1024)
  (wd:z.wn.d=(eU s (eP s z.cn)).d) (wc:z.wn.c=(eU s (eP s z.cn)).c) (wl:∀i,hasB (eU s (eP s z.cn)).l i=true→hasB z.wn.l i=true):rM s ⟨rU z j t,y,x⟩:=
 ⟨fun i hi=>by
  show((rU z j t).tk i).st=0
  rw[Mf hj hi];split
  ·rfl
  ·exact mR i hi (by assumption),rfl,rfl,rfl,rfl,hy,hi,iD,ht,wd,wc,wl⟩
theorem aGM(h:rM s m)(hj:T3 j){z:aW}(hz:z.wn=m.z.wn)(hc:z.cn=m.z.cn)(mR:∀i,T3 i→i≠j→z.tk i=m.z.tk i){x:aO}(hi:Inv s m.z.wn none none none x):rM s ⟨rU z j m.z.many,m.y,x⟩:=by
 obtain⟨l,k0,i0,hl,hy⟩:=h.y;exact aGN hj (fun i hi' hne=>by rw[mR i hi' hne];exact h.tk i hi') ⟨l,k0,i0,hl,by rw[hz];exact hy⟩ (by rw[hz];exact hi) (by rw[hz];exact h.cl) h.many (by rw[hz,hc];exact h.wd) (by rw[hz,hc];exact h.wc) (by rw[hz,hc];exact h.wl)
def sN(s:aC)(z:aW)(j:Nat)(k d q:Int):Int×Cn×List Int:=
 let hs:=(z.tk j).hs
 if k=103 then(if(qQ s.aD.length z.cn d).1≠0 then((qQ s.aD.length z.cn d).1,z.cn,hs) else(0,(qQ s.aD.length z.cn d).2,(rQ (z.tk j) d.toNat 1).hs))
 else if k=112 then(if bN s.aD.length d=false then(4,z.cn,hs) else if hG (z.tk j) d.toNat=0 then(6,z.cn,hs) else if(nY s.aD.length z.cn d).1≠0 then((nY s.aD.length z.cn d).1,z.cn,hs) else(0,(nY s.aD.length z.cn d).2,(rQ (z.tk j) d.toNat (-1)).hs))
 else if k=115 then((tQ z.cn).1,(tQ z.cn).2,hs)
 else if k=109 then((tR z.cn).1,(tR z.cn).2,hs)
 else(if bN s.aD.length d=false∨q < 0∨Gt s d≤q then 4 else if hG (z.tk j) d.toNat=0∨z.cn.gJ=true then 6 else 0,z.cn,hs)
structure Je(s:aC)(m:dW)(j:Nat)(k d q v:Int)(e u:Int)(m':dW):Prop where
 stl:sG s j 400 ⟨oQ m.z j k d q v,m.y,m.x⟩ e u m'
 rest:rM s m'
 out:(e,m'.z.cn,(m'.z.tk j).hs)=sN s m.z j k d q
 tk:∀i,T3 i→i≠j→(m'.z.tk i).hs=(m.z.tk i).hs
 no:(k≠114∧k≠119)∨e≠0→u=0
 acc:(k=114∨k=119)→e=0→∃(dn:Nat) (p:cO×dL),d=(dn:Int)∧m.x.dv[dn]? =some p∧u=p.1.now.getD q.toNat 0∧m'.x=Zl s m.x dn p (decide (k=119)) q v
 same:e≠0→m'.x=m.x
theorem Jr(h:rM s m)(hj:T3 j){e:Int}(he:e≠0)(hr:qP s m.x (eT m.z j k d q v) j k=(e,eT m.z j k d q v,m.x))(ho:sN s m.z j k d q=(e,m.z.cn,(m.z.tk j).hs)):∃e u m',Je s m j k d q v e u m':=by
 refine⟨e,0,_,(aMn h hj he hr).mono (by decide),aGM (z:=eT m.z j k d q v) h hj rfl rfl (fun i hi hne=>aAm hj _ hi hne) h.inv,?_,fun i hi hne=>?_,fun _=>rfl,fun _ h=>absurd h he,fun _=>rfl⟩
 ·rw[ho]
  show(e,m.z.cn,((rU _ j _).tk j).hs)=_
  rw[Mf hj hj,if_pos rfl,aCv hj]
 ·show((rU _ j _).tk i).hs=_
  rw[Mf hj hi,if_neg hne,aAm hj _ hi hne]
theorem aNR(hm:s.made)(h:rM s m)(hj:T3 j)(hk:k≠114∧k≠119){z2:aW}(hr:qP s m.x (eT m.z j k d q v) j k=(0,lP s z2,m.x))(hwn:z2.wn=m.z.wn)(lU:z2.aS=false)(aBn:z2.many=m.z.many)(aDO:z2.eX=(j:Int))(hst:(z2.tk j).st=2)
  (mR:∀i,T3 i→i≠j→z2.tk i=m.z.tk i) (ho:sN s m.z j k d q=(0,z2.cn,(z2.tk j).hs)):∃e u m',Je s m j k d q v e u m':=by
 obtain⟨k',l',k1,i1,x',r1,r2,r3,r4,r5⟩:=aMd hm h hj hr hwn lU aBn aDO hst
 have uT:∀i,T3 i→(lP s z2).tk i=z2.tk i:=fun i hi=>by rcases hi with rfl | rfl | rfl<;>rfl
 refine⟨0,0,_,r1,aGN hj (fun i hi hne=>by rw[uT i hi,mR i hi hne];exact h.tk i hi) ⟨l',k1,i1,r2,rfl⟩ r3 (aCC hm z2) ⟨r4,r5⟩ rfl rfl (fun i hi=>aLh z2 i hi),?_,fun i hi hne=>?_,fun _=>rfl,fun h=>absurd h (by omega),fun h=>absurd rfl h⟩
 ·rw[ho]
  show((0:Int),z2.cn,((rU _ j _).tk j).hs)=_
  rw[Mf hj hj,if_pos rfl,uT j hj]
 ·show((rU _ j _).tk i).hs=_
  rw[Mf hj hi,if_neg hne,uT i hi,mR i hi hne]
def z2F(z:aW)(j:Nat)(k d q v:Int)(t:rK)(c:Cn):aW:={(eT z j k d q v).jR j t with cn:=c}
theorem aCy(hj:T3 j){z:aW}{t:rK}{c:Cn}{i:Nat}(hi:T3 i):(z2F z j k d q v t c).tk i=if i=j then t else z.tk i:=by
 rcases hj with rfl | rfl | rfl<;>rcases hi with rfl | rfl | rfl<;>rfl
theorem aAO(hm:s.made)(h:rM s m)(hj:T3 j)(hk:k≠114∧k≠119){t:rK}{c:Cn}(ht:t.st=2)(hr:qP s m.x (eT m.z j k d q v) j k=(0,lP s (z2F m.z j k d q v t c),m.x))(ho:sN s m.z j k d q=(0,c,t.hs)):∃e u m',Je s m j k d q v e u m':=by
 refine aNR hm h hj hk hr rfl h.po rfl rfl ?_ (fun i hi hne=>?_) ?_
 ·rw[aCy hj hj,if_pos rfl];exact ht
 ·rw[aCy hj hi,if_neg hne]
 ·rw[aCy hj hj,if_pos rfl];exact ho
theorem aHk(hm:s.made)(h:rM s m)(hok:fE s n m)(hj:T3 j)(wr:Bool)(hk:k=if wr then 119 else 114)(hv:0≤v∧v < 4294967296):∃e u m',Je s m j k d q v e u m':=by
 have uT:=aCv (k:=k) (d:=d) (q:=q) (v:=v) hj m.z
 have hhs:∀i,hG ((eT m.z j k d q v).tk j) i=hG (m.z.tk j) i:=fun i=>by rw[uT];rfl
 have hk4:k≠103∧k≠112∧k≠115∧k≠109∧(k=114∨k=119)∧decide (k=119)=wr:=by subst hk;cases wr<;>decide
 obtain⟨k1,k2,k3,k4,k5,k6⟩:=hk4
 have jT:sN s m.z j k d q=(if bN s.aD.length d=false∨q < 0∨Gt s d≤q then 4 else if hG (m.z.tk j) d.toNat=0∨m.z.cn.gJ=true then 6 else 0,m.z.cn,(m.z.tk j).hs):=by
  unfold sN;dsimp only;rw[if_neg k1,if_neg k2,if_neg k3,if_neg k4]
 have hr:qP s m.x (eT m.z j k d q v) j k=Dp s m.x (eT m.z j k d q v) j wr:=by
  subst hk;cases wr<;>rfl
 have Xq:Is s ((eT m.z j k d q v).tk j)↔(bN s.aD.length d=false∨q < 0∨Gt s d≤q):=by rw[uT];exact Iff.rfl
 unfold Dp at hr
 by_cases h1:bN s.aD.length d=false∨q < 0∨Gt s d≤q
 ·rw[if_pos (Xq.2 h1)] at hr;exact Jr (e:=4) h hj (by decide) hr (by rw[jT,if_pos h1])
 rw[if_neg (fun hb=>h1 (Xq.1 hb)),hhs,uT] at hr;dsimp only at hr;rw[show(eT m.z j k d q v).cn=m.z.cn from rfl] at hr;rw[if_neg h1] at jT
 by_cases h2:hG (m.z.tk j) d.toNat=0∨m.z.cn.gJ=true
 ·rw[if_pos h2] at hr jT;exact Jr (e:=6) h hj (by decide) hr jT
 rw[if_neg h2] at hr jT
 have hin:bN s.aD.length d=true:=by
  cases hb:bN s.aD.length d with
  | true=>rfl
  | false=>exact absurd (.inl hb) h1
 have hin:=of_decide_eq_true hin
 have hdt:d=(d.toNat:Int):=by omega
 obtain⟨dd,hd⟩:=get_some (l:=s.aD) (i:=d.toNat) (by omega);obtain⟨p,hp⟩:=get_some (l:=m.x.dv) (i:=d.toNat) (by have:=hok.hw.dv;omega)
 have ha:m.z.cn.gJ=false:=by
  cases hb:m.z.cn.gJ with
  | false=>rfl
  | true=>exact absurd (.inr hb) h2
 have hc:0 < gT m.z.cn.l (d.toNat:Int):=by
  have b:=hok.wU.toRwB
  have h0:=b.nn 0 (.inl rfl) d.toNat
  have h1:=b.nn 1 (.inr (.inl rfl)) d.toNat
  have h2':=b.nn 2 (.inr (.inr rfl)) d.toNat
  have h3:=b.cnt d.toNat
  have h4:hG (m.z.tk j) d.toNat≠0:=fun hz=>h2 (.inl hz)
  rcases hj with rfl | rfl | rfl<;>omega
 obtain⟨hal,hst⟩:=h.alive hm hd (aLx ha (by omega) hc);rw[if_pos hst] at hr;obtain⟨r1,r2⟩:=aMu hm h hj hd hp hal hv hr
 have hx:=aGM (z:={eT m.z j k d q v with aS:=true,id:=m.x.aS}) h hj rfl rfl (fun i hi hne=>by
  have:({eT m.z j k d q v with aS:=true,id:=m.x.aS}:aW).tk i=(eT m.z j k d q v).tk i:=by rcases hi with rfl | rfl | rfl<;>rfl
  rw[this]
  exact aAm hj _ hi hne) r2
 refine⟨0,_,_,r1.mono (by decide),hx,?_,fun i hi hne=>?_,fun hh=>?_,fun _ _=>⟨d.toNat,p,hdt,hp,rfl,?_⟩,fun hh=>absurd rfl hh⟩
 ·rw[jT]
  show((0:Int),m.z.cn,((rU _ j _).tk j).hs)=_
  rw[Mf hj hj,if_pos rfl]
  have:({eT m.z j k d q v with aS:=true,id:=m.x.aS}:aW).tk j=(eT m.z j k d q v).tk j:=by rcases hj with rfl | rfl | rfl<;>rfl
  rw[this,uT]
 ·show((rU _ j _).tk i).hs=_
  rw[Mf hj hi,if_neg hne]
  have:({eT m.z j k d q v with aS:=true,id:=m.x.aS}:aW).tk i=(eT m.z j k d q v).tk i:=by rcases hi with rfl | rfl | rfl<;>rfl
  rw[this,aAm hj _ hi hne]
 ·rcases hh with hh | hh
  ·omega
  ·exact absurd rfl hh
 ·rw[k6]
theorem aSY(hm:s.made)(h:rM s m)(hok:fE s n m)(hj:T3 j)(hk:qK k)(hv:0≤v∧v < 4294967296):∃e u m',Je s m j k d q v e u m':=by
 have uT:=aCv (k:=k) (d:=d) (q:=q) (v:=v) hj m.z
 have hhs:∀i,hG ((eT m.z j k d q v).tk j) i=hG (m.z.tk j) i:=fun i=>by rw[uT];rfl
 have hn:=Qh s
 have qL:z2F m.z j k d q v ((eT m.z j k d q v).tk j) m.z.cn=eT m.z j k d q v:=by rcases hj with rfl | rfl | rfl<;>rfl
 have hwk:∀c:Cn,({eT m.z j k d q v with cn:=c}:aW)=z2F m.z j k d q v ((eT m.z j k d q v).tk j) c:=fun c=>by rcases hj with rfl | rfl | rfl<;>rfl
 rcases hk with rfl | rfl | hk | hk | rfl | rfl
 ·
  have hr:qP s m.x (eT m.z j 103 d q v) j 103=((Fq s (eT m.z j 103 d q v) j).1,(Fq s (eT m.z j 103 d q v) j).2,m.x):=rfl
  unfold Fq at hr;rw[uT,hn] at hr;dsimp only at hr;rw[show(eT m.z j 103 d q v).cn=m.z.cn from rfl] at hr
  by_cases he:(qQ s.aD.length m.z.cn d).1≠0
  ·rw[if_pos he] at hr;exact Jr h hj he hr (by unfold sN;dsimp only;rw[if_pos rfl,if_pos he])
  ·rw[if_neg he] at hr;exact aAO hm h hj ⟨by decide,by decide⟩ rfl hr (by unfold sN;dsimp only;rw[if_pos rfl,if_neg he];rfl)
 ·
  have hr:qP s m.x (eT m.z j 112 d q v) j 112=((Et s (eT m.z j 112 d q v) j).1,(Et s (eT m.z j 112 d q v) j).2,m.x):=rfl
  unfold Et at hr;rw[hhs,uT,hn] at hr;dsimp only at hr;rw[show(eT m.z j 112 d q v).cn=m.z.cn from rfl] at hr
  by_cases h1:bN s.aD.length d=false
  ·rw[if_pos h1] at hr;exact Jr (e:=4) h hj (by decide) hr (by unfold sN;dsimp only;rw[if_neg (by decide),if_pos rfl,if_pos h1])
  ·rw[if_neg h1] at hr
   by_cases h2:hG (m.z.tk j) d.toNat=0
   ·rw[if_pos h2] at hr;exact Jr (e:=6) h hj (by decide) hr (by unfold sN;dsimp only;rw[if_neg (by decide),if_pos rfl,if_neg h1,if_pos h2])
   ·rw[if_neg h2] at hr
    by_cases he:(nY s.aD.length m.z.cn d).1≠0
    ·rw[if_pos he] at hr;exact Jr h hj he hr (by unfold sN;dsimp only;rw[if_neg (by decide),if_pos rfl,if_neg h1,if_neg h2,if_pos he])
    ·rw[if_neg he] at hr;exact aAO hm h hj ⟨by decide,by decide⟩ rfl hr (by unfold sN;dsimp only;rw[if_neg (by decide),if_pos rfl,if_neg h1,if_neg h2,if_neg he];rfl)
 ·exact aHk hm h hok hj false hk hv
 ·exact aHk hm h hok hj true hk hv
 ·
  have hr:qP s m.x (eT m.z j 115 d q v) j 115=((Ek s (eT m.z j 115 d q v)).1,(Ek s (eT m.z j 115 d q v)).2,m.x):=rfl
  unfold Ek at hr;rw[show(eT m.z j 115 d q v).cn=m.z.cn from rfl] at hr
  by_cases he:(tQ m.z.cn).1≠0
  ·rw[if_pos he] at hr;refine Jr h hj he hr ?_;unfold sN;dsimp only;rw[if_neg (by decide),if_neg (by decide),if_pos rfl];unfold tQ at he⊢;split at he
   ·rename_i ha;rw[if_pos ha]
   ·exact absurd rfl he
  ·rw[if_neg he,hwk] at hr;refine aAO hm h hj ⟨by decide,by decide⟩ (by rw[uT]) hr ?_;unfold sN;dsimp only;rw[if_neg (by decide),if_neg (by decide),if_pos rfl,Classical.not_not.1 he,uT]
 ·
  have hr:qP s m.x (eT m.z j 109 d q v) j 109=((Er s (eT m.z j 109 d q v)).1,(Er s (eT m.z j 109 d q v)).2,m.x):=rfl
  unfold Er at hr;rw[show(eT m.z j 109 d q v).cn=m.z.cn from rfl] at hr
  by_cases he:(tR m.z.cn).1≠0
  ·rw[if_pos he] at hr;refine Jr h hj he hr ?_;unfold sN;dsimp only;rw[if_neg (by decide),if_neg (by decide),if_neg (by decide),if_pos rfl];unfold tR at he⊢;split at he
   ·exact absurd rfl he
   ·rename_i ha;rw[if_neg ha]
  ·rw[if_neg he,hwk] at hr;refine aAO hm h hj ⟨by decide,by decide⟩ (by rw[uT]) hr ?_;unfold sN;dsimp only;rw[if_neg (by decide),if_neg (by decide),if_neg (by decide),if_pos rfl,Classical.not_not.1 he,uT]
end
end
section
section
variable{s:aC}{m m':dW}{j n:Nat}{k d q v e u:Int}
theorem sG.ok(hm:s.made){t:Int}:∀{N n:Nat} {m m':dW},fE s n m→sG s t N m e u m'→fE s (n+N) m'
 | 0,_,_,_,_,h=>h.elim
 | N+1,n,m,m',ho,h=>by
  have h1:=ho.step hm t
  have h2:=ho.qH hm t
  rcases h with⟨z,hd,rfl⟩ | ⟨_,⟨z,hd,rfl⟩ | ⟨_,hr⟩⟩
  ·exact(h1.aIR hd).le (by omega)
  ·exact(h2.aIR hd).le (by omega)
  ·exact(sG.ok hm h2 hr).le (by omega)
theorem aKL(h:fE s n m)(hr:rM s m)(hj:T3 j)(hk:qK k)(hv:0≤v∧v < 4294967296):fE s n ⟨oQ m.z j k d q v,m.y,m.x⟩:=h.aGi (aGh hr hj hk) hv
theorem Je.ok(hm:s.made)(o:Je s m j k d q v e u m')(h:fE s n m)(hr:rM s m)(hj:T3 j)(hk:qK k)(hv:0≤v∧v < 4294967296):fE s (n+400) m':=sG.ok hm (aKL h hr hj hk hv) o.stl
theorem aJG(g:List (List Int))(n:Nat):∀t,wE g ⟨[],false⟩ n t=List.replicate n false
 | 0=>rfl
 | t+1=>by
  unfold wE;rw[if_pos (by show gT [] _≤0;simp[gT])];exact aJG g n t
theorem aFP(s:aC)(n:Nat):eU s (List.replicate n false)=dQ s:=by
 have:∀t,iP s (List.replicate n false) t=dQ s:=fun t=>by
  induction t with
  | zero=>rfl
  | succ t ih=>rw[Po (aIu n t),ih]
 exact this _
theorem aMP(hm:s.made):rM s (Wa s):=by
 have hu:eU s (eP s (Wa s).z.cn)=dQ s:=by
  show eU s (eP s ⟨[],false⟩)=_
  unfold eP Oa;rw[if_neg (by simp),aJG,aFP]
 have hw:(Wa s).z.wn=dQ s:=aLf s
 have iD:=aFQ hm (List.replicate s.aD.length false) s.aD.length
 refine⟨fun j hj=>by rcases hj with rfl | rfl | rfl<;>rfl,rfl,rfl,rfl,rfl,⟨1,0,0,.inr rfl,by rw[hw];rfl⟩,by rw[hw];exact aPh hm,?_,⟨Int.le_refl 0,by show(0:Int) < 1024;decide⟩,by rw[hu,hw],by rw[hu,hw],fun i h=>by rw[hu] at h;rw[hw];exact h⟩;rw[hw,←aFP s s.aD.length];exact iD
theorem aPe(r:Int)(h0:0≤r)(h1:r < 13):Jw r=120∨qK (Jw r):=by
 obtain⟨n,rfl⟩:∃n:Nat,r=(n:Int):=⟨r.toNat,by omega⟩
 have hn:n < 13:=by omega
 have:∀n:Fin 13,Jw (n.1:Int)=120∨qK (Jw (n.1:Int)):=by decide
 exact this ⟨n,hn⟩
theorem aN5(o:Je s m j 112 d q v e u m')(hok:fE s n m)(hj:T3 j)(hd:0≤d):e=0↔(0 < pK s m.z j d∧m.z.cn.gJ=false):=by
 have ho:=o.out
 unfold sN at ho;dsimp only at ho;rw[if_neg (by decide),if_pos rfl] at ho
 have aP9:bN 3 (j:Int)=true:=by rcases hj with rfl | rfl | rfl<;>rfl
 have b:=hok.wU.toRwB
 unfold pK;rw[aP9,if_neg (by simp),Int.toNat_natCast]
 by_cases h1:bN s.aD.length d=false
 ·rw[if_pos h1] at ho;rw[if_pos h1];simp only[Prod.mk.injEq] at ho;omega
 rw[if_neg h1] at ho⊢
 have hin:=of_decide_eq_true (by cases hb:bN s.aD.length d with | true=>rfl | false=>exact absurd hb h1:bN s.aD.length d=true)
 have h0:=b.nn 0 (.inl rfl) d.toNat
 have h1:=b.nn 1 (.inr (.inl rfl)) d.toNat
 have h2:=b.nn 2 (.inr (.inr rfl)) d.toNat
 have h3:=b.cnt d.toNat
 have dR:((d.toNat:Nat):Int)=d:=by omega
 rw[dR] at h3
 by_cases h4:hG (m.z.tk j) d.toNat=0
 ·rw[if_pos h4] at ho;simp only[Prod.mk.injEq] at ho;omega
 rw[if_neg h4] at ho
 have hpos:0 < hG (m.z.tk j) d.toNat:=by rcases hj with rfl | rfl | rfl<;>omega
 have hc:0 < gT m.z.cn.l d:=by rcases hj with rfl | rfl | rfl<;>omega
 cases ha:m.z.cn.gJ with
 | true=>
  have:(nY s.aD.length m.z.cn d).1=6:=by unfold nY;rw[ha,if_pos rfl]
  rw[this,if_pos (by decide)] at ho;simp only[Prod.mk.injEq] at ho;constructor
  ·omega
  ·intro h;cases h.2
 | false =>
  have:(nY s.aD.length m.z.cn d).1=0:=by
   unfold nY;rw[ha,if_neg (by simp),if_neg (by simpa using hin),if_neg (by omega)]
  rw[this,if_neg (by simp)] at ho;simp only[Prod.mk.injEq] at ho;exact⟨fun _=>⟨hpos,rfl⟩,fun _=>ho.1⟩
theorem aN6(o:Je s m j 112 d q v e u m'):m'.z.cn.gJ=m.z.cn.gJ:=by
 have ho:=congrArg (fun x=>x.2.1.gJ) o.out
 dsimp only at ho;rw[ho];unfold sN;dsimp only;rw[if_neg (by decide),if_pos rfl];split
 ·rfl
 ·split
  ·rfl
  ·split
   ·rfl
   ·show(nY s.aD.length m.z.cn d).2.gJ=_
    unfold nY
    repeat' split
    all_goals rfl
theorem aB0(z:aW)(hj:T3 j){i:Nat}(hi:i < s.aD.length):pK s z j (i:Int)=hG (z.tk j) i:=by
 unfold pK;rw[if_neg (by rcases hj with rfl | rfl | rfl<;>decide),if_neg (by simp[bN,hi]),Int.toNat_natCast,Int.toNat_natCast]
theorem aQq(h:fE s n m){i:Nat}(hi:i < s.aD.length):(0≤pK s m.z 0 i∧pK s m.z 0 i≤7)∧(0≤pK s m.z 1 i∧pK s m.z 1 i≤7)∧0≤pK s m.z 2 i∧pK s m.z 2 i≤7:=by
 have bb:=h.wU.toRwB
 have key:∀j:Nat,T3 j→0≤pK s m.z (j:Int) i∧pK s m.z (j:Int) i≤7:=fun j hj=>by
  rw[aB0 _ hj hi];exact⟨bb.nn j hj i,aIx bb hj i⟩
 exact⟨key 0 (.inl rfl),key 1 (.inr (.inl rfl)),key 2 (.inr (.inr rfl))⟩
theorem aLE(h:fE s n m){i:Nat}(hi:i < s.aD.length):gT m.z.cn.l (i:Int)=pK s m.z 0 (i:Int)+pK s m.z 1 (i:Int)+pK s m.z 2 (i:Int):=by
 have:=h.wU.toRwB.cnt i
 rw[show(0:Int)=((0:Nat):Int) from rfl,show(1:Int)=((1:Nat):Int) from rfl,show(2:Int)=((2:Nat):Int) from rfl,aB0 _ (.inl rfl) hi,aB0 _ (.inr (.inl rfl)) hi,aB0 _ (.inr (.inr rfl)) hi];exact this.symm
end
end
section
open Go.RowKit Go.Maps
theorem aOM(r:Nat)(es:Array MapEntry)(clock:Nat)(w:World)(hb:w.heap[r]? =some (.map es clock)):
  Cz 145 #[.map (some r)] w fun e w'=>e=.returned (.map (some w.heap.size))∧w'=w.alloc (.map es clock):=by
 have hq:=fun w=>run_eql_map_nil_sl (P:=Tryz.prog) w 158 3 3 (some r) (by kernel_rfl)
 have mixed:Tryz.prog.follows .mixedOrders=true:=by kernel_rfl
 go_enter func145,ntmps145
 go_wp2
 rw[run_callFunc_extern func212 (by kernel_rfl) (by kernel_rfl) (by kernel_rfl) (e:=Extern.MapsClone.clone) (by kernel_rfl),run_maps_clone_sl w 158 hb];simp only[Result.andThen];rw[Oper.upon_value]
 go_wp2
 rw[run_typeAssert_map_sl _ 158 20 3 3 _ (by kernel_rfl)];simp only[Result.andThen];rw[Oper.upon_value]
 go_wp2
 go_ret
 exact⟨rfl,rfl⟩
end
section
def aKw(l:List (Int×Value))(v:Value)(hs:List HP)(_:Piece):Prop:=∃g,v=.map (some g)∧hs=[HP.map g l]
theorem aON(r:Nat)(l:List (Int×Value))(w:World)(hm:sH w r l):
  Cz 145 #[.map (some r)] w fun y w'=>(∃v hs q,y=.returned v∧q.w=w'∧aKw l v hs q∧kC w hs q)∧Below w.heap.size w w':=by
 obtain⟨es,c,h1,h2⟩:=hm;refine(aOM r es c w h1).mono fun y w' ⟨hy,hw⟩=>?_;subst hw;refine⟨⟨_,_,⟨w.alloc (.map es c),fun _=>False⟩,hy,rfl,⟨w.heap.size,rfl,rfl⟩,?_⟩,Ny w _⟩;refine⟨fun i b=>i=0∧b=w.heap.size,fun i p hp=>?_,fun i b hb=>?_,fun i j b hij hi hj=>hij (hi.1.trans hj.1.symm),fun _ h=>h.elim⟩
 ·cases i with
  | zero=>
   cases hp;exact⟨⟨rfl,rfl⟩,es,c,heap_alloc_new w _,h2⟩
  | succ i=>simp at hp
 ·obtain⟨_,rfl⟩:=hb;refine⟨Nat.le_refl _,?_,fun h=>h⟩;exact(Array.getElem?_eq_some_iff.1 (heap_alloc_new w (.map es c))).1
theorem St.aOT{w0 w:World}{R:List Piece}{H:List HP}{g f:Nat}{hL:HL}{s:aC}{m:dW}(t:St w0 R H w)(i:Nat)(hi:H[i]? =some (kI g f hL s m)):∃L,Ds w g hL.h f L s m.z∧sH w L.gm (sC m.z.cn.l):=by
 obtain⟨F,h1,h2,_⟩:=t.chunk hi;obtain⟨G,g1,g2,_⟩:=h1;obtain⟨L,hL⟩:=g1 0 _ rfl;refine⟨L,aCo hL fun b hb=>h2 b (g2 0 b hb),?_⟩;obtain⟨G1,k1,_⟩:=hL;obtain⟨G2,l1,_⟩:=k1 3 _ rfl;exact(l1 1 _ rfl).2
def aKD(v:Value)(c:Cn)(x:Value)(hs:List HP)(_:Piece):Prop:=∃gc gm,x=pt gc∧hs=[nQ gc gm v c]
theorem aSw(gc gm:Nat)(A:Option Addr)(n k:Nat)(c:Cn)(w:World)(h0:eE w gc 0 [.slice A n k,.map (some gm),.bool c.gJ])(hm:sH w gm (sC c.l)):
  Cz 66 #[pt gc] w fun y w'=>(∃x hs q,y=.returned x∧q.w=w'∧aKD (.slice A n k) c x hs q∧kC w hs q)∧Below w.heap.size w w':=by
 have k0:=h0.at_ (j:=0) rfl
 have k1:=h0.at_ (j:=1) rfl
 have k2:=h0.at_ (j:=2) rfl
 rw[Nat.zero_add] at k0 k1 k2;refine aN func66 ntmps66 ?_;refine aB ?_;refine pN ?_;refine aJ 8 ?_;refine fR (aKw (sC c.l)) (fun w1 st=>aON gm _ w1 (hm.below (st.started (by simp)))) ?_;rintro _ _ q1 ⟨gn,rfl,rfl⟩ _;dsimp only[List.cons_append,List.nil_append];refine bB ?_;refine aJ 13 ?_;refine kd (fL rfl) ?_;refine bB ?_;refine aJ 14 ?_;refine bF fun g2=>?_;refine bB ?_;refine nC [15] ?_;refine aB ?_;refine nB ?_;refine dP [] [] [0] (by simp) rfl (by decide) (by decide) fun q _ _ hfr=>?_;exact nA rfl rfl fun w1 t=>⟨⟨_,_,⟨w1,q.Z⟩,rfl,rfl,⟨g2,gn,rfl,rfl⟩,t.newR (by simp) (by simp) (hfr (by simp) (by simp))⟩,t.below (by simp)⟩
theorem St.aSx{w0 w:World}{R:List Piece}{H:List HP}{gc gm:Nat}{v:Value}{c:Cn}(t:St w0 R H w)(i:Nat)(hi:H[i]? =some (nQ gc gm v c)):fO w gc 2 (.bool c.gJ)∧sH w gm (sC c.l):=by
 obtain⟨F,h1,h2,_⟩:=t.chunk hi;obtain⟨G,g1,g2,_⟩:=h1
 have k:=(uW (g1 0 _ rfl).2).at_ (j:=2) rfl
 exact⟨k,(g1 1 _ rfl).2⟩
def CpE(s:aC)(c:Cn)(x:Value)(hs:List HP)(_:Piece):Prop:=∃A k gc gm,x=pt gc∧hs=[nQ gc gm (.slice A (cY s).length k) c]
theorem aMA(g h f:Nat)(L:dK)(s:aC)(z:aW)(w:World)(hR:Ds w g h f L s z)(hm:sH w L.gm (sC z.cn.l)):
  Cz 31 #[pt g] w fun y w'=>(∃x hs q,y=.returned x∧q.w=w'∧CpE s z.cn x hs q∧kC w hs q)∧Below w.heap.size w w':=by
 refine aN func31 ntmps31 ?_
 have k0:=hR.r0.at_ (j:=6) rfl
 rw[Nat.zero_add] at k0;refine aB ?_;refine fR (aKD (.slice L.nd.1 (cY s).length L.nd.2) z.cn) (fun w1 st=>aSw L.gc L.gm _ _ _ z.cn w1 (hR.below (st.started (by simp))).cn (hm.below (st.started (by simp)))) ?_;rintro _ _ q1 ⟨gc,gn,rfl,rfl⟩ hf;dsimp only[List.cons_append,List.nil_append];refine aB ?_;exact nA rfl rfl fun w1 t=>⟨⟨_,_,⟨w1,q1.Z⟩,rfl,rfl,⟨_,_,gc,gn,rfl,rfl⟩,t.newR (by simp) (by simp) hf⟩,t.below (by simp)⟩
section
variable{w0 w:World}{R:List Piece}{H:List HP}{g f:Nat}{hL:HL}{s:aC}{m:dW}
theorem aH4(i:Nat)(t:St w0 R H w)(hi:H[i]? =some (kI g f hL s m)):Cz 31 #[pt g] w fun y w'=>(∃x hs q,y=.returned x∧q.w=w'∧CpE s m.z.cn x hs q∧kC w hs q)∧Below w.heap.size w w':=by
 obtain⟨L,hR,hM⟩:=t.aOT i hi;exact aMA g hL.h f L s m.z w hR hM
theorem Qm{t d x:Int}(hx:pK s m.z t d=x)(mK:s.aD.length≤6)(i:Nat)(st:St w0 R H w)(hi:H[i]? =some (kI g f hL s m)):Cz 33 #[pt g,iv t,iv d] w (Rt (iv x) w):=by
 obtain⟨L,hR⟩:=st.mac i hi;exact hx▸aG7 g hL.h f L s m.z w t d mK hR
theorem aSu{gc gm:Nat}{v:Value}{c:Cn}{d x:Int}{w:World}{F:Nat→Prop}(hx:gT c.l d=x)(hp:(nQ gc gm v c).sat F w)(hF:∀b,F b→b < w.heap.size):Cz 32 #[pt gc,iv d] w (Wr (iv x) (nQ gc gm v c) w F):=hx▸aSv gc gm v c d w F hp hF
end
end
section
section
variable{P:Program}{N:cH}{w0:World}{e:Env}{R R0:List Piece}{H H0:List HP}{Q:Exit→Act→World→Prop}{ops:Array Oper}{fuel:Nat}{listed:Array Bool}{Z:List Nat}
theorem aUh(a b c d f:Nat){oa ob oc od of:Oper}(ha:ops[a]? =some oa)(hb:ops[b]? =some ob)(hc:ops[c]? =some oc)(hd:ops[d]? =some od)(hf:ops[f]? =some of)
  (hs:(!(Region.ready .any ops listed).isEmpty&&(Region.ready .any ops listed).all fun i=>[a,b,c,d,f].contains i)=true)
  (ka:(Region.ready .any ops listed).contains a=true→XK N w0 (wpList P ops (Exit.then (yZ P w0 ops Q R0 H0 Z fuel listed a) Q) [oa]) e R H)
  (kb:(Region.ready .any ops listed).contains b=true→XK N w0 (wpList P ops (Exit.then (yZ P w0 ops Q R0 H0 Z fuel listed b) Q) [ob]) e R H)
  (kc:(Region.ready .any ops listed).contains c=true→XK N w0 (wpList P ops (Exit.then (yZ P w0 ops Q R0 H0 Z fuel listed c) Q) [oc]) e R H)
  (kd:(Region.ready .any ops listed).contains d=true→XK N w0 (wpList P ops (Exit.then (yZ P w0 ops Q R0 H0 Z fuel listed d) Q) [od]) e R H)
  (kf:(Region.ready .any ops listed).contains f=true→XK N w0 (wpList P ops (Exit.then (yZ P w0 ops Q R0 H0 Z fuel listed f) Q) [of]) e R H):XB P N w0 ops Q R0 H0 Z (fuel+1) listed e R H:=by
 simp only[Bool.and_eq_true,Bool.not_eq_true'] at hs;intro up w1 w cP st;refine⟨fun h=>(by rw[h] at hs;simp at hs),fun q hq=>?_⟩
 have hin:(Region.ready .any ops listed).contains q=true:=by simpa using hq
 have h2:=List.all_eq_true.1 hs.2 q hq
 simp only[List.contains_cons,List.contains_nil,Bool.or_false,Bool.or_eq_true,beq_iff_eq] at h2;rcases h2 with rfl | rfl | rfl | rfl | rfl
 ·exact vK ha (fun a w h=>⟨fun hw _=>h.1 hw,h.2 (up.jY hq)⟩) (ka hin w1 w cP st)
 ·exact vK hb (fun a w h=>⟨fun hw _=>h.1 hw,h.2 (up.jY hq)⟩) (kb hin w1 w cP st)
 ·exact vK hc (fun a w h=>⟨fun hw _=>h.1 hw,h.2 (up.jY hq)⟩) (kc hin w1 w cP st)
 ·exact vK hd (fun a w h=>⟨fun hw _=>h.1 hw,h.2 (up.jY hq)⟩) (kd hin w1 w cP st)
 ·exact vK hf (fun a w h=>⟨fun hw _=>h.1 hw,h.2 (up.jY hq)⟩) (kf hin w1 w cP st)
end
section
variable{N:cH}{w0:World}{e:Env}{R R0:List Piece}{H H0:List HP}{Q:Exit→Act→World→Prop}{ops:Array Oper}{fuel:Nat}{listed:Array Bool}{Z:List Nat}
variable{d:Nat}{ty:TypeId}{pos:String}{aH:Array Edge}{op:Op}{v:Value}
theorem aFb(i:Nat)(k:XB Tryz.prog N w0 ops Q R0 H0 Z fuel (listed.setIfInBounds i true) ((d,v)::e) R H)(hz:(Z.contains i&&(Region.ready .any ops listed).contains i)=true:=by decide+kernel)(hi:ops[i]? =some ⟨some d,op,ty,pos,aH,none⟩:=by rfl)(dD:bR Tryz.prog N w0 e R0 H0 ⟨some d,op,ty,pos,aH,none⟩ v:=by exact dz)(hd:d < N.n:=by decide)
  (hc:(Region.free .any ops listed i&&(Region.ready .any ops listed).contains i&&Z.contains i)=true:=by kernel_rfl) (hQ:∀c a w,Q (.panic c) (a.put (some d) v) w→Q (.panic c) a w:=by first | exact fun _ _ _ h=>h | exact fun _ _ _ h=>mG rfl h)
  (hsub:∀w,St w0 R H w→St w0 R0 H0 w:=by first | exact fun _ h=>h | exact fun _ h=>h.tail | exact fun _ h=>h.tail.tail | exact fun _ h=>h.bE | exact fun _ h=>h.bE.tail):XB Tryz.prog N w0 ops Q R0 H0 Z (fuel+1) listed e R H:=aCk i hi rfl rfl hd dD hc hQ hsub k
end
end
section
set_option maxRecDepth 100000 in
theorem aM1(A : Option Addr)(n c : Nat)(zs : List Int)(B : Option Addr)(nb cb : Nat)(Bk : List pP)(w : World)(h0 : aI (all w) 1 A n (aL zs))(hz : aFq zs)(hn : n = zs.length)(hn2 : n ≤ 9223372036854775807)(h1 : aI (all w) 12 B nb (Bk.flatMap pP.cells))(hac : ∀ a ∈ Bk, a.ok)(hnb : nb = Bk.length)(aUJ : nb ≤ 9223372036854775807)(fG : kQ (all w)) :
    Cz 7 #[.slice A n c,.slice B nb cb] w (Rt (.bool true) w):=by
  refine aN func7 ntmps7 ?_;refine aB ?_;refine aU (fun w1 t=>aLQ w1) ?_;refine aB ?_;refine fR (fun v hs q=>∃p hs',hs=p::hs'∧aKF v hs' q) (fun w1 t=>aSE A n c zs w1 (h0.le (t.le (by simp))) hz hn hn2) ?_;rintro _ _ q1 ⟨pB,_,rfl,s,⟨A1,k1⟩,⟨A2,k2⟩,⟨A3,k3⟩,⟨A4,k4⟩,y1,y2,y3,y4,rfl,hm,gD,tI,rfl⟩ _;dsimp only[List.cons_append,List.nil_append]
  have mK:=hm.nv
  refine bT fun gS=>?_;refine aB ?_;refine fR (aFl s) (fun w1 t=>aGH s A1 A2 A3 A4 _ k1 _ k2 _ k3 _ k4 w1 (t.aSD 2 3 4 5 6 7 rfl rfl rfl rfl rfl rfl rfl rfl rfl rfl gD tI (Vz hm)) hm) ?_;rintro _ _ q2 ⟨gR,f,r,hL,pX,rfl,rfl,aV⟩ _;dsimp only[List.cons_append,List.nil_append];refine aY [1,2,3,0,4] rfl (by decide) (R':=[all w]) (by simp) ?_;refine Zt ?_;refine aB ?_;refine aG rfl (fun hg=>?_) (fun hg=>?_)
  · refine aB ?_
    exact cZ
  refine aB ?_;refine Gd (α:=Unit) (fun _=>[]) (fun _=>[]) (fun _=>True) ?_ fun _ _=>?_
  · refine qA (α:=dW) (fun i _=>[(7,pt gR),(9,iv i),(1,.slice B nb cb),(6,pt gS)]) (fun _ m=>[kI r f hL s m,HP.aE gR 58 [.pointer (some ⟨hL.h,0,none⟩),pt f,pt r,.pointer pX],HP.aE gS 30 [.slice A1 s.aF.length k1,.slice A2 s.domains.length k2,.slice A3 s.aR.length k3,.slice A4 s.aD.length k4]]) (fun i m=>fE s (i*400) m∧rM s m) nb (Wa s) ⟨aOU hm,aMP hm⟩ fun i m hi hx=>?_
    obtain⟨hok,Cu⟩:=hx;refine aB ?_;refine aG rfl (fun hlt=>?_) (fun hge=>?_)
    · have hlt:i < Bk.length:=by omega
      obtain⟨a,ha⟩:=get_some hlt
      have aBz:=hac a (List.mem_of_getElem? ha)
      obtain⟨b,off,rfl,gF,hc⟩:=h1.2 (by omega)
      have ka:eE w b (off+i*12) a.cells:=⟨gF,fun k v hv=>by rw[Nat.add_assoc];exact hc _ _ (aTC ha hv)⟩
      obtain⟨a0,a1,a2,a3,a4,a5,q0,q1,q2,q3,q4,q5⟩:=a
      have hv5:0≤a5∧a5 < 4294967296:=aBz.v
      have k1a:fO w b (off+i*12+1) (iv a1):=ka.at_ (j:=1) rfl
      refine aB ?_;refine Oi (α:=Nat) (fun g=>[(10,pt g),(7,pt gR),(9,iv i),(1,.slice (some ⟨b,off,none⟩) nb cb),(6,pt gS)]) (fun g=>[HP.aE g 46 [.int .u8 (aEC ⟨a0,a1,a2,a3,a4,a5,q0,q1,q2,q3,q4,q5⟩),iv (aBK ⟨a0,a1,a2,a3,a4,a5,q0,q1,q2,q3,q4,q5⟩ s.aD.length),iv (aEB ⟨a0,a1,a2,a3,a4,a5,q0,q1,q2,q3,q4,q5⟩),.int .u32 a5],kI r f hL s m,HP.aE gR 58 [.pointer (some ⟨hL.h,0,none⟩),pt f,pt r,.pointer pX],HP.aE gS 30 [.slice A1 s.aF.length k1,.slice A2 s.domains.length k2,.slice A3 s.aR.length k3,.slice A4 s.aD.length k4]]) (fun _=>True) ?_ fun g _=>?_
      · refine pN ?_
        refine Ja 7 8 rfl rfl (by kernel_rfl) ?_ ?_
        · refine aU (fun w1 t=>aJx ⟨a0,a1,a2,a3,a4,a5,q0,q1,q2,q3,q4,q5⟩ s.aD.length w1 aBz ⟨by omega,by omega⟩) ?_
          refine bB ?_;refine aJ 8 ?_;refine bT fun g=>?_;refine bB ?_;refine nC [9] ?_;refine aB ?_;exact iB g
        · refine bT fun g=>?_
          refine bB ?_;refine aJ 7 ?_;refine aU (fun w1 t=>aJx ⟨a0,a1,a2,a3,a4,a5,q0,q1,q2,q3,q4,q5⟩ s.aD.length w1 aBz ⟨by omega,by omega⟩) ?_;refine bB ?_;refine nC [9] ?_;refine aB ?_;exact iB g
      have hkk:=aPe (yE a2 13) (Qf a2 13 (by decide)).1 (Qf a2 13 (by decide)).2
      have dR:0≤aBK ⟨a0,a1,a2,a3,a4,a5,q0,q1,q2,q3,q4,q5⟩ s.aD.length:=(Qf a3 _ (by omega)).1
      generalize hkq:aEC ⟨a0,a1,a2,a3,a4,a5,q0,q1,q2,q3,q4,q5⟩=kk;generalize aBK ⟨a0,a1,a2,a3,a4,a5,q0,q1,q2,q3,q4,q5⟩ s.aD.length=dd at dR⊢;generalize aEB ⟨a0,a1,a2,a3,a4,a5,q0,q1,q2,q3,q4,q5⟩=rr
      replace hkk:kk=120∨qK kk:=by rw[←hkq];exact hkk
      refine aB ?_;refine aU (fun w1 t=>aAN _ 3 w1 aBz.task (by decide)) ?_;obtain⟨p0,p1⟩:=Qf a1 3 (by decide);dsimp only;generalize yE a1 3=tt at p0 p1⊢;obtain⟨j,rfl,hj⟩:=Jy (t:=tt) (decide_eq_true ⟨p0,p1⟩);refine aB ?_;refine aG rfl (fun aIy=>?_) (fun aIy=>?_)
      · refine aB ?_
        exact jL m (hg:=⟨hok.le (by rw[Nat.succ_mul];omega),Cu⟩)
      replace hkk:qK kk:=hkk.resolve_left aIy
      have aUP:i≤14:=by omega
      obtain⟨e,u,m',out⟩:=aSY (k:=kk) (d:=dd) (q:=rr) (v:=a5) hm Cu hok hj hkk hv5
      have Hp:fE s ((i+1)*400) m':=(out.ok hm hok Cu hj hkk hv5).le (by omega)
      have aPw:=out.rest
      refine aB ?_;refine pN ?_;refine aJ 7 ?_
      refine aU (fun w1 t=>by
        obtain⟨L,hR⟩:=t.mac 1 rfl
        exact aG7 r hL.h f L s m.z w1 j dd (by omega) hR) ?_
      refine bB ?_;refine nC [8] ?_;refine aB ?_;refine aY [2,1,0,3] rfl (by decide) (fun _ h=>h) ?_;refine nB ?_;refine eC 0 (aFj gR r f hL (.pointer pX) s m') (fun w1 F1 t h1 h2 h3=>aLX gR r f hL (.pointer pX) s (i*400) 400 m m' j kk dd rr a5 e u _ w1 F1 hm aV hok (by omega) (by decide) hv5 (aGh Cu hj hkk) out.stl (kQ.le fG (h3 _ (by simp))) h1 h2) ?_;refine aZ 0 0 ?_;refine aZ 1 1 ?_;refine aY [3,0,1,4] rfl (by decide) (fun _ h=>h) ?_;refine aB ?_;refine bT fun g13=>?_;refine aB ?_
      have hput:kk=112→(e=0↔(0 < pK s m.z j dd∧m'.z.cn.gJ=false)):=fun h=>by subst h;rw[aN6 out];exact aN5 out hok hj dR
      generalize pK s m.z j dd=mine at hput⊢;refine Oi (α:=Unit) (fun _=>[(100,.bool false),(7,pt gR),(9,iv i),(1,.slice (some ⟨b,off,none⟩) nb cb),(6,pt gS)]) (fun _=>[kI r f hL s m',HP.aE gR 58 [.pointer (some ⟨hL.h,0,none⟩),pt f,pt r,.pointer pX],HP.aE gS 30 [.slice A1 s.aF.length k1,.slice A2 s.domains.length k2,.slice A3 s.aR.length k3,.slice A4 s.aD.length k4]]) (fun _=>True) ?_ fun _ _=>?_
      · refine aEU ?_
        refine Om 83 rfl (fun hk=>?_) (fun hk=>?_)
        all_goals refine nZ 7 ?_
        refine Om 86 rfl (fun he=>?_) (fun he=>?_);refine Om 89 rfl (fun hp=>?_) (fun hp=>absurd ((hput hk).1 he).1 hp)
        have hb:=((hput hk).1 he).2
        refine nZ 13 ?_
        rotate_left
        refine Om 89 rfl (fun hp=>?_) (fun hp=>?_)
        have hb:m'.z.cn.gJ=true:=by
          cases hb:m'.z.cn.gJ with
          | true=>rfl
          | false=>exact absurd ((hput hk).2 ⟨hp,hb⟩) he
        refine nZ 13 ?_
        rotate_left
        refine nZ 13 ?_
        all_goals repeat (first
          | (refine eN ?_;refine aB ?_;exact iB ())
          | refine bB ?_
          | refine aJ 17 ?_
          | refine aJ 18 ?_
          | refine aJ 19 ?_
          | refine aJ 20 ?_
          | refine aJ 21 ?_
          | refine aJ 22 ?_
          | refine aJ 23 ?_
          | refine fP rfl rfl ?_
          | refine fW rfl rfl rfl (by decide) ?_
          | refine aC1 rfl rfl (by decide) ?_
          | (refine fR (CpE s m'.z.cn) (fun w1 t=>aH4 2 t rfl) ?_;rintro _ _ q3 ⟨A9,c9,gc,gm,rfl,rfl⟩ _;dsimp only[List.cons_append,List.nil_append])
          | (refine aU (fun w1 t=>aJi gc m'.z.cn.gJ w1 (t.aSx 0 rfl).1) ?_;rw[hb])
          | refine kz ?_)
      refine aB ?_;refine qA (α:=Unit) (fun v _=>[(15,iv v),(7,pt gR),(9,iv i),(1,.slice (some ⟨b,off,none⟩) nb cb),(6,pt gS)]) (fun _ _=>[kI r f hL s m',HP.aE gR 58 [.pointer (some ⟨hL.h,0,none⟩),pt f,pt r,.pointer pX],HP.aE gS 30 [.slice A1 s.aF.length k1,.slice A2 s.domains.length k2,.slice A3 s.aR.length k3,.slice A4 s.aD.length k4]]) (fun _ _=>True) s.aD.length () trivial fun v _ hv _=>?_;refine aB ?_;refine aG rfl (fun hlv=>?_) (fun hgv=>?_)
      · have hlv:v < s.aD.length:=by omega
        have hsum:=aLE Hp hlv
        obtain⟨b0,b1,b2⟩:=aQq Hp hlv;obtain⟨x0,hx0⟩:∃x,pK s m'.z 0 v=x:=⟨_,rfl⟩
        obtain⟨x1,hx1⟩:∃x,pK s m'.z 1 v=x:=⟨_,rfl⟩
        obtain⟨x2,tG⟩:∃x,pK s m'.z 2 v=x:=⟨_,rfl⟩
        rw[hx0] at b0 hsum;rw[hx1] at b1 hsum;rw[tG] at b2 hsum;refine aB ?_;refine Oi (α:=Unit) (fun _=>[(135,.bool false),(15,iv v),(7,pt gR),(9,iv i),(1,.slice (some ⟨b,off,none⟩) nb cb),(6,pt gS)]) (fun _=>[kI r f hL s m',HP.aE gR 58 [.pointer (some ⟨hL.h,0,none⟩),pt f,pt r,.pointer pX],HP.aE gS 30 [.slice A1 s.aF.length k1,.slice A2 s.domains.length k2,.slice A3 s.aR.length k3,.slice A4 s.aD.length k4]]) (fun _=>True) ?_ fun _ _=>?_
        · refine aCg ?_
          repeat' (first
            | exact fun h=>absurd h (by decide+kernel)
            | (refine eN ?_;refine bU (t:=135) rfl (fun h=>absurd rfl h) (fun _=>?_);refine aB ?_;exact iB ())
            | refine bB ?_
            | refine aFb 19 ?_
            | refine aFb 26 ?_
            | refine aFb 27 ?_
            | (refine aUh 4 6 12 18 25 rfl rfl rfl rfl rfl (by decide+kernel) ?_ ?_ ?_ ?_ ?_)
            | (refine fun _ => ?_; first
              | (refine fR (CpE s m'.z.cn) (fun w1 t=>aH4 0 t rfl) ?_;rintro _ _ q3 ⟨A9,c9,gc,gm,rfl,rfl⟩ _;dsimp only[List.cons_append,List.nil_append])
              | (refine Wc 0 _ (fun w1 F1 t h1 h2 h3=>aSu hsum h1 h2) ?_;dsimp only[List.set])
              | refine aU (fun w1 t=>Qm hx0 (by omega) 0 t rfl) ?_
              | refine aU (fun w1 t=>Qm hx1 (by omega) 0 t rfl) ?_
              | refine aU (fun w1 t=>Qm tG (by omega) 0 t rfl) ?_
              | refine aU (fun w1 t=>Qm hx0 (by omega) 1 t rfl) ?_
              | refine aU (fun w1 t=>Qm hx1 (by omega) 1 t rfl) ?_
              | refine aU (fun w1 t=>Qm tG (by omega) 1 t rfl) ?_))
        refine aB ?_;exact jL ()
      · refine aB ?_
        exact jL m' (hg:=⟨Hp,aPw⟩)
    · refine aB ?_
      exact iB ()
  · refine aB ?_
    exact cZ
end
section
section
variable{H:Type}{enc:TypeId×Value→H}{w:World}{fuel:Nat}{cs:List Value}{x:DataW H×List MemPlace}
theorem yD{α:Type}{l:List α}{n i:Nat}(h:l.length=n)(hi:i < n):∃y,l[i]? =some y:=⟨l[i]'(by omega),List.getElem?_eq_getElem _⟩
theorem aTi{a:Int}(h:(Lit.int .u32 a).wf=true):0≤a∧a < 4294967296:=by
 simp[Lit.wf,IntKind.min,IntKind.max,IntKind.signed,IntKind.bits] at h;omega
theorem aJJ:Tryz.prog.cellsOf 65=12:=by kernel_rfl
theorem aJM:Tryz.prog.cellsOf 63=6:=by kernel_rfl
theorem aJL:Tryz.prog.cellsOf 3=1:=by kernel_rfl
theorem aJK:Tryz.prog.cellsOf 23=1:=by kernel_rfl
theorem aLy{l:List Value}(h:l.length=12):∃a b c d e f g i j k m n,l=[a,b,c,d,e,f,g,i,j,k,m,n]:=by
 match l,h with
 | [a,b,c,d,e,f,g,i,j,k,m,n],_=>exact⟨a,b,c,d,e,f,g,i,j,k,m,n,rfl⟩
theorem aLP{l:List Value}(h:l.length=6):∃a b c d e f,l=[a,b,c,d,e,f]:=by
 match l,h with
 | [a,b,c,d,e,f],_=>exact⟨a,b,c,d,e,f,rfl⟩
theorem aTl(h:DataW.trod enc Tryz.prog w 0 (fun _=>true) true fuel 63 cs=some x):
  ∃a b c d e f:Int,cs=[iv a,iv b,iv c,iv d,iv e,iv f]∧(-9223372036854775808≤b∧b≤9223372036854775807)∧(-9223372036854775808≤c∧c≤9223372036854775807)∧(-9223372036854775808≤d∧d≤9223372036854775807)∧(-9223372036854775808≤e∧e≤9223372036854775807)∧(-9223372036854775808≤f∧f≤9223372036854775807):=by
 obtain⟨xs,n,rfl,_,hl,hxl,hf⟩:=DataW.trod_struct Tryz.underlying63 h;rw[aJM] at hl;obtain⟨a,b,c,d,e,f,rfl⟩:=aLP hl
 have h0:=hf 0 _ rfl
 have h1:=hf 1 _ rfl
 have h2:=hf 2 _ rfl
 have h3:=hf 3 _ rfl
 have h4:=hf 4 _ rfl
 have h5:=hf 5 _ rfl
 simp only[List.getElem_toArray,List.getElem_cons_zero,List.getElem_cons_succ,List.drop_succ_cons,List.drop_zero,aJL,aJK,List.take_succ_cons,List.take_zero] at h0 h1 h2 h3 h4 h5;obtain⟨y0,e0⟩:=yD hxl (i:=0) (by simp);obtain⟨y1,e1⟩:=yD hxl (i:=1) (by simp);obtain⟨y2,e2⟩:=yD hxl (i:=2) (by simp);obtain⟨y3,e3⟩:=yD hxl (i:=3) (by simp);obtain⟨y4,e4⟩:=yD hxl (i:=4) (by simp);obtain⟨y5,e5⟩:=yD hxl (i:=5) (by simp);rw[e0] at h0;rw[e1] at h1;rw[e2] at h2;rw[e3] at h3;rw[e4] at h4;rw[e5] at h5;obtain⟨z0,g0,_,_⟩:=DataW.trod_int Tryz.underlying3 h0;obtain⟨z1,g1,_,w1⟩:=DataW.trod_int Tryz.underlying3 h1;obtain⟨z2,g2,_,w2⟩:=DataW.trod_int Tryz.underlying3 h2;obtain⟨z3,g3,_,w3⟩:=DataW.trod_int Tryz.underlying3 h3;obtain⟨z4,g4,_,w4⟩:=DataW.trod_int Tryz.underlying3 h4;obtain⟨z5,g5,_,w5⟩:=DataW.trod_int Tryz.underlying3 h5;simp at g0 g1 g2 g3 g4 g5;subst g0;subst g1;subst g2;subst g3;subst g4;subst g5;exact⟨_,_,_,_,_,_,rfl,Dn w1,Dn w2,Dn w3,Dn w4,Dn w5⟩
theorem aTD(h:DataW.trod enc Tryz.prog w 0 (fun _=>true) true fuel 65 cs=some x):∃v:pP,cs=v.cells∧v.ok:=by
 obtain⟨xs,n,rfl,_,hl,hxl,hf⟩:=DataW.trod_struct Tryz.underlying65 h;rw[aJJ] at hl;obtain⟨a,b,c,d,e,f,g,i,j,k,m,n',rfl⟩:=aLy hl
 have h0:=hf 0 _ rfl
 have h1:=hf 1 _ rfl
 have h2:=hf 2 _ rfl
 have h3:=hf 3 _ rfl
 have h4:=hf 4 _ rfl
 have h5:=hf 5 _ rfl
 have h6:=hf 6 _ rfl
 simp only[List.getElem_toArray,List.getElem_cons_zero,List.getElem_cons_succ,List.drop_succ_cons,List.drop_zero,aJL,aJK,aJM,List.take_succ_cons,List.take_zero] at h0 h1 h2 h3 h4 h5 h6;obtain⟨y0,e0⟩:=yD hxl (i:=0) (by simp);obtain⟨y1,e1⟩:=yD hxl (i:=1) (by simp);obtain⟨y2,e2⟩:=yD hxl (i:=2) (by simp);obtain⟨y3,e3⟩:=yD hxl (i:=3) (by simp);obtain⟨y4,e4⟩:=yD hxl (i:=4) (by simp);obtain⟨y5,e5⟩:=yD hxl (i:=5) (by simp);obtain⟨y6,e6⟩:=yD hxl (i:=6) (by simp);rw[e0] at h0;rw[e1] at h1;rw[e2] at h2;rw[e3] at h3;rw[e4] at h4;rw[e5] at h5;rw[e6] at h6;obtain⟨z0,g0,_,w0⟩:=DataW.trod_int Tryz.underlying3 h0;obtain⟨z1,g1,_,w1⟩:=DataW.trod_int Tryz.underlying3 h1;obtain⟨z2,g2,_,w2⟩:=DataW.trod_int Tryz.underlying3 h2;obtain⟨z3,g3,_,w3⟩:=DataW.trod_int Tryz.underlying3 h3;obtain⟨z4,g4,_,w4⟩:=DataW.trod_int Tryz.underlying3 h4;obtain⟨z5,g5,_,w5⟩:=DataW.trod_int Tryz.underlying23 h5;obtain⟨q0,q1,q2,q3,q4,q5,g6,u1,u2,u3,u4,u5⟩:=aTl h6;simp at g0 g1 g2 g3 g4 g5 g6;obtain⟨rfl,rfl,rfl,rfl,rfl,rfl⟩:=g6;subst g0;subst g1;subst g2;subst g3;subst g4;subst g5;exact⟨⟨z0,z1,z2,z3,z4,z5,q0,q1,q2,q3,q4,q5⟩,rfl,Dn w0,Dn w1,Dn w2,Dn w3,Dn w4,aTi w5,u1,u2,u3,u4,u5⟩
open Go.ChangeShapes Go.WideShapes Go.ChangeAt in
set_option maxRecDepth 100000 in
theorem aOe{v:Value}{d:DataW H}{ps:List MemPlace}{base:Nat}(hval:Value.okWide Tryz.prog w .any base 61 v)(h:DataW.Trod enc Tryz.prog w 0 (fun _=>true) true 61 v d ps):
    ∃(A:Option Addr) (n c:Nat) (Bk:List pP),v=.slice A n c∧Sl w w.heap.size 12 A n (Bk.flatMap pP.cells)∧(∀a∈Bk,a.ok)∧n=Bk.length∧n≤9223372036854775807:=by
  obtain⟨a0,len,cap,rfl⟩:=okWide_slice Tryz.underlying61 hval;obtain⟨fuel,hf⟩:=h;obtain⟨A,n,c,ys,hcs,qM,hn,hm,hR⟩:=aLO pP.cells pP.ok Tryz.underlying61 aJJ (by omega) pP.len (fun _ _ _ h=>aTD h) hf;simp[Value.cells] at hcs;obtain⟨rfl,rfl,rfl⟩:=hcs;subst hn;exact⟨_,_,_,ys,rfl,qM,hR,rfl,hm⟩
end
end
end Go.Proofs.YtdcdccmpcmjmhaaGreatDoor
