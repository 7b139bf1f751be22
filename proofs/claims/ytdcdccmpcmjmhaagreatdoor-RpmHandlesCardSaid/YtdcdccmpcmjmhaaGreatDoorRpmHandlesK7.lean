/- plan.Wants: what it returns are rows of the caller's own. -/
import Derived.Test.YtdcdccmpcmjmhaaGreatDoorRpmHandlesK6
namespace Go.Proofs.YtdcdccmpcmjmhaaGreatDoor
set_option linter.all false
set_option maxHeartbeats 4000000
set_option maxRecDepth 20000
open Go.RowKit Go.Proofs.Tryz
section
set_option maxHeartbeats 8000000
def aAg(x:bM)(v:Value)(hs:List HP)(_:Piece):Prop:=∃(g1 g2 g3:Nat) (p:HP),v=.agg #[.slice (some ⟨g1,0,none⟩) x.d.length x.d.length,.slice (some ⟨g2,0,none⟩) x.c.length x.c.length,.slice (some ⟨g3,0,none⟩) x.l.length x.l.length]∧hs=[HP.many [HP.aE g1 4 (bK x.d),HP.aE g2 4 (bK x.c),HP.aE g3 4 (bK x.l)],p]
theorem aA0(q:Piece)(s:aC)(A1 A2 A3 A4:Option Addr)(n1 k1 n2 k2 n3 k3 n4 k4:Nat)(Aa:Option Addr)(ca:Nat)(act:List Bool)(w:World)(oN:sY q s A1 n1 A2 n2 A3 n3 A4 n4)(hm:s.made)(hq:q.Le (all w))(hact:aI (all w) 1 Aa act.length (bK act)):
  Cz 77 #[.agg #[.slice A1 n1 k1,.slice A2 n2 k2,.slice A3 n3 k3,.slice A4 n4 k4],.slice Aa act.length ca] w (fun y w'=>(∃v hs q,y=.returned v∧q.w=w'∧aAg (eU s act) v hs q∧kC w hs q)∧Below w.heap.size w w'):=by
 obtain⟨rfl,rfl,rfl,rfl⟩:=oN.len;refine aN func77 ntmps77 ?_;refine Bn q (by simp) hq ?_
 have hn9:=hm.nc
 have rB:=hm.nd
 have pG:=hm.nr
 have mK:=hm.nv
 refine aB ?_;refine bF fun g1=>?_;refine bT fun g2=>?_;refine aB ?_;refine dJ (fun w1 st=>aBD s A1 A2 A3 A4 _ k1 _ k2 _ k3 _ k4 w1 (oN.W (st.le (by simp)) (Vz hm))) ?_;rw[aAZ hm];refine aAr rfl rfl (by decide) ?_;refine dO ?_;refine aG rfl (fun h=>absurd rfl h) (fun h=>?_)
 ·
  refine lY ?_;refine dN ?_;refine Tk (fun e R H=>∃ga gb gc gw,e=[(5,pt gw),(4,pt g2),(2,pt g1),(1,.slice Aa act.length ca)]∧R=[q,all w]∧H=[HP.aE gw 116 [.slice (some ⟨ga,0,none⟩) s.domains.length s.domains.length,.slice (some ⟨gb,0,none⟩) s.aF.length s.aF.length,.slice (some ⟨gc,0,none⟩) s.aR.length s.aR.length],HP.aE ga 4 (bK (dQ s).d),HP.aE gb 4 (bK (dQ s).c),HP.aE gc 4 (bK (dQ s).l),HP.aE g2 116 [sn,sn,sn],HP.aE g1 30 [.slice A1 s.aF.length k1,.slice A2 s.domains.length k2,.slice A3 s.aR.length k3,.slice A4 s.aD.length k4]]) ?_ ?_
  ·
   refine rI 14 (by kernel_rfl) (by kernel_rfl) ?_;refine gK 0 rfl rfl rfl (Fw (off:=1) (by kernel_rfl) rfl) ?_;refine gK 1 rfl rfl rfl (Ky rfl) ?_;refine gK 2 rfl rfl rfl (Nt (el:=50) (by kernel_rfl) rfl) ?_;refine gK 4 rfl rfl rfl (Fw (off:=0) (by kernel_rfl) rfl) ?_;refine gK 5 rfl rfl rfl (Ky rfl) ?_;refine gK 6 rfl rfl rfl (Nt (el:=86) (by kernel_rfl) rfl) ?_;refine gK 8 rfl rfl rfl (Fw (off:=2) (by kernel_rfl) rfl) ?_;refine gK 9 rfl rfl rfl (Ky rfl) ?_;refine gK 10 rfl rfl rfl (Nt (el:=88) (by kernel_rfl) rfl) ?_;refine aCl (fuel:=2) [3,7,11,13] [[3,7,11],[3,7,11,13]] (fun i=>match i with | 3=>⟨19,4,List.replicate s.domains.length (.bool false),fun g=>.slice (some ⟨g,0,none⟩) s.domains.length s.domains.length⟩ | 7=>⟨23,4,List.replicate s.aF.length (.bool false),fun g=>.slice (some ⟨g,0,none⟩) s.aF.length s.aF.length⟩ | 11=>⟨27,4,List.replicate s.aR.length (.bool false),fun g=>.slice (some ⟨g,0,none⟩) s.aR.length s.aR.length⟩ | _=>⟨5,116,[sn,sn,sn],fun g=>pt g⟩) (fun i hi=>?_) (by show[19,23,27,5].Nodup;decide) (by kernel_rfl) (fun _ h=>h) (fun sub hsub hex g=>?_)
   ·simp only[List.mem_cons,List.not_mem_nil,or_false] at hi;rcases hi with rfl | rfl | rfl | rfl
    ·exact uD.of rfl rfl rfl (zZ 1 (el:=4) (z:=.bool false) (by kernel_rfl) (by kernel_rfl) rfl rfl rfl (by omega) (by omega)) (Nat.le_of_ble_eq_true rfl) rfl
    ·exact uD.of rfl rfl rfl (zZ 1 (el:=4) (z:=.bool false) (by kernel_rfl) (by kernel_rfl) rfl rfl rfl (by omega) (by omega)) (Nat.le_of_ble_eq_true rfl) rfl
    ·exact uD.of rfl rfl rfl (zZ 1 (el:=4) (z:=.bool false) (by kernel_rfl) (by kernel_rfl) rfl rfl rfl (by omega) (by omega)) (Nat.le_of_ble_eq_true rfl) rfl
    ·exact uD.of rfl rfl rfl (aH7 (iK (by kernel_rfl))) (Nat.le_of_ble_eq_true rfl) rfl
   have gB:sub=[3,7,11]∨sub=[3,7,11,13]:=by simpa using hex
   have er:∀n:Nat,List.replicate n (Value.bool false)=bK (List.replicate n false):=fun n=>by simp[bK]
   rcases gB with rfl | rfl
   ·dsimp only[rF,tJ,kX,List.map,List.foldr,List.cons_append,List.nil_append,List.length_cons,List.length_nil,Nat.reduceAdd,Nat.reduceSub];refine fS 12 rfl rfl rfl (by decide) (lX (zs:=[sn,sn,sn]) (L:=[(0,1),(1,1),(2,1)]) (iK (by kernel_rfl)) (by kernel_rfl) rfl (by simp[fK,gN,Value.cells];rfl)) (by kernel_rfl) (fun _ _ _ h=>h) (fun _ h=>h.tail.tail.tail) ?_;refine cJ 13 ?_;refine bT fun g6=>?_;refine iG ?_;refine iA ?_;refine lA (fun _ h=>h.tail.tail.tail.tail) ?_;refine cJ 14 ?_;refine uE rfl rfl ?_;simp only[fJ,Value.cells,List.set,List.take,List.drop,List.nil_append,List.append_nil,List.length_cons,List.length_nil,List.cons_append,Nat.reduceAdd];refine eZ ?_;refine kH ?_;refine dN ?_;exact aY [0,1,2,3,4,5] rfl (by decide) (by simp) (bL [(5,pt g6),(4,pt g2),(2,pt g1),(1,.slice Aa act.length ca)] (Zx ⟨g 3,g 7,g 11,g6,rfl,rfl,by simp only[er,dQ]⟩))
   ·dsimp only[rF,tJ,kX,List.map,List.foldr,List.cons_append,List.nil_append,List.length_cons,List.length_nil,Nat.reduceAdd,Nat.reduceSub];refine fS 12 rfl rfl rfl (by decide) (lX (zs:=[sn,sn,sn]) (L:=[(0,1),(1,1),(2,1)]) (iK (by kernel_rfl)) (by kernel_rfl) rfl (by simp[fK,gN,Value.cells];rfl)) (by kernel_rfl) (fun _ _ _ h=>h) (fun _ h=>h.tail.tail.tail.tail) ?_;refine cJ 14 ?_;refine uE rfl rfl ?_;simp only[fJ,Value.cells,List.set,List.take,List.drop,List.nil_append,List.append_nil,List.length_cons,List.length_nil,List.cons_append,Nat.reduceAdd];refine eZ ?_;refine kH ?_;refine dN ?_;exact aY [3,0,1,2,4,5] rfl (by decide) (by simp) (bL [(5,.pointer (some ⟨g 13,0,none⟩)),(4,pt g2),(2,pt g1),(1,.slice Aa act.length ca)] (Zx ⟨g 3,g 7,g 11,g 13,rfl,rfl,by simp only[er,dQ]⟩))
  rintro _ _ _ ⟨ga,gb,gc,gw,rfl,rfl,rfl⟩;refine aB ?_;refine bL [(32,iv 0),(31,iv s.aD.length),(30,.slice A4 s.aD.length k4),(5,pt gw),(4,pt g2),(2,pt g1),(1,.slice Aa act.length ca)] ?_;refine aB ?_;refine eJ (fun m e R H=>∃(j:Nat),j≤s.aD.length∧m=s.aD.length - j∧e=[(32,iv j),(31,iv s.aD.length),(30,.slice A4 s.aD.length k4),(5,pt gw),(4,pt g2),(2,pt g1),(1,.slice Aa act.length ca)]∧R=[q,all w]∧H=[HP.aE gw 116 [.slice (some ⟨ga,0,none⟩) s.domains.length s.domains.length,.slice (some ⟨gb,0,none⟩) s.aF.length s.aF.length,.slice (some ⟨gc,0,none⟩) s.aR.length s.aR.length],HP.aE ga 4 (bK (iP s act j).d),HP.aE gb 4 (bK (iP s act j).c),HP.aE gc 4 (bK (iP s act j).l),HP.aE g2 116 [sn,sn,sn],HP.aE g1 30 [.slice A1 s.aF.length k1,.slice A2 s.domains.length k2,.slice A3 s.aR.length k3,.slice A4 s.aD.length k4]]) s.aD.length ⟨0,by omega,rfl,rfl,rfl,rfl⟩ fun m e R H hI=>?_;obtain⟨j,hj,rfl,rfl,rfl,rfl⟩:=hI;refine aB ?_;refine aG rfl (fun h=>?_) (fun h=>?_)
  ·
   refine lY ?_;refine dN ?_;refine cQ ?_;refine sF ?_;refine cQ ?_
   have hjl:j < s.aD.length:=by have h':(j:Int) < (s.aD.length:Int):=h;omega
   obtain⟨x,hx⟩:∃x,s.aD[j]? =some x:=⟨_,List.getElem?_eq_getElem hjl⟩
   obtain⟨hx1,tG,hx3,hx4,hx5,hx6,_⟩:=hm.aD j x hx;obtain⟨bV,oV,rV,rfl,hzV,_,hR,Xn⟩:=oN.dev.zR hx;obtain⟨Ar,nr,kr,An,nn,kn,rfl,_⟩:=hR
   have Mo:=Eh s act j
   obtain⟨xc,hxc⟩:∃xc:Nat,x.clock=(xc:Int):=⟨x.clock.toNat,by omega⟩
   obtain⟨xd,hxd⟩:∃xd:Nat,x.domain=(xd:Int):=⟨x.domain.toNat,by omega⟩
   obtain⟨xr,hxr⟩:∃xr:Nat,x.reset=(xr:Int):=⟨x.reset.toNat,by omega⟩
   have Hq:hasB act j=true→iP s act (j+1)=⟨sM (Ei s xd) (iP s act j).d,sM ((fZ s xc).filter (mN s)) (iP s act j).c,iC (iP s act j).l (xr:Int) true⟩:=fun ha=>by
    rw[Ui hx ha,Pn,hxd,hxc,hxr];rfl
   rw[hxc,hxd,hxr] at Xn;generalize hwj:iP s act j=wj at *;refine eD ?_;refine cS rfl (by decide) ?_;refine kd (dat (j) (oV+j*6)) ?_;refine zK 6 (by kernel_rfl) rfl (aQ.of (vs:=[iv (xc:Int),iv (xd:Int),iv (xr:Int),.int .u32 x.iV,.slice Ar nr kr,.slice An nn kn]) fun f v hf=>Rd.ro (p:=q) (by simp) hzV (Xn f v hf)) rfl (by decide) ?_;refine bT fun g7=>?_;refine fV rfl (by decide) ?_;refine uE rfl rfl ?_;simp only[fJ,Value.cells,List.set,List.take,List.drop,List.nil_append,List.append_nil,List.length_cons,List.length_nil,List.cons_append,Nat.reduceAdd];refine aB ?_;refine dJ (fun w1 st=>aDY Aa act.length ca j act w1 (hact.le (st.le (by simp))) rfl (by omega)) ?_;refine aB ?_;refine qB rfl (fun h=>?_) (fun h=>?_)
   ·
    refine aB ?_
    have hno:hasB act j=false:=by simpa using h
    exact aY [1,2,3,4,5,6] rfl (by decide) (by simp) (bL [(32,iv ((j:Int)+1)),(31,iv s.aD.length),(30,.slice (some ⟨bV,oV,none⟩) s.aD.length k4),(5,pt gw),(4,pt g2),(2,pt g1),(1,.slice Aa act.length ca)] (iF (s.aD.length - (j+1)) (by omega) ⟨j+1,by omega,rfl,rfl,rfl,by rw[Po hno,hwj]⟩))
   ·
    have hyes:hasB act j=true:=by simpa using h
    have Hq:=Hq hyes
    refine aB ?_;refine bL [(8,iv (xd:Int)),(7,pt g7),(32,iv j),(31,iv s.aD.length),(30,.slice (some ⟨bV,oV,none⟩) s.aD.length k4),(5,pt gw),(4,pt g2),(2,pt g1),(1,.slice Aa act.length ca)] ?_;refine aB ?_;refine eJ (fun m e R H=>∃(cur:Int) (rest:List Nat) (d:List Bool),m=rest.length∧Bt s cur rest∧d.length=s.domains.length∧sM rest d=sM (Ei s xd) wj.d∧e=[(8,iv cur),(7,pt g7),(32,iv j),(31,iv s.aD.length),(30,.slice (some ⟨bV,oV,none⟩) s.aD.length k4),(5,pt gw),(4,pt g2),(2,pt g1),(1,.slice Aa act.length ca)]∧R=[q,all w]∧H=[HP.aE g7 38 [iv (xc:Int),iv (xd:Int),iv (xr:Int),.int .u32 x.iV,.slice Ar nr kr,.slice An nn kn],HP.aE gw 116 [.slice (some ⟨ga,0,none⟩) s.domains.length s.domains.length,.slice (some ⟨gb,0,none⟩) s.aF.length s.aF.length,.slice (some ⟨gc,0,none⟩) s.aR.length s.aR.length],HP.aE ga 4 (bK d),HP.aE gb 4 (bK wj.c),HP.aE gc 4 (bK wj.l),HP.aE g2 116 [sn,sn,sn],HP.aE g1 30 [.slice A1 s.aF.length k1,.slice A2 s.domains.length k2,.slice A3 s.aR.length k3,.slice (some ⟨bV,oV,none⟩) s.aD.length k4]]) (Ei s xd).length ⟨_,Ei s xd,wj.d,rfl,aA2 hm (by omega),Mo.d,rfl,rfl,rfl,rfl⟩ fun m e R H hI=>?_;obtain⟨cur,rest,d,rfl,Wj,jB,hpd,rfl,rfl,rfl⟩:=hI;refine aB ?_;refine aG rfl (fun h=>?_) (fun h=>?_)
    ·
     refine aB ?_
     obtain⟨i,r,rfl⟩:∃i r,rest=i::r:=by
      cases rest with
      | nil=>exact absurd Wj h
      | cons i r=>exact⟨i,r,rfl⟩
     obtain⟨rfl,dm,tM,Wj⟩:=Wj
     have hil:=(List.getElem?_eq_some_iff.1 tM).1
     refine aB ?_;refine tB 2 rfl (by kernel_rfl) rfl rfl rfl (by rw[aEG];omega) ?_;dsimp only[List.set];rw[aEF,show d.set i true=iC d (i:Int) true by simp[iC]];refine dO ?_;obtain⟨bD,oD,rD,rfl,Wf,_,rfl,Nc⟩:=oN.dom.zR tM;refine eD ?_;refine qE (off:=1) (by kernel_rfl) rfl (by decide) ?_;refine Ee rfl ?_;refine cS rfl (by decide) ?_;refine kd (dat (i) (oD+i*3)) ?_;refine qE (off:=0) (by kernel_rfl) rfl (by decide) ?_;refine jG (by kernel_rfl) rfl (Rd.ro (p:=q) (by simp) Wf (Nc 0 _ rfl)) (by decide) ?_;refine fV rfl (by decide) ?_;refine dO ?_;exact bL [(8,iv dm.above),(7,pt g7),(32,iv j),(31,iv s.aD.length),(30,.slice (some ⟨bV,oV,none⟩) s.aD.length k4),(5,pt gw),(4,pt g2),(2,pt g1),(1,.slice Aa act.length ca)] (iF r.length (by simp) ⟨dm.above,r,iC d (i:Int) true,rfl,Wj,by rw[Mg];exact jB,by rw[←hpd];rfl,rfl,rfl,rfl⟩)
    ·
     refine aB ?_
     obtain rfl:rest=[]:=by
      cases rest with
      | nil=>rfl
      | cons i r=>exact absurd (show cur= -1 from Classical.not_not.1 h) (by have:=Wj.1;omega)
     have hpd:d=sM (Ei s xd) wj.d:=hpd
     refine aB ?_;refine jS [] (Jf (fZ s xc)) (fun w1 st=>aBF q s A1 A2 A3 (some ⟨bV,oV,none⟩) _ k1 _ k2 _ k3 _ k4 xc w1 oN hm.wX (st.le (by simp)) (by omega)) ?_;rintro _ w1 qc ⟨Ac,cc,rfl,hsc⟩ hf _ _
     have hsc:=hsc.le hf
     have hcin:=fun i (hi:i∈fZ s xc)=>aE9 s _ _ i hi
     have iD:(fZ s xc).length≤s.aF.length:=aBG s _ _
     clear hf;generalize jU:fZ s xc=ch at *;refine aB ?_;refine bL [(60,iv 0),(59,iv ch.length),(58,.slice Ac ch.length cc),(7,pt g7),(32,iv j),(31,iv s.aD.length),(30,.slice (some ⟨bV,oV,none⟩) s.aD.length k4),(5,pt gw),(4,pt g2),(2,pt g1),(1,.slice Aa act.length ca)] ?_;refine aB ?_;refine eJ (fun m e R H=>∃(k:Nat),k≤ch.length∧m=ch.length - k∧e=[(60,iv k),(59,iv ch.length),(58,.slice Ac ch.length cc),(7,pt g7),(32,iv j),(31,iv s.aD.length),(30,.slice (some ⟨bV,oV,none⟩) s.aD.length k4),(5,pt gw),(4,pt g2),(2,pt g1),(1,.slice Aa act.length ca)]∧R=[qc,q,all w]∧H=[HP.aE g7 38 [iv (xc:Int),iv (xd:Int),iv (xr:Int),.int .u32 x.iV,.slice Ar nr kr,.slice An nn kn],HP.aE gw 116 [.slice (some ⟨ga,0,none⟩) s.domains.length s.domains.length,.slice (some ⟨gb,0,none⟩) s.aF.length s.aF.length,.slice (some ⟨gc,0,none⟩) s.aR.length s.aR.length],HP.aE ga 4 (bK d),HP.aE gb 4 (bK (sM ((ch.take k).filter (mN s)) wj.c)),HP.aE gc 4 (bK wj.l),HP.aE g2 116 [sn,sn,sn],HP.aE g1 30 [.slice A1 s.aF.length k1,.slice A2 s.domains.length k2,.slice A3 s.aR.length k3,.slice (some ⟨bV,oV,none⟩) s.aD.length k4]]) ch.length ⟨0,by omega,rfl,rfl,rfl,rfl⟩ fun m e R H hI=>?_;obtain⟨k,hk,rfl,rfl,rfl,rfl⟩:=hI;refine aB ?_;refine aG rfl (fun h=>?_) (fun h=>?_)
     ·
      refine lY ?_;refine dN ?_;refine cQ ?_;refine sF ?_;refine cQ ?_
      have Wx:k < ch.length:=by have h':(k:Int) < (ch.length:Int):=h;omega
      obtain⟨ci,sA⟩:∃ci,ch[k]? =some ci:=⟨_,List.getElem?_eq_getElem Wx⟩
      have aQd:=hcin ci (List.mem_of_getElem? sA)
      obtain⟨ck,yL⟩:∃ck,s.aF[ci]? =some ck:=⟨_,List.getElem?_eq_getElem aQd⟩
      obtain⟨bI,oI,rfl,hzI,Nb⟩:=hsc.2 (by omega);obtain⟨bC,oC,rC,rfl,hzC,_,hR2,hcC⟩:=oN.jO.zR yL;obtain⟨As,ns,ks,rfl,_⟩:=hR2
      have mR:(ch.take (k+1)).filter (mN s)=(ch.take k).filter (mN s)++(if mN s ci then[ci] else[]):=by
       rw[List.take_add_one,sA,List.filter_append];cases lT:mN s ci<;>simp[lT]
      have aHP:mN s ci=decide (ck.kind=112∨ck.kind=103):=by unfold mN;rw[yL]
      have aUU:(sM ((ch.take k).filter (mN s)) wj.c).length=s.aF.length:=by rw[aDc];exact Mo.c
      refine eD ?_;refine kd (dat (k) (oI+k)) ?_;refine jG (by kernel_rfl) rfl (Rd.ro (p:=qc) (by simp) hzI (Nb k _ (aOx sA))) (by decide) ?_;refine fV rfl (by decide) ?_;refine dO ?_;refine cQ ?_;refine eD ?_;refine qE (off:=0) (by kernel_rfl) rfl (by decide) ?_;refine Ee rfl ?_;refine cS rfl (by decide) ?_;refine kd (dat (ci) (oC+ci*6)) ?_;refine qE (off:=0) (by kernel_rfl) rfl (by decide) ?_;refine jG (by kernel_rfl) rfl (Rd.ro (p:=q) (by simp) hzC (hcC 0 _ rfl)) (by decide) ?_;refine fV rfl (by decide) ?_;refine dO ?_;refine aAb 75 (ck.kind=112∨ck.kind=103) ?_ ?_
      ·skip
       refine aB ?_;refine bU (t:=72) rfl (fun hg=>?_) (fun hg=>?_)
       ·
        refine fW rfl rfl rfl (by decide) ?_;refine fW rfl rfl rfl (by decide) ?_
        (first | refine qC rfl rfl (by decide) ?_ | refine qD rfl rfl (by decide) ?_)
        refine dO ?_;exact Tf
       ·
        refine fP rfl rfl ?_;refine cS rfl (by decide) ?_;refine fP rfl rfl ?_;refine aFE rfl rfl (by decide) ?_
        (first | refine qC rfl rfl (by decide) ?_ | refine qD rfl rfl (by decide) ?_)
        refine dO ?_;exact Tf
      refine aG rfl (fun Rm=>?_) (fun Rm=>?_)
      ·
       refine aB ?_;refine tB 3 rfl (by kernel_rfl) rfl rfl rfl (by rw[aEG];omega) ?_;dsimp only[List.set];rw[aEF,show(sM ((ch.take k).filter (mN s)) wj.c).set ci true=sM ((ch.take (k+1)).filter (mN s)) wj.c by rw[mR,aHP,decide_eq_true Rm];simp[sM,iC,List.foldl_append]];refine aB ?_;exact bL [(60,iv ((k:Int)+1)),(59,iv ch.length),(58,.slice (some ⟨bI,oI,none⟩) ch.length cc),(7,pt g7),(32,iv j),(31,iv s.aD.length),(30,.slice (some ⟨bV,oV,none⟩) s.aD.length k4),(5,pt gw),(4,pt g2),(2,pt g1),(1,.slice Aa act.length ca)] (iF (ch.length - (k+1)) (by omega) ⟨k+1,by omega,rfl,rfl,rfl,rfl⟩)
      ·
       refine aB ?_;exact bL [(60,iv ((k:Int)+1)),(59,iv ch.length),(58,.slice (some ⟨bI,oI,none⟩) ch.length cc),(7,pt g7),(32,iv j),(31,iv s.aD.length),(30,.slice (some ⟨bV,oV,none⟩) s.aD.length k4),(5,pt gw),(4,pt g2),(2,pt g1),(1,.slice Aa act.length ca)] (iF (ch.length - (k+1)) (by omega) ⟨k+1,by omega,rfl,rfl,rfl,by rw[mR,aHP,decide_eq_false Rm];simp⟩)
     ·
      refine aB ?_
      have hke:k=ch.length:=by have h':¬(k:Int) < (ch.length:Int):=h;omega
      rw[hke,List.take_length]
      have pU:=Mo.l
      refine aB ?_;refine tB 4 rfl (by kernel_rfl) rfl rfl rfl (by rw[aEG];omega) ?_;dsimp only[List.set];rw[aEF,show wj.l.set xr true=iC wj.l (xr:Int) true by simp[iC]];refine aB ?_;exact aY [1,2,3,4,5,6] rfl (by decide) (R':=[q,all w]) (by simp) (bL [(32,iv ((j:Int)+1)),(31,iv s.aD.length),(30,.slice (some ⟨bV,oV,none⟩) s.aD.length k4),(5,pt gw),(4,pt g2),(2,pt g1),(1,.slice Aa act.length ca)] (iF (s.aD.length - (j+1)) (by omega) ⟨j+1,by omega,rfl,rfl,rfl,by rw[Hq,hpd]⟩))
  ·
   refine aB ?_;refine uE rfl rfl ?_;simp only[fJ,Value.cells,List.set,List.take,List.drop,List.nil_append,List.append_nil,List.length_cons,List.length_nil,List.cons_append,Nat.reduceAdd];refine aB ?_
   have hje:j=s.aD.length:=by have h':¬(j:Int) < (s.aD.length:Int):=h;omega
   have Mo:=Eh s act j
   have hww:eU s act=iP s act j:=by rw[hje];rfl
   generalize iP s act j=wj at *;refine aY [1,2,3,4] rfl (by decide) (R':=[q,all w]) (by simp) ?_;refine Zt ?_;refine dP [] [] [0,1] (by simp) rfl (by decide) (by decide) fun qf _ _ hfr=>?_
   exact Li rfl (by kernel_rfl) rfl rfl (aQ.whole 1 rfl) fun w1 st=>⟨⟨_,_,⟨w1,qf.Z⟩,rfl,rfl,by
    rw[hww]
    exact⟨ga,gb,gc,_,by rw[Mo.d,Mo.c,Mo.l],rfl⟩,st.newR (by simp) (by simp) (hfr (by simp) (by simp))⟩,st.below (by simp)⟩
end
section
def vP(old l:List Bool)(n:Nat):List Bool:=l.mapIdx fun k b=>if k < n then(b||hasB old k) else b
section
variable{N:cH}{w0:World}{e:Env}{R:List Piece}{H:List HP}{K:Act→World→Prop}{Φ:Piece→Prop}{hm:∀p q:Piece,p.Le q→Φ p→Φ q}{sz n b off:Nat}{A:Option Addr}{xs:List Value}
theorem aER(i:Nat)(hi:H[i]? =some (HP.cE Φ hm))(Wd:∀p,Φ p→aI p sz A n xs)(hn:0 < n)(k:∀b off,A=some ⟨b,off,none⟩→XK N w0 K e R H):XK N w0 K e R H:=fun a w hr st=>by
 obtain⟨b,off,hA,_⟩:=(Wd _ (st.cE i hi)).2 hn;exact k b off hA a w hr st
theorem Rd.cE(i:Nat)(hi:H[i]? =some (HP.cE Φ hm))(Wd:∀p,Φ p→aI p sz A n xs)(hA:A=some ⟨b,off,none⟩)(hn:0 < n){j:Nat}{v:Value}(hv:xs[j]? =some v):Rd w0 R H b (off+j) v:=fun w st=>by
 obtain⟨b',off',pW,_,hc⟩:=(Wd _ (st.cE i hi)).2 hn;cases hA.symm.trans pW;exact hc j v hv
end
def eP(s:aC)(c:Cn):List Bool:=Oa (cY s) (cY s).length c
def kT(s:aC)(z:aW):bM:=⟨(eU s (eP s z.cn)).d,(eU s (eP s z.cn)).c,vP z.wn.l (eU s (eP s z.cn)).l s.aR.length⟩
def lP(s:aC)(z:aW):aW:={z with steps:=allM s z.wn (kT s z),sent:=false,wn:=kT s z}
theorem aCB(s:aC)(act:List Bool):(eU s act).of s:=Eh s act _
theorem aLi(s:aC)(z:aW):(kT s z).of s:=by
 have h:=aCB s (eP s z.cn)
 exact⟨h.d,h.c,by show(List.mapIdx _ _).length=_;rw[List.length_mapIdx];exact h.l⟩
theorem Qh(s:aC):(cY s).length=s.aD.length:=by simp[cY]
section
variable(g h f:Nat)(s:aC)(z:aW)(w:World)(F:Nat→Prop)
theorem aAD(hm:s.made)(hz:z.wn.of s)(hp:(gL g h f s z).sat F w)(hF:∀b,F b→b < w.heap.size):
  Cz 277 #[pt g] w (Wr (.tuple #[]) (gL g h f s (lP s z)) w F):=by
 have mK:=hm.nv
 have hnd:=hm.nd
 have hnc:=hm.nc
 have iL:=hm.nr
 have iM:=Qh s
 have hno:∀l∈cY s,(l.length:Int)≤1000:=fun l hl=>by
  obtain⟨i,hi⟩:=List.getElem?_of_mem hl;simp only[cY,List.getElem?_map] at hi;cases hd:s.aD[i]? with
  | none=>rw[hd] at hi;cases hi
  | some d=>
   rw[hd] at hi;cases hi
   have:=(hm.aD i d hd).2.2.2.2.2.2.2.2.2.2.1
   show((d.iZ.length:Nat):Int)≤1000
   omega
 have ho:fX (cY s)=(0,List.range (cY s).length):=by rw[iM];exact(aDw hm).2.2
 have hal:(eP s z.cn).length=(cY s).length:=aTB _ _ _
 refine dB func277 ntmps277 hp hF ?_;generalize cN:(⟨w,fun b=>b < w.heap.size∧¬F b⟩:Piece)=R0;refine kB 0 fun L=>?_;refine aZ 0 0 ?_;refine aZ 1 4 ?_;refine aZ 2 3 ?_;refine nB ?_;refine aZ 2 1 ?_;refine aZ 3 2 ?_;refine aY [2,0,1,3,4] rfl (by decide) (fun _ h=>h) ?_
 change XK _ _ _ _ _ [Lt L.gc L.gm L.nd.1 L.nd.2 (cY s) z.cn,HP.cE (vB L z.wn) _,HP.cE (nD L s) _,_,_]
 generalize hM:HP.many [cM,cM,cM,cM,cM,HP.cE (oP L z.steps) (oP.le (L:=L) (l:=z.steps))]=M;refine cQ ?_;refine aCh (fun e R H=>∃gt ga gb gc:Nat,e=[(2,pt gt),(0,pt g)]∧R=[R0]∧H=[HP.aE gt 116 [.slice (some ⟨ga,0,none⟩) (eU s (eP s z.cn)).d.length (eU s (eP s z.cn)).d.length,.slice (some ⟨gb,0,none⟩) (eU s (eP s z.cn)).c.length (eU s (eP s z.cn)).c.length,.slice (some ⟨gc,0,none⟩) (eU s (eP s z.cn)).l.length (eU s (eP s z.cn)).l.length],HP.many [HP.aE ga 4 (bK (eU s (eP s z.cn)).d),HP.aE gb 4 (bK (eU s (eP s z.cn)).c),HP.aE gc 4 (bK (eU s (eP s z.cn)).l)],Lt L.gc L.gm L.nd.1 L.nd.2 (cY s) z.cn,HP.cE (vB L z.wn) (vB.le (L:=L) (x:=z.wn)),HP.cE (nD L s) (nD.le (L:=L) (s:=s)),HP.aE g 123 (kW h f L s z),M]) ?_ ?_
 ·refine Oh [1,2,3,5,6,7] ?_;refine bH 0 ?_ (hsub:=fun _ h=>h.cT);refine aK 1 ?_ (hsub:=fun _ h=>h.cT);refine aK 2 ?_ (hsub:=fun _ h=>h.cT);refine aK 3 ?_ (hi:=rfl) (dD:=pL rfl (aAk (vs:=[_,_,_,_]) 3 rfl rfl)) (hsub:=fun _ h=>h.cT);refine bH 4 ?_ (hsub:=fun _ h=>h.cT);refine aK 5 ?_ (hsub:=fun _ h=>h.cT);refine aK 6 ?_ (hsub:=fun _ h=>h.cT);refine aK 7 ?_ (hsub:=fun _ h=>h.cT);refine Ja 8 10 rfl rfl (by kernel_rfl) ?_ ?_
  ·refine zM (α:=Nat) 0 (f:=30) (fi:=[]) (ca:=[]) (fun b=>.slice (some ⟨b,0,none⟩) (cY s).length (cY s).length) (fun b=>HP.many [Lt L.gc L.gm L.nd.1 L.nd.2 (cY s) z.cn,HP.aE b 4 (bK (eP s z.cn))]) (fun _=>True) (by kernel_rfl) rfl rfl rfl (by decide) (fun w1 F1 t h1 h2 h3=>aJj L.gc L.gm L.nd.1 L.nd.2 (cY s) z.cn _ rfl (by omega) hno ho w1 F1 h1 h2) ?_;rintro b _;dsimp only[List.set];refine bB ?_ (hS:=fun _ h=>h.cT);refine Ja 9 10 rfl rfl (by kernel_rfl) ?_ ?_
   ·refine aZ 0 1 ?_
    refine fR (aAg (eU s (eP s z.cn))) (fun w1 t=>by
     have h1:=t.rT (i:=0) (sz:=1) (n:=(eP s z.cn).length) rfl (by simp[bK])
     have:=aA0 (all w1) s L.a1.1 L.a2.1 L.a3.1 L.a4.1 _ L.a1.2 _ L.a2.2 _ L.a3.2 _ L.a4.2 (some ⟨b,0,none⟩) (cY s).length (eP s z.cn) w1 (t.cE 3 rfl) hm (Piece.Le.refl _) h1
     rw[hal] at this
     exact this) ?_
    rintro _ _ q ⟨ga,gb,gc,px,rfl,rfl⟩ _;dsimp only[List.cons_append,List.nil_append];refine bB ?_ (hS:=fun _ h=>h.bE.tail.tail.tail.cT);refine aJ 10 ?_;refine bT fun gt=>?_;refine bB ?_ (hS:=fun _ h=>h.bE.tail.tail.tail.tail.cT);refine aJ 11 ?_;refine oL 0 rfl ?_;dsimp only[List.set];refine bB ?_ (hS:=fun _ h=>h.bE.tail.tail.tail.tail.cT);refine eN ?_;refine dN ?_;refine aZ 4 0 ?_;refine aY [1,2,0,6,7,8,9] rfl (by decide) (R':=[R0]) (by simp) ?_;exact nP ⟨gt,ga,gb,gc,rfl,rfl,rfl⟩
   ·refine bT fun gt=>?_;refine bB ?_ (hS:=fun _ h=>h.tail.cT);refine aJ 9 ?_;refine aZ 1 1 ?_
    refine fR (aAg (eU s (eP s z.cn))) (fun w1 t=>by
     have h1:=t.rT (i:=0) (sz:=1) (n:=(eP s z.cn).length) rfl (by simp[bK])
     have:=aA0 (all w1) s L.a1.1 L.a2.1 L.a3.1 L.a4.1 _ L.a1.2 _ L.a2.2 _ L.a3.2 _ L.a4.2 (some ⟨b,0,none⟩) (cY s).length (eP s z.cn) w1 (t.cE 4 rfl) hm (Piece.Le.refl _) h1
     rw[hal] at this
     exact this) ?_
    rintro _ _ q ⟨ga,gb,gc,px,rfl,rfl⟩ _;dsimp only[List.cons_append,List.nil_append];refine bB ?_ (hS:=fun _ h=>h.bE.tail.tail.tail.tail.cT);refine aJ 11 ?_;refine oL 3 rfl ?_;dsimp only[List.set];refine bB ?_ (hS:=fun _ h=>h.bE.tail.tail.tail.tail.cT);refine eN ?_;refine dN ?_;refine aZ 4 0 ?_;refine aY [4,1,0,6,7,8,9] rfl (by decide) (R':=[R0]) (by simp) ?_;exact nP ⟨gt,ga,gb,gc,rfl,rfl,rfl⟩
  ·refine bT fun gt=>?_;refine bB ?_ (hS:=fun _ h=>h.tail.cT);refine aJ 8 ?_;refine zM (α:=Nat) 1 (f:=30) (fi:=[]) (ca:=[]) (fun b=>.slice (some ⟨b,0,none⟩) (cY s).length (cY s).length) (fun b=>HP.many [Lt L.gc L.gm L.nd.1 L.nd.2 (cY s) z.cn,HP.aE b 4 (bK (eP s z.cn))]) (fun _=>True) (by kernel_rfl) rfl rfl rfl (by decide) (fun w1 F1 t h1 h2 h3=>aJj L.gc L.gm L.nd.1 L.nd.2 (cY s) z.cn _ rfl (by omega) hno ho w1 F1 h1 h2) ?_;rintro b _;dsimp only[List.set];refine bB ?_ (hS:=fun _ h=>h.tail.cT);refine aJ 9 ?_;refine aZ 1 1 ?_
   refine fR (aAg (eU s (eP s z.cn))) (fun w1 t=>by
    have h1:=t.rT (i:=0) (sz:=1) (n:=(eP s z.cn).length) rfl (by simp[bK])
    have:=aA0 (all w1) s L.a1.1 L.a2.1 L.a3.1 L.a4.1 _ L.a1.2 _ L.a2.2 _ L.a3.2 _ L.a4.2 (some ⟨b,0,none⟩) (cY s).length (eP s z.cn) w1 (t.cE 4 rfl) hm (Piece.Le.refl _) h1
    rw[hal] at this
    exact this) ?_
   rintro _ _ q ⟨ga,gb,gc,px,rfl,rfl⟩ _;dsimp only[List.cons_append,List.nil_append];refine bB ?_ (hS:=fun _ h=>h.bE.tail.tail.tail.tail.cT);refine aJ 11 ?_;refine oL 3 rfl ?_;dsimp only[List.set];refine bB ?_ (hS:=fun _ h=>h.bE.tail.tail.tail.tail.cT);refine eN ?_;refine dN ?_;refine aZ 4 0 ?_;refine aY [4,1,0,6,7,8,9] rfl (by decide) (R':=[R0]) (by simp) ?_;exact nP ⟨gt,ga,gb,gc,rfl,rfl,rfl⟩
 rintro _ _ _ ⟨gt,ga,gb,gc,rfl,rfl,rfl⟩
 have pU:(eU s (eP s z.cn)).l.length=(kT s z).l.length:=by
  show _=(List.mapIdx _ _).length
  rw[List.length_mapIdx]
 have vT:(eU s (eP s z.cn)).l.length=s.aR.length:=(aCB s _).l
 have hzl:=hz.l
 rw[pU]
 have aUD:(kT s z).l.length=s.aR.length:=by rw[←pU];exact vT
 refine aZ 1 2 ?_;refine aZ 2 1 ?_;refine aZ 3 0 ?_;refine aY [0,1,2,3,4,5,6,7,8,9] rfl (by decide) (fun _ h=>h) ?_;refine aA ?_
 have Fp:vP z.wn.l (eU s (eP s z.cn)).l 0=(eU s (eP s z.cn)).l:=Qn _ _
 refine bL [(21,iv 0),(20,iv z.wn.l.length),(19,.slice L.w3.1 z.wn.l.length L.w3.2),(2,pt gt),(0,pt g)] ?_;refine eJ (fun m e R H=>∃i:Nat,i≤z.wn.l.length∧m=z.wn.l.length - i∧e=[(21,iv i),(20,iv z.wn.l.length),(19,.slice L.w3.1 z.wn.l.length L.w3.2),(2,pt gt),(0,pt g)]∧R=[R0]∧H=[HP.aE ga 4 (bK (eU s (eP s z.cn)).d),HP.aE gb 4 (bK (eU s (eP s z.cn)).c),HP.aE gc 4 (bK (vP z.wn.l (eU s (eP s z.cn)).l i)),HP.aE gt 116 [.slice (some ⟨ga,0,none⟩) (eU s (eP s z.cn)).d.length (eU s (eP s z.cn)).d.length,.slice (some ⟨gb,0,none⟩) (eU s (eP s z.cn)).c.length (eU s (eP s z.cn)).c.length,.slice (some ⟨gc,0,none⟩) (kT s z).l.length (kT s z).l.length],HP.many [cM,cM,cM],Lt L.gc L.gm L.nd.1 L.nd.2 (cY s) z.cn,HP.cE (vB L z.wn) (vB.le (L:=L) (x:=z.wn)),HP.cE (nD L s) (nD.le (L:=L) (s:=s)),HP.aE g 123 (kW h f L s z),M]) z.wn.l.length ⟨0,by omega,rfl,rfl,rfl,by rw[Fp]⟩ fun m e R H hI=>?_;obtain⟨i,hi,rfl,rfl,rfl,rfl⟩:=hI;refine aA ?_;refine aG rfl (fun hlt=>?_) (fun hge=>?_)
 ·have hlt:i < z.wn.l.length:=by omega
  obtain⟨b,hb⟩:=get_some hlt;obtain⟨c,hc⟩:=get_some (l:=(eU s (eP s z.cn)).l) (i:=i) (by omega)
  have fN:(vP z.wn.l (eU s (eP s z.cn)).l i)[i]? =some c:=Qp hc
  have hstep:(vP z.wn.l (eU s (eP s z.cn)).l i).set i (c||hasB z.wn.l i)=vP z.wn.l (eU s (eP s z.cn)).l (i+1):=Qo (f:=fun k b=>b||hasB z.wn.l k) hc
  have hbB:hasB z.wn.l i=b:=by show z.wn.l[i]?.getD false=b;rw[hb];rfl
  rw[hbB] at hstep
  have eX:(vP z.wn.l (eU s (eP s z.cn)).l i).length=s.aR.length:=by rw[vP,List.length_mapIdx];exact vT
  refine aER (A:=L.w3.1) (sz:=1) (n:=z.wn.l.length) (xs:=bK z.wn.l) 6 rfl (fun _ h=>h.2.2) (by omega) fun wb aLe hwA=>?_
  have hbc:(bK z.wn.l)[i]? =some (.bool b):=by simp[bK,hb]
  refine aA ?_;refine kd (dat i (aLe+i) (hx:=by rw[←hwA];rfl)) ?_;refine kd (bP rfl (Rd.cE 6 rfl (fun _ h=>h.2.2) hwA (by omega) hbc)) ?_;refine aA ?_;cases b
  ·rw[Bool.or_false,yC fN] at hstep;rw[hstep];refine aA ?_;exact dX (z.wn.l.length - (i+1)) ⟨i+1,hlt,rfl,rfl,rfl,rfl⟩
  ·rw[Bool.or_true] at hstep;refine aA ?_;refine kd (dat i i) ?_;refine fF rfl rfl ?_ (hs:=eO.mk 2 rfl cG.h rfl (by simp[bK];omega));dsimp only[List.set];rw[aEE,hstep];refine aA ?_;exact dX (z.wn.l.length - (i+1)) ⟨i+1,hlt,rfl,rfl,rfl,rfl⟩
 obtain rfl:i=z.wn.l.length:=by omega
 rw[hzl];refine aA ?_;refine iO [3,4,5,7,8,9,10] ?_;refine bH 0 ?_;refine bH 1 ?_;refine bH 2 ?_;refine aK 3 ?_;refine aK 4 ?_;refine aK 5 ?_ (hi:=rfl) (dD:=pL rfl (aAk (vs:=[_,_,_,_]) 8 rfl rfl));refine bH 6 ?_;refine aK 7 ?_;refine aK 8 ?_;refine aK 9 ?_ (hi:=rfl) (dD:=pL rfl (aAk (vs:=[_,_,_]) 8 rfl rfl));refine aK 10 ?_;refine aJ 11 ?_;refine jS [] (aKj (allM s z.wn (kT s z))) (fun w1 t=>aLI (q:=all w1) (qx:=all w1) (qy:=all w1) (t.cE 7 rfl) hm (Piece.Le.refl _) (x:=z.wn) (y:=kT s z) ⟨L.w1.1,L.w1.2,L.w2.1,L.w2.2,L.w3.1,L.w3.2,rfl,t.cE 6 rfl⟩ (Piece.Le.refl _) ⟨_,_,_,_,_,_,rfl,t.rT (i:=0) rfl (by simp[bK,kT]),t.rT (i:=1) rfl (by simp[bK,kT]),t.rT (i:=2) rfl (by simp[bK,kT])⟩ (Piece.Le.refl _)) ?_;rintro _ w1 q ⟨As,cs,rfl,hs,hsc⟩ hf _ hfr
 have hs:=hs.le hf
 refine bO ?_;refine aJ 12 ?_;refine bA ?_;refine bO ?_;refine aJ 13 ?_;refine bA ?_;refine bO ?_;refine aJ 14 ?_;refine fF rfl rfl ?_ (hs:=eO.mk 8 rfl cG.h rfl (of_decide_eq_true rfl));dsimp only[List.set];refine bO ?_;refine aJ 15 ?_;refine bA ?_;refine bO ?_;refine aJ 16 ?_;refine bA ?_;refine bO ?_;refine aJ 17 ?_;refine fF rfl rfl ?_ (hs:=eO.mk 8 rfl cG.h rfl (of_decide_eq_true rfl));dsimp only[List.set];refine bO ?_;refine eN ?_
 refine Of (Φ:=oP {L with st:=(As,cs)} (allM s z.wn (kT s z))) (hm:=oP.le) (hfr (by simp)) (fun p hp b hb=>by
  simp at hp;subst hp;rw[←cN] at hb
  exact hb.1) ⟨hs,hsc⟩ ?_
 refine aA ?_;refine Qu 9 rfl ?_;dsimp only[List.set];refine aA ?_;obtain⟨L',hL'⟩:∃L':dK,L'={L with w1:=(some ⟨ga,0,none⟩,(eU s (eP s z.cn)).d.length),w2:=(some ⟨gb,0,none⟩,(eU s (eP s z.cn)).c.length),w3:=(some ⟨gc,0,none⟩,(kT s z).l.length),st:=(As,cs)}:=⟨_,rfl⟩
 refine aY [1,2,3,0,6,8,9] rfl (by decide) (fun _ h=>h) ?_;refine Zt ?_;refine Bm (q:=HP.cE (vB L' (kT s z)) (vB.le (L:=L') (x:=kT s z))) 0 rfl (fun F w hs=>?_) ?_
 ·obtain⟨G,k1,k2,_⟩:=hs;subst hL';exact⟨sZ (c:=0) (k1 0 _ rfl) (fun b hb=>k2 0 b hb) (by simp[bK,kT]),sZ (c:=0) (k1 1 _ rfl) (fun b hb=>k2 1 b hb) (by simp[bK,kT]),sZ (c:=0) (k1 2 _ rfl) (fun b hb=>k2 2 b hb) (by simp[bK,kT])⟩
 dsimp only[List.set];refine aZ 2 0 ?_;refine aZ 3 1 ?_;refine aY [6,5,2,1,0,3] rfl (by decide) (fun _ h=>h) ?_;refine nB ?_;refine uZ ?_;refine uZ ?_;refine uZ ?_;refine uZ ?_;refine xG 0 (f:=fun L:dK=>fT g h f L s (lP s z)) L' (by subst hL';rfl) ?_;dsimp only[List.set];subst cN;exact jE 0 hF
end
end
section
theorem pO{w0:World}{R:List Piece}{H:List HP}{g h f:Nat}{L:dK}{s:aC}{z:aW}(i:Nat){o:Nat}{v:Value}(hi:H[i]? =some (fT g h f L s z))(hv:(kW h f L s z)[o]? =some v):Rd w0 R H g o v:=fun w st=>by
 have:=(st.aCS i hi).r0.at_ hv
 rw[Nat.zero_add] at this;exact this.2
def T3(j:Nat):Prop:=j=0∨j=1∨j=2
theorem zQ{h f:Nat}{L:dK}{s:aC}{z:aW}{j k:Nat}{v:Value}(hj:T3 j)(hv:(tkC (z.tk j))[k]? =some v):(kW h f L s z)[10+13*j+k]? =some v:=by
 have hk:k < 13:=by
  have:=(List.getElem?_eq_some_iff.1 hv).1
  simpa[tkC] using this
 have hk2:k=0∨k=1∨k=2∨k=3∨k=4∨k=5∨k=6∨k=7∨k=8∨k=9∨k=10∨k=11∨k=12:=by omega
 rcases hj with rfl | rfl | rfl<;>rcases hk2 with rfl | rfl | rfl | rfl | rfl | rfl | rfl | rfl | rfl | rfl | rfl | rfl | rfl<;>exact hv
theorem Ul{t:rK}{i:Nat}(hi:i < 6):(tkC t)[7+i]? =some (iv (hG t i)):=by
 have h2:i=0∨i=1∨i=2∨i=3∨i=4∨i=5:=by omega
 rcases h2 with rfl | rfl | rfl | rfl | rfl | rfl<;>rfl
theorem aIw{t:rK}{i k:Nat}{v:Int}(hl:t.hs.length=6)(hi:i < 6):hG {t with hs:=t.hs.set i v} k=if i=k then v else hG t k:=by
 show(t.hs.set i v).getD k 0=_
 rw[List.getD_eq_getElem?_getD,List.getElem?_set];split
 ·rename_i e
  subst e;rw[if_pos (by omega)];rfl
 ·show _=t.hs.getD k 0
  rw[List.getD_eq_getElem?_getD]
theorem aGA{h f:Nat}{L:dK}{s:aC}{z:aW}{j i:Nat}{v:Int}(hj:T3 j)(hi:i < 6)(hl:(z.tk j).hs.length=6):(kW h f L s z).set (10+13*j+7+i) (iv v)=kW h f L s (z.jR j {z.tk j with hs:=(z.tk j).hs.set i v}):=by
 have hs:=fun k=>aIw (t:=z.tk j) (k:=k) (v:=v) hl hi
 have h2:i=0∨i=1∨i=2∨i=3∨i=4∨i=5:=by omega
 rcases hj with rfl | rfl | rfl<;>rcases h2 with rfl | rfl | rfl | rfl | rfl | rfl<;>simp[kW,aW.jR,aW.tk] at hs⊢ <;>simp[hs]
theorem aAF{h f:Nat}{L:dK}{s:aC}{z:aW}:(kW h f L s z).length=55:=rfl
structure aFr(t:rK):Prop where
 len:t.hs.length=6
 bd:∀i,0≤hG t i∧hG t i≤1000000
def rQ(t:rK)(i:Nat)(k:Int):rK:={t with hs:=t.hs.set i (hG t i+k)}
def Fq(s:aC)(z:aW)(j:Nat):Int×aW:=if(qQ (cY s).length z.cn (z.tk j).dev).1≠0 then((qQ (cY s).length z.cn (z.tk j).dev).1,z) else(0,lP s {z.jR j (rQ (z.tk j) (z.tk j).dev.toNat 1) with cn:=(qQ (cY s).length z.cn (z.tk j).dev).2})
def Et(s:aC)(z:aW)(j:Nat):Int×aW:=if bN s.aD.length (z.tk j).dev=false then(4,z) else if hG (z.tk j) (z.tk j).dev.toNat=0 then(6,z) else if(nY (cY s).length z.cn (z.tk j).dev).1≠0 then((nY (cY s).length z.cn (z.tk j).dev).1,z) else(0,lP s {z.jR j (rQ (z.tk j) (z.tk j).dev.toNat (-1)) with cn:=(nY (cY s).length z.cn (z.tk j).dev).2})
def Ek(s:aC)(z:aW):Int×aW:=if(tQ z.cn).1≠0 then((tQ z.cn).1,z) else(0,lP s {z with cn:=(tQ z.cn).2})
def Er(s:aC)(z:aW):Int×aW:=if(tR z.cn).1≠0 then((tR z.cn).1,z) else(0,lP s {z with cn:=(tR z.cn).2})
theorem aSR{n:Nat}{c:Cn}{d:Int}(h:(qQ n c d).1≠0):(qQ n c d).2=c:=by
 unfold qQ at h⊢
 repeat' split
 all_goals first | rfl | (simp_all;done)
theorem aJv{n:Nat}{c:Cn}{d:Int}(h:(qQ n c d).1=0):0≤d∧d < n:=by
 unfold qQ at h;split at h
 ·simp at h
 ·split at h
  ·simp at h
  ·rename_i h1
   exact Decidable.not_not.1 h1
theorem aSm{n:Nat}{c:Cn}{d:Int}(h:(nY n c d).1≠0):(nY n c d).2=c:=by
 unfold nY at h⊢
 repeat' split
 all_goals first | rfl | (simp_all;done)
theorem aSk{c:Cn}(h:(tQ c).1≠0):(tQ c).2=c:=by
 unfold tQ at h⊢;split
 ·rfl
 ·simp_all
theorem aSl{c:Cn}(h:(tR c).1≠0):(tR c).2=c:=by
 unfold tR at h⊢;split
 ·simp_all
 ·rfl
section
variable(g h f:Nat)(s:aC)(z:aW)(w:World)(F:Nat→Prop)
theorem aM2(hm:s.made)(hz:z.wn.of s)(a:Value)(hp:(gL g h f s z).sat F w)(hF:∀b,F b→b < w.heap.size):
  Cz 297 #[.agg #[],pt g,a] w (Wr (iv (Ek s z).1) (gL g h f s (Ek s z).2) w F):=by
 unfold Ek;refine dB func297 ntmps297 hp hF ?_;refine aA ?_;refine bF fun g1=>?_;refine aA ?_;refine kB 1 fun L=>?_;refine kd (bP rfl (pO 1 rfl rfl)) ?_;refine aZ 1 3 ?_;refine eC 0 (nQ L.gc L.gm (.slice L.nd.1 (cY s).length L.nd.2) (tQ z.cn).2) (fun w1 F1 t h1 h2 h3=>aSp L.gc L.gm (cY s).length L.nd.2 L.nd.1 z.cn w1 F1 h1 h2) ?_;refine aA ?_;refine aG rfl (fun he=>?_) (fun he=>?_)
 ·rw[if_pos he,aSk he];refine aA ?_;refine aM 1 3 ?_;refine fC 1 (fun L:dK=>fT g h f L s z) L ?_;exact cI 1 hF
 ·rw[if_neg he];refine aM 1 3 ?_;refine fC 1 (fun L:dK=>fT g h f L s {z with cn:=(tQ z.cn).2}) L ?_;refine aA ?_;refine eC 1 (gL g h f s (lP s {z with cn:=(tQ z.cn).2})) (fun w1 F1 t h1 h2 h3=>aAD g h f s _ w1 F1 hm hz h1 h2) ?_;refine aA ?_;exact cI 1 hF
theorem aM5(hm:s.made)(hz:z.wn.of s)(a:Value)(hp:(gL g h f s z).sat F w)(hF:∀b,F b→b < w.heap.size):
  Cz 298 #[.agg #[],pt g,a] w (Wr (iv (Er s z).1) (gL g h f s (Er s z).2) w F):=by
 unfold Er;refine dB func298 ntmps298 hp hF ?_;refine aA ?_;refine bF fun g1=>?_;refine aA ?_;refine kB 1 fun L=>?_;refine kd (bP rfl (pO 1 rfl rfl)) ?_;refine aZ 1 3 ?_;refine eC 0 (nQ L.gc L.gm (.slice L.nd.1 (cY s).length L.nd.2) (tR z.cn).2) (fun w1 F1 t h1 h2 h3=>aSq L.gc L.gm (cY s).length L.nd.2 L.nd.1 z.cn w1 F1 h1 h2) ?_;refine aA ?_;refine aG rfl (fun he=>?_) (fun he=>?_)
 ·rw[if_pos he,aSl he];refine aA ?_;refine aM 1 3 ?_;refine fC 1 (fun L:dK=>fT g h f L s z) L ?_;exact cI 1 hF
 ·rw[if_neg he];refine aM 1 3 ?_;refine fC 1 (fun L:dK=>fT g h f L s {z with cn:=(tR z.cn).2}) L ?_;refine aA ?_;refine eC 1 (gL g h f s (lP s {z with cn:=(tR z.cn).2})) (fun w1 F1 t h1 h2 h3=>aAD g h f s _ w1 F1 hm hz h1 h2) ?_;refine aA ?_;exact cI 1 hF
theorem aM8(hm:s.made)(hz:z.wn.of s)(j:Nat)(hj:T3 j)(hk:aFr (z.tk j))(hp:(gL g h f s z).sat F w)(hF:∀b,F b→b < w.heap.size):
  Cz 276 #[.agg #[],pt g,.pointer (some ⟨g,10+13*j,none⟩)] w (Wr (iv (Fq s z j).1) (gL g h f s (Fq s z j).2) w F):=by
 have mK:=hm.nv
 have iM:=Qh s
 have hj2:j≤2:=by rcases hj with rfl | rfl | rfl<;>decide
 unfold Fq;refine dB func276 ntmps276 hp hF ?_;refine aA ?_;refine bF fun g1=>?_;refine aA ?_;refine kB 1 fun L=>?_;refine kd (bP rfl (pO 1 rfl (zQ (k:=2) hj rfl))) ?_;refine aA ?_;refine kd (bP rfl (pO 1 rfl rfl)) ?_;refine aZ 1 3 ?_;refine aA ?_;refine eC 0 (nQ L.gc L.gm (.slice L.nd.1 (cY s).length L.nd.2) (qQ (cY s).length z.cn (z.tk j).dev).2) (fun w1 F1 t h1 h2 h3=>aSt L.gc L.gm (cY s).length L.nd.2 L.nd.1 z.cn w1 F1 (z.tk j).dev h1 h2) ?_;refine aA ?_;refine aG rfl (fun he=>?_) (fun he=>?_)
 ·rw[if_pos he,aSR he];refine aA ?_;refine aM 1 3 ?_;refine fC 1 (fun L:dK=>fT g h f L s z) L ?_;exact cI 1 hF
 ·rw[if_neg he];obtain⟨Kj,dI⟩:=aJv (Decidable.not_not.1 he);obtain⟨dv,Di⟩:∃n:Nat,(z.tk j).dev=(n:Int):=⟨(z.tk j).dev.toNat,by omega⟩
  have Az:dv < 6:=by omega
  have hb0:=hk.bd dv
  refine aM 1 3 ?_;refine aZ 1 0 ?_;generalize qN:(qQ (cY s).length z.cn (z.tk j).dev).2=c2
  have hcell:(kW h f L s z)[10+13*j+7+dv]? =some (iv (hG (z.tk j) dv)):=by
   rw[Nat.add_assoc];exact zQ hj (Ul Az)
  have mQ:rQ (z.tk j) (z.tk j).dev.toNat (1)={z.tk j with hs:=(z.tk j).hs.set dv (hG (z.tk j) dv+1)}:=by
   unfold rQ;rw[show(z.tk j).dev.toNat=dv by omega]
   all_goals rfl
  have jA:=aGA (h:=h) (f:=f) (L:=L) (s:=s) (z:=z) (i:=dv) (v:=hG (z.tk j) dv+1) hj Az hk.len
  rw[mQ];refine aA ?_;refine iO [2,3,4,5,6,7,8] ?_;refine bH 0 ?_;refine bH 1 ?_;refine aK 2 ?_;refine aK 3 ?_;refine aK 4 ?_ (hi:=rfl) (dD:=fB dv (10+13*j+7+dv) (hj:=Di) (hlt:=Az) (ho:=by omega));refine aK 5 ?_ (hi:=rfl) (dD:=bP rfl (Rd.aE 0 rfl hcell));refine aK 6 ?_;refine aK 7 ?_;refine aK 8 ?_;refine aJ 9 ?_;refine kd (fB dv (10+13*j+7+dv) (hj:=Di) (hlt:=Az) (ho:=by omega)) ?_;refine bO ?_;refine aJ 10 ?_;refine fF rfl rfl ?_ (hs:=eO.mk 0 rfl cG.h rfl (by rw[aAF];omega));dsimp only[List.set];rw[jA];refine bO ?_;refine eN ?_;refine aM 1 0 ?_;refine fC 1 (fun L:dK=>fT g h f L s {z.jR j {z.tk j with hs:=(z.tk j).hs.set dv (hG (z.tk j) dv+1)} with cn:=c2}) L ?_;refine aA ?_;refine eC 1 (gL g h f s (lP s {z.jR j {z.tk j with hs:=(z.tk j).hs.set dv (hG (z.tk j) dv+1)} with cn:=c2})) (fun w1 F1 t h1 h2 h3=>aAD g h f s _ w1 F1 hm hz h1 h2) ?_;refine aA ?_;exact cI 1 hF
theorem aM6(hm:s.made)(hz:z.wn.of s)(j:Nat)(hj:T3 j)(hk:aFr (z.tk j))(hp:(gL g h f s z).sat F w)(hF:∀b,F b→b < w.heap.size):
  Cz 290 #[.agg #[],pt g,.pointer (some ⟨g,10+13*j,none⟩)] w (Wr (iv (Et s z j).1) (gL g h f s (Et s z j).2) w F):=by
 have mK:=hm.nv
 have iM:=Qh s
 have hj2:j≤2:=by rcases hj with rfl | rfl | rfl<;>decide
 unfold Et;refine dB func290 ntmps290 hp hF ?_;refine aA ?_;refine bF fun g1=>?_;refine aA ?_;refine kB 1 fun L=>?_;refine kd (bP rfl (pO 1 rfl (zQ (k:=2) hj rfl))) ?_;refine aA ?_;refine aU (fun w1 t=>aCT g h f L s z w1 (z.tk j).dev (t.aCS 1 rfl)) ?_;cases hin:bN s.aD.length (z.tk j).dev
 ·refine aA ?_;refine fC 1 (fun L:dK=>fT g h f L s z) L ?_;exact cI 1 hF
 have Ay:=of_decide_eq_true hin
 obtain⟨dv,Di⟩:∃n:Nat,(z.tk j).dev=(n:Int):=⟨(z.tk j).dev.toNat,by omega⟩
 have Az:dv < 6:=by omega
 have hb0:=hk.bd dv
 have aQf:(kW h f L s z)[10+13*j+7+dv]? =some (iv (hG (z.tk j) dv)):=by
  rw[Nat.add_assoc];exact zQ hj (Ul Az)
 rw[if_neg (by simp)];refine aA ?_;refine kd (fB dv (10+13*j+7+dv) (hj:=Di) (hlt:=Az) (ho:=by omega)) ?_;refine kd (bP rfl (pO 1 rfl aQf)) ?_;refine aA ?_
 have Rc:(z.tk j).dev.toNat=dv:=by omega
 refine aG rfl (fun h0=>?_) (fun h0=>?_)
 ·rw[if_pos (by rw[Rc];exact h0)];refine aA ?_;refine fC 1 (fun L:dK=>fT g h f L s z) L ?_;exact cI 1 hF
 rw[if_neg (by rw[Rc];exact h0)];refine aA ?_;refine kd (bP rfl (pO 1 rfl rfl)) ?_;refine aZ 1 3 ?_;refine aA ?_;refine eC 0 (nQ L.gc L.gm (.slice L.nd.1 (cY s).length L.nd.2) (nY (cY s).length z.cn (z.tk j).dev).2) (fun w1 F1 t h1 h2 h3=>aSr L.gc L.gm (cY s).length L.nd.2 L.nd.1 z.cn w1 F1 (z.tk j).dev h1 h2) ?_;refine aA ?_;refine aG rfl (fun he=>?_) (fun he=>?_)
 ·rw[if_pos he,aSm he];refine aA ?_;refine aM 1 3 ?_;refine fC 1 (fun L:dK=>fT g h f L s z) L ?_;exact cI 1 hF
 ·rw[if_neg he];refine aM 1 3 ?_;refine aZ 1 0 ?_;generalize qN:(nY (cY s).length z.cn (z.tk j).dev).2=c2
  have hcell:(kW h f L s z)[10+13*j+7+dv]? =some (iv (hG (z.tk j) dv)):=by
   rw[Nat.add_assoc];exact zQ hj (Ul Az)
  have mQ:rQ (z.tk j) (z.tk j).dev.toNat (-1)={z.tk j with hs:=(z.tk j).hs.set dv (hG (z.tk j) dv - 1)}:=by
   unfold rQ;rw[show(z.tk j).dev.toNat=dv by omega]
   all_goals rfl
  have jA:=aGA (h:=h) (f:=f) (L:=L) (s:=s) (z:=z) (i:=dv) (v:=hG (z.tk j) dv - 1) hj Az hk.len
  rw[mQ];refine aA ?_;refine iO [2,3,4,5,6,7,8] ?_;refine bH 0 ?_;refine bH 1 ?_;refine aK 2 ?_;refine aK 3 ?_;refine aK 4 ?_ (hi:=rfl) (dD:=fB dv (10+13*j+7+dv) (hj:=Di) (hlt:=Az) (ho:=by omega));refine aK 5 ?_ (hi:=rfl) (dD:=bP rfl (Rd.aE 0 rfl hcell));refine aK 6 ?_;refine aK 7 ?_;refine aK 8 ?_;refine aJ 9 ?_;refine kd (fB dv (10+13*j+7+dv) (hj:=Di) (hlt:=Az) (ho:=by omega)) ?_;refine bO ?_;refine aJ 10 ?_;refine fF rfl rfl ?_ (hs:=eO.mk 0 rfl cG.h rfl (by rw[aAF];omega));dsimp only[List.set];rw[jA];refine bO ?_;refine eN ?_;refine aM 1 0 ?_;refine fC 1 (fun L:dK=>fT g h f L s {z.jR j {z.tk j with hs:=(z.tk j).hs.set dv (hG (z.tk j) dv - 1)} with cn:=c2}) L ?_;refine aA ?_;refine eC 1 (gL g h f s (lP s {z.jR j {z.tk j with hs:=(z.tk j).hs.set dv (hG (z.tk j) dv - 1)} with cn:=c2})) (fun w1 F1 t h1 h2 h3=>aAD g h f s _ w1 F1 hm hz h1 h2) ?_;refine aA ?_;exact cI 1 hF
end
end
section
def aU7(d:bQ)(vs:List Value):Prop:=∃A k A' n' k',vs=[iv d.clock,iv d.domain,iv d.reset,.int .u32 d.iV,.slice A d.aP.length k,.slice A' n' k']
structure aKC(s:aC)(rows:List (List Value)):Prop where
 row:∀(i:Nat) (d:bQ),s.aD[i]? =some d→∃r,rows[i]? =some r∧aU7 d r
 len:∀r∈rows,r.length=6
def Jb(L:dK)(s:aC)(rows:List (List Value))(p:Piece):Prop:=nD L s p∧aI p 6 L.a4.1 s.aD.length rows.flatten
theorem Jb.le{L:dK}{s:aC}{rows:List (List Value)}(p q:Piece)(hl:p.Le q)(h:Jb L s rows p):Jb L s rows q:=⟨nD.le p q hl h.1,h.2.le hl⟩
theorem aGE{α:Type}{R:α→List Value→Prop}{sz:Nat}:∀{es:List α} {rs:List (List Value)},Rows R sz es rs→∀(i:Nat) (e:α),es[i]? =some e→∃r,rs[i]? =some r∧r.length=sz∧R e r
 | [],[],_,i,e,h=>by simp at h
 | a::es,r::rs,h,0,e,he=>by
  simp at he;subst he;exact⟨r,rfl,h.1,h.2.1⟩
 | a::es,r::rs,h,i+1,e,he=>aGE h.2.2 i e (by simpa using he)
section
variable{N:cH}{w0:World}{e:Env}{R:List Piece}{H:List HP}{K:Act→World→Prop}{L:dK}{s:aC}
theorem aTO(i:Nat)(hi:H[i]? =some (HP.cE (nD L s) (nD.le (L:=L) (s:=s))))(k:∀rows,aKC s rows→XK N w0 K e R (H.set i (HP.cE (Jb L s rows) (Jb.le (L:=L) (s:=s) (rows:=rows))))):XK N w0 K e R H:=fun a w hr st=>by
 obtain⟨F,h1,hlt,_,hk⟩:=st.chunk hi;obtain⟨rows,eI,gD,tI⟩:=(h1:nD L s ⟨w,F⟩).dev;refine k rows ⟨fun i d hd=>?_,fun r hr=>Rows.aEK eI r hr⟩ a w hr (hk w F _ (show Jb L s rows ⟨w,F⟩ from⟨h1,tI⟩) ⟨rfl,rfl,rfl,Nat.le_refl _,fun b hb=>⟨.inl hb,hlt b hb⟩,fun _ _ _=>rfl⟩);obtain⟨r,h2,_,A,n,q,A',n',q',h3,h4,_⟩:=aGE eI i d hd;subst h4;exact⟨r,h2,A,q,A',n',q',h3⟩
theorem Rd.dev(i:Nat){rows:List (List Value)}{j k b off:Nat}{r:List Value}{v:Value}{hm:∀p q:Piece,p.Le q→Jb L s rows p→Jb L s rows q}(hi:H[i]? =some (HP.cE (Jb L s rows) hm))(hq:aKC s rows)(hA:L.a4.1=some ⟨b,off,none⟩)(hr:rows[j]? =some r)(hj:j < s.aD.length)(hv:r[k]? =some v):Rd w0 R H b (off+j*6+k) v:=by
 have hk:k < 6:=by
  have h1:=hq.len r (List.mem_of_getElem? hr)
  have:=(List.getElem?_eq_some_iff.1 hv).1
  omega
 have hf:=Nk (fun x=>x) 6 rows hq.len j k r hr hk
 have:=Rd.cE (w0:=w0) (R:=R) (xs:=rows.flatten) (j:=j*6+k) (v:=v) i hi (fun p h=>h.2) hA (by omega) (by simpa[hv] using hf)
 rwa [←Nat.add_assoc] at this
end
theorem aM9(g h f:Nat)(L:dK)(s:aC)(z:aW)(w:World)(d:Int)(hR:eE w g 0 (kW h f L s z)):Cz 67 #[pt g,iv d] w (Rt (.bool (bN s.aD.length d)) w):=by
 have k5:=hR.at_ (j:=5) rfl
 refine aN func67 ntmps67 ?_;refine aA ?_;refine bU (t:=7) rfl (fun h=>?_) (fun h=>?_)
 ·refine aA ?_;refine kA (by simp) ?_;unfold bN
  congr 1
  simp;omega
 ·refine aA ?_;refine kA (by simp) ?_
  have:bN s.aD.length d=false:=decide_eq_false (by omega)
  rw[this]
def Gt(s:aC)(d:Int):Int:=((s.aD[d.toNat]?).map fun d=>(d.aP.length:Int)).getD 0
def Is(s:aC)(t:rK):Prop:=bN s.aD.length t.dev=false∨t.bX < 0∨Gt s t.dev≤t.bX
instance(s:aC)(t:rK):Decidable (Is s t):=by unfold Is;infer_instance
def Dp(s:aC)(x:aO)(z:aW)(j:Nat)(wr:Bool):Int×aW×aO:=
 if Is s (z.tk j) then(4,z,x) else if hG (z.tk j) (z.tk j).dev.toNat=0∨z.cn.gJ=true then(6,z,x)
 else if uI x (z.tk j).dev.toNat=114 then(0,{z with aS:=true,id:=x.aS},wW x (z.tk j).dev.toNat wr (z.tk j).bX (z.tk j).val) else(6,z,x)
def Ln(g f:Nat)(hL:HL)(s:aC)(z:aW)(x:aO):HP:=HP.many [gL g hL.h f s z,dY hL s x]
section
variable(g f:Nat)(hL:HL)(s:aC)(z:aW)(x:aO)(w:World)(F:Nat→Prop)
theorem aGB(hm:s.made)(aV:gE hL s)(hok:cF s x)(hw0:∀i:Nat,(x.wt[i]?).join=none)(lU:0≤x.aS∧x.aS≤1000000000)(j:Nat)(hj:T3 j)(wr:Bool)(hp:(Ln g f hL s z x).sat F w)(hF:∀b,F b→b < w.heap.size)(fG:kQ ⟨w,fun b=>b < w.heap.size∧¬F b⟩):
  Cz 291 #[.agg #[.bool wr],pt g,.pointer (some ⟨g,10+13*j,none⟩)] w (Wr (iv (Dp s x z j wr).1) (Ln g f hL s (Dp s x z j wr).2.1 (Dp s x z j wr).2.2) w F):=by
 have mK:=hm.nv
 have hH:=hm.cX
 have hj2:j≤2:=by rcases hj with rfl | rfl | rfl<;>decide
 unfold Dp;refine dB func291 ntmps291 hp hF ?_;generalize cN:(⟨w,fun b=>b < w.heap.size∧¬F b⟩:Piece)=R0 at fG⊢;refine aZ 0 1 ?_;refine aZ 1 0 ?_;refine kB 0 fun L=>?_;refine aA ?_;refine bF fun g1=>?_;refine aA ?_;refine kd (pL (vs:=[.int .u8 (z.tk j).kind,iv (z.tk j).dev,iv (z.tk j).bX,.int .u32 (z.tk j).val]) rfl (aQ.of fun k v hv=>pO 1 rfl ?_)) ?_
 ·have hk:k < 4:=by simpa using(List.getElem?_eq_some_iff.1 hv).1
  have h2:k=0∨k=1∨k=2∨k=3:=by omega
  have:=zQ (h:=hL.h) (f:=f) (L:=L) (s:=s) (z:=z) (j:=j) (k:=1+k) (v:=v) hj (by rcases h2 with rfl | rfl | rfl | rfl<;>exact hv)
  rwa [←Nat.add_assoc] at this
 refine bT fun g7=>?_;refine aA ?_;refine aZ 2 1 ?_;refine aZ 3 0 ?_
 have hj7:10+13*j+7 < 55:=by omega
 refine aTO 1 rfl fun rows hq=>?_;dsimp only[List.set];refine aER (A:=L.a4.1) (sz:=6) (n:=s.aD.length) (xs:=rows.flatten) 1 rfl (fun _ h=>h.2) (by omega) fun b off hA=>?_;refine aA ?_;refine mM ?_;refine jC ?_;refine tT (fun w1 t=>aM9 g hL.h f L s z w1 (z.tk j).dev (uW (t.aE (i:=0) rfl))) ?_;cases hin:bN s.aD.length (z.tk j).dev
 ·refine jD ?_;rw[if_pos (show Is s (z.tk j) from .inl hin)];refine aA ?_;refine Bm (q:=HP.cE (nD L s) (nD.le (L:=L) (s:=s))) 1 rfl (fun F w hs=>hs.1) ?_;dsimp only[List.set];refine aM 3 0 ?_;refine aM 2 1 ?_;refine fC 2 (fun L:dK=>fT g hL.h f L s z) L ?_;refine aY [2,3,4] rfl (by decide) (fun _ h=>h) ?_;refine aM 1 0 ?_;refine aM 0 1 ?_;subst cN;exact cI 0 hF
 ·have Ay:=of_decide_eq_true hin
  obtain⟨dv,Di⟩:∃n:Nat,(z.tk j).dev=(n:Int):=⟨(z.tk j).dev.toNat,by omega⟩
  have Rc:(z.tk j).dev.toNat=dv:=by omega
  obtain⟨d,dI⟩:=get_some (l:=s.aD) (i:=dv) (by omega)
  have Ak:Gt s (z.tk j).dev=d.aP.length:=by
   unfold Gt;rw[Rc,dI];rfl
  obtain⟨r,hr,A,k,A',n',k',rfl⟩:=hq.row dv d dI;refine jC ?_;refine Od 26 rfl (fun hneg=>?_) (fun hnn=>?_)
  ·refine jD ?_;rw[if_pos (show Is s (z.tk j) from .inr (.inl hneg))];refine aA ?_;refine Bm (q:=HP.cE (nD L s) (nD.le (L:=L) (s:=s))) 1 rfl (fun F w hs=>hs.1) ?_;dsimp only[List.set];refine aM 3 0 ?_;refine aM 2 1 ?_;refine fC 2 (fun L:dK=>fT g hL.h f L s z) L ?_;refine aY [2,3,4] rfl (by decide) (fun _ h=>h) ?_;refine aM 1 0 ?_;refine aM 0 1 ?_;subst cN;exact cI 0 hF
  ·refine jC ?_;refine xF (dat dv (off+dv*6) (hx:=by rw[←hA];rfl) (hj:=Di)) ?_;refine jC ?_;refine xF (bP rfl (Rd.dev 1 rfl hq hA hr (by omega) rfl)) ?_;refine jD ?_;refine aA ?_;refine aG rfl (fun hge=>?_) (fun hlt=>?_)
   ·rw[if_pos (show Is s (z.tk j) from .inr (.inr (by rw[Ak];exact hge)))];refine aA ?_;refine Bm (q:=HP.cE (nD L s) (nD.le (L:=L) (s:=s))) 1 rfl (fun F w hs=>hs.1) ?_;dsimp only[List.set];refine aM 3 0 ?_;refine aM 2 1 ?_;refine fC 2 (fun L:dK=>fT g hL.h f L s z) L ?_;refine aY [2,3,4] rfl (by decide) (fun _ h=>h) ?_;refine aM 1 0 ?_;refine aM 0 1 ?_;subst cN;exact cI 0 hF
   ·have aPC:¬Is s (z.tk j):=by
     unfold Is;rw[hin,Ak];rintro(h | h | h)
     ·cases h
     ·exact hnn h
     ·exact hlt h
    have hcell:(kW hL.h f L s z)[10+13*j+7+dv]? =some (iv (hG (z.tk j) dv)):=by
     rw[Nat.add_assoc];exact zQ hj (Ul (by omega))
    rw[if_neg aPC];refine Bm (q:=HP.cE (nD L s) (nD.le (L:=L) (s:=s))) 1 rfl (fun F w hs=>hs.1) ?_;dsimp only[List.set];refine aM 3 0 ?_;refine aM 2 1 ?_;refine aA ?_;refine mM ?_;refine jC ?_;refine xF (fB dv (10+13*j+7+dv) (hj:=Di) (hlt:=by omega) (ho:=by omega)) ?_;refine xF (bP rfl (pO 2 rfl hcell)) ?_;refine jC ?_;refine Od 51 rfl (fun h0=>?_) (fun h0=>?_)
    ·refine jD ?_;rw[if_pos (show hG (z.tk j) (z.tk j).dev.toNat=0∨z.cn.gJ=true from .inl (by rw[Rc];exact h0))];refine aA ?_;refine fC 2 (fun L:dK=>fT g hL.h f L s z) L ?_;refine aY [2,3,4] rfl (by decide) (fun _ h=>h) ?_;refine aM 1 0 ?_;refine aM 0 1 ?_;subst cN;exact cI 0 hF
    ·refine jC ?_;refine xF (bP rfl (pO 2 rfl rfl)) ?_;refine jC ?_;refine tT (fun w1 t=>aJi L.gc z.cn.gJ w1 ((t.aCS 2 rfl).cn.at_ (j:=2) rfl)) ?_;cases aUY:z.cn.gJ
     ·refine jD ?_;refine aA ?_
      have aUQ:=(List.getElem?_eq_some_iff.1 dI).1
      have hrl:=(hm.aD dv d dI).2.2.2.2.2.2.2.2.1
      have Ap:0≤(z.tk j).bX:=by omega
      have eI:(z.tk j).bX < d.aP.length:=by omega
      have hno:¬(hG (z.tk j) dv=0∨false=true):=by
       rintro(h | h)
       ·exact h0 h
       ·cases h
      rw[Rc,if_neg hno];refine aA ?_;refine aU (fun w1 t=>aTe (z.tk j).dev (z.tk j).bX ⟨by omega,by omega⟩ ⟨Ap,by omega⟩ w1) ?_;refine aA ?_
      by_cases Df:uI x dv=114
      ·rw[if_pos Df];refine aY [3,0,1,2,4] rfl (by decide) (fun _ h=>h) ?_;refine Oh [1,2,3,5,6,7,8,11,12] ?_;refine bH 0 ?_ (hsub:=fun _ h=>h.cT);refine aK 1 ?_ (hsub:=fun _ h=>h.cT);refine aK 2 ?_ (hsub:=fun _ h=>h.cT);refine aK 3 ?_ (hi:=rfl) (dD:=bP rfl (pO 3 rfl rfl)) (hsub:=fun _ h=>h.cT);refine bH 4 ?_ (hsub:=fun _ h=>h.cT);refine aK 5 ?_ (hsub:=fun _ h=>h.cT);refine aK 6 ?_ (hsub:=fun _ h=>h.cT);refine aK 7 ?_ (hsub:=fun _ h=>h.cT);refine aK 8 ?_ (hsub:=fun _ h=>h.cT);refine aJ 9 ?_
       refine Wc (v:=.tuple #[iv x.aS,iv 0]) 0 (dY hL s (wW x dv wr (z.tk j).bX (z.tk j).val)) (fun w1 F1 t h1 h2 h3=>by
        have:=aIo hL s x w1 hH aV hok dv d dI (hw0 dv) mK.2 (z.tk j).bX ⟨Ap,by omega,eI⟩ wr (z.tk j).val lU F1 h1 h2 (kQ.le fG (h3 _ (by simp)))
        rw[if_pos Df,if_pos Df,←Di] at this
        exact this) ?_
       dsimp only[List.set];refine bB ?_ (hS:=fun _ h=>h.cT);refine aJ 10 ?_;refine bA ?_;refine bB ?_ (hS:=fun _ h=>h.cT);refine aK 11 ?_ (hsub:=fun _ h=>h.cT);refine aK 12 ?_ (hsub:=fun _ h=>h.cT);refine aJ 13 ?_;refine bA ?_;refine bB ?_ (hS:=fun _ h=>h.cT);refine aJ 14 ?_;refine bA ?_;refine bB ?_ (hS:=fun _ h=>h.cT);refine eN ?_;refine aY [1,2,3,0,4] rfl (by decide) (fun _ h=>h) ?_;refine aZ 2 0 ?_;refine aA ?_;refine fF rfl rfl ?_ (hs:=eO.mk 0 rfl cG.h rfl (of_decide_eq_true rfl));dsimp only[List.set];refine aA ?_;refine fF rfl rfl ?_ (hs:=eO.mk 0 rfl cG.h rfl (of_decide_eq_true rfl));dsimp only[List.set];refine aA ?_;refine aM 2 0 ?_;refine fC 2 (fun L:dK=>fT g hL.h f L s {z with aS:=true,id:=x.aS}) L ?_;refine aY [2,3,4] rfl (by decide) (fun _ h=>h) ?_;refine aM 1 0 ?_;refine aM 0 1 ?_;subst cN;exact cI 0 hF
      ·rw[if_neg Df];refine aY [3,0,1,2,4] rfl (by decide) (fun _ h=>h) ?_;refine Oh [1,2,3,5,6,7,8,11,12] ?_;refine bH 0 ?_ (hsub:=fun _ h=>h.cT);refine aK 1 ?_ (hsub:=fun _ h=>h.cT);refine aK 2 ?_ (hsub:=fun _ h=>h.cT);refine aK 3 ?_ (hi:=rfl) (dD:=bP rfl (pO 3 rfl rfl)) (hsub:=fun _ h=>h.cT);refine bH 4 ?_ (hsub:=fun _ h=>h.cT);refine aK 5 ?_ (hsub:=fun _ h=>h.cT);refine aK 6 ?_ (hsub:=fun _ h=>h.cT);refine aK 7 ?_ (hsub:=fun _ h=>h.cT);refine aK 8 ?_ (hsub:=fun _ h=>h.cT);refine aJ 9 ?_
       refine Wc (v:=.tuple #[iv 0,iv 6]) 0 (dY hL s x) (fun w1 F1 t h1 h2 h3=>by
        have:=aIo hL s x w1 hH aV hok dv d dI (hw0 dv) mK.2 (z.tk j).bX ⟨Ap,by omega,eI⟩ wr (z.tk j).val lU F1 h1 h2 (kQ.le fG (h3 _ (by simp)))
        rw[if_neg Df,if_neg Df,←Di] at this
        exact this) ?_
       dsimp only[List.set];refine bB ?_ (hS:=fun _ h=>h.cT);refine aJ 10 ?_;refine bA ?_;refine bB ?_ (hS:=fun _ h=>h.cT);refine aK 11 ?_ (hsub:=fun _ h=>h.cT);refine aK 12 ?_ (hsub:=fun _ h=>h.cT);refine aJ 13 ?_;refine bA ?_;refine bB ?_ (hS:=fun _ h=>h.cT);refine aJ 14 ?_;refine bA ?_;refine bB ?_ (hS:=fun _ h=>h.cT);refine eN ?_;refine aY [1,2,3,0,4] rfl (by decide) (fun _ h=>h) ?_;refine aA ?_;refine fC 2 (fun L:dK=>fT g hL.h f L s z) L ?_;refine aY [2,3,4] rfl (by decide) (fun _ h=>h) ?_;refine aM 1 0 ?_;refine aM 0 1 ?_;subst cN;exact cI 0 hF
     ·refine jD ?_;rw[if_pos (.inr rfl)];refine aA ?_;refine fC 2 (fun L:dK=>fT g hL.h f L s z) L ?_;refine aY [2,3,4] rfl (by decide) (fun _ h=>h) ?_;refine aM 1 0 ?_;refine aM 0 1 ?_;subst cN;exact cI 0 hF
end
end
section
theorem aB5{P:Program}{fn:FuncId}{args:Array Value}{w:World}{p p' q:HP}{v:Value}{F:Nat→Prop}(h:∀F,p.sat F w→(∀b,F b→b < w.heap.size)→Calls P fn args w fun y w'=>y=.returned v∧∃F',p'.sat F' w'∧iH w w' F F')
  (hp:(HP.many [p,q]).sat F w) (hF:∀b,F b→b < w.heap.size):Calls P fn args w fun y w'=>y=.returned v∧∃F',(HP.many [p',q]).sat F' w'∧iH w w' F F':=by
 obtain⟨G,g1,g2,g3⟩:=hp
 have Fb:=g1 0 p rfl
 have Kc:=g1 1 q rfl
 refine(h (G 0) Fb fun b hb=>hF b (g2 0 b hb)).mono fun y w' ⟨hy,F',h1,ht⟩=>⟨hy,fun b=>F' b∨G 1 b,⟨fun i=>match i with | 0=>F' | 1=>G 1 | _=>fun _=>False,fun i r hr=>?_,fun i b hb=>?_,fun i j b hij hi hj=>?_⟩,⟨ht.os,ht.tape,ht.output,ht.size,fun b hb=>?_,fun b hb hn=>?_⟩⟩
 ·match i,hr with
  | 0,hr=>cases hr;exact h1
  | 1,hr=>cases hr;exact q.loc _ _ _ Kc fun b hb=>ht.old b (hF b (g2 1 b hb)) fun h0=>g3 0 1 b (by decide) h0 hb
  | i+2,hr=>simp at hr
 ·match i,hb with
  | 0,hb=>exact .inl hb
  | 1,hb=>exact .inr hb
  | i+2,hb=>exact hb.elim
 ·have key:∀b,F' b→G 1 b→False:=fun b h0 h2=>by
   rcases(ht.new b h0).1 with h3 | h3
   ·exact g3 0 1 b (by decide) h3 h2
   ·have:=hF b (g2 1 b h2)
    omega
  match i,j,hi,hj with
  | 0,0,_,_=>exact absurd rfl hij
  | 0,1,hi,hj=>exact key b hi hj
  | 1,0,hi,hj=>exact key b hj hi
  | 1,1,_,_=>exact absurd rfl hij
  | i+2,_,hi,_=>exact hi.elim
  | _,j+2,_,hj=>exact hj.elim
 ·rcases hb with hb | hb
  ·refine⟨?_,(ht.new b hb).2⟩;rcases(ht.new b hb).1 with h3 | h3
   ·exact .inl (g2 0 b h3)
   ·exact .inr h3
  ·exact⟨.inl (g2 1 b hb),Nat.lt_of_lt_of_le (hF b (g2 1 b hb)) ht.size⟩
 ·exact ht.old b hb fun h0=>hn (g2 0 b h0)
structure Tu(s:aC)(z:aW):Prop where
 wn:z.wn.of s
 hs:∀j,T3 j→aFr (z.tk j)
structure HwP(s:aC)(x:aO):Prop where
 ok:cF s x
 w0:∀i:Nat,(x.wt[i]?).join=none
 po:0≤x.aS∧x.aS≤1000000000
def qP(s:aC)(x:aO)(z:aW)(j:Nat)(k:Int):Int×aW×aO:=
 if k=103 then((Fq s z j).1,(Fq s z j).2,x) else if k=112 then((Et s z j).1,(Et s z j).2,x) else if k=114 then Dp s x z j false else if k=119 then Dp s x z j true else if k=115 then((Ek s z).1,(Ek s z).2,x) else((Er s z).1,(Er s z).2,x)
theorem aRt{k:Int}(hk:qK k):∃(tx:TypeId) (u u':Value) (fn:FuncId),Nq k=.iface tx u∧(∀w,(method (Tryz.prog.types.size+Made.depth) tx u "catnap/rpm.begin").run Tryz.prog w=.ok (fn,u') w)∧fI Tryz.prog fn=true∧
  ∀(g f:Nat) (hL:HL) (s:aC) (z:aW) (x:aO) (w:World) (F:Nat→Prop) (j:Nat),s.made→gE hL s→HwP s x→Tu s z→T3 j→(Ln g f hL s z x).sat F w→(∀b,F b→b < w.heap.size)→kQ ⟨w,fun b=>b < w.heap.size∧¬F b⟩→
   Cz fn #[u',pt g,.pointer (some ⟨g,10+13*j,none⟩)] w (Wr (iv (qP s x z j k).1) (Ln g f hL s (qP s x z j k).2.1 (qP s x z j k).2.2) w F):=by
 rcases hk with rfl | rfl | rfl | rfl | rfl | rfl
 ·exact⟨_,_,.agg #[],276,rfl,fun w=>by kernel_rfl,(by kernel_rfl),fun g f hL s z x w F j hm aV hx hz hj hp hF _=>aB5 (fun F h1 h2=>aM8 g hL.h f s z w F hm hz.wn j hj (hz.hs j hj) h1 h2) hp hF⟩
 ·exact⟨_,_,.agg #[],290,rfl,fun w=>by kernel_rfl,(by kernel_rfl),fun g f hL s z x w F j hm aV hx hz hj hp hF _=>aB5 (fun F h1 h2=>aM6 g hL.h f s z w F hm hz.wn j hj (hz.hs j hj) h1 h2) hp hF⟩
 ·exact⟨_,_,.agg #[.bool false],291,rfl,fun w=>by kernel_rfl,(by kernel_rfl),fun g f hL s z x w F j hm aV hx hz hj hp hF fG=>aGB g f hL s z x w F hm aV hx.ok hx.w0 hx.po j hj false hp hF fG⟩
 ·exact⟨_,_,.agg #[.bool true],291,rfl,fun w=>by kernel_rfl,(by kernel_rfl),fun g f hL s z x w F j hm aV hx hz hj hp hF fG=>aGB g f hL s z x w F hm aV hx.ok hx.w0 hx.po j hj true hp hF fG⟩
 ·exact⟨_,_,.agg #[],297,rfl,fun w=>by kernel_rfl,(by kernel_rfl),fun g f hL s z x w F j hm aV hx hz hj hp hF _=>aB5 (fun F h1 h2=>aM2 g hL.h f s z w F hm hz.wn _ h1 h2) hp hF⟩
 ·exact⟨_,_,.agg #[],298,rfl,fun w=>by kernel_rfl,(by kernel_rfl),fun g f hL s z x w F j hm aV hx hz hj hp hF _=>aB5 (fun F h1 h2=>aM5 g hL.h f s z w F hm hz.wn _ h1 h2) hp hF⟩
theorem aIN(s:aC)(x:aO)(z:aW)(j:Nat)(k:Int):(qP s x z j k).2.1.eX=z.eX:=by
 unfold qP Fq Et Ek Er Dp
 repeat' split
 all_goals rfl
theorem aMB{h f:Nat}{L:dK}{s:aC}{z:aW}{j:Nat}{v:Int}(hj:T3 j):(kW h f L s z).set (10+13*j+0) (iv v)=kW h f L s (z.jR j {z.tk j with st:=v}):=by
 rcases hj with rfl | rfl | rfl<;>rfl
def kD(z:aW)(j:Nat):aW:={z.jR j {z.tk j with st:=2} with eX:=(j:Int)}
theorem aOh{z:aW}{j:Nat}(hj:T3 j):(kD z j).tk j={z.tk j with st:=2}:=by
 rcases hj with rfl | rfl | rfl<;>rfl
theorem aOi{s:aC}{z:aW}{j:Nat}(hj:T3 j)(h:Tu s z):Tu s (kD z j):=⟨h.wn,fun i hi=>by
 have h1:=h.hs i hi
 have h2:((kD z j).tk i).hs=(z.tk i).hs:=by
  rcases hj with rfl | rfl | rfl<;>rcases hi with rfl | rfl | rfl<;>rfl
 exact⟨by rw[h2];exact h1.len,fun k=>by
  have:=h1.bd k
  unfold hG at this⊢;rw[h2]
  exact this⟩⟩
def pM(s:aC)(x:aO)(z:aW)(j:Nat):aW×aO:=
 let r:=qP s x (kD z j) j (z.tk j).kind
 if r.1≠0 then(kE r.2.1 j r.1 0,r.2.2) else if r.2.1.aS=false∧r.2.1.steps.length=0 then(kE r.2.1 j 0 0,r.2.2) else r.2
theorem aMC(g f:Nat)(hL:HL)(s:aC)(z:aW)(x:aO)(w:World)(F:Nat→Prop)(j:Nat)(hm:s.made)(aV:gE hL s)(hx:HwP s x)(hz:Tu s z)(hj:T3 j)(hk:qK (z.tk j).kind)(hp:(Ln g f hL s z x).sat F w)(hF:∀b,F b→b < w.heap.size)(fG:kQ ⟨w,fun b=>b < w.heap.size∧¬F b⟩):
  Cz 47 #[pt g,iv (j:Int)] w (Wr (.tuple #[]) (Ln g f hL s (pM s x z j).1 (pM s x z j).2) w F):=by
 have hj2:j≤2:=by rcases hj with rfl | rfl | rfl<;>decide
 obtain⟨tx,u,u',fn,hy,hme,hcb,Bb⟩:=aRt hk
 have mQ:=aOi hj hz
 have hh:=aIN s x (kD z j) j (z.tk j).kind
 unfold pM;dsimp only;refine dB func47 ntmps47 hp hF ?_;generalize cN:(⟨w,fun b=>b < w.heap.size∧¬F b⟩:Piece)=R0 at fG⊢;refine aZ 0 0 ?_;refine kB 0 fun L=>?_;refine aZ 0 0 ?_;refine aA ?_;refine fF rfl rfl ?_ (hs:=eO.mk 0 rfl cG.h rfl (of_decide_eq_true rfl));dsimp only[List.set];rw[show(kW hL.h f L s z).set (0+49) (iv (j:Int))=kW hL.h f L s {z with eX:=(j:Int)} from rfl];refine aA ?_;refine kd (fB j (10+13*j) (ho:=by omega)) ?_;refine aA ?_;refine fF rfl rfl ?_ (hs:=eO.mk 0 rfl cG.h rfl (by rw[aAF];omega));dsimp only[List.set];rw[aMB hj];refine aM 0 0 ?_
 change XK _ _ _ _ _ [fT g hL.h f L s (kD z j),HP.many [cM,dY hL s x]]
 refine aA ?_;refine kd (bP rfl (pO 0 rfl (zQ (k:=1) hj rfl))) ?_;rw[aOh hj];refine aU (fun w1 _=>aAE (z.tk j).kind w1) ?_;rw[hy];refine fC 0 (fun L:dK=>fT g hL.h f L s (kD z j)) L ?_;refine aM 0 0 ?_;refine aA ?_;generalize hr:qP s x (kD z j) j (z.tk j).kind=r at hh⊢
 refine aFB 0 (Ln g f hL s r.2.1 r.2.2) hcb rfl hme rfl rfl ⟨by decide,rfl⟩ (fun w1 F1 t h1 h2 h3=>by
  have:=Bb g f hL s (kD z j) x w1 F1 j hm aV hx mQ hj h1 h2 (kQ.le fG (h3 _ (by simp)))
  rw[hr] at this
  exact this) ?_
 dsimp only[List.set];obtain⟨er,z2,x2⟩:=r;dsimp only at hh⊢;refine aA ?_;refine aG rfl (fun he=>?_) (fun he=>?_)
 ·rw[if_pos he];refine aA ?_;refine kd (fL rfl) ?_;refine aA ?_;refine aZ 0 0 ?_;refine eC 0 (gL g hL.h f s (kE z2 j er 0)) (fun w1 F1 t h1 h2 h3=>Jl g hL.h f s z2 w1 F1 j hh hj er 0 h1 h2) ?_;refine aM 0 0 ?_;refine aA ?_;subst cN;exact jE 0 hF
 ·rw[if_neg he];refine aZ 0 0 ?_;refine kB 0 fun L2=>?_;refine aA ?_;refine kd (bP rfl (pO 0 rfl rfl)) ?_;cases lU:z2.aS
  ·refine aA ?_;refine kd (bP rfl (pO 0 rfl rfl)) ?_;refine aA ?_;refine fC 0 (fun L:dK=>fT g hL.h f L s z2) L2 ?_;refine aG rfl (fun hn=>?_) (fun hn=>?_)
   ·rw[if_pos ⟨rfl,Int.ofNat.inj hn⟩];refine aA ?_;refine kd (fL rfl) ?_;refine aA ?_;refine eC 0 (gL g hL.h f s (kE z2 j 0 0)) (fun w1 F1 t h1 h2 h3=>Jl g hL.h f s z2 w1 F1 j hh hj 0 0 h1 h2) ?_;refine aM 0 0 ?_;subst cN;exact jE 0 hF
   ·rw[if_neg (fun h=>hn (congrArg Int.ofNat h.2))];refine aA ?_;refine aM 0 0 ?_;subst cN;exact jE 0 hF
  ·refine aA ?_;rw[if_neg (by simp)];refine fC 0 (fun L:dK=>fT g hL.h f L s z2) L2 ?_;refine aM 0 0 ?_;subst cN;exact jE 0 hF
end
section
def aFk(g h f:Nat)(s:aC)(z:aW)(y:bY):HP:=HP.many [gL g h f s z,Bz f h s y]
def qF(p:dG)(k:Int):List Int:=[(eB p.msg 0 p.pr k).1,p.id,p.v]
def Jj(a:List Int):Prop:=IntKind.i32.wrap (a.getD 1 0)=0∨IntKind.i32.wrap (a.getD 1 0)= -3
instance(a:List Int):Decidable (Jj a):=by unfold Jj;infer_instance
def sL(z:aW)(a:List Int):aW:=if Jj a then {z with sent:=false,steps:=z.steps.tail} else {z with sent:=false}
theorem aGd{z:aW}{a:List Int}(h:Jj a):sL z a={z with sent:=false,steps:=z.steps.tail}:=if_pos h
theorem aL9{z:aW}{a:List Int}(h:¬Jj a):sL z a={z with sent:=false}:=if_neg h
def qR(z:aW)(y:bY)(j:Nat):aW×bY:=
 if z.sent=true then
  match oZ y 0 with
  | none=>(z,oY y 0)
  | some a=>(if(sL z a).steps.length=0 then kE (sL z a) j 0 0 else sL z a,oY y 0)
 else
  match z.steps with
  | []=>(z,y)
  | p::_=>if(oH y 0 (qF p z.many)).1=0 then({z with sent:=true,many:=(z.many+1) % 1024},(oH y 0 (qF p z.many)).2) else(z,(oH y 0 (qF p z.many)).2)
theorem aG9{h f:Nat}{L:dK}{s:aC}{z:aW}{p:dG}{tl:List dG}{A:Option Addr}{c:Nat}(hst:z.steps=p::tl):(kW h f L s z).set 50 (.slice A (z.steps.length - 1) c)=kW h f {L with st:=(A,c)} s {z with steps:=z.steps.tail}:=by
 obtain⟨cn,wn,t0,t1,t2,eX,steps,sent,aS,id,many⟩:=z;dsimp only at hst;subst hst;rfl
theorem aI.aR5{p:Piece}{sz n k:Nat}{A A':Option Addr}{xs:List Value}(h:aI p sz A n xs)(hk:k≤n)(hA:k < n→∀b off,A=some ⟨b,off,none⟩→A'=some ⟨b,off+k*sz,none⟩):aI p sz A' (n - k) (xs.drop (k*sz)):=by
 refine⟨by rw[List.length_drop,h.1,Nat.sub_mul],fun h0=>?_⟩;obtain⟨b,off,hA2,hz,hc⟩:=h.2 (by omega);refine⟨b,off+k*sz,hA (by omega) b off hA2,hz,fun j u hu=>?_⟩;rw[List.getElem?_drop] at hu;rw[Nat.add_assoc];exact hc _ u hu
theorem aJX{N:cH}{w0:World}{e:Env}{R:List Piece}{H:List HP}{K:Act→World→Prop}(i:Nat){b:Nat}{t:TypeId}{cs cs':List Value}(hi:H[i]? =some (HP.aE b t cs))(he:cs=cs')(k:XK N w0 K e R (H.set i (HP.aE b t cs'))):XK N w0 K e R H:=by
 subst he;obtain⟨hlt,hx⟩:=List.getElem?_eq_some_iff.1 hi;rw[←hx,List.set_getElem_self hlt] at k;exact k
def Ii(L:dK):dK:={L with st:=(if L.st.2=1 then L.st.1 else L.st.1.map (·.add (1*4)),L.st.2 - 1)}
theorem oP.tail{L:dK}{p:dG}{l tl:List dG}{q:Piece}(hl:l=p::tl)(h:oP L l q):oP (Ii L) l.tail q:=by
 subst hl;obtain⟨h1,h2⟩:=h;simp only[List.length_cons] at h2;refine⟨h1.aR5 (k:=1) (by simp) fun hlt b off hA=>?_,by simp only[List.tail_cons,Ii];omega⟩;simp only[List.length_cons] at hlt;unfold Ii;dsimp only;rw[if_neg (by omega),hA];rfl
section
variable(g h f:Nat)(s:aC)(z:aW)(y:bY)(w:World)(F:Nat→Prop)
theorem aMF(j:Nat)(hh:z.eX=(j:Int))(hj:T3 j)(hne:z.steps≠[])(hmy:0≤z.many∧z.many < 1024)(hpk:∀p∈z.steps,(eB p.msg 0 p.pr z.many).2=0)(hra:∀a,oZ y 0=some a→2≤a.length)(hp:(aFk g h f s z y).sat F w)(hF:∀b,F b→b < w.heap.size):
  Cz 48 #[pt g] w (fun v w'=>v=.returned (.tuple #[])∧∃F',(aFk g h f s (qR z y j).1 (qR z y j).2).sat F' w'∧iH w w' F F'):=by
 obtain⟨p,tl,hst⟩:=List.exists_cons_of_ne_nil hne
 have Fe:z.steps.length=tl.length+1:=by rw[hst];rfl
 refine dB func48 ntmps48 hp hF ?_;generalize cN:(⟨w,fun b=>b < w.heap.size∧¬F b⟩:Piece)=R0;refine aZ 0 0 ?_;refine kB 0 fun L=>?_;refine aZ 0 0 ?_;refine aZ 1 5 ?_;refine aZ 3 1 ?_;refine aA ?_;cases hse:z.sent
 ·have Xt:qR z y j=if(oH y 0 (qF p z.many)).1=0 then({z with sent:=true,many:=(z.many+1) % 1024},(oH y 0 (qF p z.many)).2) else(z,(oH y 0 (qF p z.many)).2):=by
   unfold qR;rw[if_neg (by rw[hse];simp),hst]
  rw[Xt]
  have aP1:=hpk p (by rw[hst];simp)
  have hfm:z.steps.flatMap dG.cells=p.cells++tl.flatMap dG.cells:=by rw[hst];rfl
  refine aA ?_;refine aER (A:=L.st.1) (sz:=4) (n:=z.steps.length) (xs:=z.steps.flatMap dG.cells) 1 rfl (fun _ h=>h.1) (by omega) fun b off hA=>?_;refine iO [1,2,3,4,5,7,8,9,12,13] ?_;refine bH 0 ?_;refine aK 1 ?_;refine aK 2 ?_;refine aK 3 ?_;refine aK 4 ?_ (hi:=rfl) (dD:=dat 0 off (hx:=by rw[←hA];rfl) (hj:=rfl));refine aK 5 ?_ (hi:=rfl) (dD:=pL rfl (aQ.of (vs:=p.cells) fun i v hv=>Rd.cE 1 rfl (fun _ h=>h.1) hA (by omega) (by rw[hfm,List.getElem?_append_left (List.getElem?_eq_some_iff.1 hv).1];exact hv)));refine bH 6 ?_;refine aK 7 ?_;refine aK 8 ?_;refine aK 9 ?_;refine aJ 10 ?_;refine jS [] (aCu (qF p z.many)) (fun w1 t=>aLd p.pr p.msg p.id p.v z.many w1 aP1) ?_;rintro _ w1 q1 ⟨Am,cm,rfl,hmw⟩ hf _ _
  have hmw:=hmw.le hf
  clear hf;refine bB ?_;refine aJ 11 ?_;refine bA ?_;refine bB ?_;refine aK 12 ?_;refine aK 13 ?_;refine aJ 14 ?_;refine bA ?_;refine bB ?_;refine aJ 15 ?_;refine bA ?_;refine bB ?_;refine eN ?_;refine aA ?_;refine eC 0 (Bz f h s (oH y 0 (qF p z.many)).2) (fun w1 F1 t h1 h2 h3=>aQL f h s y 0 Am _ cm (qF p z.many) w1 F1 h1 h2 (hmw.le (h3 _ (by simp))) rfl (by simp[qF])) ?_;refine aA ?_;refine aG rfl (fun h0=>?_) (fun h0=>?_)
  ·rw[if_pos h0];refine aA ?_;refine fF rfl rfl ?_ (hs:=eO.mk 2 rfl cG.h rfl (of_decide_eq_true rfl));dsimp only[List.set];rw[show(kW h f L s z).set (0+51) (.bool true)=kW h f L s {z with sent:=true} from rfl];refine aA ?_;refine kd (Nu (i:=z.many) (j:=1) (c:=z.many+1) rfl rfl (iT (by omega))) ?_;refine kd (aIX (i:=z.many+1) (j:=1024) (c:=(z.many+1) % 1024) rfl rfl (by decide) (rem_in (by omega))) ?_;refine aA ?_;refine fF rfl rfl ?_ (hs:=eO.mk 2 rfl cG.h rfl (of_decide_eq_true rfl));dsimp only[List.set];rw[show(kW h f L s {z with sent:=true}).set (0+54) (iv ((z.many+1) % 1024))=kW h f L s {z with sent:=true,many:=(z.many+1) % 1024} from rfl];refine aA ?_;refine aM 3 1 ?_;refine aM 1 5 ?_;refine aM 0 0 ?_;refine fC 0 (fun L:dK=>fT g h f L s {z with sent:=true,many:=(z.many+1) % 1024}) L ?_;refine aM 0 0 ?_;subst cN;exact jE 0 hF
  ·rw[if_neg h0];refine aA ?_;refine aM 3 1 ?_;refine aM 1 5 ?_;refine aM 0 0 ?_;refine fC 0 (fun L:dK=>fT g h f L s z) L ?_;refine aM 0 0 ?_;subst cN;exact jE 0 hF
 ·cases hr:oZ y 0 with
  | none =>
   have Xt:qR z y j=(z,oY y 0):=by
    unfold qR;rw[if_pos hse,hr]
   rw[Xt];refine aA ?_
   refine zM (α:=AC) 0 (f:=95) (fi:=[]) (ca:=[]) (fun c=>Vi none c) (fun c=>Jo f h s (oY y 0) [] c) (fun _=>True) (by kernel_rfl) rfl rfl rfl (by decide) (fun w1 F1 t h1 h2 h3=>by
    have:=aI8 f h s y 0 w1 F1 h1 h2
    rw[hr] at this
    exact this) ?_
   rintro⟨Ar,cr⟩ _;dsimp only[List.set,Vi];refine aZ 0 0 ?_;refine aY [0,2,3,4,5] rfl (by decide) (fun _ h=>h) ?_;refine aA ?_;refine aM 3 1 ?_;refine aM 1 5 ?_;refine aM 0 0 ?_;refine fC 0 (fun L:dK=>fT g h f L s z) L ?_;refine aM 0 0 ?_;subst cN;exact jE 0 hF
  | some a =>
   have Xt:qR z y j=(if(sL z a).steps.length=0 then kE (sL z a) j 0 0 else sL z a,oY y 0):=by
    unfold qR;rw[if_pos hse,hr]
   rw[Xt]
   have vZ:=hra a hr
   have ha1:a[1]? =some (a.getD 1 0):=by rw[List.getD_eq_getElem?_getD,List.getElem?_eq_getElem (by omega)];rfl
   refine aA ?_
   refine zM (α:=AC) 0 (f:=95) (fi:=[]) (ca:=[]) (fun c=>Vi (some a) c) (fun c=>Jo f h s (oY y 0) a c) (fun _=>True) (by kernel_rfl) rfl rfl rfl (by decide) (fun w1 F1 t h1 h2 h3=>by
    have:=aI8 f h s y 0 w1 F1 h1 h2
    rw[hr] at this
    exact this) ?_
   rintro⟨Ar,cr⟩ _;dsimp only[List.set,Vi];refine aZ 0 0 ?_;refine aZ 1 1 ?_;refine aY [1,3,4,5,6,0] rfl (by decide) (fun _ h=>h) ?_;refine aA ?_;refine fF rfl rfl ?_ (hs:=eO.mk 2 rfl cG.h rfl (of_decide_eq_true rfl));dsimp only[List.set];refine aA ?_;refine aU (fun w1 t=>aLK Ar _ cr a _ w1 (t.cE 5 rfl) rfl vZ ha1) ?_;generalize vV:IntKind.i32.wrap (a.getD 1 0)=sv;rw[show(kW h f L s z).set (0+51) (.bool false)=kW h f L s {z with sent:=false} from rfl];refine aA ?_;refine bU (t:=73) rfl (fun h0=>?_) (fun h0=>?_)
   ·rw[aGd (show Jj a from .inl (vV.trans h0))];refine aA ?_;refine kd (aIV (n:=z.steps.length) (l:=1) rfl rfl (by omega)) ?_;refine aA ?_;refine fF rfl rfl ?_ (hs:=eO.mk 2 rfl cG.h rfl (of_decide_eq_true rfl));dsimp only[List.set];refine aJX 2 rfl (aG9 (z:={z with sent:=false}) hst) ?_;dsimp only[List.set];refine Bm (q:=HP.cE (oP (Ii L) z.steps.tail) (oP.le (L:=Ii L) (l:=z.steps.tail))) 1 rfl (fun F w hs=>oP.tail hst hs) ?_;dsimp only[List.set];refine aA ?_;refine aM 3 1 ?_;refine aM 1 5 ?_;refine aM 0 0 ?_;refine xG 0 (f:=fun L:dK=>fT g h f L s {z with sent:=false,steps:=z.steps.tail}) (Ii L) rfl ?_;dsimp only[List.set];refine aA ?_;refine aG rfl (fun hn=>?_) (fun hn=>?_)
    ·rw[if_pos (Int.ofNat.inj hn)];refine aA ?_;refine kd (fL rfl) ?_;refine aA ?_;refine eC 0 (gL g h f s (kE {z with sent:=false,steps:=z.steps.tail} j 0 0)) (fun w1 F1 t h1 h2 h3=>Jl g h f s {z with sent:=false,steps:=z.steps.tail} w1 F1 j hh hj 0 0 h1 h2) ?_;refine aM 0 0 ?_;subst cN;exact jE 0 hF
    ·rw[if_neg (fun h=>hn (congrArg Int.ofNat h))];refine aA ?_;refine aM 0 0 ?_;subst cN;exact jE 0 hF
   ·refine aA ?_;refine aG rfl (fun h3=>?_) (fun h3=>?_)
    ·rw[aGd (show Jj a from .inr (vV.trans h3))];refine aA ?_;refine kd (aIV (n:=z.steps.length) (l:=1) rfl rfl (by omega)) ?_;refine aA ?_;refine fF rfl rfl ?_ (hs:=eO.mk 2 rfl cG.h rfl (of_decide_eq_true rfl));dsimp only[List.set];refine aJX 2 rfl (aG9 (z:={z with sent:=false}) hst) ?_;dsimp only[List.set];refine Bm (q:=HP.cE (oP (Ii L) z.steps.tail) (oP.le (L:=Ii L) (l:=z.steps.tail))) 1 rfl (fun F w hs=>oP.tail hst hs) ?_;dsimp only[List.set];refine aA ?_;refine aM 3 1 ?_;refine aM 1 5 ?_;refine aM 0 0 ?_;refine xG 0 (f:=fun L:dK=>fT g h f L s {z with sent:=false,steps:=z.steps.tail}) (Ii L) rfl ?_;dsimp only[List.set];refine aA ?_;refine aG rfl (fun hn=>?_) (fun hn=>?_)
     ·rw[if_pos (Int.ofNat.inj hn)];refine aA ?_;refine kd (fL rfl) ?_;refine aA ?_;refine eC 0 (gL g h f s (kE {z with sent:=false,steps:=z.steps.tail} j 0 0)) (fun w1 F1 t h1 h2 h3=>Jl g h f s {z with sent:=false,steps:=z.steps.tail} w1 F1 j hh hj 0 0 h1 h2) ?_;refine aM 0 0 ?_;subst cN;exact jE 0 hF
     ·rw[if_neg (fun h=>hn (congrArg Int.ofNat h))];refine aA ?_;refine aM 0 0 ?_;subst cN;exact jE 0 hF
    ·rw[aL9 (show ¬Jj a from fun h=>h.elim (fun h=>h0 (vV▸h)) (fun h=>h3 (vV▸h)))];refine aA ?_;refine aM 3 1 ?_;refine aM 1 5 ?_;refine aM 0 0 ?_;refine fC 0 (fun L:dK=>fT g h f L s {z with sent:=false}) L ?_;refine aA ?_;refine aG rfl (fun hn=>?_) (fun hn=>?_)
     ·rw[if_pos (Int.ofNat.inj hn)];refine aA ?_;refine kd (fL rfl) ?_;refine aA ?_;refine eC 0 (gL g h f s (kE {z with sent:=false} j 0 0)) (fun w1 F1 t h1 h2 h3=>Jl g h f s {z with sent:=false} w1 F1 j hh hj 0 0 h1 h2) ?_;refine aM 0 0 ?_;subst cN;exact jE 0 hF
     ·rw[if_neg (fun h=>hn (congrArg Int.ofNat h))];refine aA ?_;refine aM 0 0 ?_;subst cN;exact jE 0 hF
end
end
section
theorem Md(w:World):CallsD Tryz.prog 46 #[] .returning w fun e u' w'=>e=.returned (.tuple #[])∧u'=.returning∧w'=w:=by
 refine callsD_of_wpS func46 rfl fun c₀ cs hu=>?_;apply wpS_region;simp[wpOpsS,go_sem,recoverD,hu,ntmps46,Exit.thenS];cases c₀;simp_all [bodyPostS,results,Tryz.results46]
def aCp(g f:Nat)(hL:HL)(s:aC)(z:aW)(y:bY)(x:aO):HP:=HP.many [gL g hL.h f s z,Bz f hL.h s y,dY hL s x]
structure aKo(s:aC)(z:aW)(y:bY):Prop where
 ok:Tu s z
 call:∀j,T3 j→(z.tk j).st=1→qK (z.tk j).kind
 work:∀j:Nat,T3 j→(z.tk j).st=2→z.eX=(j:Int)∧(z.aS=false→z.steps≠[])
 many:0≤z.many∧z.many < 1024
 pack:∀p∈z.steps,(eB p.msg 0 p.pr z.many).2=0
 ans:∀a,oZ y 0=some a→2≤a.length
def Em(s:aC)(z:aW)(y:bY)(x:aO)(t:Int):aW×bY×aO:=
 if bN 3 t=false then(z,y,x)
 else if(z.tk t.toNat).st=1 then(if z.eX < 0 then((pM s x z t.toNat).1,y,(pM s x z t.toNat).2) else(z,y,x))
 else if(z.tk t.toNat).st=2 then(if z.aS=false then((qR z y t.toNat).1,(qR z y t.toNat).2,x) else(z,y,x))
 else(z,y,x)
theorem aM3(g f:Nat)(hL:HL)(s:aC)(z:aW)(y:bY)(x:aO)(w:World)(F:Nat→Prop)(t:Int)(hm:s.made)(aV:gE hL s)(hx:z.eX < 0→HwP s x)(hz:aKo s z y)(hp:(aCp g f hL s z y x).sat F w)(hF:∀b,F b→b < w.heap.size)(fG:kQ ⟨w,fun b=>b < w.heap.size∧¬F b⟩):
  Cz 19 #[pt g,iv t] w (fun v w'=>v=.returned (.tuple #[])∧∃F',(aCp g f hL s (Em s z y x t).1 (Em s z y x t).2.1 (Em s z y x t).2.2).sat F' w'∧iH w w' F F'):=by
 unfold Em;refine Zz (vs:=[pt g,iv t]) (p:=aCp g f hL s z y x) func19 rfl ntmps19 (by simp) hp hF ?_;generalize cN:(⟨w,fun b=>b < w.heap.size∧¬F b⟩:Piece)=R0 at fG⊢;refine aA ?_;refine Ud (f:=46) (fi:=[]) (ca:=[]) rfl ?_;refine aA ?_;refine aU (fun w1 _=>Vd t w1) ?_;cases hin:bN 3 t
 ·refine aA ?_;subst cN;exact Bo (.inl rfl) (by kernel_rfl) Md rfl fun w1 t=>⟨rfl,t.turns hF (by simp) (i:=0) rfl⟩
 ·obtain⟨j,rfl,hj⟩:=Jy hin
  have hj2:j≤2:=by rcases hj with rfl | rfl | rfl<;>decide
  rw[if_neg (by simp),Int.toNat_natCast];refine aZ 0 0 ?_;refine kB 0 fun L=>?_;refine aA ?_;refine kd (fB j (10+13*j) (ho:=by omega)) ?_;refine aA ?_;refine kd (bP rfl (pO 0 rfl (zQ (k:=0) hj rfl))) ?_;refine aA ?_;refine aG rfl (fun h1=>?_) (fun h1=>?_)
  ·rw[if_pos h1];refine aA ?_;refine kd (bP rfl (pO 0 rfl rfl)) ?_;refine aA ?_;refine fC 0 (fun L:dK=>fT g hL.h f L s z) L ?_;refine aM 0 0 ?_;refine aG rfl (fun h2=>?_) (fun h2=>?_)
   ·rw[if_pos h2];refine aZ 0 0 ?_;refine aZ 1 2 ?_;refine aY [1,0,2] rfl (by decide) (fun _ h=>h) ?_;refine nB ?_;refine aA ?_;refine eC 0 (Ln g f hL s (pM s x z j).1 (pM s x z j).2) (fun w1 F1 t Xx Xw h3=>aMC g f hL s z x w1 F1 j hm aV (hx h2) hz.ok hj (hz.call j hj h1) Xx Xw (kQ.le fG (h3 _ (by simp)))) ?_;refine aZ 0 0 ?_;refine aZ 1 1 ?_;refine aM 2 2 ?_;refine aM 1 0 ?_;refine aA ?_;subst cN;exact Bo (.inr rfl) (by kernel_rfl) Md rfl fun w1 t=>⟨rfl,t.turns hF (by simp) (i:=1) rfl⟩
   ·rw[if_neg h2];refine aA ?_;subst cN;exact Bo (.inr rfl) (by kernel_rfl) Md rfl fun w1 t=>⟨rfl,t.turns hF (by simp) (i:=0) rfl⟩
  ·rw[if_neg h1];refine aA ?_;refine aG rfl (fun h2=>?_) (fun h2=>?_)
   ·rw[if_pos h2];obtain⟨hh,hne⟩:=hz.work j hj h2;refine aA ?_;refine kd (bP rfl (pO 0 rfl rfl)) ?_;cases lU:z.aS
    ·refine aA ?_;refine fC 0 (fun L:dK=>fT g hL.h f L s z) L ?_;refine aM 0 0 ?_;refine aZ 0 0 ?_;refine aZ 1 1 ?_;refine aY [1,0,2] rfl (by decide) (fun _ h=>h) ?_;refine nB ?_;refine aA ?_;refine eC 0 (aFk g hL.h f s (qR z y j).1 (qR z y j).2) (fun w1 F1 t Xx Xw h3=>aMF g hL.h f s z y w1 F1 j hh hj (hne lU) hz.many hz.pack hz.ans Xx Xw) ?_;refine aZ 0 0 ?_;refine aZ 1 1 ?_;refine aM 2 1 ?_;refine aM 1 0 ?_;refine aA ?_;subst cN;exact Bo (.inr rfl) (by kernel_rfl) Md rfl fun w1 t=>⟨rfl,t.turns hF (by simp) (i:=1) rfl⟩
    ·refine aA ?_;refine fC 0 (fun L:dK=>fT g hL.h f L s z) L ?_;refine aM 0 0 ?_;subst cN;exact Bo (.inr rfl) (by kernel_rfl) Md rfl fun w1 t=>⟨rfl,t.turns hF (by simp) (i:=0) rfl⟩
   ·rw[if_neg h2];refine aA ?_;refine fC 0 (fun L:dK=>fT g hL.h f L s z) L ?_;refine aM 0 0 ?_;subst cN;exact Bo (.inr rfl) (by kernel_rfl) Md rfl fun w1 t=>⟨rfl,t.turns hF (by simp) (i:=0) rfl⟩
end
section
def Bj(z:aW)(a:nG):aW:=if z.aS=false then z else if a.id≠z.id then z else if a.dead=true then kE z z.eX.toNat 6 0 else kE z z.eX.toNat 0 a.val
def xE(z:aW)(l:List nG):aW:=l.foldl Bj z
def Ox(z:aW):Prop:=z.aS=true→∃j:Nat,z.eX=(j:Int)∧T3 j
theorem aTt{z:aW}{a:nG}(h:Ox z):Ox (Bj z a):=by
 unfold Bj;split
 ·exact h
 split
 ·exact h
 split
 ·intro h1;cases h1
 ·intro h1;cases h1
theorem aTz{l:List nG}:∀{z:aW},Ox z→Ox (xE z l):=by
 induction l with
 | nil=>exact fun h=>h
 | cons a l ih=>exact fun h=>ih (aTt h)
theorem aTy{z:aW}{l:List nG}{i:Nat}{a:nG}(h:l[i]? =some a):xE z (l.take (i+1))=Bj (xE z (l.take i)) a:=by
 obtain⟨hi,rfl⟩:=List.getElem?_eq_some_iff.1 h;unfold xE;rw[List.take_succ_eq_append_getElem hi,List.foldl_append];rfl
theorem aTs{l:List nG}{i k:Nat}{a:nG}{v:Value}(h:l[i]? =some a)(hv:a.cells[k]? =some v):(l.flatMap nG.cells)[i*4+k]? =some v:=by
 induction l generalizing i with
 | nil=>simp at h
 | cons x l ih =>
  cases i with
  | zero=>
   simp at h;subst h;rw[Nat.zero_mul,Nat.zero_add,List.flatMap_cons,List.getElem?_append_left (List.getElem?_eq_some_iff.1 hv).1];exact hv
  | succ i=>
   rw[List.getElem?_cons_succ] at h;rw[List.flatMap_cons,show(i+1)*4+k=x.cells.length+(i*4+k) by simp[nG.cells];omega,List.getElem?_append_right (by omega),Nat.add_sub_cancel_left];exact ih h
theorem aME(g h f:Nat)(s:aC)(z:aW)(w:World)(F:Nat→Prop)(A:Option Addr)(c:Nat)(l:List nG)(hl:l.length≤1000)(aPz:Ox z)(hp:(gL g h f s z).sat F w)(hF:∀b,F b→b < w.heap.size)(hs:aI ⟨w,fun b=>b < w.heap.size∧¬F b⟩ 4 A l.length (l.flatMap nG.cells)):
  Cz 21 #[pt g,.slice A l.length c] w (fun v w'=>v=.returned (.tuple #[])∧∃F',(gL g h f s (xE z l)).sat F' w'∧iH w w' F F'):=by
 refine dB func21 ntmps21 hp hF ?_;generalize cN:(⟨w,fun b=>b < w.heap.size∧¬F b⟩:Piece)=R0 at hs⊢;refine aA ?_;refine bL [(8,iv 0),(7,iv l.length),(6,.slice A l.length c),(0,pt g),(1,.slice A l.length c)] ?_;refine eJ (fun m e R H=>∃i:Nat,i≤l.length∧m=l.length - i∧e=[(8,iv i),(7,iv l.length),(6,.slice A l.length c),(0,pt g),(1,.slice A l.length c)]∧R=[R0]∧H=[gL g h f s (xE z (l.take i))]) l.length ⟨0,by omega,rfl,rfl,rfl,rfl⟩ fun m e R H hI=>?_;obtain⟨i,hi,rfl,rfl,rfl,rfl⟩:=hI;refine aA ?_;refine aG rfl (fun hlt=>?_) (fun hge=>?_)
 ·have hlt:i < l.length:=by omega
  obtain⟨a,ha⟩:=get_some hlt;obtain⟨b,off,rfl,gF,hc⟩:=hs.2 (by omega)
  have dU:=aTy (z:=z) ha
  have aHX:Ox (xE z (l.take i)):=aTz aPz
  generalize xE z (l.take i)=zi at dU aHX⊢;obtain⟨Sz,Zj,Nz,Lf⟩:=a;refine aA ?_;refine kd (dat i (off+i*4)) ?_;refine kd (pL rfl (aQ.of (vs:=[iv Sz,iv Zj,.bool Nz,.int .u32 Lf]) fun k v hv=>Rd.ro (p:=R0) (by simp) gF (by rw[Nat.add_assoc];exact hc _ _ (aTs ha hv)))) ?_;refine bT fun g1=>?_;refine aA ?_;refine kB 1 fun L=>?_;refine mM ?_;refine jC ?_;refine xF (bP rfl (pO 1 rfl rfl)) ?_;cases lU:zi.aS
  ·have hst:Bj zi ⟨Sz,Zj,Nz,Lf⟩=zi:=if_pos lU
   refine jD ?_;refine fC 1 (fun L:dK=>fT g h f L s zi) L ?_;refine aA ?_;refine aY [1] rfl (by decide) (fun _ h=>h) ?_;refine bL [(8,iv (i+1:Nat)),(7,iv l.length),(6,.slice (some ⟨b,off,none⟩) l.length c),(0,pt g),(1,.slice (some ⟨b,off,none⟩) l.length c)] ?_;exact iF (l.length - (i+1)) (by omega) ⟨i+1,by omega,rfl,rfl,rfl,by rw[dU,hst];rfl⟩
  ·obtain⟨j,hj,hj3⟩:=aHX lU
   have Fp:0≤zi.eX:=by omega
   have Mq:Bj zi ⟨Sz,Zj,Nz,Lf⟩=if Sz≠zi.id then zi else if Nz=true then kE zi zi.eX.toNat 6 0 else kE zi zi.eX.toNat 0 Lf:=if_neg (by rw[lU];simp)
   refine jC ?_;refine xF (bP rfl (pO 1 rfl rfl)) ?_;refine jD ?_;refine fC 1 (fun L:dK=>fT g h f L s zi) L ?_;refine aA ?_;refine aG rfl (fun hne=>?_) (fun hne=>?_)
   ·rw[if_pos hne] at Mq;refine aA ?_;refine aY [1] rfl (by decide) (fun _ h=>h) ?_;refine bL [(8,iv (i+1:Nat)),(7,iv l.length),(6,.slice (some ⟨b,off,none⟩) l.length c),(0,pt g),(1,.slice (some ⟨b,off,none⟩) l.length c)] ?_;exact iF (l.length - (i+1)) (by omega) ⟨i+1,by omega,rfl,rfl,rfl,by rw[dU,Mq];rfl⟩
   ·rw[if_neg hne] at Mq;refine aA ?_;cases Nz
    ·refine aB ?_;refine eC 1 (gL g h f s (kE zi zi.eX.toNat 0 Lf)) (fun w1 F1 t h1 h2 h3=>Jl g h f s zi w1 F1 zi.eX.toNat (by omega) (by rw[hj,Int.toNat_natCast];exact hj3) 0 Lf h1 h2) ?_;refine aA ?_;refine aY [1] rfl (by decide) (fun _ h=>h) ?_;refine bL [(8,iv (i+1:Nat)),(7,iv l.length),(6,.slice (some ⟨b,off,none⟩) l.length c),(0,pt g),(1,.slice (some ⟨b,off,none⟩) l.length c)] ?_;exact iF (l.length - (i+1)) (by omega) ⟨i+1,by omega,rfl,rfl,rfl,by rw[dU,Mq];rfl⟩
    ·refine aB ?_;refine eC 1 (gL g h f s (kE zi zi.eX.toNat 6 0)) (fun w1 F1 t h1 h2 h3=>Jl g h f s zi w1 F1 zi.eX.toNat (by omega) (by rw[hj,Int.toNat_natCast];exact hj3) 6 0 h1 h2) ?_;refine aA ?_;refine aY [1] rfl (by decide) (fun _ h=>h) ?_;refine bL [(8,iv (i+1:Nat)),(7,iv l.length),(6,.slice (some ⟨b,off,none⟩) l.length c),(0,pt g),(1,.slice (some ⟨b,off,none⟩) l.length c)] ?_;exact iF (l.length - (i+1)) (by omega) ⟨i+1,by omega,rfl,rfl,rfl,by rw[dU,Mq];rfl⟩
 obtain rfl:i=l.length:=by omega
 rw[List.take_length];refine aA ?_;subst cN;exact jE 0 hF
end
section
section
variable(s:aC)(A1 A2 A3 A4:Option Addr)(n1 k1 n2 k2 n3 k3 n4 k4:Nat)(w:World)
def aKE(s:aC)(v:Value)(hs:List HP)(_:Piece):Prop:=∃gc gm A k,v=.tuple #[pt gc,iv 0]∧hs=[Lt gc gm A k (cY s) ⟨[],false⟩]
theorem aSs(hm:s.made)(hW:fM w s A1 n1 A2 n2 A3 n3 A4 n4):
  Cz 24 #[.agg #[.slice A1 n1 k1,.slice A2 n2 k2,.slice A3 n3 k3,.slice A4 n4 k4]] w (fun y w'=>(∃v hs q,y=.returned v∧q.w=w'∧aKE s v hs q∧kC w hs q)∧Below w.heap.size w w'):=by
 obtain rfl:=hW.nJ;obtain rfl:=hW.nT;obtain rfl:=hW.pS;obtain rfl:=hW.oK;refine aN func24 ntmps24 ?_;refine aA ?_;refine bF fun g1=>?_;refine aA ?_;refine aU (fun w1 t=>Sw s A1 A2 A3 A4 _ k1 _ k2 _ k3 _ k4 w1 (hW.le (t.started (by simp))) (aAZ hm)) ?_;refine aA ?_;refine jS [] (wN (cY s)) (fun w1 t=>aHt s A1 A2 A3 A4 _ k1 _ k2 _ k3 _ k4 w1 (hW.le (t.started (by simp)))) ?_;rintro _ w1 q1 ⟨Ag,cg,rfl,lH⟩ hf _ hfr
 have lH:=lH.le hf
 refine Of (Φ:=Dv Ag (cY s)) (hm:=Dv.le) (hfr (by simp)) (by simp[all]) lH ?_;refine aAs (by decide) fun gm=>?_;refine kd (fL rfl) ?_;refine bF fun g2=>?_;refine aA ?_;refine aY [0,1,2] rfl (by decide) (R':=[all w]) (by simp) ?_;refine nB ?_;refine nB ?_;refine dP [] [] [0] (by simp) rfl (by decide) (by decide) fun q _ _ hfr=>?_;exact eL rfl rfl rfl fun w1 t=>⟨⟨_,_,⟨w1,q.Z⟩,rfl,rfl,⟨g2,gm,Ag,cg,rfl,rfl⟩,t.newR (by simp) (by simp) (hfr (by simp) (by simp))⟩,t.below (by simp)⟩
def Jk(s:aC):aW:={rp0 s with wn:=eU s []}
def aKn(h f:Nat)(s:aC)(v:Value)(hs:List HP)(_:Piece):Prop:=∃g,v=.tuple #[pt g,iv 0]∧hs=[gL g h f s (Jk s)]
theorem aM0(h f:Nat)(hm:s.made)(hW:fM w s A1 n1 A2 n2 A3 n3 A4 n4):
  Cz 36 #[pt h,pt f,.agg #[.slice A1 n1 k1,.slice A2 n2 k2,.slice A3 n3 k3,.slice A4 n4 k4]] w (fun y w'=>(∃v hs q,y=.returned v∧q.w=w'∧aKn h f s v hs q∧kC w hs q)∧Below w.heap.size w w'):=by
 obtain rfl:=hW.nJ;obtain rfl:=hW.nT;obtain rfl:=hW.pS;obtain rfl:=hW.oK;refine aN func36 ntmps36 ?_;refine aA ?_;refine bF fun g1=>?_;refine aA ?_;refine fR (aKE s) (fun w1 t=>aSs s A1 A2 A3 A4 _ k1 _ k2 _ k3 _ k4 w1 hm (hW.le (t.started (by simp)))) ?_;rintro _ _ q0 ⟨gc,gm,Ag,cg,rfl,rfl⟩ _;dsimp only[List.cons_append,List.nil_append];refine aY [0,1] rfl (by decide) (R':=[all w]) (by simp) ?_;refine aA ?_
 refine jS [] (fun v w w'=>aCt s v w w') (fun w1 t=>aE5 s A1 A2 A3 A4 _ k1 _ k2 _ k3 _ k4 w1 (hW.le (t.started (by simp))) (fun d hd=>by
  obtain⟨j,hj⟩:=List.getElem?_of_mem hd
  have:=(hm.aD j d hj).2.2.2.2.2.2.2.2.1
  omega)) ?_
 rintro _ w1 q1 ⟨cs,rfl,hcs⟩ Hl _ tN
 have tN:=tN (by simp)
 obtain⟨B1,m1,j1,B2,m2,j2,B3,m3,j3,B4,m4,j4,rfl,hsp⟩:=Dr.P hcs
 have hsp:=hsp.le Hl
 obtain⟨rfl,rfl,rfl,rfl⟩:=hsp.len;refine Of (Φ:=nD ⟨(B1,j1),(B2,j2),(B3,j3),(B4,j4),gc,gm,(Ag,cg),(none,0),(none,0),(none,0),(none,0)⟩ s) (hm:=nD.le) tN (by simp[all]) hsp ?_;refine aA ?_;refine kd (fL rfl) ?_;refine bF fun g=>?_;refine aA ?_;refine kd (pL rfl (aAk (vs:=[_,_,_,_]) 0 rfl rfl)) ?_;refine fR (aAg (eU s [])) (fun w1 t=>aA0 (all w1) s B1 B2 B3 B4 _ j1 _ j2 _ j3 _ j4 none 0 [] w1 (t.cE 1 rfl) hm (Piece.Le.refl _) (aI.nil _ _)) ?_;rintro _ _ q2 ⟨ga,gb,gd,px,rfl,rfl⟩ _;dsimp only[List.cons_append,List.nil_append];refine aA ?_;refine Qu 2 rfl ?_;dsimp only[List.set];refine aA ?_;obtain⟨L',hL'⟩:∃L':dK,L'=⟨(B1,j1),(B2,j2),(B3,j3),(B4,j4),gc,gm,(Ag,cg),(some ⟨ga,0,none⟩,(eU s []).d.length),(some ⟨gb,0,none⟩,(eU s []).c.length),(some ⟨gd,0,none⟩,(eU s []).l.length),(none,0)⟩:=⟨_,rfl⟩
 refine Bm (q:=HP.cE (vB L' (eU s [])) (vB.le (L:=L') (x:=eU s []))) 0 rfl (fun F w hs=>?_) ?_
 ·obtain⟨G,k1,k2,_⟩:=hs;subst hL';exact⟨sZ (c:=0) (k1 0 _ rfl) (fun b hb=>k2 0 b hb) (by simp[bK]),sZ (c:=0) (k1 1 _ rfl) (fun b hb=>k2 1 b hb) (by simp[bK]),sZ (c:=0) (k1 2 _ rfl) (fun b hb=>k2 2 b hb) (by simp[bK])⟩
 dsimp only[List.set];refine Dq (p:=HP.cE (oP L' []) (oP.le (L:=L') (l:=[]))) (fun w=>by subst hL';exact⟨aI.nil _ _,Nat.le_refl _⟩) ?_;refine aZ 5 0 ?_;refine aZ 6 1 ?_;refine aY [5,6,3,1,0,2] rfl (by decide) (R':=[all w]) (by simp) ?_;refine nB ?_;refine uZ ?_;refine uZ ?_;refine uZ ?_;refine uZ ?_;refine xG 0 (f:=fun L:dK=>fT g h f L s (Jk s)) L' (by subst hL';rfl) ?_;dsimp only[List.set];refine dP [] [] [0] (by simp) rfl (by decide) (by decide) fun q _ _ hfr=>?_;exact eL rfl rfl rfl fun w1 t=>⟨⟨_,_,⟨w1,q.Z⟩,rfl,rfl,⟨g,rfl,rfl⟩,t.newR (by simp) (by simp) (hfr (by simp) (by simp))⟩,t.below (by simp)⟩
end
end
section
def pK(s:aC)(z:aW)(t d:Int):Int:=if bN 3 t=false then 0 else if bN s.aD.length d=false then 0 else hG (z.tk t.toNat) d.toNat
theorem aG7(g h f:Nat)(L:dK)(s:aC)(z:aW)(w:World)(t d:Int)(mK:s.aD.length≤6)(hR:Ds w g h f L s z):Cz 33 #[pt g,iv t,iv d] w (Rt (iv (pK s z t d)) w):=by
 unfold pK;refine aN func33 ntmps33 ?_;refine aA ?_;refine aU (fun w1 _=>Vd t w1) ?_;cases hin:bN 3 t
 ·refine aA ?_;exact cZ
 ·obtain⟨j,rfl,hj⟩:=Jy hin
  have hj2:j≤2:=by rcases hj with rfl | rfl | rfl<;>decide
  rw[if_neg (by simp),Int.toNat_natCast];refine aA ?_;refine aU (fun w1 t=>aCT g h f L s z w1 d (hR.below (t.started (by simp)))) ?_;cases hid:bN s.aD.length d
  ·refine aA ?_;exact cZ
  ·have hd:=of_decide_eq_true hid
   obtain⟨dv,rfl⟩:∃n:Nat,d=(n:Int):=⟨d.toNat,by omega⟩
   have hcell:(kW h f L s z)[10+13*j+7+dv]? =some (iv (hG (z.tk j) dv)):=by
    rw[Nat.add_assoc];exact zQ hj (Ul (by omega))
   have k0:=hR.r0.at_ hcell
   rw[Nat.zero_add] at k0;rw[if_neg (by simp),Int.toNat_natCast];refine aA ?_;refine kd (fB j (10+13*j) (ho:=by omega)) ?_;refine aA ?_;refine kd (fB dv (10+13*j+7+dv) (hlt:=by omega) (ho:=by omega)) ?_;refine aA ?_;exact cZ
end
section
section
variable{s:aC}{x:aO}{z:bY}{b:Nat}{m:List Int}{k id:Int}
theorem aGT(hu:wH m)(h:(dZ s m).1=0):tW m:=by
 cases m with
 | nil=>exact absurd h (by show ¬((-10:Int)=0);decide)
 | cons w r =>
  unfold dZ at h;dsimp only at h;split at h
  ·exact absurd h (by decide)
  ·rename_i h1
   split at h
   ·exact absurd h (by decide)
   ·split at h
    ·exact absurd h (by decide)
    ·rename_i h3
     have hz:bZ w 28 4=0:=by
      refine Classical.byContradiction fun hc=>h1 (.inl ?_);unfold uG;rw[if_pos hc];decide
     refine⟨⟨w,r,rfl,hz,fun hh=>?_⟩⟩
     have hp:eF w=bZ w 10 8:=by rw[eF,if_neg (by simp[hz])]
     have Rk:eM w=bZ w 0 8:=by rw[eM,if_neg (by simp[hz])]
     have hn:(eH (eF w) (eM w)).n=1:=by
      rw[hp,Rk];rcases hh with⟨a,b⟩ | ⟨a,b⟩<;>rw[a,b]<;>rfl
     rw[hn] at h3
     have h4:r.length=1:=by omega
     obtain⟨i,rfl⟩:=List.length_eq_one_iff.1 h4;exact⟨i,rfl,hu i (by simp)⟩
end
end
section
theorem aPH:([(4,17),(7,20),(4,22)]:List (Int×Int)).all (fun q=>(List.range 1024).all fun k=>aDT q.1 q.2 k)=true:=by decide+kernel
def Ot(p:dG):Prop:=(p.msg=4∧p.pr=17)∨(p.msg=7∧p.pr=20)∨(p.msg=4∧p.pr=22)
theorem aDS{p:dG}(h:Ot p){k:Int}(h0:0≤k)(h1:k < 1024):(eB p.msg 0 p.pr k).2=0∧bZ (eB p.msg 0 p.pr k).1 28 4=0∧bZ (eB p.msg 0 p.pr k).1 0 8=p.msg∧bZ (eB p.msg 0 p.pr k).1 8 2=0∧bZ (eB p.msg 0 p.pr k).1 10 8=p.pr:=by
 have ha:=aPH
 rw[List.all_eq_true] at ha;obtain⟨n,rfl⟩:∃n:Nat,k=n:=⟨k.toNat,by omega⟩
 have key:aDT p.msg p.pr (n:Int)=true:=by
  have h2:=ha (p.msg,p.pr) (by
   obtain⟨pr,msg,id,v⟩:=p;dsimp only[Ot] at h⊢
   rcases h with⟨rfl,rfl⟩ | ⟨rfl,rfl⟩ | ⟨rfl,rfl⟩<;>simp)
  rw[List.all_eq_true] at h2;exact h2 n (List.mem_range.2 (by omega))
 obtain⟨e1,e2,e3,e4,e5,_⟩:=of_decide_eq_true key;exact⟨e1,e2,e3,e4,e5⟩
theorem aNJ(m t p k:Int):0≤(eB m t p k).1∧(eB m t p k).1 < 4294967296:=by
 unfold eB
 repeat' split
 all_goals first | exact aGZ _ _ _ _ | exact⟨Int.le_refl 0,(by decide:(0:Int) < 4294967296)⟩
theorem aT3{s:aC}{x y:bM}:∀p∈allM s x y,Ot p:=by
 intro p hp;unfold allM uY at hp;simp only[List.mem_append,jX,List.mem_map] at hp;rcases hp with⟨i,_,rfl⟩ | ⟨i,_,rfl⟩ | ⟨i,_,rfl⟩ | ⟨i,_,rfl⟩ | ⟨i,_,rfl⟩ | ⟨i,_,rfl⟩
 all_goals simp[Ot]
theorem aTp{s:aC}{x:aO}{l:List Int}{st:Int}(hl:wH l):wH (uX s x l st):=by
 have h0:0≤l.headD 0∧l.headD 0 < 4294967296:=by
  cases l with
  | nil=>exact⟨by decide,by decide⟩
  | cons a r=>exact hl a (by simp)
 have hm : wH (mH s x l) := by
  intro v hv;unfold mH at hv;dsimp only at hv;split at hv
  ·simp at hv;subst hv;decide
  ·split at hv
   ·simp at hv;subst hv;exact Pt _
   ·split at hv
    ·simp at hv;subst hv;unfold Jq
     repeat' split
     all_goals decide
    ·split at hv
     ·simp at hv;rcases hv with rfl | rfl<;>exact Pt _
     ·cases hv
 intro v hv;unfold uX at hv;rw[List.mem_cons,List.mem_cons] at hv;rcases hv with rfl | rfl | hv
 ·exact h0
 ·exact Pt _
 ·split at hv
  ·exact hm v hv
  ·cases hv
theorem aTq{s:aC}{x:aO}{l:List Int}{st:Int}:2≤(uX s x l st).length∧(uX s x l st).length≤4:=by
 have:=Mh s x l
 unfold uX;split<;>simp<;>omega
theorem aJf{s:aC}{x y:bM}{wt:List Int}{ag:Nat}{l:List Int}(hu:wH l):((jK s x y wt ag l).2.1=0∧((jK s x y wt ag l).1=0→tW l))∨((jK s x y wt ag l).1=0∧(jK s x y wt ag l).2=(dZ s l).2∧(dZ s l).1=0∧(jK s x y wt ag l).2.1≠0∧tW l∧Dw s (jK s x y wt ag l).2.1 (jK s x y wt ag l).2.2):=by
 unfold jK
 by_cases h:(dZ s l).1≠0∨(dZ s l).2.1=0∨pQ (if ag=0 then x else y) (dZ s l).2.1 (dZ s l).2.2=decide (rX (dZ s l).2.1)
 ·rw[if_pos h];exact .inl ⟨rfl,fun h=>aGT hu h⟩
 ·rw[if_neg h]
  have h1:(dZ s l).1=0:=Classical.byContradiction fun hc=>h (.inl hc)
  have h2:(dZ s l).2.1≠0:=fun hc=>h (.inr (.inl hc))
  have hr:=aGT hu h1
  have hk:Dw s (dZ s l).2.1 (dZ s l).2.2:=by
   rcases aGU (s:=s) hu with⟨h0,_⟩ | ⟨_,hk,pI,hi1,_,_⟩
   ·exact absurd h0 h2
   ·refine⟨by unfold Wb at hk;omega,fun h99=>⟨pI,?_⟩⟩;rw[h99] at hi1
    simpa[tD,Qx] using hi1
  have no:∀e:Int,e≠0→e=0→tW l:=fun _ h k=>absurd k h
  by_cases ho:rX (dZ s l).2.1
  ·rw[if_pos ho];split
   ·exact .inl ⟨rfl,no _ (by decide)⟩
   ·exact .inr ⟨rfl,rfl,h1,h2,hr,hk⟩
  ·rw[if_neg ho];split
   ·exact .inl ⟨rfl,no _ (by decide)⟩
   ·split
    ·exact .inl ⟨rfl,no _ (by decide)⟩
    ·exact .inr ⟨rfl,rfl,h1,h2,hr,hk⟩
theorem aJI(s:aC)(x:aO)(k id:Int):(nO s x k id).1.wt=x.wt∧(nO s x k id).1.aS=x.aS:=by
 unfold nO Eu Lc Gs uK Lg
 repeat' split
 all_goals exact⟨rfl,rfl⟩
structure FwB(s:aC)(y:bY):Prop where
 fm:Dy s y
 ax:y.x.of s
 ay:y.y.of s
 h0:y.h0=0∨y.h0=1∨y.h0=2
 h1:y.h1=0∨y.h1=1∨y.h1=2
 r0:y.h0=2→2≤y.w0.length
 r1:y.h1=2→2≤y.w1.length
structure rO(s:aC)(y:bY):Prop extends FwB s y where
 at_:y.at_= -1∨∃a:Nat,y.at_=(a:Int)∧a < 2∧Bc y a=1∧Dw s y.kind y.id∧tW (jV y a)
theorem rO.step{s:aC}{x:aO}{y:bY}(h:rO s y)(hx:cF s x):aCm s x y:=by
 refine⟨hx,h.fm,?_,fun _ a _ h1 h2=>?_,fun _ a _ h1=>?_⟩
 ·rcases h.at_ with h1 | ⟨a,h1,h2,_,h3,h4⟩
  ·exact .inl (by omega)
  ·exact .inr ⟨a,h1,h2,h3,h4⟩
 ·rcases aJf (s:=s) (x:=y.x) (y:=y.y) (wt:=mB s x) (ag:=a) (h.fm.box a).1 with⟨_,h3⟩ | ⟨_,_,_,h3,_⟩
  ·exact h3 h2
  ·exact absurd h1 h3
 ·rcases aJf (s:=s) (x:=y.x) (y:=y.y) (wt:=mB s x) (ag:=a) (h.fm.box a).1 with⟨h3,_⟩ | ⟨_,_,_,_,h4,h5⟩
  ·exact absurd h3 h1
  ·exact⟨h5,h4⟩
theorem aK8{s:aC}{x:aO}{y:bY}(h:FwB s y)(fN:y.at_= -1){a:Nat}(ha:a < 2)(st:Int):rO s (lC s x y a st):=by
 have hb:=h.fm.box a
 have hu:=aTp (s:=s) (x:=x) (st:=st) hb.1
 have hl:=aTq (s:=s) (x:=x) (l:=jV y a) (st:=st)
 have Hr:(uX s x (jV y a) st).length≤1000000:=Nat.le_trans hl.2 (by decide)
 unfold lC Gu;split
 ·exact⟨⟨⟨h.fm.la,hu,h.fm.u1,Hr,h.fm.n1,h.fm.sx,h.fm.sy⟩,h.ax,h.ay,.inr (.inr rfl),h.h1,fun _=>hl.1,h.r1⟩,.inl fN⟩
 ·exact⟨⟨⟨h.fm.la,h.fm.u0,hu,h.fm.n0,Hr,h.fm.sx,h.fm.sy⟩,h.ax,h.ay,h.h0,.inr (.inr rfl),h.r0,fun _=>hl.1⟩,.inl fN⟩
theorem aGr{s:aC}{x:bM}(h:x.of s)(k id:Int):(kU x k id).of s:=by
 obtain⟨h1,h2,h3⟩:=aGs x k id;exact⟨h1.trans h.d,h2.trans h.c,h3.trans h.l⟩
theorem rO.end_{s:aC}{y:bY}(h:rO s y){a:Nat}(fN:y.at_=(a:Int))(ha:a < 2)(r:aO×Bool):rO s (xC s y r):=by
 unfold xC;split
 ·rw[fN,Int.toNat_natCast];exact aK8 (y:={y with at_:= -1}) ⟨⟨h.fm.la,h.fm.u0,h.fm.u1,h.fm.n0,h.fm.n1,h.fm.sx,h.fm.sy⟩,h.ax,h.ay,h.h0,h.h1,h.r0,h.r1⟩ rfl ha 0
 ·exact h
theorem rO.next{s:aC}{x:aO}{y:bY}(hH:s.cX)(h:rO s y)(hx:cF s x):rO s (lB s x y).1∧cF s (lB s x y).2∧(lB s x y).2.wt=x.wt∧(lB s x y).2.aS=x.aS:=by
 unfold lB;dsimp only;rcases h.at_ with fN | ⟨a,fN,ha,_⟩
 ·have hlt:y.at_ < 0:=by omega
  cases hn:sP y with
  | none=>
   have ht:mW s x y=(y,false):=by unfold mW;rw[hn]
   rw[ht,if_pos ⟨hlt,rfl⟩];exact⟨h,hx,rfl,rfl⟩
  | some a =>
   have ha:=aHs h.fm.la hn
   have Hv:Bc y a=1:=by
    unfold sP at hn;split at hn
    ·cases hn;assumption
    ·split at hn
     ·cases hn;assumption
     ·cases hn
   have hla:(a:Int)=0∨(a:Int)=1:=by omega
   have ht:mW s x y=wS s x y a:=by unfold mW;rw[hn]
   rw[ht]
   by_cases hd:(gI s x y a).2.1=0
   ·have e:wS s x y a=(lC s x {y with last:=a} a (gI s x y a).1,false):=by
     unfold wS;dsimp only;rw[if_pos hd]
    rw[e,if_pos ⟨hlt,rfl⟩];exact⟨aK8 (y:={y with last:=a}) ⟨⟨hla,h.fm.u0,h.fm.u1,h.fm.n0,h.fm.n1,h.fm.sx,h.fm.sy⟩,h.ax,h.ay,h.h0,h.h1,h.r0,h.r1⟩ fN ha _,hx,rfl,rfl⟩
   ·have e:wS s x y a=({y with last:=a,x:=jZ y.x a (gI s x y a).2.1 (gI s x y a).2.2,y:=mT y.y a (gI s x y a).2.1 (gI s x y a).2.2,at_:=a,kind:=(gI s x y a).2.1,id:=(gI s x y a).2.2},true):=by
     unfold wS;dsimp only;rw[if_neg hd]
    rw[e,if_neg (by simp),if_pos hlt];dsimp only;obtain⟨hk,hr⟩:=(h.step hx).new hlt a hn hd
    have hax:(jZ y.x a (gI s x y a).2.1 (gI s x y a).2.2).of s:=by
     unfold jZ;split
     ·exact aGr h.ax _ _
     ·exact h.ax
    have hay:(mT y.y a (gI s x y a).2.1 (gI s x y a).2.2).of s:=by
     unfold mT;split
     ·exact h.ay
     ·exact aGr h.ay _ _
    obtain⟨w1,w2⟩:=aJI s x (gI s x y a).2.1 (gI s x y a).2.2
    exact⟨rO.end_ (y:={y with last:=a,x:=jZ y.x a (gI s x y a).2.1 (gI s x y a).2.2,y:=mT y.y a (gI s x y a).2.1 (gI s x y a).2.2,at_:=a,kind:=(gI s x y a).2.1,id:=(gI s x y a).2.2})
     ⟨⟨⟨hla,h.fm.u0,h.fm.u1,h.fm.n0,h.fm.n1,aRB h.fm.sx _ _ _,aRA h.fm.sy _ _ _⟩,hax,hay,h.h0,h.h1,h.r0,h.r1⟩,.inr ⟨a,rfl,ha,Hv,hk,hr⟩⟩ rfl ha _,aEN hH hx _ _,w1,w2⟩
 ·have hlt:¬y.at_ < 0:=by omega
  rw[if_neg (fun hh=>hlt hh.1),if_neg hlt];obtain⟨w1,w2⟩:=aJI s x y.kind y.id;exact⟨h.end_ fN ha _,aEN hH hx _ _,w1,w2⟩
theorem rO.send{s:aC}{y:bY}(h:rO s y)(a:Int){l:List Int}(hu:wH l)(hn:l.length≤1000000):rO s (oH y a l).2:=by
 have fN:∀b:Nat,y.at_= -1∨(∃c:Nat,y.at_=(c:Int)∧c < 2∧Bc y c=1∧Dw s y.kind y.id∧tW (jV y c)):=fun _=>h.at_
 unfold oH;split
 ·exact h
 ·split
  ·split
   ·exact h
   ·rename_i Fp
    have Fp:y.h0=0:=Classical.byContradiction Fp
    refine⟨⟨⟨h.fm.la,hu,h.fm.u1,hn,h.fm.n1,h.fm.sx,h.fm.sy⟩,h.ax,h.ay,.inr (.inl rfl),h.h1,(fun h=>absurd (show(1:Int)=2 from h) (by decide)),h.r1⟩,?_⟩;rcases h.at_ with h1 | ⟨c,h1,h2,h3,h4,h5⟩
    ·exact .inl h1
    ·refine .inr ⟨c,h1,h2,?_⟩;obtain rfl | rfl:c=0∨c=1:=by omega
     ·exact absurd (Fp.symm.trans h3) (by decide)
     ·exact⟨h3,h4,h5⟩
  ·split
   ·exact h
   ·rename_i Fp
    have Fp:y.h1=0:=Classical.byContradiction Fp
    refine⟨⟨⟨h.fm.la,h.fm.u0,hu,h.fm.n0,hn,h.fm.sx,h.fm.sy⟩,h.ax,h.ay,h.h0,.inr (.inl rfl),h.r0,fun h=>absurd (show(1:Int)=2 from h) (by decide)⟩,?_⟩;rcases h.at_ with h1 | ⟨c,h1,h2,h3,h4,h5⟩
    ·exact .inl h1
    ·refine .inr ⟨c,h1,h2,?_⟩;obtain rfl | rfl:c=0∨c=1:=by omega
     ·exact⟨h3,h4,h5⟩
     ·exact absurd (Fp.symm.trans h3) (by decide)
theorem rO.read{s:aC}{y:bY}(h:rO s y)(a:Int):rO s (oY y a):=by
 unfold oY;split
 ·split
  ·rename_i h2
   refine⟨⟨⟨h.fm.la,(fun _ hv=>by cases hv),h.fm.u1,Nat.zero_le _,h.fm.n1,h.fm.sx,h.fm.sy⟩,h.ax,h.ay,.inl rfl,h.h1,(fun h=>absurd (show(0:Int)=2 from h) (by decide)),h.r1⟩,?_⟩;rcases h.at_ with h1 | ⟨c,h1,hc,h3,h4,h5⟩
   ·exact .inl h1
   ·refine .inr ⟨c,h1,hc,?_⟩;obtain rfl | rfl:c=0∨c=1:=by omega
    ·exact absurd (h2.symm.trans h3) (by decide)
    ·exact⟨h3,h4,h5⟩
  ·exact h
 ·split
  ·split
   ·rename_i h2
    refine⟨⟨⟨h.fm.la,h.fm.u0,(fun _ hv=>by cases hv),h.fm.n0,Nat.zero_le _,h.fm.sx,h.fm.sy⟩,h.ax,h.ay,h.h0,.inl rfl,h.r0,fun h=>absurd (show(0:Int)=2 from h) (by decide)⟩,?_⟩;rcases h.at_ with h1 | ⟨c,h1,hc,h3,h4,h5⟩
    ·exact .inl h1
    ·refine .inr ⟨c,h1,hc,?_⟩;obtain rfl | rfl:c=0∨c=1:=by omega
     ·exact⟨h3,h4,h5⟩
     ·exact absurd (h2.symm.trans h3) (by decide)
   ·exact h
  ·exact h
theorem FwB.ans{s:aC}{y:bY}(h:FwB s y){b:Int}{a:List Int}(ha:oZ y b=some a):2≤a.length:=by
 unfold oZ at ha;split at ha
 ·split at ha
  ·cases ha;exact h.r0 (by assumption)
  ·cases ha
 ·split at ha
  ·split at ha
   ·cases ha;exact h.r1 (by assumption)
   ·cases ha
  ·cases ha
theorem aRa{s:aC}(hT:s.wX):rO s (tO s):=
 ⟨⟨⟨.inr rfl,(fun _ hv=>by simp[tO] at hv),(fun _ hv=>by simp[tO] at hv),by simp[tO],by simp[tO],aCx hT,aCx hT⟩,⟨by simp[tO,dQ],by simp[tO,dQ],by simp[tO,dQ]⟩,⟨by simp[tO,dQ],by simp[tO,dQ],by simp[tO,dQ]⟩,.inl rfl,.inl rfl,(fun h=>by simp[tO] at h),(fun h=>by simp[tO] at h)⟩,.inl rfl⟩
end
section
theorem aEf:∀(l:List (Int×Int)) (k v j:Int),gT (Ck l k v) j=if j=k then v else gT l j
 | [], k, v, j => by
  by_cases h:j=k
  ·subst h;simp[gT,Ck]
  ·rw[if_neg h]
   have h2:¬k=j:=fun e=>h e.symm
   simp[gT,Ck,h2]
 | (a, b) :: l, k, v, j => by
  have ih:=aEf l k v j
  unfold Ck
  by_cases Hy:a=k
  ·subst Hy;rw[if_pos rfl]
   by_cases h:j=a
   ·subst h;simp[gT]
   ·have h2:¬a=j:=fun e=>h e.symm
    simp[gT,h,h2]
  ·rw[if_neg Hy]
   by_cases haj:a=j
   ·subst haj;rw[if_neg Hy];simp[gT]
   ·have e1:∀m,gT ((a,b)::m) j=gT m j:=fun m=>by simp[gT,haj]
    rw[e1,e1,ih]
theorem nN(a b:Int){p:Prop}(h:a=b)(hn:a≠b:=by decide):p:=absurd h hn
theorem Gn{z:aW}{i j:Nat}{t:rK}(hi:T3 i)(hj:T3 j):(z.jR j t).tk i=if i=j then t else z.tk i:=by
 rcases hi with rfl | rfl | rfl<;>rcases hj with rfl | rfl | rfl<;>rfl
structure RwB(s:aC)(z:aW):Prop where
 wn:z.wn.of s
 len:∀j,T3 j→(z.tk j).hs.length=6
 nn:∀j,T3 j→∀i,0≤hG (z.tk j) i
 cnt:∀i:Nat,hG (z.tk 0) i+hG (z.tk 1) i+hG (z.tk 2) i=gT z.cn.l (i:Int)
 c7:∀i:Nat,gT z.cn.l (i:Int)≤7
 call:∀j,T3 j→(z.tk j).st=1→qK (z.tk j).kind
 st:∀j,T3 j→0≤(z.tk j).st∧(z.tk j).st≤3
 val:∀j,T3 j→0≤(z.tk j).val∧(z.tk j).val < 4294967296
 many:0≤z.many∧z.many < 1024
 En:∀p∈z.steps,Ot p∧p.ok
def aU4(z:aW):Prop:=(z.eX= -1∧(∀j,T3 j→(z.tk j).st≠2)∧z.aS=false∧z.steps=[]∧z.sent=false)∨(∃j:Nat,T3 j∧z.eX=(j:Int)∧(∀i,T3 i→((z.tk i).st=2↔i=j))∧(z.aS=false→z.steps≠[]))
structure qS(s:aC)(z:aW):Prop extends RwB s z where
 eX:aU4 z
theorem aIx{s:aC}{z:aW}(h:RwB s z){j:Nat}(hj:T3 j)(i:Nat):hG (z.tk j) i≤7:=by
 have h0:=h.nn 0 (.inl rfl) i
 have h1:=h.nn 1 (.inr (.inl rfl)) i
 have h2:=h.nn 2 (.inr (.inr rfl)) i
 have h3:=h.cnt i
 have h4:=h.c7 i
 rcases hj with rfl | rfl | rfl<;>omega
theorem RwB.rp{s:aC}{z:aW}(h:RwB s z):Tu s z:=⟨h.wn,fun j hj=>⟨h.len j hj,fun i=>⟨h.nn j hj i,by have:=aIx h hj i;omega⟩⟩⟩
theorem RwB.jR{s:aC}{z:aW}(h:RwB s z){j:Nat}(hj:T3 j){t:rK}(hh:t.hs=(z.tk j).hs)(hs:0≤t.st∧t.st≤3)(hv:0≤t.val∧t.val < 4294967296)(hc:t.st=1→qK t.kind):RwB s (z.jR j t):=by
 have hg:∀i,T3 i→((z.jR j t).tk i).hs=(z.tk i).hs:=fun i hi=>by
  rw[Gn hi hj];split
  ·rename_i e;subst e;exact hh
  ·rfl
 have hG':∀i,T3 i→∀k,hG ((z.jR j t).tk i) k=hG (z.tk i) k:=fun i hi k=>by unfold hG;rw[hg i hi]
 refine⟨h.wn,fun i hi=>by rw[hg i hi];exact h.len i hi,fun i hi k=>by rw[hG' i hi];exact h.nn i hi k,fun i=>?_,h.c7,fun i hi=>?_,fun i hi=>?_,fun i hi=>?_,h.many,h.En⟩
 ·rw[hG' 0 (.inl rfl),hG' 1 (.inr (.inl rfl)),hG' 2 (.inr (.inr rfl))];exact h.cnt i
 ·rw[Gn hi hj];split
  ·exact hc
  ·exact h.call i hi
 ·rw[Gn hi hj];split
  ·exact hs
  ·exact h.st i hi
 ·rw[Gn hi hj];split
  ·exact hv
  ·exact h.val i hi
theorem RwB.rQ{s:aC}{z:aW}(h:RwB s z){j:Nat}(hj:T3 j){d:Nat}(hd:d < 6){k:Int}{c:Cn}(hc:∀i:Nat,gT c.l (i:Int)=if i=d then gT z.cn.l (d:Int)+k else gT z.cn.l (i:Int))(h0:0≤hG (z.tk j) d+k)(h7:gT z.cn.l (d:Int)+k≤7):RwB s {z.jR j (rQ (z.tk j) d k) with cn:=c}:=by
 have ht:∀i,T3 i→({z.jR j (Go.Proofs.YtdcdccmpcmjmhaaGreatDoor.rQ (z.tk j) d k) with cn:=c}:aW).tk i=if i=j then Go.Proofs.YtdcdccmpcmjmhaaGreatDoor.rQ (z.tk j) d k else z.tk i:=fun i hi=>(show _=(z.jR j (Go.Proofs.YtdcdccmpcmjmhaaGreatDoor.rQ (z.tk j) d k)).tk i from rfl).trans (Gn hi hj)
 have hu:∀i,hG (Go.Proofs.YtdcdccmpcmjmhaaGreatDoor.rQ (z.tk j) d k) i=if d=i then hG (z.tk j) d+k else hG (z.tk j) i:=fun i=>aIw (h.len j hj) hd
 have hg:∀i,T3 i→∀n,hG (({z.jR j (Go.Proofs.YtdcdccmpcmjmhaaGreatDoor.rQ (z.tk j) d k) with cn:=c}:aW).tk i) n=hG (z.tk i) n+(if i=j∧n=d then k else 0):=fun i hi n=>by
  rw[ht i hi]
  by_cases e:i=j
  ·subst e;rw[if_pos rfl,hu]
   by_cases e2:d=n
   ·subst e2;simp
   ·rw[if_neg e2,if_neg (fun hh=>e2 hh.2.symm)];omega
  ·rw[if_neg e,if_neg (fun hh=>e hh.1)];omega
 refine⟨h.wn,fun i hi=>?_,fun i hi n=>?_,fun n=>?_,fun n=>?_,fun i hi=>?_,fun i hi=>?_,fun i hi=>?_,h.many,h.En⟩
 ·rw[ht i hi];split
  ·show((z.tk j).hs.set _ _).length=6
   rw[List.length_set];exact h.len j hj
  ·exact h.len i hi
 ·rw[hg i hi]
  have:=h.nn i hi n
  split
  ·rename_i e
   obtain⟨rfl,rfl⟩:=e;exact h0
  ·omega
 ·rw[hg 0 (.inl rfl),hg 1 (.inr (.inl rfl)),hg 2 (.inr (.inr rfl))]
  show _=gT c.l (n:Int)
  rw[hc]
  have:=h.cnt n
  by_cases e:n=d
  ·subst e;rcases hj with rfl | rfl | rfl<;>simp<;>omega
  ·rw[if_neg e,if_neg (fun hh=>e hh.2),if_neg (fun hh=>e hh.2),if_neg (fun hh=>e hh.2)];omega
 ·show gT c.l (n:Int)≤7
  rw[hc];split
  ·exact h7
  ·exact h.c7 n
 ·rw[ht i hi];split
  ·rename_i e;subst e;exact h.call _ hi
  ·exact h.call i hi
 ·rw[ht i hi];split
  ·rename_i e;subst e;exact h.st _ hi
  ·exact h.st i hi
 ·rw[ht i hi];split
  ·rename_i e;subst e;exact h.val _ hi
  ·exact h.val i hi
theorem aSS{n:Nat}{c:Cn}{d:Int}(h:(qQ n c d).1=0)(h0:0≤gT c.l d):c.gJ=false∧0≤d∧d < n∧gT c.l d < 7∧(qQ n c d).2=⟨Ck c.l d (gT c.l d+1),c.gJ⟩:=by
 unfold qQ at h⊢;split at h
 ·simp at h
 ·rename_i h1
  split at h
  ·simp at h
  ·rename_i h2
   split at h
   ·simp at h
   ·rename_i h3
    rw[if_neg h1,if_neg h2,if_neg h3,iT (by omega)];exact⟨by simpa using h1,by omega,by omega,by omega,rfl⟩
theorem aSn{n:Nat}{c:Cn}{d:Int}(h:(nY n c d).1=0)(h7:gT c.l d≤7):c.gJ=false∧0≤d∧d < n∧0 < gT c.l d∧(nY n c d).2=⟨Ck c.l d (gT c.l d - 1),c.gJ⟩:=by
 unfold nY at h⊢;split at h
 ·simp at h
 ·rename_i h1
  split at h
  ·simp at h
  ·rename_i h2
   split at h
   ·simp at h
   ·rename_i h3
    rw[if_neg h1,if_neg h2,if_neg h3,iT (by omega)];exact⟨by simpa using h1,by omega,by omega,by omega,rfl⟩
theorem aCn{s:aC}{z:aW}(hm:s.made)(h:RwB s z):RwB s (lP s z):=
 ⟨aLi s z,h.len,h.nn,h.cnt,h.c7,h.call,h.st,h.val,h.many,fun p hp=>⟨aT3 p hp,aT4 hm _ _ p hp⟩⟩
theorem RwB.same{s:aC}{z:aW}(h:RwB s z)(c:Cn)(hc:c.l=z.cn.l):RwB s {z with cn:=c}:=
 ⟨h.wn,h.len,h.nn,fun i=>by show _=gT c.l _;rw[hc];exact h.cnt i,fun i=>by show gT c.l _≤7;rw[hc];exact h.c7 i,h.call,h.st,h.val,h.many,h.En⟩
structure aFw(s:aC)(z:aW)(x:aO)(r:Int×aW×aO):Prop where
 b:RwB s r.2.1
 st:∀i,(r.2.1.tk i).st=(z.tk i).st
 err:r.1≠0→r.2.1=z∧r.2.2=x
 x_:r.2.1.aS=false→r.2.2=x
 po:r.2.1.aS=true→z.aS=true∨∃(d:Nat) (wr:Bool) (rg v:Int) (dv:bQ),s.aD[d]? =some dv∧0≤rg∧rg < dv.aP.length∧0≤v∧v < 4294967296∧r.2.1.id=x.aS∧r.2.2=wW x d wr rg v
theorem aRu{s:aC}(hm:s.made){z:aW}(h:RwB s z)(x:aO){j:Nat}(hj:T3 j)(k:Int):aFw s z x (qP s x z j k):=by
 have hnd:=Qh s
 have mK:=hm.nv
 have same:∀e:Int,aFw s z x (e,z,x):=fun e=>⟨h,fun _=>rfl,fun _=>⟨rfl,rfl⟩,fun _=>rfl,fun hp=>.inl hp⟩
 have Mb:∀(d:Nat) (q:Int) (c:Cn) (i:Nat),((lP s {z.jR j (rQ (z.tk j) d q) with cn:=c}).tk i).st=(z.tk i).st:=fun d q c i=>by
  show((z.jR j (rQ (z.tk j) d q)).tk i).st=_
  rcases hj with rfl | rfl | rfl
  all_goals
   match i with
   | 0=>rfl
   | 1=>rfl
   | n+2=>rfl
 have acc : ∀ wr : Bool, aFw s z x (Dp s x z j wr) := fun wr => by
  unfold Dp;split
  ·exact same 4
  ·rename_i hb
   split
   ·exact same 6
   ·split
    ·refine⟨⟨h.wn,h.len,h.nn,h.cnt,h.c7,h.call,h.st,h.val,h.many,h.En⟩,fun _=>rfl,fun h=>absurd rfl h,(fun h=>by cases h),fun _=>.inr ?_⟩
     have h1:bN s.aD.length (z.tk j).dev=true:=by
      cases hh:bN s.aD.length (z.tk j).dev with
      | true=>rfl
      | false=>exact absurd (.inl hh) hb
     have h2:=of_decide_eq_true h1
     obtain⟨dv,tL⟩:=get_some (l:=s.aD) (i:=(z.tk j).dev.toNat) (by omega)
     have h3:¬(z.tk j).bX < 0:=fun hh=>hb (.inr (.inl hh))
     have h4:¬Gt s (z.tk j).dev≤(z.tk j).bX:=fun hh=>hb (.inr (.inr hh))
     unfold Gt at h4;rw[tL] at h4;simp only[Option.map_some,Option.getD_some] at h4;exact⟨_,wr,(z.tk j).bX,(z.tk j).val,dv,tL,by omega,by omega,(h.val j hj).1,(h.val j hj).2,rfl,rfl⟩
    ·exact same 6
 unfold qP;split
 ·unfold Fq;split
  ·exact same _
  ·rename_i h1
   have h1:(qQ (cY s).length z.cn (z.tk j).dev).1=0:=Classical.byContradiction h1
   have Kj:=aJv h1
   obtain⟨d,hd⟩:∃d:Nat,(z.tk j).dev=d:=⟨(z.tk j).dev.toNat,by omega⟩
   rw[hd] at h1 Kj⊢;obtain⟨_,_,h2,h3,h4⟩:=aSS h1 (by have:=h.cnt d;have:=h.nn 0 (.inl rfl) d;have:=h.nn 1 (.inr (.inl rfl)) d;have:=h.nn 2 (.inr (.inr rfl)) d;omega);rw[h4,Int.toNat_natCast];refine⟨aCn hm (h.rQ hj (by omega) (fun i=>?_) (by have:=h.nn j hj d;omega) (by omega)),Mb _ _ _,fun h=>absurd rfl h,fun _=>rfl,fun hp=>.inl hp⟩;dsimp only;rw[aEf]
   by_cases e:i=d
   ·subst e;simp
   ·rw[if_neg (by omega),if_neg e]
 ·split
  ·unfold Et;split
   ·exact same _
   ·rename_i hin
    split
    ·exact same _
    ·rename_i h0
     split
     ·exact same _
     ·rename_i h1
      have h1:(nY (cY s).length z.cn (z.tk j).dev).1=0:=Classical.byContradiction h1
      have hin:bN s.aD.length (z.tk j).dev=true:=by simpa using hin
      have hin:=of_decide_eq_true hin
      obtain⟨d,hd⟩:∃d:Nat,(z.tk j).dev=d:=⟨(z.tk j).dev.toNat,by omega⟩
      rw[hd] at h1 h0 hin⊢;rw[Int.toNat_natCast] at h0⊢;obtain⟨_,_,h2,h3,h4⟩:=aSn h1 (h.c7 d);rw[h4];refine⟨aCn hm (h.rQ hj (by omega) (fun i=>?_) (by have:=h.nn j hj d;omega) (by have:=h.c7 d;omega)),Mb _ _ _,fun h=>absurd rfl h,fun _=>rfl,fun hp=>.inl hp⟩;dsimp only;rw[aEf]
      by_cases e:i=d
      ·subst e;simp;omega
      ·rw[if_neg (by omega),if_neg e]
  ·split
   ·exact acc false
   ·split
    ·exact acc true
    ·split
     ·unfold Ek;split
      ·exact same _
      ·rename_i h1
       refine⟨aCn hm (h.same _ ?_),fun _=>rfl,fun h=>absurd rfl h,fun _=>rfl,fun hp=>.inl hp⟩;unfold tQ;split<;>rfl
     ·unfold Er;split
      ·exact same _
      ·refine⟨aCn hm (h.same _ ?_),fun _=>rfl,fun h=>absurd rfl h,fun _=>rfl,fun hp=>.inl hp⟩;unfold tR;split<;>rfl
theorem RwB.end_{s:aC}{z:aW}(h:RwB s z){j:Nat}(hj:T3 j)(h2:∀i,T3 i→(z.tk i).st=2→i=j)(e r:Int):qS s (kE z j e r):=by
 have h1:=h.jR hj (t:={z.tk j with st:=3,err:=e,res:=r}) rfl ⟨by show(0:Int)≤3;decide,by show(3:Int)≤3;decide⟩ (h.val j hj) (fun hh=>nN 3 1 hh)
 refine⟨⟨h1.wn,h1.len,h1.nn,h1.cnt,h1.c7,h1.call,h1.st,h1.val,h1.many,fun p hp=>by cases hp⟩,.inl ⟨rfl,fun i hi hst=>?_,rfl,rfl,rfl⟩⟩
 have hst:((z.jR j {z.tk j with st:=3,err:=e,res:=r}).tk i).st=2:=hst
 rw[Gn hi hj] at hst;split at hst
 ·exact nN 3 2 hst
 ·rename_i hne
  exact hne (h2 i hi hst)
theorem aOg{z:aW}{i j:Nat}(hi:T3 i)(hj:T3 j):(kD z j).tk i=if i=j then {z.tk j with st:=2} else z.tk i:=Gn hi hj
theorem aTh{s:aC}(hm:s.made){z:aW}(h:qS s z)(hh:z.eX < 0)(x:aO){j:Nat}(hj:T3 j):qS s (pM s x z j).1∧z.aS=false∧((pM s x z j).1.aS=false→(pM s x z j).2=x)∧((pM s x z j).1.aS=true→∃(d:Nat) (wr:Bool) (rg v:Int) (dv:bQ),s.aD[d]? =some dv∧0≤rg∧rg < dv.aP.length∧0≤v∧v < 4294967296∧(pM s x z j).1.id=x.aS∧(pM s x z j).2=wW x d wr rg v):=by
 obtain⟨_,hno,lU,hsp,hse⟩:z.eX= -1∧(∀j,T3 j→(z.tk j).st≠2)∧z.aS=false∧z.steps=[]∧z.sent=false:=by
  rcases h.eX with h1 | ⟨i,_,h1,_⟩
  ·exact h1
  ·omega
 have hb:RwB s (kD z j):=by
  have:=h.toRwB.jR hj (t:={z.tk j with st:=2}) rfl ⟨by show(0:Int)≤2;decide,by show(2:Int)≤3;decide⟩ (h.val j hj) (fun hh=>nN 2 1 hh)
  exact⟨this.wn,this.len,this.nn,this.cnt,this.c7,this.call,this.st,this.val,this.many,this.En⟩
 have h2:∀i,T3 i→(((kD z j).tk i).st=2↔i=j):=fun i hi=>by
  rw[aOg hi hj];split
  ·rename_i e;exact⟨fun _=>e,fun _=>rfl⟩
  ·rename_i e;exact⟨fun hh=>absurd hh (hno i hi),fun hh=>absurd hh e⟩
 have he:=aRu hm hb x hj (z.tk j).kind
 have hho:=aIN s x (kD z j) j (z.tk j).kind
 have aPy:(kD z j).aS=false:=lU
 unfold pM;dsimp only;generalize qP s x (kD z j) j (z.tk j).kind=r at he hho;split
 ·rename_i hne
  obtain⟨e1,e2⟩:=he.err hne;rw[e1,e2];exact⟨hb.end_ hj (fun i hi hst=>(h2 i hi).1 hst) _ _,lU,fun _=>rfl,fun hp=>by cases hp⟩
 ·have h3:∀i,T3 i→((r.2.1.tk i).st=2↔i=j):=fun i hi=>by rw[he.st i];exact h2 i hi
  split
  ·rename_i hc
   exact⟨he.b.end_ hj (fun i hi hst=>(h3 i hi).1 hst) _ _,lU,fun _=>he.x_ hc.1,fun hp=>by cases hp⟩
  ·rename_i hc
   refine⟨⟨he.b,.inr ⟨j,hj,hho,h3,fun hp hs=>hc ⟨hp,by rw[hs];rfl⟩⟩⟩,lU,he.x_,fun hp=>?_⟩;rcases he.po hp with h4 | h4
   ·rw[aPy] at h4;cases h4
   ·exact h4
theorem aTA{s:aC}{z:aW}{y:bY}(h:qS s z)(hy:rO s y){j:Nat}(hj:T3 j)(hst:(z.tk j).st=2)(lU:z.aS=false):qS s (qR z y j).1∧rO s (qR z y j).2∧(qR z y j).1.aS=false:=by
 obtain⟨hh,h2,hne⟩:z.eX=(j:Int)∧(∀i,T3 i→((z.tk i).st=2↔i=j))∧z.steps≠[]:=by
  rcases h.eX with⟨_,h1,_⟩ | ⟨i,hi,h1,h2,h3⟩
  ·exact absurd hst (h1 j hj)
  ·obtain rfl:=(h2 j hj).1 hst;exact⟨h1,h2,h3 lU⟩
 unfold qR;split
 ·cases hr:oZ y 0 with
  | none=>exact⟨h,hy.read 0,lU⟩
  | some a =>
   dsimp only
   have hb:RwB s (sL z a):=by
    unfold sL;split
    ·exact⟨h.wn,h.len,h.nn,h.cnt,h.c7,h.call,h.st,h.val,h.many,fun p hp=>h.En p (List.mem_of_mem_tail hp)⟩
    ·exact⟨h.wn,h.len,h.nn,h.cnt,h.c7,h.call,h.st,h.val,h.many,h.En⟩
   have ht:∀i,(sL z a).tk i=z.tk i:=fun i=>by unfold sL;split<;>rfl
   have hhh:(sL z a).eX=z.eX:=by unfold sL;split<;>rfl
   have hpp:(sL z a).aS=z.aS:=by unfold sL;split<;>rfl
   split
   ·exact⟨hb.end_ hj (fun i hi hs=>by rw[ht] at hs;exact(h2 i hi).1 hs) _ _,hy.read 0,rfl⟩
   ·rename_i hl
    exact⟨⟨hb,.inr ⟨j,hj,hhh.trans hh,fun i hi=>by rw[ht];exact h2 i hi,fun _ hs=>hl (by rw[hs];rfl)⟩⟩,hy.read 0,hpp.trans lU⟩
 ·cases hs:z.steps with
  | nil=>exact absurd hs hne
  | cons p tl =>
   dsimp only;obtain⟨hk,hok⟩:=h.En p (by rw[hs];simp)
   have hu:wH (qF p z.many):=fun v hv=>by
    simp only[qF,List.mem_cons,List.not_mem_nil,or_false] at hv;rcases hv with rfl | rfl | rfl
    ·exact aNJ _ _ _ _
    ·exact hok.id
    ·exact hok.v
   have Aj:=hy.send 0 hu (by simp[qF])
   split
   ·refine⟨⟨⟨h.wn,h.len,h.nn,h.cnt,h.c7,h.call,h.st,h.val,?_,fun q hq=>h.En q (by rw[hs];exact hq)⟩,.inr ⟨j,hj,hh,h2,fun _ hc=>by cases hc⟩⟩,Aj,lU⟩
    have:=h.many
    show 0≤(z.many+1) % 1024∧(z.many+1) % 1024 < 1024
    omega
   ·exact⟨h,Aj,lU⟩
theorem aLL{s:aC}{z:aW}(h:qS s z)(t k d r v:Int)(hv:0≤v∧v < 4294967296):qS s (vN z t k d r v).2∧(vN z t k d r v).2.aS=z.aS∧(vN z t k d r v).2.id=z.id:=by
 unfold vN;split
 ·exact⟨h,rfl,rfl⟩
 ·rename_i hin
  obtain⟨j,rfl,hj⟩:=Jy (t:=t) (by simpa using hin);rw[Int.toNat_natCast];split
  ·exact⟨h,rfl,rfl⟩
  ·rename_i h0
   have h0:(z.tk j).st=0:=Classical.byContradiction h0
   split
   ·exact⟨h,rfl,rfl⟩
   ·rename_i hk
    have hk:qK k:=Classical.byContradiction hk
    refine⟨⟨h.toRwB.jR hj rfl ⟨by show(0:Int)≤1;decide,by show(1:Int)≤3;decide⟩ hv (fun _=>hk),?_⟩,rfl,rfl⟩
    have key:∀i,T3 i→(((z.jR j {z.tk j with st:=1,kind:=k,dev:=d,bX:=r,val:=v}).tk i).st=2↔(z.tk i).st=2):=fun i hi=>by
     rw[Gn hi hj];split
     ·rename_i e;subst e
      rw[h0];exact⟨fun h=>nN 1 2 h,fun h=>nN 0 2 h⟩
     ·exact Iff.rfl
    rcases h.eX with⟨h1,h2,h3⟩ | ⟨i,hi,h1,h2,h3⟩
    ·exact .inl ⟨h1,fun i hi hs=>h2 i hi ((key i hi).1 hs),h3⟩
    ·exact .inr ⟨i,hi,h1,fun k hk=>(key k hk).trans (h2 k hk),h3⟩
theorem aR7{s:aC}{z:aW}(h:qS s z)(t:Int):qS s (nM z t).2∧(nM z t).2.aS=z.aS∧(nM z t).2.id=z.id:=by
 unfold nM;split
 ·exact⟨h,rfl,rfl⟩
 ·rename_i hin
  obtain⟨j,rfl,hj⟩:=Jy (t:=t) (by simpa using hin);rw[Int.toNat_natCast];split
  ·exact⟨h,rfl,rfl⟩
  ·rename_i h0
   have h0:(z.tk j).st=3:=Classical.byContradiction h0
   refine⟨⟨h.toRwB.jR hj rfl ⟨by show(0:Int)≤0;decide,by show(0:Int)≤3;decide⟩ ⟨by show(0:Int)≤0;decide,by show(0:Int) < 4294967296;decide⟩ (fun h=>nN 0 1 h),?_⟩,rfl,rfl⟩
   have key:∀i,T3 i→(((z.jR j {z.tk j with st:=0,kind:=0,dev:=0,bX:=0,val:=0,err:=0,res:=0}).tk i).st=2↔(z.tk i).st=2):=fun i hi=>by
    rw[Gn hi hj];split
    ·rename_i e;subst e
     rw[h0];exact⟨fun h=>nN 0 2 h,fun h=>nN 3 2 h⟩
    ·exact Iff.rfl
   rcases h.eX with⟨h1,h2,h3⟩ | ⟨i,hi,h1,h2,h3⟩
   ·exact .inl ⟨h1,fun i hi hs=>h2 i hi ((key i hi).1 hs),h3⟩
   ·exact .inr ⟨i,hi,h1,fun k hk=>(key k hk).trans (h2 k hk),h3⟩
theorem aTr{s:aC}{z:aW}(h:qS s z)(a:nG):qS s (Bj z a):=by
 unfold Bj;split
 ·exact h
 ·rename_i hp
  obtain⟨j,hj,hh,h2⟩:∃j:Nat,T3 j∧z.eX=(j:Int)∧∀i,T3 i→((z.tk i).st=2↔i=j):=by
   rcases h.eX with⟨_,_,h1,_⟩ | ⟨i,hi,h1,h2,_⟩
   ·exact absurd h1 hp
   ·exact⟨i,hi,h1,h2⟩
  have h3:∀e r,qS s (kE z z.eX.toNat e r):=fun e r=>by
   rw[hh,Int.toNat_natCast];exact h.toRwB.end_ hj (fun i hi hs=>(h2 i hi).1 hs) e r
  split
  ·exact h
  ·split
   ·exact h3 _ _
   ·exact h3 _ _
theorem aJB{s:aC}:∀(l:List nG) {z:aW},qS s z→qS s (xE z l)
 | [],_,h=>h
 | a::l,_,h=>aJB l (aTr h a)
theorem qS.po{s:aC}{z:aW}(h:qS s z):Ox z:=fun hp=>by
 rcases h.eX with⟨_,_,h1,_⟩ | ⟨i,hi,h1,_⟩
 ·rw[h1] at hp;cases hp
 ·exact⟨i,h1,hi⟩
theorem qS.go{s:aC}{z:aW}{y:bY}(h:qS s z)(hy:FwB s y):aKo s z y:=by
 refine⟨h.rp,h.call,fun j hj hst=>?_,h.many,fun p hp=>(aDS (h.En p hp).1 h.many.1 h.many.2).1,fun a ha=>hy.ans ha⟩;rcases h.eX with⟨_,h1,_⟩ | ⟨i,hi,h1,h2,h3⟩
 ·exact absurd hst (h1 j hj)
 ·obtain rfl:=(h2 j hj).1 hst;exact⟨h1,h3⟩
theorem aM7{s:aC}:qS s (Jk s):=by
 have ht:∀j,T3 j→(Jk s).tk j=Um:=by rintro j (rfl | rfl | rfl)<;>rfl
 have h0:∀i,hG Um i=0:=fun i=>by
  match i with
  | 0 | 1 | 2 | 3 | 4 | 5=>rfl
  | n+6=>rfl
 refine⟨⟨aCB s [],fun j hj=>by rw[ht j hj];rfl,fun j hj i=>by rw[ht j hj,h0];decide,fun i=>?_,fun i=>?_,fun j hj h=>?_,fun j hj=>?_,fun j hj=>?_,⟨by show(0:Int)≤0;decide,by show(0:Int) < 1024;decide⟩,fun p hp=>by cases hp⟩,.inl ⟨rfl,fun j hj h=>?_,rfl,rfl,rfl⟩⟩
 ·rw[ht 0 (.inl rfl),ht 1 (.inr (.inl rfl)),ht 2 (.inr (.inr rfl)),h0];rfl
 ·show(0:Int)≤7
  decide
 ·rw[ht j hj] at h;exact nN 0 1 h
 ·rw[ht j hj];decide
 ·rw[ht j hj];decide
 ·rw[ht j hj] at h;exact nN 0 2 h
end
section
theorem aU0{w0:World}{R:List Piece}{H:List HP}{q:Piece}{A:Option Addr}{es:List (Int×Nat)}{j:Nat}{p:Int×Nat}(hq:q∈R)(hs:aI q 2 A es.length (es.flatMap Fv))(hj:es[j]? =some p):∃b off,A=some ⟨b,off,none⟩∧aQ w0 R H b (off+j*2) (Fv p):=by
 have hlt:=(List.getElem?_eq_some_iff.1 hj).1
 obtain⟨b,off,hA,hz,hc⟩:=aI.zR (rows:=es.map Fv) (sz:=2) (k:=j) (r:=Fv p) (n:=es.length) (by rw[←List.flatMap_def];exact hs) (fun r hr=>by
  obtain⟨x,_,rfl⟩:=List.mem_map.1 hr
  rfl) (by rw[List.getElem?_map,hj];rfl) hlt
 exact⟨b,off,hA,.of fun k v hv=>Rd.ro hq hz (hc k v hv)⟩
def iE(s:aC)(x:aO):Nat→aO×List nG
 | 0=>(x,[])
 | n+1=>((jP s (iE s x n).1 n).1,(iE s x n).2++(jP s (iE s x n).1 n).2.toList)
def oX(s:aC)(x:aO)(dF:Int):aO×List nG:=(iQ s (iE s x s.aD.length).1 dF,(iE s x s.aD.length).2)
theorem Nx{s:aC}{x:aO}(hok:cF s x)(lF:Ge s x):∀n,cF s (iE s x n).1∧Ge s (iE s x n).1
 | 0=>⟨hok,lF⟩
 | n+1=>⟨aTw (Nx hok lF n).1 (Nx hok lF n).2 n,aTu (Nx hok lF n).2 n⟩
theorem aEJ{s:aC}{x:aO}:∀n,(iE s x n).2.length≤n
 | 0=>Nat.le_refl _
 | n+1=>by
  have:=aEJ (s:=s) (x:=x) n
  show((iE s x n).2++_).length≤_
  rw[List.length_append];cases(jP s (iE s x n).1 n).2<;>simp<;>omega
theorem aBR{s:aC}{x:aO}{i:Nat}(h:(x.wt[i]?).join=none):jP s x i=(x,none):=by
 unfold jP;rw[h]
theorem aEI{s:aC}{x:aO}{i:Nat}{t:jF}(hok:cF s x)(hi:i < s.aD.length)(h:(x.wt[i]?).join=some t):∃a,(jP s x i).2=some a∧(jP s x i).1.wt=x.wt.set i none:=by
 obtain⟨d,hd⟩:=get_some hi;obtain⟨p,hp⟩:=get_some (l:=x.dv) (i:=i) (by have:=hok.dv;omega);unfold jP;rw[h,hd,hp];dsimp only;split<;>exact⟨_,rfl,rfl⟩
theorem aTx{s:aC}{x:aO}(hok:cF s x)(i j:Nat)(h:j=i∨(x.wt[j]?).join=none):((jP s x i).1.wt[j]?).join=none:=by
 cases hq:(x.wt[i]?).join with
 | none=>
  rw[aBR hq];rcases h with rfl | h
  ·exact hq
  ·exact h
 | some t =>
  have hlt:i < s.aD.length:=by
   have:=hok.wt
   rcases Nat.lt_or_ge i x.wt.length with h | h
   ·omega
   ·rw[List.getElem?_eq_none h] at hq;cases hq
  obtain⟨a,_,h2⟩:=aEI hok hlt hq;rw[h2];cases hj:((x.wt.set i none)[j]?).join with
  | none=>rfl
  | some t' =>
   have h3:=aCM hj
   rcases h with rfl | h
   ·rw[List.getElem?_set] at hj;simp at hj;split at hj<;>cases hj
   ·rw[h] at h3;cases h3
theorem aJA{s:aC}{x:aO}(hok:cF s x)(lF:Ge s x):∀n j,j < n→((iE s x n).1.wt[j]?).join=none
 | 0,_,h=>absurd h (by omega)
 | n+1,j,h=>aTx (Nx hok lF n).1 n j (by
  by_cases hj:j=n
  ·exact .inl hj
  ·exact .inr (aJA hok lF n j (by omega)))
theorem aJ7{s:aC}{x:aO}(hok:cF s x)(lF:Ge s x)(i:Nat):iS (iE s x s.aD.length).1.wt i=0:=by
 have h:=(Nx hok lF s.aD.length).1.wt
 unfold iS;rcases Nat.lt_or_ge i s.aD.length with hi | hi
 ·rw[aJA hok lF _ i hi];rfl
 ·rw[List.getElem?_eq_none (by omega)];rfl
theorem aPP(L:HL)(s:aC)(x0:aO)(w:World)(hH:s.cX)(aV:gE L s)(aDL:cF s x0)(aHL:Ge s x0)(dF:Int)(hd:0≤dF∧dF < 4294967296)(F:Nat→Prop)(hp:(dY L s x0).sat F w)(hF:∀b,F b→b < w.heap.size):
  Cz 22 #[.pointer (some ⟨L.h,0,none⟩),.int .u32 dF] w (fun y w'=>∃a:Option Addr×Nat,y=.returned (.slice a.1 (oX s x0 dF).2.length a.2)∧True∧∃F',(HP.many [dY L s (oX s x0 dF).1,HP.own 143 4 (.slice a.1 (oX s x0 dF).2.length a.2) (oX s x0 dF).2.length ((oX s x0 dF).2.flatMap nG.cells)]).sat F' w'∧iH w w' F F'):=by
 have mK:=hH.t.nv
 have hnd:=hH.t.nd
 have hls:=aV.ds
 refine dB func22 ntmps22 hp hF ?_;generalize cN:(⟨w,fun b=>b < w.heap.size∧¬F b⟩:Piece)=R0;refine aA ?_;refine aU (fun w1 t=>Dc L s x0 w1 (t.mY 0 rfl aV aDL)) ?_;refine aA ?_;refine kd (bP rfl (rN 0 rfl rfl)) ?_;refine aA ?_;refine iR 143 4 ?_;refine bL [(24,iv 0),(23,iv s.aD.length),(5,sn),(0,.pointer (some ⟨L.h,0,none⟩)),(1,.int .u32 dF)] ?_;refine eJ (fun m e R H=>∃(i:Nat) (A:Option Addr) (c:Nat),i≤s.aD.length∧m=s.aD.length - i∧e=[(24,iv i),(23,iv s.aD.length),(5,.slice A (iE s x0 i).2.length c),(0,.pointer (some ⟨L.h,0,none⟩)),(1,.int .u32 dF)]∧R=[R0]∧H=[HP.own 143 4 (.slice A (iE s x0 i).2.length c) (iE s x0 i).2.length ((iE s x0 i).2.flatMap nG.cells),dY L s (iE s x0 i).1]) s.aD.length ⟨0,none,0,by omega,rfl,rfl,rfl,rfl⟩ fun m e R H hI=>?_;obtain⟨i,A0,c0,hi,rfl,rfl,rfl,rfl⟩:=hI;obtain⟨Ke,aBg⟩:=Nx aDL aHL i
 have hlen:=aEJ (s:=s) (x:=x0) i
 refine aA ?_;refine aG rfl (fun hlt=>?_) (fun hge=>?_)
 ·have hlt:i < s.aD.length:=by omega
  have dU:iE s x0 (i+1)=((jP s (iE s x0 i).1 i).1,(iE s x0 i).2++(jP s (iE s x0 i).1 i).2.toList):=rfl
  generalize hr:iE s x0 i=r at Ke aBg hlen dU⊢;obtain⟨xi,l⟩:=r;dsimp only at Ke aBg hlen dU⊢;cases hj:(xi.wt[i]?).join with
  | none=>
   rw[aBR hj] at dU;refine aA ?_;refine aU (fun w1 t=>aPX L s xi i hlt (by unfold iS;rw[hj];rfl) w1 (t.mY 1 rfl aV Ke)) ?_;refine aA ?_;refine bT fun g1=>?_;refine aA ?_;refine aY [1,2] rfl (by decide) (fun _ h=>h) ?_;refine bL [(24,iv (i+1:Nat)),(23,iv s.aD.length),(5,.slice A0 l.length c0),(0,.pointer (some ⟨L.h,0,none⟩)),(1,.int .u32 dF)] ?_;exact iF (s.aD.length - (i+1)) (by omega) ⟨i+1,A0,c0,hlt,rfl,by rw[dU];simp,rfl,by rw[dU];simp⟩
  | some t=>
   obtain⟨d,dI⟩:=get_some hlt;obtain⟨a,ha,_⟩:=aEI Ke hlt hj;obtain⟨Sz,Zj,Nz,Lf⟩:=a;rw[ha] at dU;refine aA ?_;refine Wc (v:=.tuple #[.agg #[iv Sz,iv Zj,.bool Nz,.int .u32 Lf],.bool true]) 1 (dY L s (jP s xi i).1) (fun w1 F1 st h1 h2 h3=>aPW L s xi w1 hH aV Ke aBg i d dI t hj _ ha F1 h1 h2) ?_;dsimp only[List.set];refine aA ?_;refine bT fun g1=>?_;refine aA ?_;refine eK fun g4=>?_;refine aA ?_;refine gM 2 4 24 1 (n':=l.length+1) (el:=143) (by kernel_rfl) (by kernel_rfl) (by decide) rfl rfl rfl (nS 0 rfl rfl) (by simp[Value.oneCell']) rfl (by omega) (by omega) (by decide) fun An cn=>?_;dsimp only[List.set];refine aA ?_;refine aY [2,3] rfl (by decide) (fun _ h=>h) ?_;refine bL [(24,iv (i+1:Nat)),(23,iv s.aD.length),(5,.slice An (l.length+1) cn),(0,.pointer (some ⟨L.h,0,none⟩)),(1,.int .u32 dF)] ?_;exact iF (s.aD.length - (i+1)) (by omega) ⟨i+1,An,cn,hlt,rfl,by rw[dU];simp,rfl,by rw[dU];simp[nG.cells]⟩
 obtain rfl:i=s.aD.length:=by omega
 have lF:=aJ7 aDL aHL
 have aDR:oX s x0 dF=(iQ s (iE s x0 s.aD.length).1 dF,(iE s x0 s.aD.length).2):=rfl
 generalize hr:iE s x0 s.aD.length=r at Ke aBg hlen lF aDR⊢;obtain⟨x,l⟩:=r;dsimp only at Ke lF hlen aDR⊢;rw[aDR]
 have hok:=Ke
 have jB:=hok.dv
 refine aY [1,0] rfl (by decide) (fun _ h=>h) ?_;generalize hT:HP.own 143 4 (.slice A0 l.length c0) l.length (l.flatMap nG.cells)=T;generalize hTv:Value.slice A0 l.length c0=tv;refine aA ?_;refine kd (bP rfl (rN 0 rfl rfl)) ?_;refine aA ?_
 have Kc:zX x dF 0=x.dv:=Qn _ _
 refine bL [(44,iv 0),(43,iv s.aD.length),(42,.slice L.A s.aD.length L.c),(5,tv),(0,.pointer (some ⟨L.h,0,none⟩)),(1,.int .u32 dF)] ?_;refine eJ (fun m e R H=>∃i:Nat,i≤s.aD.length∧m=s.aD.length - i∧e=[(44,iv i),(43,iv s.aD.length),(42,.slice L.A s.aD.length L.c),(5,tv),(0,.pointer (some ⟨L.h,0,none⟩)),(1,.int .u32 dF)]∧R=[R0]∧H=[dY L s {x with dv:=zX x dF i},T]) s.aD.length ⟨0,by omega,rfl,rfl,rfl,by rw[Kc]⟩ fun m e R H hI=>?_;obtain⟨i,hi,rfl,rfl,rfl,rfl⟩:=hI
 have nW:=aDr hH hok dF i
 refine aA ?_;refine aG rfl (fun hlt=>?_) (fun hge=>?_)
 ·have hlt:i < s.aD.length:=by omega
  obtain⟨d,dI⟩:=get_some hlt;obtain⟨l,iU⟩:=get_some (l:=L.ds) (i:=i) (by omega);obtain⟨p,gP⟩:=get_some (l:=x.dv) (i:=i) (by omega)
  have lV:(zX x dF i)[i]? =some p:=Qp gP
  have hstep:(zX x dF i).set i (p.1,uH p.2 (decide (0 < iS x.wt i)) (Ik dF i))=zX x dF (i+1):=Qo (f:=fun i p=>(p.1,uH p.2 (decide (0 < iS x.wt i)) (Ik dF i))) gP
  have hw0:decide (0 < iS x.wt i)=false:=by rw[lF i];rfl
  rw[hw0] at hstep;refine Oe 0 rfl aV nW (by omega) fun b off hA=>?_;refine aA ?_;refine kd (dat i (off+i*6) (hx:=by rw[←hA];rfl)) ?_;refine kd (pL rfl (aQ.dev 0 rfl aV nW hA dI iU rfl)) ?_;refine bT fun g1=>?_;refine aA ?_;refine iO [0,1,3,4,5,11,12,13] ?_;refine bH 2 ?_;refine bH 6 ?_;refine bH 9 ?_;refine bH 10 ?_;refine aK 0 ?_;refine aK 1 ?_;refine aK 3 ?_;refine aK 4 ?_;refine aK 5 ?_ (dD:=bP rfl (rN 1 rfl rfl));refine aK 11 ?_ (dD:=aIW rfl rfl (c:=dF.fdiv (2 ^ min i 32)) (by omega) rfl);refine aK 12 ?_ (dD:=aJd (c:=aBT (dF.fdiv (2 ^ min i 32)) 1) rfl rfl (fun _=>rfl) (by simp));refine aK 13 ?_;refine aJ 7 ?_;refine aU (fun w1 t=>aJy L.B (kL s) x.wt x.aS i (by rw[Gx];exact hlt) w1 (t.mY 1 rfl aV nW).bus) ?_;refine bB ?_;refine aJ 8 ?_;refine bA ?_;refine bB ?_;refine aJ 14 ?_;refine Te 1 i rfl dI iU lV ?_;dsimp only[List.set];refine aZ 0 1 ?_;refine eC 0 (vE l.2 (uH p.2 (decide ((iS x.wt i:Int)>0)) (Ik dF i))) (fun w1 F1 t h1 h2 h3=>aN2 _ _ h1 h2) ?_;refine aM 0 1 ?_;refine To 1 i rfl dI iU lV (p':=(p.1,uH p.2 (decide ((iS x.wt i:Int)>0)) (Ik dF i))) ?_;dsimp only[List.set]
  have hw1:decide ((iS x.wt i:Int)>0)=false:=by rw[lF i];rfl
  rw[hw1,hstep];refine bO ?_;refine eN ?_;refine aA ?_;refine aY [1,2] rfl (by decide) (fun _ h=>h) ?_;exact dX (s.aD.length - (i+1)) ⟨i+1,hlt,rfl,rfl,rfl,rfl⟩
 obtain rfl:i=s.aD.length:=by omega
 have aDK:=aDr hH hok dF s.aD.length
 generalize tL:zX x dF s.aD.length=Dk at aDK⊢;refine aA ?_;refine kd (bP rfl (rN 0 rfl rfl)) ?_;refine aA ?_;refine aZ 0 1 ?_;refine eC 0 (rJ L.T s (lR s x.ck)) (fun w1 F1 t h1 h2 h3=>aS4 L.T s x.ck hH aV.fa hok.ck w1 F1 h1 h2) ?_;refine aM 0 1 ?_
 change XK _ _ _ _ _ [dY L s {x with ck:=lR s x.ck,dv:=Dk},T]
 refine aA ?_;refine kd (bP rfl (rN 0 rfl rfl)) ?_;refine aA ?_;refine aZ 0 2 ?_;refine zM (α:=Option Addr×Nat) 0 (f:=59) (fi:=[]) (ca:=[]) (fun a=>.slice a.1 (lW x.dm s.domains.length).length a.2) (fun a=>HP.many [wM L.G s (oU x.dm),HP.own 151 2 (.slice a.1 (lW x.dm s.domains.length).length a.2) (lW x.dm s.domains.length).length ((lW x.dm s.domains.length).flatMap Fv)]) (fun _=>True) (by kernel_rfl) rfl rfl rfl (by decide) (fun w1 F1 t h1 h2 h3=>aNA L.G s x.dm hok.dm (by omega) w1 F1 h1 h2) ?_;rintro⟨Ae,ce⟩ _;dsimp only[List.set];refine aZ 0 0 ?_;refine aM 1 2 ?_;refine aZ 0 1 ?_;refine dP [] [0] [2,3] (by simp) rfl (by decide) (by decide) fun q hq _ hfr=>?_;obtain⟨F2,Cj,Cb⟩:=hq 0 _ (by simp) rfl
 have hev:aI q 2 Ae (lW x.dm s.domains.length).length ((lW x.dm s.domains.length).flatMap Fv):=aI.own ⟨F2,Cj,Cb⟩
 have mS:cF s {x with ck:=lR s x.ck,dm:=oU x.dm,dv:=Dk}:=⟨aCJ hH hok.ck,aCI hok.dm,hok.ln,aDK.dv,aDK.each,hok.wt⟩
 have hel:(lW x.dm s.domains.length).length≤1000:=Nat.le_trans (aIL x.dm s.domains.length) (by omega)
 generalize hes:lW x.dm s.domains.length=es at hev hel⊢
 change XK _ _ _ _ _ [dY L s {x with ck:=lR s x.ck,dm:=oU x.dm,dv:=Dk},T]
 refine aA ?_;refine bL [(76,iv 0),(75,iv es.length),(74,.slice Ae es.length ce),(5,tv),(0,.pointer (some ⟨L.h,0,none⟩))] ?_;refine eJ (fun m e R H=>∃j:Nat,j≤es.length∧m=es.length - j∧e=[(76,iv j),(75,iv es.length),(74,.slice Ae es.length ce),(5,tv),(0,.pointer (some ⟨L.h,0,none⟩))]∧R=[q,R0]∧H=[dY L s {x with ck:=lR s x.ck,dm:=oU x.dm,dv:=(es.take j).foldl (sW s) Dk},T]) es.length ⟨0,by omega,rfl,rfl,rfl,rfl⟩ fun m e R H hI=>?_;obtain⟨j,hj,rfl,rfl,rfl,rfl⟩:=hI
 have Kf:cF s {x with ck:=lR s x.ck,dm:=oU x.dm,dv:=(es.take j).foldl (sW s) Dk}:=aEi hH (es.take j) _ mS
 refine aA ?_;refine aG rfl (fun hlt=>?_) (fun hge=>?_)
 ·have hlt:j < es.length:=by omega
  obtain⟨p,gP⟩:=get_some hlt
  have dU:(es.take (j+1)).foldl (sW s) Dk=sW s ((es.take j).foldl (sW s) Dk) p:=by
   rw[List.take_add_one,gP,List.foldl_append];rfl
  generalize hx3:({x with ck:=lR s x.ck,dm:=oU x.dm,dv:=(es.take j).foldl (sW s) Dk}:aO)=x3 at Kf
  have hx4:({x with ck:=lR s x.ck,dm:=oU x.dm,dv:=(es.take (j+1)).foldl (sW s) Dk}:aO)={x3 with dv:=sW s x3.dv p}:=by rw[dU,←hx3]
  have aUR:=Kf.dv
  obtain⟨be,aOl,hAe,hrd⟩:=aU0 (w0:=w) (R:=[q,R0]) (H:=[dY L s x3,T]) (by simp) hev gP;obtain⟨kn,dm⟩:=p;refine aA ?_;refine kd (dat j (aOl+j*2) (hx:=by rw[←hAe];rfl)) ?_;refine kd (pL rfl hrd) ?_;refine bT fun g1=>?_;refine aA ?_;refine aU (fun w1 t=>aPU kn w1) ?_
  by_cases hk:kn=115∨kn=114∨kn=108∨kn=110
  ·obtain⟨f,Xi,hcb,Bb⟩:=aSg hk;rw[Xi];refine aA ?_;refine kd (aJc rfl (.inr ⟨⟨_,_,_,rfl⟩,rfl⟩)) ?_;refine aA ?_;refine kd (bP rfl (rN 1 rfl rfl)) ?_;refine aA ?_
   have hm0:Cq s x3.dv (kn,dm) 0=x3.dv:=Qn _ _
   refine bL [(90,iv 0),(89,iv s.aD.length),(88,.slice L.A s.aD.length L.c),(13,.func (.func f) #[] #[]),(12,pt g1),(76,iv j),(75,iv es.length),(74,.slice Ae es.length ce),(5,tv),(0,.pointer (some ⟨L.h,0,none⟩))] ?_;refine eJ (fun m e R H=>∃i:Nat,i≤s.aD.length∧m=s.aD.length - i∧e=[(90,iv i),(89,iv s.aD.length),(88,.slice L.A s.aD.length L.c),(13,.func (.func f) #[] #[]),(12,pt g1),(76,iv j),(75,iv es.length),(74,.slice Ae es.length ce),(5,tv),(0,.pointer (some ⟨L.h,0,none⟩))]∧R=[q,R0]∧H=[HP.aE g1 151 [.int .u8 kn,iv (dm:Int)],dY L s {x3 with dv:=Cq s x3.dv (kn,dm) i},T]) s.aD.length ⟨0,by omega,rfl,rfl,rfl,by rw[hm0];rfl⟩ fun m e R H hI=>?_;obtain⟨i,hi,rfl,rfl,rfl,rfl⟩:=hI
   have nW:=aH0 hH Kf (kn,dm) i
   refine aA ?_;refine aG rfl (fun hlt=>?_) (fun hge=>?_)
   ·have hlt:i < s.aD.length:=by omega
    obtain⟨d,dI⟩:=get_some hlt;obtain⟨l,iU⟩:=get_some (l:=L.ds) (i:=i) (by omega);obtain⟨p,gP⟩:=get_some (l:=x3.dv) (i:=i) (by omega)
    have lV:(Cq s x3.dv (kn,dm) i)[i]? =some p:=Qp gP
    have hstep:(Cq s x3.dv (kn,dm) i).set i (Fy s (kn,dm) i p)=Cq s x3.dv (kn,dm) (i+1):=Qo (f:=Fy s (kn,dm)) gP
    have hfo:=(nW.each i d p dI lV).1
    refine Oe 1 rfl aV nW (by omega) fun b off hA=>?_;refine aA ?_;refine kd (dat i (off+i*6) (hx:=by rw[←hA];rfl)) ?_;refine kd (pL rfl (aQ.dev 1 rfl aV nW hA dI iU rfl)) ?_;refine bT fun g2=>?_;refine aA ?_;refine aG rfl (fun he=>?_) (fun he=>?_)
    ·have nL:Fy s (kn,dm) i p=(Io kn d p.1,p.2):=by
      unfold Fy;rw[dI];exact if_pos he
     refine aA ?_;refine Te 2 i rfl dI iU lV ?_;dsimp only[List.set];refine aZ 0 0 ?_;refine aBc 0 (fi:=[]) (ca:=[]) (iJ l.1 d (Io kn d p.1)) (fun w1 F1 t h1 h2 h3=>by simpa using Bb l.1 d p.1 (by have:=(hH.t.aD i d dI).2.2.2.2.2.2.2.2.1;omega) hfo w1 F1 h1 h2) ?_ (hf:=hcb);dsimp only[List.set];refine aM 0 0 ?_;refine To 2 i rfl dI iU lV (p':=(Io kn d p.1,p.2)) ?_;dsimp only[List.set];rw[←nL,hstep];refine aA ?_;refine aY [1,2,3] rfl (by decide) (fun _ h=>h) ?_;exact dX (s.aD.length - (i+1)) ⟨i+1,hlt,rfl,rfl,rfl,rfl⟩
    ·have nL:Fy s (kn,dm) i p=p:=by
      unfold Fy;rw[dI];exact if_neg he
     rw[nL,yC lV] at hstep;rw[hstep];refine aA ?_;refine aY [1,2,3] rfl (by decide) (fun _ h=>h) ?_;exact dX (s.aD.length - (i+1)) ⟨i+1,hlt,rfl,rfl,rfl,rfl⟩
   obtain rfl:i=s.aD.length:=by omega
   refine aA ?_;refine aY [1,2] rfl (by decide) (fun _ h=>h) ?_;refine bL [(76,iv (j+1:Nat)),(75,iv es.length),(74,.slice Ae es.length ce),(5,tv),(0,.pointer (some ⟨L.h,0,none⟩))] ?_;exact iF (es.length - (j+1)) (by omega) ⟨j+1,by omega,rfl,rfl,rfl,by rw[hx4];rfl⟩
  ·have Xi:Im kn=.nilFunc:=by
    rw[Im,if_neg (by omega),if_neg (by omega),if_neg (by omega)]
   rw[Xi];refine aA ?_;refine kd (aJc rfl (.inl ⟨rfl,rfl⟩)) ?_;refine aA ?_;refine aY [1,2] rfl (by decide) (fun _ h=>h) ?_;refine bL [(76,iv (j+1:Nat)),(75,iv es.length),(74,.slice Ae es.length ce),(5,tv),(0,.pointer (some ⟨L.h,0,none⟩))] ?_;exact iF (es.length - (j+1)) (by omega) ⟨j+1,by omega,rfl,rfl,rfl,by rw[hx4,aO4 hk,←hx3]⟩
 obtain rfl:j=es.length:=by omega
 rw[List.take_length];refine aA ?_;refine kd (bP rfl (rN 0 rfl rfl)) ?_;refine aA ?_;refine aZ 0 3 ?_;refine zM (α:=Option Addr×Nat×Nat) 0 (f:=61) (fi:=[]) (ca:=[]) (fun a=>.slice a.1 a.2.1 a.2.2) (fun _=>qU L.R s (Ej x.ln)) (fun _=>True) (by kernel_rfl) rfl rfl rfl (by decide) (fun w1 F1 t h1 h2 h3=>aMw L.R s x.ln hH hok.ln w1 F1 h1 h2) ?_;rintro _ _;dsimp only[List.set];refine aM 0 3 ?_
 change XK _ _ _ _ _ [dY L s {x with ck:=lR s x.ck,dm:=oU x.dm,ln:=Ej x.ln,dv:=es.foldl (sW s) Dk},T]
 have wZ:({x with ck:=lR s x.ck,dm:=oU x.dm,ln:=Ej x.ln,dv:=es.foldl (sW s) Dk}:aO)=iQ s x dF:=by rw[iQ,tL,hes]
 rw[wZ];refine aA ?_;subst cN;subst hT;subst hTv;refine nB ?_;exact nA rfl rfl fun w1 t=>⟨(A0,c0),rfl,trivial,t.turns hF (by simp) (i:=0) rfl⟩
end
section
structure dW where
 z:aW
 y:bY
 x:aO
def dW.start(m:dW)(t k d r v:Int):dW:=⟨(vN m.z t k d r v).2,m.y,m.x⟩
def dW.done(m:dW)(t:Int):dW:=⟨(nM m.z t).2,m.y,m.x⟩
def dW.step(s:aC)(m:dW)(t:Int):dW:=⟨(Em s m.z m.y m.x t).1,(Em s m.z m.y m.x t).2.1,(Em s m.z m.y m.x t).2.2⟩
def dW.fA(s:aC)(m:dW):dW:=⟨m.z,(lB s m.x m.y).1,(lB s m.x m.y).2⟩
def dW.tick(s:aC)(m:dW)(dF:Int):dW:=⟨xE m.z (oX s m.x dF).2,m.y,(oX s m.x dF).1⟩
structure fE(s:aC)(n:Nat)(m:dW):Prop where
 wU:qS s m.z
 fw:rO s m.y
 hw:cF s m.x
 wt:Ge s m.x
 po:0≤m.x.aS∧m.x.aS≤n
 w0:m.z.aS=false→∀i:Nat,(m.x.wt[i]?).join=none
 w1:m.z.aS=true→∃(i:Nat) (t:jF),i < s.aD.length∧(m.x.wt[i]?).join=some t∧t.id=m.z.id∧∀k:Nat,k≠i→(m.x.wt[k]?).join=none
section
variable{s:aC}{n:Nat}{m:dW}
theorem fE.le{k:Nat}(h:fE s n m)(hk:n≤k):fE s k m:=⟨h.wU,h.fw,h.hw,h.wt,by have:=h.po;omega,h.w0,h.w1⟩
theorem fE.start(h:fE s n m)(t k d r v:Int)(hv:0≤v∧v < 4294967296):fE s n (m.start t k d r v):=by
 obtain⟨h1,h2,h3⟩:=aLL h.wU t k d r v hv;refine⟨h1,h.fw,h.hw,h.wt,h.po,fun hp=>h.w0 (h2.symm.trans hp),fun hp=>?_⟩
 have h4:=h.w1 (h2.symm.trans hp)
 rwa [←h3] at h4
theorem fE.done(h:fE s n m)(t:Int):fE s n (m.done t):=by
 obtain⟨h1,h2,h3⟩:=aR7 h.wU t;refine⟨h1,h.fw,h.hw,h.wt,h.po,fun hp=>h.w0 (h2.symm.trans hp),fun hp=>?_⟩
 have h4:=h.w1 (h2.symm.trans hp)
 rwa [←h3] at h4
theorem fE.fA(hm:s.made)(h:fE s n m):fE s n (m.fA s):=by
 obtain⟨h1,h2,h3,h4⟩:=h.fw.next hm.cX h.hw;refine⟨h.wU,h1,h2,fun i d t hd ht=>h.wt i d t hd (by rw[←h3];exact ht),by rw[show(m.fA s).x.aS=m.x.aS from h4];exact h.po,fun hp i=>?_,fun hp=>?_⟩
 ·show((lB s m.x m.y).2.wt[i]?).join=none
  rw[h3];exact h.w0 hp i
 ·show ∃i t,i < s.aD.length∧((lB s m.x m.y).2.wt[i]?).join=some t∧t.id=m.z.id∧∀k:Nat,k≠i→((lB s m.x m.y).2.wt[k]?).join=none
  rw[h3];exact h.w1 hp
theorem fE.idle(h:fE s n m)(hp:m.z.aS=false)(hn:n≤1000000000):HwP s m.x:=⟨h.hw,h.w0 hp,by have:=h.po;omega⟩
theorem fE.free(h:fE s n m)(hh:m.z.eX < 0):m.z.aS=false:=by
 rcases h.wU.eX with⟨_,_,h1,_⟩ | ⟨i,_,h1,_⟩
 ·exact h1
 ·omega
theorem fE.step(hm:s.made)(h:fE s n m)(t:Int):fE s (n+1) (m.step s t):=by
 have same:fE s (n+1) ⟨m.z,m.y,m.x⟩:=h.le (by omega)
 unfold dW.step Em;split
 ·exact same
 ·rename_i hin
  obtain⟨j,rfl,hj⟩:=Jy (t:=t) (by simpa using hin);rw[Int.toNat_natCast];split
  ·split
   ·rename_i hh
    have hp:=h.free hh
    have hw0:=h.w0 hp
    obtain⟨h1,h2,h3,h4⟩:=aTh hm h.wU hh m.x hj;dsimp only;generalize pM s m.x m.z j=r at h1 h3 h4;obtain⟨z',x'⟩:=r;dsimp only at h1 h3 h4⊢;cases hp':z'.aS with
    | false=>
     cases h3 hp';exact⟨h1,h.fw,h.hw,h.wt,by have:=h.po;dsimp only;omega,fun _=>hw0,fun hc=>by dsimp only at hc;rw[hp'] at hc;cases hc⟩
    | true =>
     obtain⟨d,wr,rg,v,dv,tL,r0,r1,v0,v1,hid,rfl⟩:=h4 hp'
     have hlt:=(List.getElem?_eq_some_iff.1 tL).1
     have vT:=h.hw.wt
     have fN:∀k:Nat,(((m.x.wt.set d (some ⟨m.x.aS,wr,rg,v⟩))[k]?).join)=if k=d then some ⟨m.x.aS,wr,rg,v⟩ else none:=fun k=>by
      rw[List.getElem?_set]
      by_cases e:d=k
      ·subst e;rw[if_pos rfl,if_pos (by omega),if_pos rfl];rfl
      ·rw[if_neg e,if_neg (fun hh=>e hh.symm)];exact hw0 k
     refine⟨h1,h.fw,aAw h.hw d _ _,fun i e t he ht=>?_,?_,fun hc=>?_,fun _=>⟨d,⟨m.x.aS,wr,rg,v⟩,hlt,?_,hid.symm,fun k hk=>?_⟩⟩
     ·have Hg:((m.x.wt.set d (some ⟨m.x.aS,wr,rg,v⟩))[i]?).join=some t:=ht
      rw[fN] at Hg
      by_cases e1:i=d
      ·rw[if_pos e1] at Hg;cases Hg;rw[e1,tL] at he;cases he;exact⟨r0,r1,v0,v1⟩
      ·rw[if_neg e1] at Hg;cases Hg
     ·have:=h.po
      show 0≤m.x.aS+1∧m.x.aS+1≤((n+1:Nat):Int)
      omega
     ·dsimp only at hc;rw[hp'] at hc;cases hc
     ·show((m.x.wt.set d (some ⟨m.x.aS,wr,rg,v⟩))[d]?).join=_
      rw[fN,if_pos rfl]
     ·show((m.x.wt.set d (some ⟨m.x.aS,wr,rg,v⟩))[k]?).join=_
      rw[fN,if_neg hk]
   ·exact same
  ·split
   ·rename_i hst
    split
    ·rename_i hp
     obtain⟨h1,h2,h3⟩:=aTA h.wU h.fw hj hst hp;exact⟨h1,h2,h.hw,h.wt,by have:=h.po;dsimp only;omega,fun _=>h.w0 hp,fun hc=>by dsimp only at hc;rw[h3] at hc;cases hc⟩
    ·exact same
   ·exact same
theorem aBS{x:aO}:∀n:Nat,(∀k,k < n→(x.wt[k]?).join=none)→iE s x n=(x,[])
 | 0,_=>rfl
 | n+1,h=>by
  have ih:=aBS n fun k hk=>h k (by omega)
  have hx:=aBR (s:=s) (h n (by omega))
  show((jP s (iE s x n).1 n).1,(iE s x n).2++(jP s (iE s x n).1 n).2.toList)=_
  rw[ih];dsimp only;rw[hx];rfl
theorem aJ9{x:aO}(hok:cF s x){i:Nat}{t:jF}(hi:i < s.aD.length)(ht:(x.wt[i]?).join=some t)(ho:∀k:Nat,k≠i→(x.wt[k]?).join=none):
  ∃a,(jP s x i).2=some a∧a.id=t.id∧a.dev=i∧∀d,iE s x (i+1+d)=((jP s x i).1,[a]):=by
 obtain⟨a,ha,lF⟩:=aEI hok hi ht;refine⟨a,ha,?_,?_,fun d=>?_⟩
 ·obtain⟨d,hd⟩:=get_some hi;obtain⟨p,hp⟩:=get_some (l:=x.dv) (i:=i) (by have:=hok.dv;omega);unfold jP at ha;rw[ht,hd,hp] at ha;dsimp only at ha;split at ha<;>cases ha<;>rfl
 ·obtain⟨d,hd⟩:=get_some hi;obtain⟨p,hp⟩:=get_some (l:=x.dv) (i:=i) (by have:=hok.dv;omega);unfold jP at ha;rw[ht,hd,hp] at ha;dsimp only at ha;split at ha<;>cases ha<;>rfl
 ·induction d with
  | zero=>
   show((jP s (iE s x i).1 i).1,(iE s x i).2++(jP s (iE s x i).1 i).2.toList)=_
   rw[aBS i fun k hk=>ho k (by omega)];dsimp only;rw[ha];rfl
  | succ d ih =>
   show((jP s (iE s x (i+1+d)).1 (i+1+d)).1,(iE s x (i+1+d)).2++(jP s (iE s x (i+1+d)).1 (i+1+d)).2.toList)=_
   rw[ih];dsimp only
   have hx:jP s (jP s x i).1 (i+1+d)=((jP s x i).1,none):=aBR (by
    rw[lF,List.getElem?_set,if_neg (by omega)]
    exact ho _ (by omega))
   rw[hx];rfl
theorem fE.ans(h:fE s n m)(dF:Int):(m.z.aS=false→(oX s m.x dF).2=[])∧(m.z.aS=true→∃a,(oX s m.x dF).2=[a]∧a.id=m.z.id):=by
 refine⟨fun hp=>?_,fun hp=>?_⟩
 ·show(iE s m.x s.aD.length).2=[]
  rw[aBS _ fun k _=>h.w0 hp k]
 ·obtain⟨i,t,hi,ht,hid,ho⟩:=h.w1 hp;obtain⟨a,_,ha,_,hn⟩:=aJ9 h.hw hi ht ho;obtain⟨d,hd⟩:∃d,s.aD.length=i+1+d:=⟨s.aD.length - (i+1),by omega⟩
  refine⟨a,?_,ha.trans hid⟩
  show(iE s m.x s.aD.length).2=[a]
  rw[hd,hn d]
theorem fE.aL4(h:fE s n m)(dF:Int):(m.tick s dF).z.aS=false:=by
 obtain⟨h1,h2⟩:=h.ans dF
 show(xE m.z (oX s m.x dF).2).aS=false
 cases hp:m.z.aS with
 | false=>rw[h1 hp];exact hp
 | true=>
  obtain⟨a,h3,h4⟩:=h2 hp;rw[h3]
  show(Bj m.z a).aS=false
  unfold Bj;rw[if_neg (by rw[hp];simp),if_neg (fun hc=>hc h4)];split<;>rfl
theorem aTv(s:aC)(x:aO)(i:Nat):(jP s x i).1.aS=x.aS:=by
 unfold jP;split
 ·split<;>rfl
 ·rfl
theorem aJ8(s:aC)(x:aO):∀n,(iE s x n).1.aS=x.aS
 | 0=>rfl
 | n+1=>(aTv s _ n).trans (aJ8 s x n)
theorem fE.tick(hm:s.made)(h:fE s n m)(dF:Int):fE s n (m.tick s dF):=by
 obtain⟨a1,a2⟩:=Nx h.hw h.wt s.aD.length
 have hz:∀i:Nat,(((m.tick s dF).x.wt)[i]?).join=none:=fun i=>by
  have:=aJ7 h.hw h.wt i
  show((iE s m.x s.aD.length).1.wt[i]?).join=none
  unfold iS at this;cases hh:((iE s m.x s.aD.length).1.wt[i]?).join with
  | none=>rfl
  | some t=>rw[hh] at this;simp at this
 refine⟨aJB _ h.wU,h.fw,aFZ hm.cX a1 dF,(fun i d t _ ht=>by rw[hz i] at ht;cases ht),?_,fun _=>hz,fun hp=>by rw[h.aL4 dF] at hp;cases hp⟩
 show 0≤(iE s m.x s.aD.length).1.aS∧(iE s m.x s.aD.length).1.aS≤n
 rw[aJ8];exact h.po
end
def Wa(s:aC):dW:=⟨Jk s,tO s,hw0 s⟩
theorem aOU{s:aC}(hm:s.made):fE s 0 (Wa s):=by
 have hx:=aHN hm.cX
 have hw:∀i:Nat,((hw0 s).wt[i]?).join=none:=fun i=>by
  show((s.aD.map fun _=>(none:Option jF))[i]?).join=none
  rw[List.getElem?_map];cases s.aD[i]? <;>rfl
 exact⟨aM7,aRa hm.wX,hx,(fun i d t _ ht=>by
  have:=(hw i).symm.trans ht
  cases this),⟨Int.le_refl 0,Int.le_refl 0⟩,fun _=>hw,fun hp=>by cases hp⟩
theorem aB4{P:Program}{fn:FuncId}{args:Array Value}{w:World}{ps:List HP}(i:Nat){p p':HP}{v:Value}{F:Nat→Prop}(hi:ps[i]? =some p)(h:∀F0,p.sat F0 w→(∀b,F0 b→b < w.heap.size)→(∀b,F0 b→F b)→Calls P fn args w fun y w'=>y=.returned v∧∃F',p'.sat F' w'∧iH w w' F0 F')
  (hp:(HP.many ps).sat F w) (hF:∀b,F b→b < w.heap.size):Calls P fn args w fun y w'=>y=.returned v∧∃F',(HP.many (ps.set i p')).sat F' w'∧iH w w' F F':=by
 obtain⟨G,g1,g2,g3⟩:=hp
 have hlt:=(List.getElem?_eq_some_iff.1 hi).1
 refine(h (G i) (g1 i p hi) (fun b hb=>hF b (g2 i b hb)) (g2 i)).mono fun y w' ⟨hy,F',h1,ht⟩=>⟨hy,fun b=>F' b∨∃k,k≠i∧k < ps.length∧G k b,⟨fun k=>if k=i then F' else fun b=>k < ps.length∧G k b,fun k r hr=>?_,fun k b hb=>?_,fun j k b lG hj hk=>?_⟩,⟨ht.os,ht.tape,ht.output,ht.size,fun b hb=>?_,fun b hb hn=>?_⟩⟩
 ·by_cases e:i=k
  ·subst e;rw[List.getElem?_set_self hlt] at hr;cases hr
   simpa using h1
  ·rw[List.getElem?_set_ne e] at hr
   have hk:=(List.getElem?_eq_some_iff.1 hr).1
   simp only[if_neg (Ne.symm e)];rw[show(fun b=>k < ps.length∧G k b)=G k by funext b;simp[hk]];exact r.loc _ _ _ (g1 k r hr) fun b hb=>ht.old b (hF b (g2 k b hb)) fun h0=>g3 i k b e h0 hb
 ·dsimp only at hb;split at hb
  ·exact .inl hb
  ·exact .inr ⟨k,by assumption,hb.1,hb.2⟩
 ·have key:∀k b,k≠i→F' b→G k b→False:=fun k b hki h0 h2=>by
   rcases(ht.new b h0).1 with h3 | h3
   ·exact g3 i k b (Ne.symm hki) h3 h2
   ·have:=hF b (g2 k b h2)
    omega
  dsimp only at hj hk;split at hj<;>split at hk
  ·rename_i e1 e2;exact lG (e1.trans e2.symm)
  ·rename_i e1 e2;exact key k b e2 hj hk.2
  ·rename_i e1 e2;exact key j b e1 hk hj.2
  ·exact g3 j k b lG hj.2 hk.2
 ·rcases hb with hb | ⟨k,_,_,hb⟩
  ·refine⟨?_,(ht.new b hb).2⟩;rcases(ht.new b hb).1 with h3 | h3
   ·exact .inl (g2 i b h3)
   ·exact .inr h3
  ·exact⟨.inl (g2 k b hb),Nat.lt_of_lt_of_le (hF b (g2 k b hb)) ht.size⟩
 ·exact ht.old b hb fun h0=>hn (g2 i b h0)
theorem aOQ{a b c:HP}{F:Nat→Prop}{w:World}(h:(HP.many [a,b,c]).sat F w):(HP.many [a,HP.many [b,c]]).sat F w:=by
 obtain⟨G,g1,g2,g3⟩:=h
 have h1:=g1 1 b rfl
 have h2:=g1 2 c rfl
 have key:∀k,k < 3→(fun b=>k < 3∧G k b)=G k:=fun k hk=>by funext b;simp[hk]
 refine⟨fun i=>match i with | 0=>G 0 | 1=>fun b=>G 1 b∨G 2 b | _=>fun _=>False,fun i p hi=>?_,fun i b hb=>?_,fun i j b hij hi hj=>?_⟩
 ·match i,hi with
  | 0,hi=>cases hi;exact g1 0 _ rfl
  | 1, hi =>
   cases hi;refine⟨fun i=>match i with | 0=>G 1 | 1=>G 2 | _=>fun _=>False,fun i p hi=>?_,fun i b hb=>?_,fun i j b hij hi hj=>?_⟩
   ·match i,hi with
    | 0,hi=>cases hi;exact h1
    | 1,hi=>cases hi;exact h2
    | i+2,hi=>simp at hi
   ·match i,hb with
    | 0,hb=>exact .inl hb
    | 1,hb=>exact .inr hb
    | i+2,hb=>exact hb.elim
   ·match i,j,hi,hj with
    | 0,0,_,_=>exact absurd rfl hij
    | 0,1,hi,hj=>exact g3 1 2 b (by decide) hi hj
    | 1,0,hi,hj=>exact g3 2 1 b (by decide) hi hj
    | 1,1,_,_=>exact absurd rfl hij
    | i+2,_,hi,_=>exact hi.elim
    | _,j+2,_,hj=>exact hj.elim
  | i+2,hi=>simp at hi
 ·match i,hb with
  | 0,hb=>exact g2 0 b hb
  | 1,hb=>rcases hb with hb | hb<;>exact g2 _ b hb
  | i+2,hb=>exact hb.elim
 ·match i,j,hi,hj with
  | 0,0,_,_=>exact absurd rfl hij
  | 0,1,hi,hj=>rcases hj with hj | hj<;>exact g3 _ _ b (by decide) hi hj
  | 1,0,hi,hj=>rcases hi with hi | hi<;>exact g3 _ _ b (by decide) hi hj
  | 1,1,_,_=>exact absurd rfl hij
  | i+2,_,hi,_=>exact hi.elim
  | _,j+2,_,hj=>exact hj.elim
theorem aOP{a b c:HP}{F:Nat→Prop}{w:World}(h:(HP.many [a,HP.many [b,c]]).sat F w):(HP.many [a,b,c]).sat F w:=by
 obtain⟨G,g1,g2,g3⟩:=h;obtain⟨I,i1,i2,i3⟩:=g1 1 _ rfl;refine⟨fun i=>match i with | 0=>G 0 | 1=>I 0 | 2=>I 1 | _=>fun _=>False,fun i p hi=>?_,fun i b hb=>?_,fun i j b hij hi hj=>?_⟩
 ·match i,hi with
  | 0,hi=>cases hi;exact g1 0 _ rfl
  | 1,hi=>cases hi;exact i1 0 _ rfl
  | 2,hi=>cases hi;exact i1 1 _ rfl
  | i+3,hi=>simp at hi
 ·match i,hb with
  | 0,hb=>exact g2 0 b hb
  | 1,hb=>exact g2 1 b (i2 0 b hb)
  | 2,hb=>exact g2 1 b (i2 1 b hb)
  | i+3,hb=>exact hb.elim
 ·match i,j,hi,hj with
  | 0,0,_,_ | 1,1,_,_ | 2,2,_,_=>exact absurd rfl hij
  | 0,1,hi,hj=>exact g3 0 1 b (by decide) hi (i2 0 b hj)
  | 0,2,hi,hj=>exact g3 0 1 b (by decide) hi (i2 1 b hj)
  | 1,0,hi,hj=>exact g3 0 1 b (by decide) hj (i2 0 b hi)
  | 2,0,hi,hj=>exact g3 0 1 b (by decide) hj (i2 1 b hi)
  | 1,2,hi,hj=>exact i3 0 1 b (by decide) hi hj
  | 2,1,hi,hj=>exact i3 0 1 b (by decide) hj hi
  | i+3,_,hi,_=>exact hi.elim
  | _,j+3,_,hj=>exact hj.elim
def kI(g f:Nat)(hL:HL)(s:aC)(m:dW):HP:=aCp g f hL s m.z m.y m.x
def aFe(g f:Nat)(hL:HL)(s:aC)(m:dW)(l:List nG)(a:Option Addr×Nat):HP:=HP.many [kI g f hL s m,HP.own 143 4 (.slice a.1 l.length a.2) l.length (l.flatMap nG.cells)]
theorem St.mac{w0 w:World}{R:List Piece}{H:List HP}{g f:Nat}{hL:HL}{s:aC}{m:dW}(t:St w0 R H w)(i:Nat)(hi:H[i]? =some (kI g f hL s m)):∃L,Ds w g hL.h f L s m.z:=by
 obtain⟨F,h1,h2,_⟩:=t.chunk hi;obtain⟨G,g1,g2,_⟩:=h1;obtain⟨L,hL⟩:=g1 0 _ rfl;exact⟨L,aCo hL fun b hb=>h2 b (g2 0 b hb)⟩
section
variable(g f:Nat)(hL:HL)(s:aC)(n:Nat)(m:dW)(w:World)(F:Nat→Prop)
theorem aOH(t k d r v:Int)(hp:(kI g f hL s m).sat F w)(hF:∀b,F b→b < w.heap.size):
  Cz 17 #[pt g,iv t,.agg #[.int .u8 k,iv d,iv r,.int .u32 v]] w (Wr (iv (vN m.z t k d r v).1) (kI g f hL s (m.start t k d r v)) w F):=
 aB4 0 rfl (fun F0 h1 h2 _=>aG6 g hL.h f s m.z w F0 t k d r v h1 h2) hp hF
theorem aOJ(t:Int)(hp:(kI g f hL s m).sat F w)(hF:∀b,F b→b < w.heap.size):
  Cz 23 #[pt g,iv t] w (Wr (.tuple #[.agg #[iv (nM m.z t).1.1,.int .u32 (nM m.z t).1.2.1],.bool (nM m.z t).1.2.2]) (kI g f hL s (m.done t)) w F):=
 aB4 0 rfl (fun F0 h1 h2 _=>aG8 g hL.h f s m.z w F0 t h1 h2) hp hF
theorem aOF(hm:s.made)(aV:gE hL s)(hok:fE s n m)(hn:n≤1000000000)(t:Int)(hp:(kI g f hL s m).sat F w)(hF:∀b,F b→b < w.heap.size)(fG:kQ ⟨w,fun b=>b < w.heap.size∧¬F b⟩):
  Cz 19 #[pt g,iv t] w (Wr (.tuple #[]) (kI g f hL s (m.step s t)) w F):=
 aM3 g f hL s m.z m.y m.x w F t hm aV (fun hh=>hok.idle (hok.free hh) hn) (hok.wU.go hok.fw.toFwB) hp hF fG
theorem aOI(hm:s.made)(aV:gE hL s)(hok:fE s n m)(hp:(kI g f hL s m).sat F w)(hF:∀b,F b→b < w.heap.size)(fG:kQ ⟨w,fun b=>b < w.heap.size∧¬F b⟩):
  Cz 20 #[pt f] w (Wr (.tuple #[]) (kI g f hL s (m.fA s)) w F):=
 (aB4 1 rfl (fun F0 h1 h2 h3=>aQI f hL s m.y m.x w hm.cX aV (hok.fw.step hok.hw) F0 h1 h2 (kQ.le fG fun b hb=>⟨⟨hb.1,fun h0=>hb.2 (h3 b h0)⟩,rfl⟩)) (aOQ hp) hF).mono fun _ _ ⟨hy,F',h1,h2⟩=>⟨hy,F',aOP h1,h2⟩
theorem aOE(hm:s.made)(aV:gE hL s)(hok:fE s n m)(dF:Int)(hd:0≤dF∧dF < 4294967296)(hp:(kI g f hL s m).sat F w)(hF:∀b,F b→b < w.heap.size):
  Cz 22 #[.pointer (some ⟨hL.h,0,none⟩),.int .u32 dF] w (fun y w'=>∃a:Option Addr×Nat,y=.returned (.slice a.1 (oX s m.x dF).2.length a.2)∧True∧∃F',(aFe g f hL s ⟨m.z,m.y,(oX s m.x dF).1⟩ (oX s m.x dF).2 a).sat F' w'∧iH w w' F F'):=by
 obtain⟨G,g1,g2,g3⟩:=hp
 have hG:∀i b,G i b→b < w.heap.size:=fun i b hb=>hF b (g2 i b hb)
 have h0:=g1 0 _ rfl
 have h1:=g1 1 _ rfl
 refine(aPP hL s m.x w hm.cX aV hok.hw hok.wt dF hd (G 2) (g1 2 _ rfl) (hG 2)).mono fun y w' ⟨a,hy,_,F',⟨I,i1,i2,i3⟩,ht⟩=>⟨a,hy,trivial,fun b=>F' b∨G 0 b∨G 1 b,⟨fun i=>match i with | 0=>fun b=>I 0 b∨G 0 b∨G 1 b | 1=>I 1 | _=>fun _=>False,fun i p hi=>?_,fun i b hb=>?_,fun i j b hij hi hj=>?_⟩,⟨ht.os,ht.tape,ht.output,ht.size,fun b hb=>?_,fun b hb hn=>?_⟩⟩
 ·have old:∀i,i≠2→∀b,G i b→w'.heap[b]? =w.heap[b]? :=fun i hi b hb=>ht.old b (hG i b hb) fun h=>g3 2 i b (Ne.symm hi) h hb
  have fr:∀i,i≠2→∀b,F' b→¬G i b:=fun i hi b hb hc=>by
   rcases(ht.new b hb).1 with h | h
   ·exact g3 2 i b (Ne.symm hi) h hc
   ·have:=hG i b hc
    omega
  match i,hi with
  | 0, hi =>
   cases hi;refine⟨fun i=>match i with | 0=>G 0 | 1=>G 1 | 2=>I 0 | _=>fun _=>False,fun i p hi=>?_,fun i b hb=>?_,fun i j b hij hi hj=>?_⟩
   ·match i,hi with
    | 0,hi=>cases hi;exact HP.loc _ _ _ _ h0 (old 0 (by decide))
    | 1,hi=>cases hi;exact HP.loc _ _ _ _ h1 (old 1 (by decide))
    | 2,hi=>cases hi;exact i1 0 _ rfl
    | i+3,hi=>simp at hi
   ·match i,hb with
    | 0,hb=>exact .inr (.inl hb)
    | 1,hb=>exact .inr (.inr hb)
    | 2,hb=>exact .inl hb
    | i+3,hb=>exact hb.elim
   ·match i,j,hi,hj with
    | 0,0,_,_ | 1,1,_,_ | 2,2,_,_=>exact absurd rfl hij
    | 0,1,hi,hj=>exact g3 0 1 b (by decide) hi hj
    | 1,0,hi,hj=>exact g3 1 0 b (by decide) hi hj
    | 0,2,hi,hj=>exact fr 0 (by decide) b (i2 0 b hj) hi
    | 2,0,hi,hj=>exact fr 0 (by decide) b (i2 0 b hi) hj
    | 1,2,hi,hj=>exact fr 1 (by decide) b (i2 0 b hj) hi
    | 2,1,hi,hj=>exact fr 1 (by decide) b (i2 0 b hi) hj
    | i+3,_,hi,_=>exact hi.elim
    | _,j+3,_,hj=>exact hj.elim
  | 1,hi=>cases hi;exact i1 1 _ rfl
  | i+2,hi=>simp at hi
 ·match i,hb with
  | 0,hb=>
   rcases hb with hb | hb
   ·exact .inl (i2 0 b hb)
   ·exact .inr hb
  | 1,hb=>exact .inl (i2 1 b hb)
  | i+2,hb=>exact hb.elim
 ·have fr:∀i,i≠2→∀b,F' b→¬G i b:=fun i hi b hb hc=>by
   rcases(ht.new b hb).1 with h | h
   ·exact g3 2 i b (Ne.symm hi) h hc
   ·have:=hG i b hc
    omega
  match i,j,hi,hj with
  | 0,0,_,_ | 1,1,_,_=>exact absurd rfl hij
  | 0,1,hi,hj=>
   rcases hi with hi | hi | hi
   ·exact i3 0 1 b (by decide) hi hj
   ·exact fr 0 (by decide) b (i2 1 b hj) hi
   ·exact fr 1 (by decide) b (i2 1 b hj) hi
  | 1,0,hi,hj=>
   rcases hj with hj | hj | hj
   ·exact i3 0 1 b (by decide) hj hi
   ·exact fr 0 (by decide) b (i2 1 b hi) hj
   ·exact fr 1 (by decide) b (i2 1 b hi) hj
  | i+2,_,hi,_=>exact hi.elim
  | _,j+2,_,hj=>exact hj.elim
 ·rcases hb with hb | hb | hb
  ·refine⟨?_,(ht.new b hb).2⟩;rcases(ht.new b hb).1 with h | h
   ·exact .inl (g2 2 b h)
   ·exact .inr h
  ·exact⟨.inl (g2 0 b hb),Nat.lt_of_lt_of_le (hG 0 b hb) ht.size⟩
  ·exact⟨.inl (g2 1 b hb),Nat.lt_of_lt_of_le (hG 1 b hb) ht.size⟩
 ·exact ht.old b hb fun h=>hn (g2 2 b h)
theorem aOK(hok:qS s m.z)(l:List nG)(hl:l.length≤1000)(a:Option Addr×Nat)(hp:(aFe g f hL s m l a).sat F w)(hF:∀b,F b→b < w.heap.size):
  Cz 21 #[pt g,.slice a.1 l.length a.2] w (Wr (.tuple #[]) (kI g f hL s ⟨xE m.z l,m.y,m.x⟩) w F):=by
 obtain⟨G,g1,g2,g3⟩:=hp
 have hG:∀i b,G i b→b < w.heap.size:=fun i b hb=>hF b (g2 i b hb)
 obtain⟨A,c,hv,hs⟩:=vD (Y:=G 1) (g1 1 _ rfl) (fun b hb=>hb)
 injection hv with Mp hv2 hv3
 subst Mp;refine(aB4 0 rfl (p':=gL g hL.h f s (xE m.z l)) (v:=.tuple #[]) (fun F0 h1 h2 h3=>aME g hL.h f s m.z w F0 a.1 a.2 l hl hok.po h1 h2 (hs.le fun b hb=>⟨⟨hG 1 b hb,fun h0=>g3 0 1 b (by decide) (h3 b h0) hb⟩,rfl⟩)) (g1 0 _ rfl) (hG 0)).mono fun y w' ⟨hy,F',h1,ht⟩=>⟨hy,F',h1,⟨ht.os,ht.tape,ht.output,ht.size,fun b hb=>?_,fun b hb hn=>ht.old b hb fun h=>hn (g2 0 b h)⟩⟩
 refine⟨?_,(ht.new b hb).2⟩;rcases(ht.new b hb).1 with h | h
 ·exact .inl (g2 0 b h)
 ·exact .inr h
end
end
section
def Dx(s:aC)(X:bM)(p:dG):Prop:=
 (∃i:Nat,p=⟨17,4,i,1⟩∧i < s.domains.length∧hasB X.d i=false∧∀d,s.domains[i]? =some d→0≤d.above→hasB X.d d.above.toNat=true)∨
 (∃i:Nat,p=⟨20,7,i,1⟩∧i < s.aF.length∧mN s i=true∧hasB X.c i=false∧∀j∈fZ s i,j≠i→mN s j=true→hasB X.c j=true)∨
 (∃i:Nat,p=⟨22,4,i,0⟩∧i < s.aR.length∧hasB X.l i=false)∨
 (∃i:Nat,p=⟨20,7,i,0⟩∧i < s.aF.length∧mN s i=true∧hasB X.c i=true∧∀j:Nat,j≠i→hasB X.c j=true→i∉fZ s j)∨
 (∃i:Nat,p=⟨17,4,i,mP s i⟩∧i < s.domains.length∧hasB X.d i=true∧∀(j:Nat) d,s.domains[j]? =some d→d.above=(i:Int)→hasB X.d j=false)
section
variable{s:aC}{x y:bM}
theorem aT6(hm:s.made)(hx:x.cl s)(hy:y.cl s)(hxy:∀i,hasB x.l i=true→hasB y.l i=true){k:Nat}{p:dG}(hk:(allM s x y)[k]? =some p):Dx s (((allM s x y).take k).foldl gZ x) p:=by
 have jT:=aQE (L:=(allM s x y).take k) hx.of
 unfold allM uY at hk jT⊢;rcases Zg hk with⟨h1,h2⟩ | ⟨t1,h1,h2⟩
 ·
  obtain⟨i,hi,rfl,ht⟩:=Px h1;rw[h2,ht,Sd] at jT⊢
  have hmem:=zY.1 (List.mem_of_getElem? hi)
  have nV:=aA6 (aAS s.domains.length x.d y.d) hi
  have nK:=zP.1 hmem.2
  have Ba:∀j,j < s.domains.length→hasB ((List.take k (eW (List.range s.domains.length) x.d y.d)).foldl (fun d (i:Nat)=>iC d (i:Int) true) x.d) j=if j∈List.take k (eW (List.range s.domains.length) x.d y.d) then true else hasB x.d j:=fun j hj=>has_fold _ _ _ _ (by rw[hx.of.d];exact hj)
  refine .inl ⟨i,rfl,hmem.1,?_,fun d hd h0=>?_⟩
  ·dsimp only;rw[Ba i hmem.1,if_neg (fun h=>by have:=((nV i).1 h).2;omega),nK.2]
  ·dsimp only
   have hfit:=(hm.domains i d hd).1
   have ha:d.above.toNat < s.domains.length:=by omega
   rw[Ba _ ha]
   have hya:=hy.up i d nK.1 hd h0
   split
   ·rfl
   ·rename_i hnot
    cases hxa:hasB x.d d.above.toNat with
    | true=>rfl
    | false=>exact absurd ((nV d.above.toNat).2 ⟨zY.2 ⟨ha,zP.2 ⟨hya,hxa⟩⟩,by omega⟩) hnot
 ·rcases Zg h1 with⟨h3,h4⟩ | ⟨t2,h3,h4⟩
  ·
   obtain⟨i,hi,rfl,ht⟩:=Px h3;rw[h2,h4,ht,List.foldl_append,Sd,Yi] at jT⊢
   have hmem:=zY.1 (List.mem_of_getElem? hi)
   have nV:=aA6 (aAS s.aF.length x.c y.c) hi
   have nK:=zP.1 hmem.2
   have Ba:∀j,j < s.aF.length→hasB ((List.take t1 (eW (List.range s.aF.length) x.c y.c)).foldl (fun d (i:Nat)=>iC d (i:Int) true) x.c) j=if j∈List.take t1 (eW (List.range s.aF.length) x.c y.c) then true else hasB x.c j:=fun j hj=>has_fold _ _ _ _ (by rw[hx.of.c];exact hj)
   refine .inr (.inl ⟨i,rfl,hmem.1,hy.sw i nK.1,?_,fun j hj hji hjs=>?_⟩)
   rotate_left
   ·dsimp only
    have hjl:j < s.aF.length:=aBH hj
    have hle:=aBI hm hj
    rw[Ba j hjl]
    have Mn:=hy.ch i j nK.1 hj hjs
    split
    ·rfl
    ·rename_i hnot
     cases yF:hasB x.c j with
     | true=>rfl
     | false=>exact absurd ((nV j).2 ⟨zY.2 ⟨hjl,zP.2 ⟨Mn,yF⟩⟩,by omega⟩) hnot
   dsimp only;rw[has_fold _ _ _ _ (by rw[hx.of.c];exact hmem.1),if_neg (fun h=>by have:=((nV i).1 h).2;omega),nK.2]
  ·rcases Zg h3 with⟨h5,h6⟩ | ⟨t3,h5,h6⟩
   ·
    obtain⟨i,hi,rfl,ht⟩:=Px h5;rw[h2,h4,h6,ht,List.foldl_append,List.foldl_append,Sd,Yi,aB6] at jT⊢
    have hmem:=zY.1 (List.mem_of_getElem? hi)
    have nV:=aA6 (aAS s.aR.length x.l y.l) hi
    have nK:=zP.1 hmem.2
    refine .inr (.inr (.inl ⟨i,rfl,hmem.1,?_⟩));dsimp only;rw[has_fold _ _ _ _ (by rw[hx.of.l];exact hmem.1),if_neg (fun h=>by have:=((nV i).1 h).2;omega),nK.2]
   ·rcases Zg h5 with⟨h7,h8⟩ | ⟨t4,h7,h8⟩
    ·
     obtain⟨i,hi,rfl,ht⟩:=Px h7;rw[h2,h4,h6,h8,ht,List.foldl_append,List.foldl_append,List.foldl_append,Sd,Yi,aB6,aEl] at jT⊢
     have hmem:=zY.1 (List.mem_of_getElem? hi)
     have nV:=aA6 (aAS s.aR.length y.l x.l) hi
     have nK:=zP.1 hmem.2
     exact absurd (hxy i nK.1) (by rw[nK.2];simp)
    ·rcases Zg h7 with⟨h9,h10⟩ | ⟨t5,h9,h10⟩
     ·
      obtain⟨i,hi,rfl,ht⟩:=Px h9;rw[h2,h4,h6,h8,h10,ht,List.foldl_append,List.foldl_append,List.foldl_append,List.foldl_append,Sd,Yi,aB6,aEl,aII] at jT⊢
      have hmem:=Ql.1 (List.mem_of_getElem? hi)
      have Wk:=aGe (aHz s.aF.length y.c x.c) hi
      have nK:=zP.1 hmem.2
      have Ba:∀j,j < s.aF.length→hasB ((List.take t4 (eW (List.range s.aF.length).reverse y.c x.c)).foldl (fun d (i:Nat)=>iC d (i:Int) false) ((eW (List.range s.aF.length) x.c y.c).foldl (fun d (i:Nat)=>iC d (i:Int) true) x.c)) j=if j∈List.take t4 (eW (List.range s.aF.length).reverse y.c x.c) then false else if j∈eW (List.range s.aF.length) x.c y.c then true else hasB x.c j:=fun j hj=>by
       rw[has_fold _ _ _ _ (by rw[aAM,hx.of.c];exact hj),has_fold _ _ _ _ (by rw[hx.of.c];exact hj)]
      refine .inr (.inr (.inr (.inl ⟨i,rfl,hmem.1,hx.sw i nK.1,?_,fun j hji hj jU=>?_⟩)))
      ·dsimp only;rw[Ba i hmem.1,if_neg (fun h=>by have:=((Wk i).1 h).2;omega)];split
       ·rfl
       ·exact nK.1
      ·dsimp only at hj
       have hjl:=Rx hj
       rw[aAM,aAM,hx.of.c] at hjl;rw[Ba j hjl] at hj
       have hle:=aBI hm jU
       have Mn:hasB y.c j=true:=by
        split at hj
        ·cases hj
        ·rename_i hnot
         split at hj
         ·rename_i mX;exact(zP.1 (zY.1 mX).2).1
         ·cases Mn:hasB y.c j with
          | true=>rfl
          | false=>exact absurd ((Wk j).2 ⟨Ql.2 ⟨hjl,zP.2 ⟨hj,Mn⟩⟩,by omega⟩) hnot
       have:=hy.ch j i Mn jU (hx.sw i nK.1)
       rw[nK.2] at this;cases this
     ·
      obtain⟨i,hi,rfl,ht⟩:=Px h9;rw[h2,h4,h6,h8,h10,ht,List.foldl_append,List.foldl_append,List.foldl_append,List.foldl_append,List.foldl_append,Sd,Yi,aB6,aEl,aII,aRf] at jT⊢
      have hmem:=Ql.1 (List.mem_of_getElem? hi)
      have Wk:=aGe (aHz s.domains.length y.d x.d) hi
      have nK:=zP.1 hmem.2
      have Ba:∀j,j < s.domains.length→hasB ((List.take t5 (eW (List.range s.domains.length).reverse y.d x.d)).foldl (fun d (i:Nat)=>iC d (i:Int) false) ((eW (List.range s.domains.length) x.d y.d).foldl (fun d (i:Nat)=>iC d (i:Int) true) x.d)) j=if j∈List.take t5 (eW (List.range s.domains.length).reverse y.d x.d) then false else if j∈eW (List.range s.domains.length) x.d y.d then true else hasB x.d j:=fun j hj=>by
       rw[has_fold _ _ _ _ (by rw[aAM,hx.of.d];exact hj),has_fold _ _ _ _ (by rw[hx.of.d];exact hj)]
      refine .inr (.inr (.inr (.inr ⟨i,rfl,hmem.1,?_,fun j d hd hab=>?_⟩)))
      ·dsimp only;rw[Ba i hmem.1,if_neg (fun h=>by have:=((Wk i).1 h).2;omega)];split
       ·rfl
       ·exact nK.1
      ·dsimp only
       have hjl:=(List.getElem?_eq_some_iff.1 hd).1
       have hfit:=(hm.domains j d hd).1
       rw[Ba j hjl];split
       ·rfl
       ·rename_i hnot
        have key:hasB y.d j=false:=by
         cases Mn:hasB y.d j with
         | false=>rfl
         | true=>
          have:=hy.up j d Mn hd (by omega)
          rw[show d.above.toNat=i by omega,nK.2] at this;cases this
        split
        ·rename_i mX
         have:=(zP.1 (zY.1 mX).2).1
         rw[key] at this;cases this
        ·cases yF:hasB x.d j with
         | false=>rfl
         | true=>exact absurd ((Wk j).2 ⟨Ql.2 ⟨hjl,zP.2 ⟨yF,key⟩⟩,by omega⟩) hnot
theorem aGg{i:Nat}(h:mN s i=true):qY s i:=by
 unfold mN at h;unfold qY kindOf;cases hc:s.aF[i]? with
 | none=>rw[hc] at h;cases h
 | some c=>rw[hc] at h;exact of_decide_eq_true h
theorem aK0{i:Nat}(h:qY s i):mN s i=true:=by
 unfold qY kindOf at h;unfold mN;cases hc:s.aF[i]? with
 | none=>rw[hc] at h;exact absurd h (by simp)
 | some c=>rw[hc] at h;exact decide_eq_true h
theorem Dx.goes(hm:s.made){X:bM}{p:dG}(h:Dx s X p)(jT:X.of s):Ty s X p 0:=by
 rcases h with⟨i,rfl,h1,h2,h3⟩ | ⟨i,rfl,h1,h2,h3,_⟩ | ⟨i,rfl,h1,h2⟩ | ⟨i,rfl,h1,h2,h3,h4⟩ | ⟨i,rfl,h1,h2,h3⟩
 ·exact aQx hm jT (by decide) h1 h2 h3
 ·exact aQv hm jT (by decide) h1 h2 h3
 ·exact aQu hm jT (by decide) h1 h2
 ·exact aQw hm jT (by decide) h1 h2 h3 h4
 ·exact aQy hm jT (by decide) h1 h2 h3
section
variable{X:bM}{h:aO}
theorem aQ2(hm:s.made)(hi:Inv s X none none none h){c:Nat}{ck:eG}(hc:s.aF[c]? =some ck)(lT:qY s c)(hsrc:∀j∈fZ s c,j≠c→qY s j→hasB X.c j=true)(hh:hasB X.c c=false):∃x',xL s 99 c (8+1) h x'∧Inv s (wsC X c) none none none x':=by
 have hlt:=(List.getElem?_eq_some_iff.1 hc).1
 have hX:=hi.of
 have iD:c < X.c.length:=by rw[hX.c];exact hlt
 have jA:∀j,hasB (wsC X c).c j=if j=c then true else hasB X.c j:=fun j=>Rw iD j
 have hXc:hasB (wsC X c).c c=true:=by rw[jA,if_pos rfl]
 have hinv:Inv s (wsC X c) none (some c) none h:=by
  refine⟨hi.ok,hi.wt,⟨hX.d,by show(kV _ _ _).length=_;rw[Cl];exact hX.c,hX.l⟩,hi.dom,fun i ci y sA hy hx hb=>?_,fun i hx j hj hsj=>?_,fun c' Hu i hx hne hmem=>?_,hi.tE,hi.rA⟩
  ·have hid:i≠c:=fun h=>hb (by rw[h])
   rw[jA,if_neg hid] at hx;exact hi.jO i ci y sA hy hx (by simp)
  ·rw[jA]
   by_cases Ro:j=c
   ·rw[if_pos Ro]
   ·rw[if_neg Ro];rw[jA] at hx
    by_cases hic:i=c
    ·subst hic;exact hsrc j hj Ro hsj
    ·rw[if_neg hic] at hx;exact hi.sD i hx j hj hsj
  ·cases Hu;rw[jA,if_neg hne] at hx
   have:=hi.sD i hx c hmem lT
   rw[hh] at this;cases this
 obtain⟨y,hy⟩:=get_some (l:=h.ck) (i:=c) (by have:=hi.ok.ck.len;omega)
 have hyl:=hi.ok.ck.left y (List.mem_of_getElem? hy)
 exact aG3 hm hc lT hXc (8+1) h y hinv hy (by omega)
def aFL(X:bM)(c:Nat):bM:=⟨X.d,kV X.c c false,X.l⟩
theorem aQ1(hm:s.made)(hi:Inv s X none none none h){c:Nat}{ck:eG}(hc:s.aF[c]? =some ck)(lT:qY s c)(hno:∀j:Nat,j≠c→hasB X.c j=true→c∉fZ s j):∃x',xL s 111 c (8+1) h x'∧Inv s (aFL X c) none none none x':=by
 have hlt:=(List.getElem?_eq_some_iff.1 hc).1
 have hX:=hi.of
 have iD:c < X.c.length:=by rw[hX.c];exact hlt
 have jA:∀j,hasB (aFL X c).c j=if j=c then false else hasB X.c j:=fun j=>aIt iD j
 obtain⟨y,hy⟩:=get_some (l:=h.ck) (i:=c) (by have:=hi.ok.ck.len;omega)
 have hly:=(List.getElem?_eq_some_iff.1 hy).1
 have hyl:=hi.ok.ck.left y (List.mem_of_getElem? hy)
 have aBq:ck.kind=112∨ck.kind=103:=by rw[←Jv hc];exact lT
 have tK:(lD s h.ck (c:Int) false).2=h.ck.set c (Gw ck y false):=by
  unfold lD;rw[show bN s.aF.length (c:Int)=true from decide_eq_true (by omega)];simp only[Bool.true_eq_false,if_false,Int.toNat_natCast,hc,hy];rw[if_neg (by omega)]
 have yL:qW s (h.ck.set c (Gw ck y false)):=tK▸Vs hm.cX hi.ok.ck (c:Int) false
 refine⟨{h with ck:=h.ck.set c (Gw ck y false)},aAB hi.ok (by unfold nO;rw[if_neg (by decide),if_neg (by decide),if_neg (by decide),if_neg (by decide),if_pos rfl,tK]),?_⟩;refine⟨⟨yL,hi.ok.dm,hi.ok.ln,hi.ok.dv,hi.ok.each,hi.ok.wt⟩,hi.wt,⟨hX.d,by show(kV _ _ _).length=_;rw[Cl];exact hX.c,hX.l⟩,hi.dom,fun i ci y' sA hy' hx hb=>?_,fun i hx j hj hsj=>?_,(fun _ h=>by cases h),hi.tE,hi.rA⟩
 ·rw[jA] at hx
  by_cases hic:i=c
  ·rw[if_pos hic] at hx;cases hx
  ·rw[if_neg hic] at hx;dsimp only at hy';rw[List.getElem?_set_ne (Ne.symm hic)] at hy';exact hi.jO i ci y' sA hy' hx (by simp)
 ·rw[jA] at hx⊢
  by_cases hic:i=c
  ·rw[if_pos hic] at hx;cases hx
  ·rw[if_neg hic] at hx;rw[if_neg (fun e:j=c=>hno i hic hx (e▸hj))];exact hi.sD i hx j hj hsj
theorem aGy{k id:Int}:∀(n:Nat) {x x':aO},aAh s (fun x=>nO s x k id) n x x'→xL s k id n x x'
 | 0,_,_,h=>h.elim
 | n+1,x,x',⟨h0,.inl h⟩=>⟨h0,.inl h⟩
 | n+1,x,x',⟨h0,.inr ⟨x1,h1,h2,h3,h4⟩⟩=>⟨h0,.inr ⟨x1,h1,h2,h3,aGy n h4⟩⟩
theorem Dx.run(hm:s.made){p:dG}(hg:Dx s X p)(hi:Inv s X none none none h):∃(N:Nat) (x':aO),N≤9∧xL s (uQ p) p.id N h x'∧Inv s (gZ X p) none none none x'∧Dw s (uQ p) p.id:=by
 have hdone:=(hg.goes hm hi.of).done
 rcases hg with⟨i,rfl,h1,h2,h3⟩ | ⟨i,rfl,h1,h2,h3,h4⟩ | ⟨i,rfl,h1,h2⟩ | ⟨i,rfl,h1,h2,h3,h4⟩ | ⟨i,rfl,h1,h2,h3⟩
 ·obtain⟨d,hd⟩:=get_some h1
  have hfit:=(hm.domains i d hd).1
  obtain⟨x',r1,r2⟩:=aQz hm hi hd (by
   by_cases h0:0≤d.above
   ·exact .inr ⟨h0,h3 d hd h0⟩
   ·exact .inl (by omega)) h2
  exact⟨9,x',by omega,r1,hdone▸r2,⟨.inl rfl,fun h=>absurd h (by show ¬(117:Int)=99;decide)⟩⟩
 ·obtain⟨c,hc⟩:=get_some h1;obtain⟨x',r1,r2⟩:=aQ2 hm hi hc (aGg h2) (fun j hj hji hjs=>h4 j hj hji (aK0 hjs)) h3;exact⟨9,x',by omega,r1,hdone▸r2,⟨.inr (.inl rfl),fun _=>⟨by show(0:Int)≤(i:Int);omega,by show(i:Int) < _;omega⟩⟩⟩
 ·obtain⟨x',r1,r2⟩:=aQ0 hm hi h1 h2;exact⟨9,x',by omega,r1,hdone▸r2,⟨.inr (.inr (.inl rfl)),fun h=>absurd h (by show ¬(114:Int)=99;decide)⟩⟩
 ·obtain⟨c,hc⟩:=get_some h1;obtain⟨x',r1,r2⟩:=aQ1 hm hi hc (aGg h2) h4;exact⟨9,x',by omega,r1,hdone▸r2,⟨.inr (.inr (.inr (.inr (.inr (.inl rfl))))),fun h=>absurd h (by show ¬(111:Int)=99;decide)⟩⟩
 ·obtain⟨d,hd⟩:=get_some h1
  have hk:uQ ⟨17,4,i,mP s i⟩=if d.ret then 107 else 100:=by
   simp only[uQ,mP,hd,Option.map_some,Option.getD_some];cases d.ret<;>simp
  have hk2:uQ ⟨17,4,i,mP s i⟩=100∨uQ ⟨17,4,i,mP s i⟩=107:=by
   rw[hk];split
   ·exact .inr rfl
   ·exact .inl rfl
  obtain⟨N,x',r0,r1,r2,_⟩:=aMt hm hd d.ret (fun h=>h) hi h2 h3;refine⟨N,x',by omega,aGy N ?_,?_,⟨by rcases hk2 with h | h<;>rw[h]<;>simp,fun h=>absurd h (by rcases hk2 with h | h<;>rw[h]<;>decide)⟩⟩
  ·have he:(fun x=>nO s x (uQ ⟨17,4,i,mP s i⟩) (i:Int))=fun x=>uK s x (i:Int) d.ret:=by
    funext x
    rw[hk];unfold nO;cases d.ret<;>simp
   show aAh s (fun x=>nO s x (uQ ⟨17,4,i,mP s i⟩) (i:Int)) N h x'
   rw[he];exact r1
  ·have:jZ X 0 (uQ ⟨17,4,i,mP s i⟩) (i:Int)=Ug X i:=by
    rw[hk];cases d.ret<;>rfl
   rw[←hdone,show(dG.mk 17 4 (i:Int) (mP s i)).id=(i:Int) from rfl,this];exact r2
end
end
end
section
theorem aFs{q q2:Piece}{g:List (List Int)}{vs:List Value}{A:Option Addr}{n c:Nat}(h:Rows (qT (fQ q)) 1 g (vs.map fun v=>[v]))(hl:q.Le q2)(h1:∃F,(HP.own 22 1 (.slice A n c) n vs).sat F q2.w∧∀b,F b→q2.Z b)(hn:n=g.length):nF q2 A n g:=by
 obtain⟨F,hs,hz⟩:=h1;refine⟨_,h.mono (fun _ _=>qT.mono (oF hl)),hn,?_⟩;rw[show(vs.map fun v=>[v]).flatten=vs by clear h hs;induction vs<;>simp_all];obtain⟨A',c',e,hS⟩:=vD (Y:=q2.Z) hs hz
 injection e with e1 e2 e3
 subst e1;exact hS
theorem aNc(s:aC)(A1 A2 A3 A4:Option Addr)(n1 k1 n2 k2 n3 k3 n4 k4:Nat)(w:World)(hW:fM w s A1 n1 A2 n2 A3 n3 A4 n4):
  Cz 215 #[.agg #[.slice A1 n1 k1,.slice A2 n2 k2,.slice A3 n3 k3,.slice A4 n4 k4]] w (fun y w'=>(∃v,y=.returned v∧wN (gY s) v w w')∧Below w.heap.size w w'):=by
 have hn:=hW.nJ
 have cR:=hW.small
 unfold aC.small at cR;obtain⟨hs1,gB,rZ,tH,oM,pF⟩:=cR;refine aN func215 ntmps215 ?_;refine aB ?_;refine bF fun g1=>?_;refine aB ?_;refine bL [(4,iv 0),(3,sn),(1,pt g1)] ?_;refine iR 22 1 ?_;refine dP [] [] [0,1] (by simp) rfl (by decide) (by decide) fun q0 _ _ Cy=>?_;refine aB ?_;refine eJ (fun m e R H=>∃(k:Nat) (vs:List Value) (q:Piece) (Ag:Option Addr) (cg:Nat),k≤n1∧m=n1 - k∧qV w q∧Rows (qT (fQ q)) 1 ((gY s).take k) (vs.map fun v=>[v])∧e=[(4,iv k),(3,.slice Ag k cg),(1,pt g1)]∧R=[q,all w]∧H=[HP.own 22 1 (.slice Ag k cg) k vs,HP.aE g1 30 [.slice A1 n1 k1,.slice A2 n2 k2,.slice A3 n3 k3,.slice A4 n4 k4]]) n1 ⟨0,[],_,none,0,by omega,rfl,Cy (by simp) (by simp),trivial,rfl,rfl,rfl⟩ fun m e R H hI=>?_;obtain⟨k,vs,q,Ag,cg,hk,rfl,rE,hrows,rfl,rfl,rfl⟩:=hI;refine aB ?_;refine aG rfl (fun h=>?_) (fun h=>?_)
 ·
  refine aB ?_
  have hkn:k < s.aF.length:=by omega
  obtain⟨e,he⟩:∃e,s.aF[k]? =some e:=⟨_,List.getElem?_eq_getElem hkn⟩
  obtain⟨b,off,r,rfl,hrl,hR,hro⟩:=hW.jO.row he;obtain⟨Af,nf,kf,rfl,hnf,pT⟩:=hR
  have yK:(gY s)[k]? =some (e.src):=by simp[gY,he]
  refine aB ?_;refine Ec (el:=3) (sz:=1) (by kernel_rfl) (by kernel_rfl) (by decide) fun g4=>?_;refine Bq 0 1 0 rfl rfl (by omega) ?_;dsimp only[List.set];refine aA ?_;refine kd (dat k (off+k*6)) ?_;refine qE (off:=1) (by kernel_rfl) rfl (by decide) ?_;refine jG (by kernel_rfl) rfl (Bv (by simp) (hro.at_ (j:=1) rfl)) (by decide) ?_;refine gM 0 1 8 nf (n':=nf) (el:=3) (by kernel_rfl) (by kernel_rfl) (by decide) rfl rfl rfl (qZ (p:=all w) (by simp) pT) (by simp[aL,Value.oneCell']) (by omega) (by have:=oM e (List.mem_of_getElem? he);omega) (by have:=oM e (List.mem_of_getElem? he);omega) (by decide) fun A5 c5=>?_;dsimp only[List.set,List.nil_append];refine eK fun g3=>?_;refine gM 2 1 24 1 (n':=k+1) (el:=22) (by kernel_rfl) (by kernel_rfl) (by decide) rfl rfl rfl (nS 0 rfl rfl) (by simp[Value.oneCell']) rfl (by omega) (by omega) (by decide) fun A6 c6=>?_;dsimp only[List.set];refine aB ?_;refine dP [q] [1] [2,3] (by simp) rfl (by decide) (by decide) fun q' mI hle Fi=>?_;obtain⟨Fg,Ms,Mm⟩:=mI 1 _ (by simp) rfl;obtain⟨A7,c7,e7,Ct⟩:=vD (Y:=q'.Z) Ms Mm
  injection e7 with f1 f2 f3
  subst f1;exact dX (n1 - (k+1)) ⟨k+1,vs++[_],q',A6,c6,by omega,rfl,Fi (by simp) (by simpa using rE),Jm hrows (hle q (by simp)) yK ⟨A5,nf,c5,rfl,hnf,Ct⟩,rfl,rfl,rfl⟩
 ·
  refine aB ?_;obtain rfl:k=n1:=by omega
  rw[List.take_of_length_le (by simp[gY];omega)] at hrows;refine aB ?_;refine dP [q] [0] [] (by simp) rfl (by decide) (by decide) fun q2 hq hle hfr=>?_
  have kM:k=(gY s).length:=by simp[gY];omega
  exact aT (h:=fun w1 st=>⟨_,rfl,Ag,cg,by rw[←kM],by rw[←kM];exact(aFs hrows (hle q (by simp)) (hq 0 _ (by simp) rfl) kM).le (st.mL (by simp) (hfr (by simp) (by simpa using rE)))⟩)
theorem aMY(s:aC)(A1 A2 A3 A4:Option Addr)(n1 k1 n2 k2 n3 k3 n4 k4:Nat)(w:World)(hW:fM w s A1 n1 A2 n2 A3 n3 A4 n4):
  Cz 217 #[.agg #[.slice A1 n1 k1,.slice A2 n2 k2,.slice A3 n3 k3,.slice A4 n4 k4]] w (fun y w'=>(∃v,y=.returned v∧wN (gX s) v w w')∧Below w.heap.size w w'):=by
 have hn:=hW.nT
 have cR:=hW.small
 unfold aC.small at cR;obtain⟨hs1,gB,rZ,tH,oM,pF⟩:=cR;refine aN func217 ntmps217 ?_;refine aB ?_;refine bF fun g1=>?_;refine aB ?_;refine bL [(4,iv 0),(3,sn),(1,pt g1)] ?_;refine iR 22 1 ?_;refine dP [] [] [0,1] (by simp) rfl (by decide) (by decide) fun q0 _ _ Cy=>?_;refine aB ?_;refine eJ (fun m e R H=>∃(k:Nat) (vs:List Value) (q:Piece) (Ag:Option Addr) (cg:Nat),k≤n2∧m=n2 - k∧qV w q∧Rows (qT (fQ q)) 1 ((gX s).take k) (vs.map fun v=>[v])∧e=[(4,iv k),(3,.slice Ag k cg),(1,pt g1)]∧R=[q,all w]∧H=[HP.own 22 1 (.slice Ag k cg) k vs,HP.aE g1 30 [.slice A1 n1 k1,.slice A2 n2 k2,.slice A3 n3 k3,.slice A4 n4 k4]]) n2 ⟨0,[],_,none,0,by omega,rfl,Cy (by simp) (by simp),trivial,rfl,rfl,rfl⟩ fun m e R H hI=>?_;obtain⟨k,vs,q,Ag,cg,hk,rfl,rE,hrows,rfl,rfl,rfl⟩:=hI;refine aB ?_;refine aG rfl (fun h=>?_) (fun h=>?_)
 ·
  refine aB ?_
  have hkn:k < s.domains.length:=by omega
  obtain⟨e,he⟩:∃e,s.domains[k]? =some e:=⟨_,List.getElem?_eq_getElem hkn⟩
  obtain⟨b,off,r,rfl,hrl,hR,hro⟩:=hW.dom.row he;obtain rfl:=hR
  have yK:(gX s)[k]? =some (if e.above= -1 then[] else[e.above]):=by simp[gX,he]
  refine aA ?_;refine kd (dat k (off+k*3)) ?_;refine qE (off:=0) (by kernel_rfl) rfl (by decide) ?_;refine jG (by kernel_rfl) rfl (Bv (by simp) (hro.at_ (j:=0) rfl)) (by decide) ?_;refine aAr rfl rfl (by decide) ?_;refine dO ?_;refine aG rfl (fun hab=>?_) (fun hab=>?_)
  ·
   refine iR 3 1 ?_;refine aA ?_;refine kd (dat k (off+k*3)) ?_;refine qE (off:=0) (by kernel_rfl) rfl (by decide) ?_;refine jG (by kernel_rfl) rfl (Bv (by simp) (hro.at_ (j:=0) rfl)) (by decide) ?_;refine eK fun g2=>?_;refine gM 1 1 8 1 (n':=1) (v:=sn) (el:=3) (by kernel_rfl) (by kernel_rfl) (by decide) rfl rfl rfl (nS 0 rfl rfl) (by simp[Value.oneCell']) rfl (by omega) (by omega) (by decide) fun A5 c5=>?_;dsimp only[List.set,List.nil_append];refine aB ?_;refine eK fun g3=>?_;refine gM 3 1 24 1 (n':=k+1) (el:=22) (by kernel_rfl) (by kernel_rfl) (by decide) rfl rfl rfl (nS 0 rfl rfl) (by simp[Value.oneCell']) rfl (by omega) (by omega) (by decide) fun A6 c6=>?_;dsimp only[List.set];refine aB ?_;refine dP [q] [2] [3,4] (by simp) rfl (by decide) (by decide) fun q' mI hle Fi=>?_;obtain⟨Fg,Ms,Mm⟩:=mI 2 _ (by simp) rfl;obtain⟨A7,c7,e7,Ct⟩:=vD (Y:=q'.Z) Ms Mm
   injection e7 with f1 f2 f3
   subst f1;exact dX (n2 - (k+1)) ⟨k+1,vs++[_],q',A6,c6,by omega,rfl,Fi (by simp) (by simpa using rE),Jm hrows (hle q (by simp)) yK (by rw[if_neg hab];exact⟨A5,1,c5,rfl,rfl,Ct⟩),rfl,rfl,rfl⟩
  ·
   refine aB ?_;refine eK fun g4=>?_;refine gM 1 1 24 1 (n':=k+1) (el:=22) (by kernel_rfl) (by kernel_rfl) (by decide) rfl rfl rfl (nS 0 rfl rfl) (by simp[Value.oneCell']) rfl (by omega) (by omega) (by decide) fun A6 c6=>?_;dsimp only[List.set];refine aB ?_;exact dX (n2 - (k+1)) ⟨k+1,vs++[_],q,A6,c6,by omega,rfl,rE,Jm hrows (fun b hb=>⟨hb,rfl⟩) yK (by rw[if_pos (Classical.not_not.1 hab)];exact⟨_,0,0,rfl,rfl,aI.nil _ 1⟩),rfl,rfl,rfl⟩
 ·
  refine aB ?_;obtain rfl:k=n2:=by omega
  rw[List.take_of_length_le (by simp[gX];omega)] at hrows;refine aB ?_;refine dP [q] [0] [] (by simp) rfl (by decide) (by decide) fun q2 hq hle hfr=>?_
  have kM:k=(gX s).length:=by simp[gX];omega
  exact aT (h:=fun w1 st=>⟨_,rfl,Ag,cg,by rw[←kM],by rw[←kM];exact(aFs hrows (hle q (by simp)) (hq 0 _ (by simp) rfl) kM).le (st.mL (by simp) (hfr (by simp) (by simpa using rE)))⟩)
end
section
def wC(n j:Nat):List Value:=(List.replicate j (Value.bool true))++List.replicate (n - j) (.bool false)
theorem aRD{n j:Nat}(h:j≤n):(wC n j).length=n:=by simp[wC];omega
theorem aIS{n j v:Nat}(h:v < j):(wC n j)[v]? =some (.bool true):=by
 rw[wC,List.getElem?_append_left (by simpa using h),List.getElem?_replicate,if_pos h]
theorem aRE{n j:Nat}(h:j < n):(wC n j)[j]? =some (.bool false):=by
 rw[wC,List.getElem?_append_right (by simp)];simp[List.getElem?_replicate];omega
theorem aRC{n j:Nat}(h:j < n):(wC n j).set j (.bool true)=wC n (j+1):=by
 unfold wC;rw[List.set_append_right _ _ (by simp),List.length_replicate,Nat.sub_self,show n - j=(n - (j+1))+1 by omega,List.replicate_succ,List.set_cons_zero,List.replicate_succ' (n:=j),List.append_assoc];rfl
theorem aI.aD5{w:World}{A:Option Addr}{n:Nat}{l:List Int}(h:aI (all w) 1 A n (aL l))(hn:0 < n):∃b off,A=some ⟨b,off,none⟩∧∀(i:Nat) (x:Int),l[i]? =some x→fO w b (off+i) (iv x):=by
 obtain⟨b,off,hA,hb,hc⟩:=h.2 hn;refine⟨b,off,hA,fun i x hx=>⟨hb,hc i _ ?_⟩⟩;simp only[aL,List.getElem?_map,hx,Option.map_some]
theorem aNw(j:Nat):aL (dM (List.range j))++[iv (j:Int)]=aL (dM (List.range (j+1))):=by
 rw[List.range_succ];simp[aL,dM]
def aGW(n:Nat)(v:Value)(w w':World):Prop:=∃A c,v=.slice A n c∧aI (fresh w w') 1 A n (aL (dM (List.range n)))
theorem aMX(A:Option Addr)(n c:Nat)(g:List (List Int))(w:World)(hg:nF (all w) A n g)(hn:n=g.length)(hn2:n≤100)(Fh:∀l∈g,l.length≤1000000)(aBp:∀(v:Nat) (l:List Int),g[v]? =some l→∀y∈l,0≤y∧y < (v:Int)):
  Cz 236 #[.slice A n c] w (fun y w'=>(∃v,y=.returned v∧aGW n v w w')∧Below w.heap.size w w'):=by
 refine aN func236 ntmps236 ?_;refine aB ?_;refine iR 3 1 ?_;refine mA 1 (n:=n) (el:=4) (z:=.bool false) (by kernel_rfl) (by kernel_rfl) rfl rfl rfl (by omega) (by omega) (by decide) fun g1=>?_;refine aB ?_;refine bL [(5,.bool true),(4,.slice (some ⟨g1,0,none⟩) n n),(3,sn),(0,.slice A n c)] ?_;refine aB ?_;refine eJ (fun m e R H=>∃(j:Nat) (mo:Bool) (Ao:Option Addr) (co:Nat),j≤n∧(mo=false→j=n)∧m=2*(n - j)+mo.toNat∧e=[(5,.bool mo),(4,.slice (some ⟨g1,0,none⟩) n n),(3,.slice Ao j co),(0,.slice A n c)]∧R=[all w]∧H=[HP.aE g1 4 (wC n j),HP.own 3 1 (.slice Ao j co) j (aL (dM (List.range j)))]) (2*n+1) ⟨0,true,none,0,by omega,(fun h=>by cases h),by simp,rfl,rfl,by simp[wC,aL,dM]⟩ fun m e R H hI=>?_;obtain⟨j,mo,Ao,co,hj,hmo,rfl,rfl,rfl,rfl⟩:=hI;refine aB ?_;refine qB rfl (fun h=>?_) (fun h=>?_)
 ·
  refine aB ?_;subst h;refine aB ?_;refine bL [(6,iv 0),(5,.bool false),(4,.slice (some ⟨g1,0,none⟩) n n),(3,.slice Ao j co),(0,.slice A n c)] ?_;refine aB ?_;refine eJ (fun m e R H=>∃(v:Nat) (mi:Bool) (jj:Nat) (Ao:Option Addr) (co:Nat),v≤n∧((mi=false∧jj=j∧v≤j)∨(mi=true∧jj=j+1∧j < n∧v=j+1))∧m=n - v∧e=[(6,iv v),(5,.bool mi),(4,.slice (some ⟨g1,0,none⟩) n n),(3,.slice Ao jj co),(0,.slice A n c)]∧R=[all w]∧H=[HP.aE g1 4 (wC n jj),HP.own 3 1 (.slice Ao jj co) jj (aL (dM (List.range jj)))]) n ⟨0,false,j,Ao,co,by omega,.inl ⟨rfl,rfl,by omega⟩,rfl,rfl,rfl,rfl⟩ fun m e R H hI=>?_;obtain⟨v,mi,jj,Ao,co,hv,hst,rfl,rfl,rfl,rfl⟩:=hI;refine cQ ?_;refine aAb 20 (v < n∧mi=false) ?_ ?_
  ·skip
   refine aB ?_
   (first | refine bU (t:=17) rfl (fun hg=>?_) (fun hg=>?_) | refine sI (t:=17) rfl (fun hg=>?_) (fun hg=>?_))
   ·
    refine fP rfl rfl ?_;refine cS rfl (by decide) ?_;refine fP rfl rfl ?_;(first | refine Lu rfl (by decide) ?_ | refine zJ rfl (by decide) ?_)
    (first | refine qC rfl rfl (by decide) ?_ | refine qD rfl rfl (by decide) ?_)
    refine dO ?_;exact Tf
   ·
    refine fW rfl rfl rfl (by decide) ?_;refine fW rfl rfl rfl (by decide) ?_
    (first | refine qC rfl rfl (by decide) ?_ | refine qD rfl rfl (by decide) ?_)
    refine dO ?_;exact Tf
  refine aG rfl (fun hin=>?_) (fun hin=>?_)
  ·
   refine lY ?_;refine dN ?_;refine cQ ?_;refine sF ?_;refine cQ ?_;obtain⟨Jz,hmf⟩:=hin
   obtain⟨hvj,hjj⟩:v≤j∧jj=j:=by
    rcases hst with⟨_,h2,h3⟩ | ⟨h1,_⟩
    ·exact⟨h3,h2⟩
    ·rw[hmf] at h1;cases h1
   subst hjj;subst hmf;clear hst;obtain⟨l,hl⟩:∃l,g[v]? =some l:=⟨g[v]'(by omega),List.getElem?_eq_getElem _⟩
   have hlt:=aBp v l hl
   have hlen:=Fh l (List.mem_of_getElem? hl)
   obtain⟨bG,oG,Al,kl,rfl,hcG,qM⟩:=hg.row hl
   have tL:(wC n jj)[v]? =some (.bool (decide (¬v=jj))):=by
    by_cases aBh:v=jj
    ·subst aBh;rw[aRE Jz];simp
    ·rw[aIS (by omega)];simp[aBh]
   refine eD ?_;refine cS rfl (by decide) ?_;refine cS rfl (by decide) ?_;refine kd (dat v v) ?_;refine jG (by kernel_rfl) rfl (Rd.aE 0 rfl tL) (by decide) ?_;refine Lu rfl (by decide) ?_;rw[show decide (¬¬v=jj)=decide (v=jj) by simp];refine aB ?_;refine bL [(8,iv 0),(7,.bool (decide (v=jj))),(6,iv v),(5,.bool false),(4,.slice (some ⟨g1,0,none⟩) n n),(3,.slice Ao jj co),(0,.slice (some ⟨bG,oG,none⟩) n c)] ?_;refine aB ?_;refine eJ (fun m e R H=>∃(i:Nat) (rb:Bool),i≤l.length∧rb=decide (v=jj)∧m=l.length - i∧e=[(8,iv i),(7,.bool rb),(6,iv v),(5,.bool false),(4,.slice (some ⟨g1,0,none⟩) n n),(3,.slice Ao jj co),(0,.slice (some ⟨bG,oG,none⟩) n c)]∧R=[all w]∧H=[HP.aE g1 4 (wC n jj),HP.own 3 1 (.slice Ao jj co) jj (aL (dM (List.range jj)))]) l.length ⟨0,_,by omega,rfl,rfl,rfl,rfl,rfl⟩ fun m e R H hI=>?_;obtain⟨i,rb,hi,hrb,rfl,rfl,rfl,rfl⟩:=hI;refine aA ?_;refine kd (dat v (oG+v)) ?_;refine aB ?_;refine aG rfl (fun hil=>?_) (fun hil=>?_)
   ·
    refine aB ?_
    have aBr:i < l.length:=by have h':(i:Int) < (l.length:Int):=hil;omega
    obtain⟨y,hy⟩:∃y,l[i]? =some y:=⟨_,List.getElem?_eq_getElem aBr⟩
    have hyb:=hlt y (List.mem_of_getElem? hy)
    obtain⟨bI,oI,hAI,Nb⟩:=qM.aD5 (by omega);subst hAI
    have Kk:=Nb i y hy
    refine aB ?_;refine sI (t:=38) rfl (fun Xd=>?_) (fun Xd=>?_)
    ·
     have hdy:(wC n jj)[y.toNat]? =some (.bool true):=aIS (by omega)
     refine aA ?_;refine kd (dat v (oG+v)) ?_;refine aA ?_;refine kd (dat i (oI+i)) ?_;refine fP rfl rfl ?_;refine jG (by kernel_rfl) rfl (Bv (by simp) Kk) (by decide) ?_;refine fP rfl rfl ?_;refine kd (dat y.toNat y.toNat) ?_;refine fP rfl rfl ?_;refine jG (by kernel_rfl) rfl (Rd.aE 0 rfl hdy) (by decide) ?_
     (first | refine qC rfl rfl (by decide) ?_ | refine qD rfl rfl (by decide) ?_)
     refine fV rfl (by decide) ?_;refine dO ?_;refine eD ?_;refine cS rfl (by decide) ?_;refine zN rfl rfl (iT (by omega)) (by decide) ?_;refine fV rfl (by decide) ?_;refine dO ?_;exact dX (l.length - (i+1)) ⟨i+1,true,by omega,by rw[←hrb,Xd],rfl,rfl,rfl,rfl⟩
    ·
     refine aB ?_;exact dX (l.length - (i+1)) ⟨i+1,false,by omega,by rw[←hrb,Xd],rfl,rfl,rfl,rfl⟩
   ·
    refine aB ?_;refine qB rfl (fun hrd=>?_) (fun hrd=>?_)
    ·
     refine aB ?_
     have aBh:v=jj:=of_decide_eq_true (hrb▸hrd)
     subst aBh;refine aB ?_;refine tB 0 rfl (by kernel_rfl) rfl rfl rfl (by rw[aRD (by omega)];omega) ?_;dsimp only[List.set];rw[aRC Jz];refine aB ?_;refine eK fun g2=>?_;refine gM 2 1 8 1 (n':=v+1) (el:=3) (by kernel_rfl) (by kernel_rfl) (by decide) rfl rfl rfl (nS 0 rfl rfl) (by simp[Value.oneCell']) rfl (by omega) (by omega) (by decide) fun A9 c9=>?_;dsimp only[List.set];rw[aNw];refine aB ?_;exact dX (n - (v+1)) ⟨v+1,true,v+1,A9,c9,by omega,.inr ⟨rfl,rfl,Jz,rfl⟩,rfl,rfl,rfl,rfl⟩
    ·
     refine aB ?_;exact dX (n - (v+1)) ⟨v+1,false,jj,Ao,co,by omega,.inl ⟨rfl,rfl,by have hne:¬v=jj:=of_decide_eq_false (hrb▸hrd);omega⟩,rfl,rfl,rfl,rfl⟩
  ·
   refine aB ?_;rcases hst with⟨rfl,rfl,h3⟩ | ⟨rfl,rfl,h3,rfl⟩
   ·have hjn:jj=n:=by
     rcases Nat.lt_or_ge v n with h9 | h9
     ·exact absurd ⟨h9,rfl⟩ hin
     ·omega
    exact dX (2*(n - jj)+0) ⟨jj,false,Ao,co,by omega,(fun _=>hjn),by simp,rfl,rfl,rfl⟩ (hm:=by simp)
   ·exact dX (2*(n - (j+1))+1) ⟨j+1,true,Ao,co,by omega,(fun h=>by cases h),by simp,rfl,rfl,rfl⟩ (hm:=by simp;omega)
 ·
  refine aB ?_;obtain rfl:=hmo h;refine dP [] [1] [] (by simp) rfl (by decide) (by decide) fun q hq _ hfr=>?_;obtain⟨F1,sf1,zf1⟩:=hq 1 _ (by simp) rfl;obtain⟨A8,c8,e8,h8⟩:=vD (Y:=q.Z) sf1 zf1
  injection e8 with f1 f2 f3
  subst f1;exact aT (h:=fun w1 st=>⟨_,rfl,Ao,co,rfl,aI.le h8 (st.mL (by simp) (hfr (by simp) (by simp)))⟩)
end
section
theorem aDa(A:Option Addr)(n c:Nat)(g:List (List Int))(w:World)(hg:nF (all w) A n g)(hn:n=g.length)(hn2:n≤100)(Fh:∀l∈g,l.length≤1000000)(aBp:∀(v:Nat) (l:List Int),g[v]? =some l→∀y∈l,0≤y∧y < (v:Int)):
  Cz 214 #[.slice A n c] w (Rt (iv 0) w):=by
 refine aN func214 ntmps214 ?_;refine aB ?_;refine aG rfl (fun h=>absurd h (by omega)) (fun h=>?_)
 ·
  refine aB ?_;refine bL [(3,iv 0),(0,.slice A n c)] ?_;refine aB ?_;refine eJ (fun m e R H=>∃(v:Nat),v≤n∧m=n - v∧e=[(3,iv v),(0,.slice A n c)]∧R=[all w]∧H=[]) n ⟨0,by omega,rfl,rfl,rfl,rfl⟩ fun m e R H hI=>?_;obtain⟨v,hv,rfl,rfl,rfl,rfl⟩:=hI;refine aB ?_;refine aG rfl (fun hvl=>?_) (fun hvl=>?_)
  ·
   refine aB ?_
   have Jz:v < n:=by have h':(v:Int) < (n:Int):=hvl;omega
   obtain⟨l,hl⟩:∃l,g[v]? =some l:=⟨g[v]'(by omega),List.getElem?_eq_getElem _⟩
   have hlt:=aBp v l hl
   have hlen:=Fh l (List.mem_of_getElem? hl)
   obtain⟨bG,oG,Al,kl,rfl,hcG,qM⟩:=hg.row hl;refine aB ?_;refine bL [(4,iv 0),(3,iv v),(0,.slice (some ⟨bG,oG,none⟩) n c)] ?_;refine aB ?_;refine eJ (fun m e R H=>∃(i:Nat),i≤l.length∧m=l.length - i∧e=[(4,iv i),(3,iv v),(0,.slice (some ⟨bG,oG,none⟩) n c)]∧R=[all w]∧H=[]) l.length ⟨0,by omega,rfl,rfl,rfl,rfl⟩ fun m e R H hI=>?_;obtain⟨i,hi,rfl,rfl,rfl,rfl⟩:=hI;refine aA ?_;refine kd (dat v (oG+v)) ?_;refine aB ?_;refine aG rfl (fun hil=>?_) (fun hil=>?_)
   ·
    refine lY ?_;refine dN ?_;refine cQ ?_;refine sF ?_
    have aBr:i < l.length:=by have h':(i:Int) < (l.length:Int):=hil;omega
    obtain⟨y,hy⟩:∃y,l[i]? =some y:=⟨_,List.getElem?_eq_getElem aBr⟩
    have hyb:=hlt y (List.mem_of_getElem? hy)
    obtain⟨bI,oI,hAI,Nb⟩:=qM.aD5 (by omega);subst hAI
    have Kk:=Nb i y hy
    refine aAb 42 (False) ?_ ?_
    ·skip
     refine aA ?_;refine kd (dat v (oG+v)) ?_;refine aA ?_;refine kd (dat i (oI+i)) ?_;refine aB ?_
     (first | refine bU (t:=31) rfl (fun hg=>?_) (fun hg=>?_) | refine sI (t:=31) rfl (fun hg=>?_) (fun hg=>?_))
     ·
      refine fW rfl rfl rfl (by decide) ?_;refine fW rfl rfl rfl (by decide) ?_;refine fW rfl rfl rfl (by decide) ?_;refine fW rfl rfl rfl (by decide) ?_;refine fW rfl rfl rfl (by decide) ?_;refine fW rfl rfl rfl (by decide) ?_;refine fW rfl rfl rfl (by decide) ?_;refine fW rfl rfl rfl (by decide) ?_;refine fW rfl rfl rfl (by decide) ?_;refine fW rfl rfl rfl (by decide) ?_
      (first | refine qC rfl rfl (by decide) ?_ | refine qD rfl rfl (by decide) ?_)
      refine dO ?_;exact Tg (by repeat (first | exact trivial | refine⟨rfl,?_⟩)) (by first | (exfalso;omega) | (refine Sa rfl ⟨fun hh=>?_,fun hh=>hh.elim⟩;omega) | (refine Ya rfl ?_;exact id))
     ·
      refine fP rfl rfl ?_;refine cS rfl (by decide) ?_;refine fP rfl rfl ?_;refine cS rfl (by decide) ?_;refine fP rfl rfl ?_;refine kd (dat v (oG+v)) ?_;refine aA ?_;refine kd (dat i (oI+i)) ?_;refine fP rfl rfl ?_;refine jG (by kernel_rfl) rfl (Bv (by simp) Kk) (by decide) ?_;refine fP rfl rfl ?_;refine cS rfl (by decide) ?_;refine fP rfl rfl ?_;refine Ed (el:=22) (by kernel_rfl) rfl (by decide) ?_;refine fP rfl rfl ?_;refine aFD rfl rfl (by decide) ?_
      (first | refine qC rfl rfl (by decide) ?_ | refine qD rfl rfl (by decide) ?_)
      refine dO ?_;exact Tg (by repeat (first | exact trivial | refine⟨rfl,?_⟩)) (by first | (exfalso;omega) | (refine Sa rfl ⟨fun hh=>?_,fun hh=>hh.elim⟩;omega) | (refine Ya rfl ?_;exact id))
    refine qB rfl (fun h=>by simp at h) (fun _=>?_)
    ·
     refine aB ?_;exact dX (l.length - (i+1)) ⟨i+1,by omega,rfl,rfl,rfl,rfl⟩
   ·
    refine aB ?_;exact dX (n - (v+1)) ⟨v+1,by omega,rfl,rfl,rfl,rfl⟩
  ·
   refine aB ?_;refine jS [] (aGW n) (fun w1 st=>aMX _ n c g w1 (hg.le (jW (st.started (by simp)))) hn hn2 Fh aBp) ?_;rintro _ w1 q1 ⟨Ao,co,rfl,ho⟩ hf _ tN
   have ho:=ho.le hf
   clear hf;refine aB ?_;refine aG rfl (fun h=>absurd h (by omega)) (fun h=>?_)
   ·
    refine aB ?_;exact aT (h:=fun _ _=>rfl)
end
end Go.Proofs.YtdcdccmpcmjmhaaGreatDoor
