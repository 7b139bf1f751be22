/- package word: heads, rows of words; a step's words. -/
import Derived.Tactics2
import Derived.Test.YtmpkkaknjkffpaaGreatDoorWorldEndsK4
namespace Go.Proofs.YtmpkkaknjkffpaaGreatDoor
set_option linter.all false
set_option maxHeartbeats 4000000
set_option maxRecDepth 20000
open Go.RowKit Go.Proofs.Tryz
variable{w w0:World}{kt ty:TypeId}{N:cO}{e:Env}{R R0:List Piece}{Q:Exit→Act→World→Prop}{ops:Array Oper}{rest:List Oper}{d fuel f h:Nat}{pos:String}{aL:Array Edge}{listed:Array Bool}{K:Act→World→Prop}{s:aG}{r:List Int}{x:aP}
def dH(m t p k:Int):Int×Int:=
 if(gK 0 0 8 m).2≠0 then(0,(gK 0 0 8 m).2)
 else if(gK (gK 0 0 8 m).1 8 2 t).2≠0 then(0,(gK (gK 0 0 8 m).1 8 2 t).2)
 else if(gK (gK (gK 0 0 8 m).1 8 2 t).1 10 8 p).2≠0 then(0,(gK (gK (gK 0 0 8 m).1 8 2 t).1 10 8 p).2)
 else if(gK (gK (gK (gK 0 0 8 m).1 8 2 t).1 10 8 p).1 18 10 k).2≠0 then(0,(gK (gK (gK (gK 0 0 8 m).1 8 2 t).1 10 8 p).1 18 10 k).2)
 else((gK (gK (gK (gK 0 0 8 m).1 8 2 t).1 10 8 p).1 18 10 k).1,0)
def Dn(m t p k:Int):List Value:=[iv m,iv t,iv p,iv k]
def Cs(w:Int):List Value:=if cT w 28 4≠0 then Dn 0 0 0 0 else Dn (cT w 0 8) (cT w 8 2) (cT w 10 8) (cT w 18 10)
def sY(w:Int):Int:=if cT w 28 4≠0 then 2 else 0
theorem Fb(l:List Int):∀u∈eJ l,u.oneCell'=true:=by
 intro u a;simp only[eJ,List.mem_map] at a;obtain⟨_,_,rfl⟩:=a;rfl
def Zf(l:List Int)(v:Value)(w w':World):Prop:=∃A c,v=.slice A l.length c∧aM (fresh w w') 1 A l.length (eJ l)
theorem aE6(m t p k:Int)(w:World):
  Cz 41 #[.agg #[iv m,iv t,iv p,iv k]] w (Rt (.tuple #[.int .u32 (dH m t p k).1,iv (dH m t p k).2]) w):=by
 refine aT func41 ntmps41 ?_;refine aE ?_;refine bY fun f=>?_;refine aE ?_;refine dJ (fun a st=>Vg 0 0 8 m a (by unfold okF;omega)) ?_;refine aE ?_;refine aK rfl (fun b=>?_) (fun b=>?_)
 ·
  refine aE ?_;refine gF rfl rfl rfl fun a st=>⟨by rw[dH,if_pos b];rfl,st.below aD⟩
 ·
  refine aE ?_;refine dJ (fun a st=>Vg (gK 0 0 8 m).1 8 2 t a (by unfold okF;omega)) ?_;refine aE ?_;refine aK rfl (fun c=>?_) (fun c=>?_)
  ·
   refine aE ?_;refine gF rfl rfl rfl fun a st=>⟨by rw[dH,if_neg b,if_pos c];rfl,st.below aD⟩
  ·
   refine aE ?_;refine dJ (fun a st=>Vg (gK (gK 0 0 8 m).1 8 2 t).1 10 8 p a (by unfold okF;omega)) ?_;refine aE ?_;refine aK rfl (fun d=>?_) (fun d=>?_)
   ·
    refine aE ?_;refine gF rfl rfl rfl fun a st=>⟨by rw[dH,if_neg b,if_neg c,if_pos d];rfl,st.below aD⟩
   ·
    refine aE ?_;refine dJ (fun a st=>Vg (gK (gK (gK 0 0 8 m).1 8 2 t).1 10 8 p).1 18 10 k a (by unfold okF;omega)) ?_;refine aE ?_;refine aK rfl (fun e=>?_) (fun e=>?_)
    ·
     refine aE ?_;refine gF rfl rfl rfl fun a st=>⟨by rw[dH,if_neg b,if_neg c,if_neg d,if_pos e];rfl,st.below aD⟩
    ·
     refine aE ?_;refine gF rfl rfl rfl fun a st=>⟨by rw[dH,if_neg b,if_neg c,if_neg d,if_neg e];rfl,st.below aD⟩
theorem aD9(w0:Int)(w:World):
  Cz 192 #[.int .u32 w0] w (Rt (.tuple #[.agg (Cs w0).toArray,iv (sY w0)]) w):=by
 refine aT func192 ntmps192 ?_;refine aB ?_;refine cQ fun b=>?_;refine aB ?_;refine dJ (fun a st=>Qb w0 28 4 a (by unfold okF;omega)) ?_;refine aB ?_;refine aK rfl (fun h=>?_) (fun h=>?_)
 ·
  refine aB ?_;refine kd (iU rfl) ?_;refine sU rfl rfl ?_;simp only[gD,Value.cells,List.set,List.take,List.drop,List.nil_append,List.append_nil,List.length_cons,List.length_nil,List.cons_append,Nat.reduceAdd];refine aB ?_;refine yI rfl (n:=4) (vs:=Dn 0 0 0 0) aF rfl rfl (aV.whole 0 rfl) rfl fun a st=>⟨by rw[Cs,sY,if_pos h,if_pos h],st.below aD⟩
 ·
  refine aB ?_;refine dJ (fun a st=>Qb w0 0 8 a (by unfold okF;omega)) ?_;refine aB ?_;refine dJ (fun a st=>Qb w0 8 2 a (by unfold okF;omega)) ?_;refine aB ?_;refine dJ (fun a st=>Qb w0 10 8 a (by unfold okF;omega)) ?_;refine aB ?_;refine dJ (fun a st=>Qb w0 18 10 a (by unfold okF;omega)) ?_;refine kd (iU rfl) ?_;refine sU rfl rfl ?_;simp only[gD,Value.cells,List.set,List.take,List.drop,List.nil_append,List.append_nil,List.length_cons,List.length_nil,List.cons_append,Nat.reduceAdd];refine aB ?_;refine yI rfl (n:=4) (vs:=Dn (cT w0 0 8) (cT w0 8 2) (cT w0 10 8) (cT w0 18 10)) aF rfl rfl (aV.whole 0 rfl) rfl fun a st=>⟨by rw[Cs,sY,if_neg h,if_neg h],st.below aD⟩
theorem aKJ(w0:Int)(A:Option Addr)(n c:Nat)(zs:List Int)(w:World)(hs:aM (all w) 1 A n (eJ zs))(h:n=zs.length)(k:n≤1000000):Cz 42 #[.int .u32 w0,.slice A n c] w (fun y w'=>(∃x,y=.returned x∧Zf (w0::zs) x w w')∧Below w.heap.size w w'):=by
 refine aT func42 ntmps42 ?_;refine aE ?_;refine Zv 1 4 (el:=36) (c:=n+1) (k0:=1) (pT:=.i64) aF aF rfl (by rw[Int.natCast_add];rfl) aA aA aC fun u=>?_;refine aE ?_;refine eT fun z=>?_;refine iL 1 1 4 1 (n':=1) (el:=36) aF aF aC rfl rfl rfl (nH 0 rfl rfl) (by simp[Value.oneCell']) rfl aA aA aC fun m l=>?_;dsimp only[List.set];refine aE ?_;refine iL 1 1 4 n (n':=n+1) (el:=36) aF aF aC rfl rfl rfl (tA aD hs) (Fb _) aA aA aA aC fun i c2=>?_;dsimp only[List.set];refine aE ?_;refine dK [] [1] [] aD rfl aC aC fun q j _ d=>?_;obtain⟨o,f,a⟩:=j 1 _ aD rfl;obtain⟨t,r,b,e⟩:=yQ (Y:=q.Z) f a;cases b;subst h;refine nB rfl rfl fun p st=>⟨⟨_,rfl,i,c2,rfl,?_⟩,st.below aD⟩
 exact aM.le e (st.nL aD (d aD aD))
def Zr(l:List Int)(v:Value)(w w':World):Prop:=∃A c,v=.tuple #[.slice A l.length c,iv 0]∧aM (fresh w w') 1 A l.length (eJ l)
theorem aQb(m t p k:Int)(A:Option Addr)(n c:Nat)(zs:List Int)(w:World)(hs:aM (all w) 1 A n (eJ zs))(o:n=zs.length)(d:n≤1000000)(e:(dH m t p k).2=0):Cz 24 #[.agg #[iv m,iv t,iv p,iv k],.slice A n c] w (fun y w'=>(∃x,y=.returned x∧Zr ((dH m t p k).1::zs) x w w')∧Below w.heap.size w w'):=by
 refine aT func24 ntmps24 ?_;refine aE ?_;refine bY fun u=>?_;refine aE ?_;refine dJ (fun b st=>aE6 m t p k b) ?_;refine aE ?_;refine aK rfl (fun h=>?_) (fun h=>?_)
 ·
  refine aE ?_;exact absurd e h
 ·
  refine aE ?_;refine kN [] (Zf ((dH m t p k).1::zs)) (fun b st=>aKJ (dH m t p k).1 A n c zs b (hs.le (st.le aD)) o d) ?_;rintro _ b r ⟨l,j,rfl,f⟩ i _ a
  have a:=a aD
  have f:=f.le i
  clear i;refine aE ?_;refine gF rfl rfl rfl fun b st=>⟨⟨_,rfl,l,j,rfl,aM.le f (st.nL aD a)⟩,st.below aD⟩
theorem aIJ(pr m id v k:Int)(w:World)(c:(dH m 0 pr k).2=0):Cz 171 #[.agg #[iv pr,iv m,.int .u32 id,.int .u32 v],iv k] w (fun y w'=>(∃x,y=.returned x∧Zr [(dH m 0 pr k).1,id,v] x w w')∧Below w.heap.size w w'):=by
 refine aT func171 ntmps171 ?_;refine aE ?_;refine bY fun n=>?_;refine aE ?_;refine eT fun j=>?_;refine kN [] (Zr ((dH m 0 pr k).1::[id,v])) (fun b st=>aQb m 0 pr k (some ⟨j,0,none⟩) 2 2 [id,v] b (st.vA (i:=0) rfl rfl) rfl aA c) ?_;rintro _ b l ⟨h,f,rfl,d⟩ e _ a
 have a:=a aD
 have d:=d.le e
 clear e;refine aE ?_;refine gF rfl rfl rfl fun b st=>⟨⟨_,rfl,h,f,rfl,aM.le d (st.nL aD a)⟩,st.below aD⟩
def Zg(l:List Int)(v:Value)(hs:List HP)(_:Piece):Prop:=∃A c,v=.slice A l.length c∧hs=[HP.own 36 1 (.slice A l.length c) l.length (eJ l)]
theorem aKL(w0:Int)(A:Option Addr)(n c:Nat)(zs:List Int)(w:World)(hs:aM (all w) 1 A n (eJ zs))(b:n=zs.length)(f:n≤1000000):Cz 42 #[.int .u32 w0,.slice A n c] w (fun y w'=>(∃v hs q,y=.returned v∧q.w=w'∧Zg (w0::zs) v hs q∧gX w hs q)∧Below w.heap.size w w'):=by
 refine aT func42 ntmps42 ?_;refine aE ?_;refine Zv 1 4 (el:=36) (c:=n+1) (k0:=1) (pT:=.i64) aF aF rfl (by rw[Int.natCast_add];rfl) aA aA aC fun k=>?_;refine aE ?_;refine eT fun l=>?_;refine iL 1 1 4 1 (n':=1) (el:=36) aF aF aC rfl rfl rfl (nH 0 rfl rfl) (by simp[Value.oneCell']) rfl aA aA aC fun j i=>?_;dsimp only[List.set];refine aE ?_;refine iL 1 1 4 n (n':=n+1) (el:=36) aF aF aC rfl rfl rfl (tA aD hs) (Fb _) aA aA aA aC fun d c2=>?_;dsimp only[List.set];refine aE ?_;subst b;refine aY [1] rfl aC (fun _ h=>h) ?_;refine dK [] [] [0] aD rfl aC aC fun q _ _ a=>?_;exact aW (h:=fun e t=>⟨_,_,⟨e,q.Z⟩,rfl,rfl,⟨d,c2,rfl,rfl⟩,t.newR aD aD (a aD aD)⟩)
theorem aRk(w0 st a:Int)(b:IntKind.u32.wrap st=a)(A:Option Addr)(n c:Nat)(zs:List Int)(w:World)(hs:aM (all w) 1 A n (eJ zs))(f:n=zs.length)(k:n≤1000):
  Cz 136 #[.int .u32 w0,.int .i32 st,.slice A n c] w (fun y w'=>(∃v hs q,y=.returned v∧q.w=w'∧Zg (w0::a::zs) v hs q∧gX w hs q)∧Below w.heap.size w w'):=by
 subst f;refine aT func136 ntmps136 ?_;refine aB ?_;refine Bb (ds:=.int .i32) aF aF rfl b aC ?_;refine eT fun p=>?_;refine fK (Zg [w0,a]) (fun e t=>aKL w0 _ 1 1 [a] e (t.vA (i:=0) rfl rfl) rfl aA) ?_;rintro _ _ o ⟨m,l,rfl,rfl⟩ _;dsimp only[List.cons_append,List.nil_append];refine aB ?_;refine iL 0 1 4 zs.length (n':=zs.length+2) (el:=36) aF aF aC rfl rfl rfl (tA aD hs) (Fb _) (by simp;omega) aA aA aC fun j c2=>?_;dsimp only[List.set];refine aB ?_;refine aY [0] rfl aC (R':=[all w]) aD ?_;refine dK [] [] [0] aD rfl aC aC fun q _ _ d=>?_;exact aW (h:=fun e t=>⟨_,_,⟨e,q.Z⟩,rfl,rfl,⟨j,c2,rfl,rfl⟩,t.newR aD aD (d aD aD)⟩)
theorem Il(i:Int)(w:World):Cz 52 #[iv i] w (Rt (.bool (bO 2 i)) w):=by
 refine aT func52 ntmps52 ?_;refine aB ?_;refine cN (t:=5) rfl (fun h=>?_) (fun h=>?_)
 ·refine aB ?_;refine iV aD ?_;unfold bO
  congr 1
  simp;omega
 ·refine aB ?_;refine iV aD ?_
  have:bO 2 i=false:=decide_eq_false aA
  rw[this]
def Fq(p:Int):Int:=if p=48 then 0 else if p=49 then 1 else if p=116 then 2 else 3
theorem aOy(p:Int)(w:World):Cz 193 #[.int .u8 p] w (Rt (.int .u32 (Fq p)) w):=by
 refine aT func193 ntmps193 ?_;refine aB ?_;refine aK rfl (fun h=>?_) (fun h=>?_)
 ·refine aB ?_;exact dL (by rw[Fq,if_pos h])
 ·refine aB ?_;refine aK rfl (fun a=>?_) (fun a=>?_)
  ·refine aB ?_;exact dL (by rw[Fq,if_neg h,if_pos a])
  ·refine aB ?_;refine aK rfl (fun b=>?_) (fun b=>?_)
   ·refine aB ?_;exact dL (by rw[Fq,if_neg h,if_neg a,if_pos b])
   ·refine aB ?_;exact dL (by rw[Fq,if_neg h,if_neg a,if_neg b])
def tR(p:Piece)(x y:bL)(v:Value):Prop:=∃a m e r h n i o b k f j,v=.agg #[.slice a x.d.length m,.slice e x.c.length r,.slice h x.l.length n,.slice i y.d.length o,.slice b y.c.length k,.slice f y.l.length j]∧
 aM p 1 a x.d.length (bM x.d)∧aM p 1 e x.c.length (bM x.c)∧aM p 1 h x.l.length (bM x.l)∧aM p 1 i y.d.length (bM y.d)∧aM p 1 b y.c.length (bM y.c)∧aM p 1 f y.l.length (bM y.l)
def Jq(s:aG)(p:Piece):Nat→List Value→Prop
 | 0,cs=>cs=[.slice none 0 0,.slice none 0 0,.slice none 0 0,.slice none 0 0,.slice none 0 0,.slice none 0 0]
 | 1,cs=>∃a b c,cs=[a,b,c,.slice none 0 0,.slice none 0 0,.slice none 0 0]∧yO p (dI s) (.agg #[a,b,c])
 | _,cs=>∃a b c e d f,cs=[a,b,c,e,d,f]∧yO p (dI s) (.agg #[a,b,c])∧yO p (dI s) (.agg #[e,d,f])
theorem Jq.len{s:aG}{p:Piece}:∀{i:Nat} {cs:List Value},Jq s p i cs→cs.length=6
 | 0,_,h=>by rw[show _=_ from h];rfl
 | 1,_,⟨_,_,_,h,_⟩=>by rw[h];rfl
 | _+2,_,⟨_,_,_,_,_,_,h,_⟩=>by rw[h];rfl
theorem Jq.next{s:aG}{p q:Piece}(hl:p.Le q){a b c:Value}(hw:yO q (dI s) (.agg #[a,b,c])){i:Nat}{cs:List Value}(hi:i < 2)(h:Jq s p i cs):Jq s q (i+1) (gD cs (i*3) [a,b,c]):=by
 obtain rfl | rfl:i=0∨i=1:=by omega
 ·have d:cs=[sn,sn,sn,sn,sn,sn]:=h
  subst d;exact⟨a,b,c,rfl,hw⟩
 ·obtain⟨f,k,e,d,j⟩:=h;subst d;exact⟨f,k,e,a,b,c,rfl,yO.le j hl,hw⟩
theorem aJG(s:aG)(A1 A2 A3 A4:Option Addr)(k1 k2 k3 k4:Nat)(w:World)(hm:s.wH):
  Cz 70 #[.agg #[.slice A1 s.aJ.length k1,.slice A2 s.domains.length k2,.slice A3 s.bA.length k3,.slice A4 s.aH.length k4]] w (Nz (fun v w w'=>tR (fresh w w') (dI s) (dI s) v) w):=by
 have hn9:=hm.nc
 have Wt:=hm.nd
 have Qp:=hm.nr
 refine aT func70 ntmps70 ?_;refine aE ?_;refine bY fun D=>?_;refine cQ fun C=>?_;refine aE ?_;refine cQ fun E=>?_;refine aE ?_;refine bT [(5,iv 0),(3,pt E),(2,pt C),(1,pt D)] ?_;refine yJ ⟨w,fun _=>False⟩ aD (fun _ h=>h.elim) ?_;refine aE ?_;refine fG (fun m e R H=>∃(i:Nat) (A:List Value) (l:Piece),i≤2∧m=2 - i∧Jq s l i A∧rO w l∧e=[(5,iv i),(3,pt E),(2,pt C),(1,pt D)]∧R=[l,all w]∧H=[HP.aI E 145 A,HP.aI C 145 [sn,sn,sn,sn,sn,sn],HP.aI D 30 [.slice A1 s.aJ.length k1,.slice A2 s.domains.length k2,.slice A3 s.bA.length k3,.slice A4 s.aH.length k4]]) 2 ⟨0,_,⟨w,fun _=>False⟩,aA,rfl,rfl,(fun _ h=>h.elim),rfl,rfl,rfl⟩ fun m e R H hI=>?_;obtain⟨i,A,l,hi2,rfl,j,f,rfl,rfl,rfl⟩:=hI;refine aE ?_;refine aK rfl (fun h=>?_) (fun h=>?_)
 ·
  refine pF ?_;refine eR ?_;refine eG ?_;refine wX ?_;refine eG ?_;refine gN ?_;refine dW rfl aC ?_;refine jZ rfl aC ?_;refine fP ?_;refine rK 15 aF aF ?_;refine gO 0 rfl rfl rfl (mG rfl) ?_;refine gO 1 rfl rfl rfl (Bw (off:=1) aF rfl) ?_;refine gO 2 rfl rfl rfl (Gj rfl) ?_;refine gO 3 rfl rfl rfl (Ja (el:=75) aF rfl) ?_;refine gO 5 rfl rfl rfl (Bw (off:=0) aF rfl) ?_;refine gO 6 rfl rfl rfl (Gj rfl) ?_;refine gO 7 rfl rfl rfl (Ja (el:=73) aF rfl) ?_;refine gO 9 rfl rfl rfl (Bw (off:=2) aF rfl) ?_;refine gO 10 rfl rfl rfl (Gj rfl) ?_;refine gO 11 rfl rfl rfl (Ja (el:=77) aF rfl) ?_;refine gO 14 rfl rfl rfl (Bw (off:=0) aF rfl) ?_;refine aH7 (fuel:=3) [4,8,12] [[4,8,12]] (fun i=>match i with | 4=>⟨12,4,List.replicate s.domains.length (.bool false),fun g=>.slice (some ⟨g,0,none⟩) s.domains.length s.domains.length⟩ | 8=>⟨16,4,List.replicate s.aJ.length (.bool false),fun g=>.slice (some ⟨g,0,none⟩) s.aJ.length s.aJ.length⟩ | _=>⟨20,4,List.replicate s.bA.length (.bool false),fun g=>.slice (some ⟨g,0,none⟩) s.bA.length s.bA.length⟩) (fun i r=>?_) (by show[12,16,20].Nodup;decide) aF (fun _ h=>h) (fun sub U F g=>?_)
  ·simp only[List.mem_cons,List.not_mem_nil,or_false] at r;rcases r with rfl | rfl | rfl
   ·exact Ck.of rfl rfl rfl (Lm 1 (el:=4) (z:=.bool false) aF aF rfl rfl rfl aA aA) (Nat.le_of_ble_eq_true rfl) rfl
   ·exact Ck.of rfl rfl rfl (Lm 1 (el:=4) (z:=.bool false) aF aF rfl rfl rfl aA aA) (Nat.le_of_ble_eq_true rfl) rfl
   ·exact Ck.of rfl rfl rfl (Lm 1 (el:=4) (z:=.bool false) aF aF rfl rfl rfl aA aA) (Nat.le_of_ble_eq_true rfl) rfl
  have x:sub=[4,8,12]:=by simpa using F
  have er:∀n:Nat,List.replicate n (Value.bool false)=bM (List.replicate n false):=fun n=>by simp[bM]
  have r:i < 2:=by have V:(i:Int) < 2:=h;omega
  have T:=j.len
  subst x;dsimp only[sA,vK,lU,List.map,List.foldr,List.cons_append,List.nil_append,List.length_cons,List.length_nil,Nat.reduceAdd,Nat.reduceSub];refine fR 13 rfl rfl rfl aC (lI (zs:=[sn,sn,sn]) (L:=[(0,1),(1,1),(2,1)]) (iH aF) aF rfl (by simp[fL,gR,Value.cells];rfl)) aF (fun _ _ _ h=>h) (fun _ h=>h.tail.tail.tail) ?_;refine cX 15 ?_;refine aDs i (i*3) (el:=138) (sz:=3) aF aF rfl rfl rfl r aA aC ?_;refine fB ?_;refine cX 16 ?_;refine qP 3 rfl rfl rfl aF (by simp[Value.cells,Value.oneCell']) (by simp[Value.cells];omega) ?_;dsimp only[List.set];rw[show(Value.agg [.slice (some ⟨g 4,0,none⟩) s.domains.length s.domains.length,.slice (some ⟨g 8,0,none⟩) s.aJ.length s.aJ.length,.slice (some ⟨g 12,0,none⟩) s.bA.length s.bA.length].toArray).cells.toList=[.slice (some ⟨g 4,0,none⟩) s.domains.length s.domains.length,.slice (some ⟨g 8,0,none⟩) s.aJ.length s.aJ.length,.slice (some ⟨g 12,0,none⟩) s.bA.length s.bA.length] from rfl];refine fB ?_;refine lA ?_;refine eR ?_;refine gN ?_;refine Cm rfl rfl (iY aA) aC ?_;refine dW rfl aC ?_;refine fP ?_;refine dK [l] [0,1,2] [3,4,5] aD rfl aC aC fun o d y I=>?_
  have G:=I aD (fun p O=>by simp only[List.mem_cons,List.not_mem_nil,or_false] at O;subst O;exact f)
  have N:aM o 1 (some ⟨g 4,0,none⟩) (s.domains.length) (List.replicate (s.domains.length) (Value.bool false)):=rN (n:=s.domains.length) (sz:=1) (c:=0) (d 0 _ aD rfl).choose_spec.1 (d 0 _ aD rfl).choose_spec.2 aD
  have K:aM o 1 (some ⟨g 8,0,none⟩) (s.aJ.length) (List.replicate (s.aJ.length) (Value.bool false)):=rN (n:=s.aJ.length) (sz:=1) (c:=0) (d 1 _ aD rfl).choose_spec.1 (d 1 _ aD rfl).choose_spec.2 aD
  have M:aM o 1 (some ⟨g 12,0,none⟩) (s.bA.length) (List.replicate (s.bA.length) (Value.bool false)):=rN (n:=s.bA.length) (sz:=1) (c:=0) (d 2 _ aD rfl).choose_spec.1 (d 2 _ aD rfl).choose_spec.2 aD
  rw[er] at N K M
  have u:yO o (dI s) (.agg #[.slice (some ⟨g 4,0,none⟩) s.domains.length s.domains.length,.slice (some ⟨g 8,0,none⟩) s.aJ.length s.aJ.length,.slice (some ⟨g 12,0,none⟩) s.bA.length s.bA.length]):=by
   unfold yO dI;simp only[List.length_replicate];exact⟨_,_,_,_,_,_,rfl,N,K,M⟩
  refine vS (R':=[o,all w]) aD ?_;exact fA (2 - (i+1)) ⟨i+1,_,o,aA,rfl,Jq.next (y l aD) u r j,G,rfl,rfl,rfl⟩
 ·
  refine aC4 ?_;refine eR ?_;refine eG ?_
  have J:i=2:=by have V:¬(i:Int) < 2:=h;omega
  subst J;obtain⟨a,b,c,a',b',c',rfl,B,t⟩:=j;obtain⟨D1,d1,D2,d2,D3,d3,Y,x1,x2,Z⟩:=B;obtain⟨F1,f1,F2,f2,F3,f3,e2,X,y2,y3⟩:=t;cases Y;cases e2;refine gN ?_;refine aI5 6 rfl ?_;refine sU rfl rfl ?_;simp only[gD,Value.cells,List.set,List.take,List.drop,List.nil_append,List.append_nil,List.length_cons,List.length_nil,List.cons_append,Nat.reduceAdd];refine aE ?_
  exact Ji rfl aF rfl rfl (aV.whole 1 rfl) fun w1 st=>⟨⟨_,rfl,by
   have k:=st.nL aD f
   exact⟨_,_,_,_,_,_,_,_,_,_,_,_,rfl,x1.le k,x2.le k,Z.le k,X.le k,y2.le k,y3.le k⟩⟩,st.below aD⟩
def gE(k:Int):Prop:=k=117∨k=99∨k=114
instance(k:Int):Decidable (gE k):=by unfold gE;infer_instance
def qJ(s:aG)(p:Int):Nat:=if p=17 then s.domains.length else if p=20 then s.aJ.length else if p=22 then s.bA.length else 0
def gT(k:Int)(v0 b a:Value):Value:=if k=117∨k=100∨k=107 then v0 else if k=99∨k=111 then b else if k=114∨k=97 then a else sn
def uJ(k:Int)(x:bL):List Bool:=if k=117∨k=100∨k=107 then x.d else if k=99∨k=111 then x.c else if k=114∨k=97 then x.l else[]
def iZ(x:bL)(k id:Int):Bool:=decide (0≤id)&&hasB (uJ k x) id.toNat
theorem gG.thn{w w':World}{g o:Nat}{v:Value}(h:gG w g o v)(a:Below w.heap.size w w'):gG w' g o v:=⟨Nat.lt_of_lt_of_le h.1 a.size,(a.cell (p:=⟨g,o,none⟩) h.1).trans h.2⟩
def Tb(w:World)(g o:Nat)(x:bL):Prop:=∃a i e h b f,gG w g o (.slice a x.d.length i)∧gG w g (o+1) (.slice e x.c.length h)∧gG w g (o+2) (.slice b x.l.length f)∧
 aM (all w) 1 a x.d.length (bM x.d)∧aM (all w) 1 e x.c.length (bM x.c)∧aM (all w) 1 b x.l.length (bM x.l)
theorem aMX{w:World}{x:bL}{A1 A2 A3:Option Addr}{k1 k2 k3:Nat}(a:aM (all w) 1 A1 x.d.length (bM x.d))(b:aM (all w) 1 A2 x.c.length (bM x.c))(h3:aM (all w) 1 A3 x.l.length (bM x.l))(k:Int):
  ∃A c,gT k (.slice A1 x.d.length k1) (.slice A2 x.c.length k2) (.slice A3 x.l.length k3)=.slice A (uJ k x).length c∧aM (all w) 1 A (uJ k x).length (bM (uJ k x)):=by
 unfold gT uJ;split
 ·exact⟨_,_,rfl,a⟩
 ·split
  ·exact⟨_,_,rfl,b⟩
  ·split
   ·exact⟨_,_,rfl,h3⟩
   ·exact⟨_,_,rfl,aM.nil _ _⟩
theorem aAQ(k:Int)(w:World):
  Cz 175 #[.int .u8 k] w (Rt (.bool (decide (gE k))) w):=by
 refine aT func175 ntmps175 ?_;refine aE ?_
 (first | refine cN (t:=5) rfl (fun a=>?_) (fun a=>?_) | refine qQ (t:=5) rfl (fun a=>?_) (fun a=>?_))
 ·
  refine aE ?_;exact aW (h:=fun _ _=>by simp_all [gE])
 ·
  refine aE ?_
  (first | refine cN (t:=9) rfl (fun a=>?_) (fun a=>?_) | refine qQ (t:=9) rfl (fun a=>?_) (fun a=>?_))
  ·
   refine aE ?_;exact aW (h:=fun _ _=>by simp_all [gE])
  ·
   refine aE ?_;exact aW (h:=fun _ _=>by simp_all [gE])
theorem aMb(s:aG)(A1 A2 A3 A4:Option Addr)(k1 k2 k3 k4:Nat)(p:Int)(w:World):
  Cz 212 #[.agg #[.slice A1 s.aJ.length k1,.slice A2 s.domains.length k2,.slice A3 s.bA.length k3,.slice A4 s.aH.length k4],iv p] w (Rt (iv (qJ s p)) w):=by
 refine aT func212 ntmps212 ?_;refine aE ?_;refine bY fun a=>?_;refine aE ?_;refine aK rfl (fun h=>?_) (fun h=>?_)
 ·
  refine aE ?_;exact aW (h:=fun _ _=>by simp_all [qJ])
 ·
  refine aE ?_;refine aK rfl (fun h=>?_) (fun h=>?_)
  ·
   refine aE ?_;exact aW (h:=fun _ _=>by simp_all [qJ])
  ·
   refine aE ?_;refine aK rfl (fun h=>?_) (fun h=>?_)
   ·
    refine aE ?_;exact aW (h:=fun _ _=>by simp_all [qJ])
   ·
    refine aE ?_;exact aW (h:=fun _ _=>by simp_all [qJ])
theorem aBl(g o:Nat)(k:Int)(v0 a b:Value)(w:World)(c:gG w g o v0)(d:gG w g (o+1) a)(e:gG w g (o+2) b):
  Cz 180 #[.pointer (some ⟨g,o,none⟩),.int .u8 k] w (Rt (gT k v0 a b) w):=by
 refine aT func180 ntmps180 ?_;refine aE ?_;refine aK rfl (fun h=>?_) (fun h=>?_)
 ·
  refine aE ?_;refine aK rfl (fun h=>?_) (fun h=>?_)
  ·
   refine aE ?_;exact aW (h:=fun _ _=>by simp_all [gT])
  ·
   refine aE ?_;refine aK rfl (fun h=>?_) (fun h=>?_)
   ·
    refine aE ?_;refine aK rfl (fun h=>?_) (fun h=>?_)
    ·
     refine aE ?_;exact aW (h:=fun _ _=>by simp_all [gT])
    ·
     refine aE ?_;refine aK rfl (fun h=>?_) (fun h=>?_)
     ·
      refine aE ?_;refine aK rfl (fun h=>?_) (fun h=>?_)
      ·
       refine aE ?_;exact aW (h:=fun _ _=>by simp_all [gT])
      ·
       refine aE ?_;exact aW (h:=fun _ _=>by simp_all [gT])
     ·
      refine aE ?_;refine aK rfl (fun h=>?_) (fun h=>?_)
      ·
       refine aE ?_;exact aW (h:=fun _ _=>by simp_all [gT])
      ·
       refine aE ?_;exact aW (h:=fun _ _=>by simp_all [gT])
   ·
    refine aE ?_;refine aK rfl (fun h=>?_) (fun h=>?_)
    ·
     refine aE ?_;exact aW (h:=fun _ _=>by simp_all [gT])
    ·
     refine aE ?_;refine aK rfl (fun h=>?_) (fun h=>?_)
     ·
      refine aE ?_;refine aK rfl (fun h=>?_) (fun h=>?_)
      ·
       refine aE ?_;exact aW (h:=fun _ _=>by simp_all [gT])
      ·
       refine aE ?_;exact aW (h:=fun _ _=>by simp_all [gT])
     ·
      refine aE ?_;refine aK rfl (fun h=>?_) (fun h=>?_)
      ·
       refine aE ?_;exact aW (h:=fun _ _=>by simp_all [gT])
      ·
       refine aE ?_;exact aW (h:=fun _ _=>by simp_all [gT])
 ·
  refine aE ?_;refine aK rfl (fun h=>?_) (fun h=>?_)
  ·
   refine aE ?_;refine aK rfl (fun h=>?_) (fun h=>?_)
   ·
    refine aE ?_;exact aW (h:=fun _ _=>by simp_all [gT])
   ·
    refine aE ?_;refine aK rfl (fun h=>?_) (fun h=>?_)
    ·
     refine aE ?_;refine aK rfl (fun h=>?_) (fun h=>?_)
     ·
      refine aE ?_;exact aW (h:=fun _ _=>by simp_all [gT])
     ·
      refine aE ?_;refine aK rfl (fun h=>?_) (fun h=>?_)
      ·
       refine aE ?_;refine aK rfl (fun h=>?_) (fun h=>?_)
       ·
        refine aE ?_;exact aW (h:=fun _ _=>by simp_all [gT])
       ·
        refine aE ?_;exact aW (h:=fun _ _=>by simp_all [gT])
      ·
       refine aE ?_;refine aK rfl (fun h=>?_) (fun h=>?_)
       ·
        refine aE ?_;exact aW (h:=fun _ _=>by simp_all [gT])
       ·
        refine aE ?_;exact aW (h:=fun _ _=>by simp_all [gT])
    ·
     refine aE ?_;refine aK rfl (fun h=>?_) (fun h=>?_)
     ·
      refine aE ?_;exact aW (h:=fun _ _=>by simp_all [gT])
     ·
      refine aE ?_;refine aK rfl (fun h=>?_) (fun h=>?_)
      ·
       refine aE ?_;refine aK rfl (fun h=>?_) (fun h=>?_)
       ·
        refine aE ?_;exact aW (h:=fun _ _=>by simp_all [gT])
       ·
        refine aE ?_;exact aW (h:=fun _ _=>by simp_all [gT])
      ·
       refine aE ?_;refine aK rfl (fun h=>?_) (fun h=>?_)
       ·
        refine aE ?_;exact aW (h:=fun _ _=>by simp_all [gT])
       ·
        refine aE ?_;exact aW (h:=fun _ _=>by simp_all [gT])
  ·
   refine aE ?_;refine aK rfl (fun h=>?_) (fun h=>?_)
   ·
    refine aE ?_;exact aW (h:=fun _ _=>by simp_all [gT])
   ·
    refine aE ?_;refine aK rfl (fun h=>?_) (fun h=>?_)
    ·
     refine aE ?_;refine aK rfl (fun h=>?_) (fun h=>?_)
     ·
      refine aE ?_;exact aW (h:=fun _ _=>by simp_all [gT])
     ·
      refine aE ?_;refine aK rfl (fun h=>?_) (fun h=>?_)
      ·
       refine aE ?_;refine aK rfl (fun h=>?_) (fun h=>?_)
       ·
        refine aE ?_;exact aW (h:=fun _ _=>by simp_all [gT])
       ·
        refine aE ?_;exact aW (h:=fun _ _=>by simp_all [gT])
      ·
       refine aE ?_;refine aK rfl (fun h=>?_) (fun h=>?_)
       ·
        refine aE ?_;exact aW (h:=fun _ _=>by simp_all [gT])
       ·
        refine aE ?_;exact aW (h:=fun _ _=>by simp_all [gT])
    ·
     refine aE ?_;refine aK rfl (fun h=>?_) (fun h=>?_)
     ·
      refine aE ?_;exact aW (h:=fun _ _=>by simp_all [gT])
     ·
      refine aE ?_;refine aK rfl (fun h=>?_) (fun h=>?_)
      ·
       refine aE ?_;refine aK rfl (fun h=>?_) (fun h=>?_)
       ·
        refine aE ?_;exact aW (h:=fun _ _=>by simp_all [gT])
       ·
        refine aE ?_;exact aW (h:=fun _ _=>by simp_all [gT])
      ·
       refine aE ?_;refine aK rfl (fun h=>?_) (fun h=>?_)
       ·
        refine aE ?_;exact aW (h:=fun _ _=>by simp_all [gT])
       ·
        refine aE ?_;exact aW (h:=fun _ _=>by simp_all [gT])
theorem aAc(g ag:Nat)(x:bL)(k id:Int)(w:World)(y:ag < 2)(G:Tb w g (ag*3) x):
  Cz 174 #[pt g,iv (ag:Int),.int .u8 k,iv id] w (Rt (.bool (iZ x k id)) w):=by
 obtain⟨K,f,L,m,J,l,r,I,o,B,E,u⟩:=G;obtain⟨A,c,D,C⟩:=aMX (k1:=f) (k2:=m) (k3:=l) B E u k;refine aT func174 ntmps174 ?_;refine aB ?_;refine aDs (ag) (ag*3) (n:=2) (el:=138) (sz:=3) aF aF rfl rfl aA aA aA aC ?_;refine aE ?_;refine dJ (fun F st=>aBl g (ag*3) k _ _ _ F (r.thn (st.below aD)) (I.thn (st.below aD)) (o.thn (st.below aD))) ?_;rw[D];refine aE ?_
 (first | refine cN (t:=19) rfl (fun a=>?_) (fun a=>?_) | refine qQ (t:=19) rfl (fun a=>?_) (fun a=>?_))
 ·
  refine aE ?_
  (first | refine cN (t:=25) rfl (fun a=>?_) (fun a=>?_) | refine qQ (t:=25) rfl (fun a=>?_) (fun a=>?_))
  ·
   obtain⟨i,rfl⟩:∃i:Nat,id=(i:Int):=⟨id.toNat,aA⟩
   have e:i < (uJ k x).length:=by omega
   obtain⟨b,off,rfl,z,H⟩:=C.2 aA;obtain⟨v,j⟩:∃v,(uJ k x)[i]? =some v:=⟨_,List.getElem?_eq_getElem e⟩
   refine jK rfl rfl ?_;refine dW rfl aC ?_;refine jK rfl rfl ?_;refine dW rfl aC ?_;refine jK rfl rfl ?_;refine kd (dat (i) (off+i)) ?_;refine jK rfl rfl ?_;refine lN aF rfl (Rd.ro (p:=all w) aD z (H i _ (aGN j))) aC ?_
   (first | refine sW rfl rfl aC ?_ | refine sX rfl rfl aC ?_)
   refine jZ rfl aC ?_;refine fP ?_;refine Nk ?_;refine eR ?_;exact aW (h:=fun _ _=>by simp[iZ,hasB,j])
  ·
   refine aE ?_
   have d:hasB (uJ k x) id.toNat=false:=by rw[hasB,List.getElem?_eq_none aA];rfl
   exact aW (h:=fun _ _=>by simp[iZ,d])
 ·
  refine aE ?_
  have d:decide (0≤id)=false:=by simp;omega
  exact aW (h:=fun _ _=>by simp[iZ,d])
def StM(w:World)(g:Nat)(x y:bL):Prop:=∀i,i < 2→Tb w g (i*3) (if i=0 then x else y)
def nQ(x y:bL)(k id:Int):Bool:=iZ x k id||iZ y k id
theorem Tb.thn{w w':World}{g o:Nat}{x:bL}(h:Tb w g o x)(a:Below w.heap.size w w'):Tb w' g o x:=by
 obtain⟨f,l,j,r,m,p,t,u,i,n,k,e⟩:=h
 have d:(all w).Le (all w'):=fun b c=>⟨Nat.lt_of_lt_of_le c a.size,a.block b c⟩
 exact⟨f,l,j,r,m,p,t.thn a,u.thn a,i.thn a,n.le d,k.le d,e.le d⟩
theorem aAe(g:Nat)(x y:bL)(k id:Int)(w:World)(t:StM w g x y):
  Cz 176 #[pt g,.int .u8 k,iv id] w (Rt (.bool (nQ x y k id)) w):=by
 refine aT func176 ntmps176 ?_;refine aE ?_;refine bT [(8,iv 0),(2,iv id),(1,.int .u8 k),(0,pt g)] ?_;refine aE ?_;refine fG (fun m e R H=>∃(i:Nat),i≤2∧m=2 - i∧(∀j,j < i→iZ (if j=0 then x else y) k id=false)∧e=[(8,iv i),(2,iv id),(1,.int .u8 k),(0,pt g)]∧R=[all w]∧H=[]) 2 ⟨0,aA,rfl,(fun j f=>absurd f (Nat.not_lt_zero j)),rfl,rfl,rfl⟩ fun m e R H o=>?_;obtain⟨i,u,rfl,b,rfl,rfl,rfl⟩:=o;refine aE ?_;refine aK rfl (fun h=>?_) (fun h=>?_)
 ·
  refine aE ?_
  have a:i < 2:=by have p:(i:Int) < 2:=h;omega
  refine dJ (fun r st=>aAc g i (if i=0 then x else y) k id r a ((t i a).thn (st.below aD))) ?_;refine aE ?_;refine pZ rfl (fun hw=>?_) (fun hw=>?_)
  ·
   refine aE ?_
   have c:nQ x y k id=true:=by
    unfold nQ;rcases(by omega:i=0∨i=1) with rfl | rfl
    ·simp at hw;simp[hw]
    ·simp at hw;simp[hw]
   exact aW (h:=fun _ _=>by rw[c])
  ·
   refine aE ?_
   exact fA (2 - (i+1)) ⟨i+1,aA,rfl,(fun j f=>by
    rcases Nat.lt_or_ge j i with n | n
    ·exact b j n
    ·obtain rfl:j=i:=by omega
     exact hw),rfl,rfl,rfl⟩
 ·
  refine aE ?_
  have a:i=2:=by have p:¬(i:Int) < 2:=h;omega
  subst a
  have d:=b 0 aA
  have l:=b 1 aA
  have c:nQ x y k id=false:=by
   unfold nQ;simp at d l;simp[d,l]
  exact aW (h:=fun _ _=>by rw[c])
theorem aJ4(k:Int)(A:Option Addr)(n c:Nat)(r m d l:Int)(w:World):
  Cz 213 #[.agg #[.int .u8 k,.slice A n c,.int .u64 r,iv m,iv d,iv l]] w (Rt (.bool (decide (k=112∨k=103))) w):=by
 refine aT func213 ntmps213 ?_;refine aE ?_;refine bY fun b=>?_;refine aE ?_
 (first | refine cN (t:=6) rfl (fun a=>?_) (fun a=>?_) | refine qQ (t:=6) rfl (fun a=>?_) (fun a=>?_))
 ·
  refine aE ?_;exact aW (h:=fun _ _=>by simp_all)
 ·
  refine aE ?_;exact aW (h:=fun _ _=>by simp_all)
def kP(p:Int×Int):Value:=.agg #[.int .i64 p.1,.int .i64 p.2]
def Gy(w:World)(r:Nat)(l:List ((Int×Int)×Value)):Prop:=∃b a,w.heap[r]? =some (.map b a)∧b.toList.map (fun x=>(x.key,x.val))=l.map fun p=>(kP p.1,p.2)
def lG(l:List ((Int×Int)×Value))(k:Int×Int):Option Value:=(l.find? fun p=>decide (p.1=k)).map (·.2)
theorem Ih(a:Int×Int)(b:Value)(l:List ((Int×Int)×Value))(k:Int×Int):lG ((a,b)::l) k=if a=k then some b else lG l k:=by
 unfold lG;rw[List.find?_cons]
 by_cases h:a=k<;>simp[h]
section
variable{P:Program}
theorem aOJ(i:∀a b c d:Int,Me P kt [.int .i64 a,.int .i64 b] [.int .i64 c,.int .i64 d]=true)(p q:Int×Int):(Op.equal kt (kP p) (kP q)).run P w=.ok (decide (q=p)) w:=by
 obtain⟨h,_⟩:=aKr (P:=P) (w:=w) (i p.1 p.2 q.1 q.2);rw[show kP p=.agg [Value.int .i64 p.1,.int .i64 p.2].toArray from rfl,show kP q=.agg [Value.int .i64 q.1,.int .i64 q.2].toArray from rfl,h]
 congr 1
 obtain⟨a,b⟩:=p;obtain⟨c,d⟩:=q;simp only[Ml,Xi,Prod.mk.injEq]
 by_cases j:a=c
 ·subst j
  by_cases k:b=d
  ·subst k;simp
  ·have f:¬d=b:=fun e=>k e.symm
   simp[k,f]
 ·have f:¬c=a:=fun e=>j e.symm
  simp[j,f]
theorem aGU(f:∀a b c d:Int,Me P kt [.int .i64 a,.int .i64 b] [.int .i64 c,.int .i64 d]=true)(k:Int×Int):∀(es:List MapEntry) (l:List ((Int×Int)×Value)) (i:Nat),es.map (fun x=>(x.key,x.val))=l.map (fun p=>(kP p.1,p.2))→
  ∃q,(Instr.findAsking kt (kP k) es i).run P w=.ok q w∧q.map (·.2)=lG l k
 | [],l,i,h=>by
  cases l with
  | nil=>exact⟨none,by simp[Instr.findAsking],rfl⟩
  | cons _ _=>cases h
 | e :: es, l, i, h => by
  cases l with
  | nil=>cases h
  | cons p l =>
   simp only[List.map_cons,List.cons.injEq,Prod.mk.injEq] at h;obtain⟨⟨r,t⟩,h3⟩:=h;obtain⟨q,o,n⟩:=aGU f k es l (i+1) h3;obtain⟨a,b⟩:=p
   have m:=aOJ (w:=w) f k a
   rw[←r] at m
   by_cases j:a=k
   ·refine⟨some (i,e.val),?_,?_⟩
    ·unfold Instr.findAsking;simp[Sem.run_bind,m,j]
    ·rw[Ih,if_pos j];simp[t]
   ·refine⟨q,?_,?_⟩
    ·unfold Instr.findAsking;simp[Sem.run_bind,m,j,o]
    ·rw[Ih,if_neg j];exact n
theorem aGC{a c:Field}{k0 k1:IntKind}(hk:P.underlying kt=some (.struct #[a,c]))(d:P.underlying a.type=some (.int k0))(e:P.underlying c.type=some (.int k1))(h:a.offset=0)(l:c.offset=1)(p:Int×Int)(b:Bool):(Instr.checkKey b 10000 kt (kP p)).run P w=.ok () w:=by
 have k:=Uv (P:=P) (w:=w) (cs:=#[.int .i64 p.1,.int .i64 p.2]) (i:=0) (v:=.int .i64 p.1) d (.inl ⟨_,rfl⟩) rfl
 have o:=Uv (P:=P) (w:=w) (cs:=#[.int .i64 p.1,.int .i64 p.2]) (i:=1) (v:=.int .i64 p.2) e (.inl ⟨_,rfl⟩) rfl
 have n:(Instr.checkKey b 9999 a.type (.int .i64 p.1)).run P w=.ok () w:=by
  unfold Instr.checkKey;simp[Sem.run_bind,run_underlying d]
 have f:(Instr.checkKey b 9999 c.type (.int .i64 p.2)).run P w=.ok () w:=by
  unfold Instr.checkKey;simp[Sem.run_bind,run_underlying e]
 unfold Instr.checkKey kP
 by_cases j:a.name= "_" <;>by_cases m:c.name= "_" <;>simp[Sem.run_bind,run_underlying hk,j,m,h,l,k,o,n,f]
end
structure Ak(P:Program)(kt:TypeId):Prop where
 st:∃f0 f1 k0 k1,P.underlying kt=some (.struct #[f0,f1])∧P.underlying f0.type=some (.int k0)∧P.underlying f1.type=some (.int k1)∧f0.offset=0∧f1.offset=1
 fl:∀a b c d:Int,Me P kt [.int .i64 a,.int .i64 b] [.int .i64 c,.int .i64 d]=true
theorem Ak.of{P:Program}{kt:TypeId}{e f:Field}{k0 k1:IntKind}(h:P.underlying kt=some (.struct #[e,f]))(l:P.underlying e.type=some (.int k0))(m:P.underlying f.type=some (.int k1))(i:e.offset=0)(j:f.offset=1)(k:∀a b c d:Int,Me P kt [.int .i64 a,.int .i64 b] [.int .i64 c,.int .i64 d]=true):Ak P kt:=⟨⟨e,f,k0,k1,h,l,m,i,j⟩,k⟩
section
variable{P:Program}{t et:TypeId}{r:Nat}{l:List ((Int×Int)×Value)}
theorem aFU(hk:Ak P kt)(k:Int×Int)(es:List MapEntry)(h:es.map (fun x=>(x.key,x.val))=l.map (fun p=>(kP p.1,p.2))):∃q,(Instr.findKey kt (kP k) es).run P w=.ok q w∧q.map (·.2)=lG l k:=by
 obtain⟨c,f,j,i,a,_⟩:=hk.st;obtain⟨q,d,b⟩:=aGU (w:=w) hk.fl k es l 0 h;cases es with
 | nil=>
  cases l with
  | cons _ _=>cases h
  | nil=>exact⟨none,by simp[Instr.findKey,Sem.run_bind,run_underlying a,Instr.findNow],rfl⟩
 | cons e es =>
  refine⟨q,?_,b⟩;unfold Instr.findKey
  have:Instr.findNow (.struct #[c,f]) (kP k) (e::es) 0=none:=by
   unfold Instr.findNow Instr.sameNow;rfl
  simp[Sem.run_bind,run_underlying a,this,d]
theorem aKl{z:Value}(e:P.underlying t=some (.map kt et))(hk:Ak P kt)(n:∀w,(zeroValue et).run P w=.ok z w)(h:Gy w r l)(k:Int×Int)(ok:Bool):
  (Instr.lookup t (.map (some r)) (kP k) ok).run P w=.ok (if ok then .tuple #[(lG l k).getD z,.bool (lG l k).isSome] else(lG l k).getD z) w:=by
 obtain⟨p,c,i,B⟩:=h;obtain⟨q,d,a⟩:=aFU (w:=w) hk k p.toList B;obtain⟨C,D,E,F,A,o,y,m,u⟩:=hk.st
 have f:=fun b=>aGC (w:=w) A o y m u k b
 unfold Instr.lookup;rw[←a];cases q with
 | none=>cases ok<;>simp[Sem.run_bind,run_underlying e,run_getObj_map i,f,d,n]
 | some x=>obtain⟨j,v⟩:=x;cases ok<;>simp[Sem.run_bind,run_underlying e,run_getObj_map i,f,d]
theorem aKn(n:P.underlying t=some (.map kt et))(hk:Ak P kt)(h:Gy w r l)(k:Int×Int)(v:Value)(d:lG l k=none):
  ∃es c,(Instr.mapUpdate t (.map (some r)) (kP k) v).run P w=.ok () {w with heap:=w.heap.setIfInBounds r (.map es c)}∧es.toList.map (fun x=>(x.key,x.val))=(l++[(k,v)]).map fun p=>(kP p.1,p.2):=by
 obtain⟨es,c,e,f⟩:=h;obtain⟨q,j,a⟩:=aFU (w:=w) hk k es.toList f;obtain⟨B,C,D,E,A,m,y,i,u⟩:=hk.st
 have z:=fun b=>aGC (w:=w) A m y i u k b
 have mA:∀o,(setObj r o).run P w=.ok () {w with heap:=w.heap.setIfInBounds r o}:=fun o=>by simp[setObj,Sem.run,e]
 rw[d] at a;obtain rfl:q=none:=by cases q with | none=>rfl | some x=>cases a
 refine⟨es.push {key:=kP k,val:=v,born:=c},c+1,?_,?_⟩
 ·unfold Instr.mapUpdate;simp[Sem.run_bind,run_underlying n,run_getObj_map e,z,j,mA]
 ·rw[Array.toList_push,List.map_append,f];simp
end
def HP.uH(r:Nat)(l:List ((Int×Int)×Value)):HP:=⟨fun F w=>F r∧Gy w r l,fun F w f h a=>⟨h.1,by
 obtain⟨e,c,b,d⟩:=h.2
 exact⟨e,c,(a r h.1).trans b,d⟩⟩⟩
theorem Gy.lt{w:World}{r:Nat}{l:List ((Int×Int)×Value)}(h:Gy w r l):r < w.heap.size:=by
 obtain⟨b,c,a,_⟩:=h;rcases Nat.lt_or_ge r w.heap.size with h | h
 ·exact h
 ·rw[Array.getElem?_eq_none h] at a;cases a
section
variable{P:Program}{H:List HP}
theorem St.uH(st:St w0 R H w){i r:Nat}{l:List ((Int×Int)×Value)}(hi:H[i]? =some (HP.uH r l)):Gy w r l:=(st.sat hi).choose_spec.2
theorem aI0{t:TypeId}(hd:d < N.n)(k:∀g,XK N w0 (wpList P ops Q rest) ((d,.map (some g))::e) R (HP.uH g []::H)):XK N w0 (wpList P ops Q (⟨some d,.makeMap t none,ty,pos,aL,none⟩::rest)) e R H:=
 sV rfl fun a w b st=>⟨.map (some w.heap.size),w.alloc (.map #[] 0),by simp[execOp,Instr.makeMap],k w.heap.size _ _ (b.put hd _) (st.new (Ng w _) ⟨⟨Nat.le_refl _,aD⟩,#[],0,heap_alloc_new w _,rfl⟩)⟩
theorem aI4{x y:Operand}{t kt et:TypeId}{z:Value}{r:Nat}{l:List ((Int×Int)×Value)}{k:Int×Int}(ok:Bool)(h:P.underlying t=some (.map kt et))(hk:Ak P kt)(c:(P.info? et).bind (·.zero)=some z)
  (hx:e.ev x=some (.map (some r))) (hy:e.ev y=some (kP k)) (hm:∀w,St w0 R H w→Gy w r l) (hd:d < N.n)
  (f:XK N w0 (wpList P ops Q rest) ((d,if ok then .tuple #[(lG l k).getD z,.bool (lG l k).isSome] else(lG l k).getD z)::e) R H):XK N w0 (wpList P ops Q (⟨some d,.lookup t x y ok,ty,pos,aL,none⟩::rest)) e R H:=
 sV rfl fun a w b st=>⟨_,w,by simp only[execOp,b.ev hx,b.ev hy,Sem.run_bind,aKl h hk (zeroV c) (hm w st),Result.andThen_ok,Sem.run_pure],f _ _ (b.put hd _) st⟩
theorem Zw{x y:Operand}{t kt et:TypeId}{z v:Value}{r:Nat}{l:List ((Int×Int)×Value)}{k:Int×Int}{b:Bool}(h:P.underlying t=some (.map kt et))(hk:Ak P kt)(c:(P.info? et).bind (·.zero)=some z)
  (hx:e.ev x=some (.map (some r))) (hy:e.ev y=some (kP k)) (hm:∀w,St w0 R H w→Gy w r l) (f:(lG l k).getD z=v) (a:(lG l k).isSome=b) (hd:d < N.n)
  (i:XK N w0 (wpList P ops Q rest) ((d,.tuple #[v,.bool b])::e) R H):XK N w0 (wpList P ops Q (⟨some d,.lookup t x y true,ty,pos,aL,none⟩::rest)) e R H:=
 aI4 true h hk c hx hy hm hd (by subst f;subst a;exact i)
theorem aI7(i:Nat){x y u:Operand}{t kt et:TypeId}{r:Nat}{l:List ((Int×Int)×Value)}{k:Int×Int}{v:Value}(C:P.underlying t=some (.map kt et))(hk:Ak P kt)(hi:H[i]? =some (HP.uH r l))(j:lG l k=none)
  (hx:e.ev x=some (.map (some r))) (hy:e.ev y=some (kP k)) (G:e.ev u=some v) (D:XK N w0 (wpList P ops Q rest) e R (H.set i (HP.uH r (l++[(k,v)])))):XK N w0 (wpList P ops Q (⟨none,.insert t x y u,ty,pos,aL,none⟩::rest)) e R H:=
 Zu rfl rfl fun a w f st=>by
  have p:=st.uH hi
  have m:=p.lt
  obtain⟨z,c,d,E⟩:=aKn (P:=P) C hk p k v j;refine⟨{w with heap:=w.heap.setIfInBounds r (.map z c)},by simp only[execOp,f.ev hx,f.ev hy,f.ev G,Sem.run_bind,d,Result.andThen_ok,Sem.run_pure],D _ _ f ?_⟩;refine st.wA hi aD rfl rfl rfl fun F A o=>⟨F,⟨A.1,z,c,by simp[Array.getElem?_setIfInBounds,m],E⟩,fun b h=>⟨.inl h,by simpa using o b h⟩,fun b o n=>?_⟩
  rw[Array.getElem?_setIfInBounds];split
  ·rename_i B;exact absurd (B▸A.1) n
  ·rfl
end
variable{H H0 H':List HP}
theorem aFa:∀(sub:List Nat) (l:Array Bool),(lU sub l).size=l.size
 | [],l=>rfl
 | i::sub,l=>by
  show((lU sub l).setIfInBounds i true).size=_
  rw[Array.size_setIfInBounds,aFa sub l]
theorem aBh:∀(sub:List Nat) (l:Array Bool) (i:Nat) (b:Bool),i∈sub→i < l.size→(lU sub l).getD i b=true
 | j :: sub, l, i, b, h, hi => by
  show((lU sub l).setIfInBounds j true).getD i b=true
  by_cases e:j=i
  ·subst e
   have:j < (lU sub l).size:=by rw[aFa];exact hi
   simp[this]
  ·rw[getD_set_ne b e];rcases List.mem_cons.1 h with h | h
   ·exact absurd h.symm e
   ·exact aBh sub l i b h hi
theorem Qi:∀(sub:List Nat) (l:Array Bool) (i:Nat) (b:Bool),i∉sub→(lU sub l).getD i b=l.getD i b
 | [],l,i,b,_=>rfl
 | j::sub,l,i,b,h=>by
  show((lU sub l).setIfInBounds j true).getD i b=_
  have e:j≠i:=fun e=>h (by simp[e])
  rw[getD_set_ne b e];exact Qi sub l i b fun a=>h (by simp[a])
theorem aMI{sub:List Nat}{l:Array Bool}{i:Nat}(h:l.getD i false=true):(lU sub l).getD i false=true:=by
 by_cases b:i∈sub
 ·refine aBh sub l i false b ?_;rcases Nat.lt_or_ge i l.size with a | a
  ·exact a
  ·simp[Array.getElem?_eq_none a] at h
 ·rw[Qi sub l i false b];exact h
def aBt(ops:Array Oper)(I:List Nat)(listed:Array Bool):Bool:=
 I.all (fun i=>decide (i < listed.size)&& !(listed.getD i true)&&match ops[i]? with
  | some o=>o.after.toList.all fun x=> !(Region.binds .any x)||listed.getD x.on false
  | none=>false)&&
 (List.range ops.size).all fun j=>I.contains j||listed.getD j true||match ops[j]? with
  | some o=>I.all fun i=>o.after.toList.any fun x=>Region.binds .any x&&x.on==i
  | none=>true
theorem aKZ{ops:Array Oper}{I sub:List Nat}{listed:Array Bool}(t:aBt ops I listed=true)(hsub:∀i∈sub,i∈I){i0:Nat}(l:i0∈I)(d:i0∉sub):
  Region.ready .any ops (lU sub listed)≠[]∧∀j∈Region.ready .any ops (lU sub listed),j∈I∧j∉sub:=by
 unfold aBt at t;rw[Bool.and_eq_true,List.all_eq_true,List.all_eq_true] at t;obtain⟨w,A⟩:=t
 have u:=w i0 l
 simp only[Bool.and_eq_true,decide_eq_true_eq,Bool.not_eq_true'] at u;obtain⟨⟨B,p⟩,k⟩:=u;constructor
 ·cases b:ops[i0]? with
  | none=>rw[b] at k;cases k
  | some o =>
   rw[b] at k;simp only[List.all_eq_true] at k
   have:i0∈Region.ready .any ops (lU sub listed):=mem_ready.2 ⟨by rw[Qi _ _ _ _ d];exact p,o,b,fun x r e=>by
    have:=k x (by simpa using r)
    rw[e] at this
    exact aMI (by simpa using this)⟩
   intro y;rw[y] at this;cases this
 ·intro j D;obtain⟨m,o,b,C⟩:=mem_ready.1 D
  have c:j∉sub:=fun h=>by
   have f:=w j (hsub j h)
   simp only[Bool.and_eq_true,decide_eq_true_eq] at f;rw[aBh sub listed j true h f.1.1] at m;cases m
  refine⟨?_,c⟩;rw[Qi _ _ _ _ c] at m
  have n:j < ops.size:=(Array.getElem?_eq_some_iff.1 b).1
  have a:=A j (List.mem_range.2 n)
  rw[m,b] at a;simp only[Bool.or_false,Bool.or_eq_true] at a;rcases a with a | a
  ·simpa using a
  ·exfalso;rw[List.all_eq_true] at a
   have:=a i0 l
   rw[List.any_eq_true] at this;obtain⟨x,r,e⟩:=this;simp only[Bool.and_eq_true,beq_iff_eq] at e
   have:=C x (by simpa using r) e.1
   rw[e.2,Qi _ _ _ _ d] at this
   have z:listed.getD i0 true=listed.getD i0 false:=by simp[B]
   rw[z,this] at p;cases p
theorem aE5{I sub:List Nat}(e:I.Nodup)(d:sub.Nodup)(c:∀i∈sub,i∈I):(I.filter fun i=>sub.contains i).Perm sub:=by
 rw[List.perm_iff_count];intro a;rw[(e.sublist List.filter_sublist).count,d.count]
 by_cases b:a∈sub
 ·rw[if_pos b,if_pos (by simp[b,c a b])]
 ·rw[if_neg b,if_neg (by simp[b])]
theorem aM7{l m:List ((Int×Int)×Value)}(h:l.Perm m)(i:(l.map (·.1)).Nodup)(k:Int×Int):lG l k=lG m k:=by
 induction h with
 | nil=>rfl
 | cons x _ ih=>
  obtain⟨a,b⟩:=x;rw[Ih,Ih,ih (List.nodup_cons.1 i).2]
 | swap x y s =>
  obtain⟨a,b⟩:=x;obtain⟨c,d⟩:=y
  have j:c≠a:=fun e=>(List.nodup_cons.1 i).1 (by rw[e];simp)
  simp only[Ih]
  by_cases f:a=k
  ·have:c≠k:=fun e=>j (e.trans f.symm)
   simp[f,this]
  ·simp[f]
 | trans f h2 i1 i2=>exact(i1 i).trans (i2 ((f.map _).nodup_iff.1 i))
theorem aM8{l:List ((Int×Int)×Value)}{k:Int×Int}(h:k∉l.map (·.1)):lG l k=none:=by
 induction l with
 | nil=>rfl
 | cons x l ih=>
  obtain⟨a,b⟩:=x;rw[List.map_cons,List.mem_cons,not_or] at h;rw[Ih,if_neg (fun e=>h.1 e.symm)];exact ih h.2
section
variable{P:Program}{m:Nat}
def Lays(P:Program)(ops:Array Oper)(e:Env)(r:Nat)(i:Nat)(p:(Int×Int)×Value):Prop:=∃x y u d a b t kt c,ops[i]? =some ⟨none,.insert t x y u,d,a,b,none⟩∧P.underlying t=some (.map kt c)∧Ak P kt∧e.ev x=some (.map (some r))∧e.ev y=some (kP p.1)∧e.ev u=some p.2
theorem aSz(I:List Nat)(c:Nat→(Int×Int)×Value)(r:Nat)(hI:I.Nodup)(Z:∀i∈I,Lays P ops e r i (c i))(B:(I.map fun i=>(c i).1).Nodup)(hB:aBt ops I listed=true)
  (hS:∀l w,St w0 R (HP.uH r l::H) w→St w0 R0 H0 w)
  (k:∀sub:List Nat,sub.Perm I→XA P N w0 ops Q R0 H0 m fuel (lU sub listed) e R (HP.uH r (sub.reverse.map c)::H)):XA P N w0 ops Q R0 H0 m (fuel+I.length) listed e R (HP.uH r []::H):=by
 have X : ∀ (n : Nat) (sub : List Nat), sub.Nodup → (∀ i ∈ sub, i ∈ I) → sub.length + n = I.length → XA P N w0 ops Q R0 H0 m (fuel + n) (lU sub listed) e R (HP.uH r (sub.reverse.map c) :: H) := by
  intro n
  induction n with
  | zero=>
   intro sub O d hl
   have C:=aE5 hI O d
   have V:(I.filter fun i=>sub.contains i)=I:=List.filter_sublist.eq_of_length (by have:=C.length_eq;omega)
   rw[V] at C;exact k sub C.symm
  | succ n ih =>
   intro sub O d hl
   obtain⟨i0,Y,T⟩:∃i,i∈I∧i∉sub:=Classical.byContradiction fun o=>by
    have C:=aE5 hI O d
    have V:(I.filter fun i=>sub.contains i)=I:=List.filter_eq_self.2 fun i M=>by
     rcases Classical.em (i∈sub) with h | h
     ·simpa using h
     ·exact absurd ⟨i,M,h⟩ o
    rw[V] at C
    have:=C.length_eq
    omega
   obtain⟨r1,r2⟩:=aKZ hB d Y T;intro up a w U st;refine⟨fun h=>absurd h r1,fun i M=>?_⟩;obtain⟨A,f⟩:=r2 i M;obtain⟨x,y,u,ty,J,G,t,kt,et,ho,ht,hk,hx,hy,hu⟩:=Z i A
   have o:lG (sub.reverse.map c) (c i).1=none:=aM8 fun hm=>by
    simp only[List.map_map,List.mem_map,List.mem_reverse,Function.comp] at hm;obtain⟨j,D,he⟩:=hm
    have E:j≠i:=fun e=>f (e▸D)
    exact E (Classical.byContradiction fun hne=>by
     have h1:=List.pairwise_map.1 B
     exact absurd he (by
      obtain⟨a,ha⟩:=List.getElem?_of_mem (d j D);obtain⟨b,hb⟩:=List.getElem?_of_mem A
      have L:=(List.getElem?_eq_some_iff.1 ha).1
      have F:=(List.getElem?_eq_some_iff.1 hb).1
      have p:=(List.getElem?_eq_some_iff.1 ha).2
      have z:=(List.getElem?_eq_some_iff.1 hb).2
      have h2:=List.pairwise_iff_getElem.1 h1
      rcases Nat.lt_trichotomy a b with h | h | h
      ·have:=h2 a b L F h;rw[p,z] at this;exact this
      ·subst h;exact absurd (p.symm.trans z) E
      ·have:=h2 b a F L h;rw[p,z] at this;exact fun e=>this e.symm))
   refine Bc ho (fun a w h=>⟨h.1,h.2 (up.lS M)⟩) (K:=sJ P w0 ops Q R0 H0 m (fuel+n) (lU sub listed) i) ?_
   have:=aI7 (P:=P) (N:=N) (w0:=w0) (R:=R) (H:=HP.uH r (sub.reverse.map c)::H) (Q:=Exit.then (sJ P w0 ops Q R0 H0 m (fuel+n) (lU sub listed) i) Q) (ops:=ops) (rest:=[]) (ty:=ty) (pos:=J) (aL:=G) 0 ht hk rfl o hx hy hu
    (iG (iC (lB (hS _) (by
     have:=ih (i::sub) (List.nodup_cons.2 ⟨f,O⟩) (fun j D=>by
      rcases List.mem_cons.1 D with rfl | D
      ·exact A
      ·exact d j D) (by simp only[List.length_cons];omega)
     rw[List.reverse_cons,List.map_append] at this
     exact this))))
   exact this a w U st
 exact X I.length [] List.nodup_nil (fun _ h=>by cases h) aD
end
theorem aFW(L:List (Nat×Nat))(a:Nat→Option (Nat×Nat))(hp:∀i x,L[i]? =some x→a i=some x):∀(ps:List (Nat×Value)) (cs b:List Value),fL L cs ps=some b→Instr.fill a cs.toArray ps=some b.toArray
 | [],cs,b,h=>by cases h;rfl
 | (i, v) :: rest, cs, b, h => by
  unfold fL at h;unfold Instr.fill;split at h
  ·rename_i off sz hL
   rw[hp _ _ hL];split at h
   ·rename_i e
    have d:(decide (v.cells.size≠sz)||decide (off+v.cells.size>cs.toArray.size))=false:=by simp;omega
    simp only[d,Bool.false_eq_true,if_false]
    have:=aA1 v.cells.toList cs off 0
    rw[show v.cells.zipIdx.foldl (fun cs (c,j)=>cs.setIfInBounds (off+j) c) cs.toArray=(gR cs off v.cells.toList).toArray by
     rw[←Array.foldl_toList,Array.toList_zipIdx];exact this]
    exact aFW L a hp rest _ b h
   ·cases h
  ·cases h
section
variable{P:Program}
theorem aBU{t el:TypeId}{n sz:Nat}{ps:List (Nat×Operand)}{vs:List (Nat×Value)}{zs cs:List Value}(o:Ba P t zs)(r:P.underlying t=some (.array n el))(l:(P.info? el).map (·.size)=some sz)(hp:e.parts ps=some vs)(hf:fL ((List.range n).map fun i=>(i*sz,sz)) zs vs=some cs):cF P N w0 e R H ⟨some d,.build t ps.toArray,ty,pos,aL,none⟩ (.agg cs.toArray):=
 gZ (fun a w u => by
  have:=u.parts hp
  obtain⟨i,z,p,k,rfl⟩:=o;obtain⟨j,y,rfl⟩:=Option.map_eq_some_iff.1 l
  have b:=aFW _ (fun i=>some (i*j.size,j.size)) (fun i x m=>by
   rw[List.getElem?_map] at m;obtain⟨q,c,rfl⟩:=Option.map_eq_some_iff.1 m
   have f:i < n:=by
    rcases Nat.lt_or_ge i n with h | h
    ·exact h
    ·rw[List.getElem?_eq_none (by simpa using h)] at c;cases c
   rw[List.getElem?_range f] at c;cases c
   rfl) vs z.cells.toList cs hf
  simp at b;simp only[execOp,List.map_toArray,this]
  simp[Instr.build,zeroValue,typeInfo,sizeOf,p,y,k,run_underlying r,b])
end
def rA(n m a b c:Int):Value:=.agg #[iv n,iv m,.int .u8 a,.int .u8 b,.int .u8 c]
theorem Vs:Ak Tryz.prog 325:=Ak.of Tryz.underlying325 Tryz.underlying3 Tryz.underlying3 rfl rfl (fun _ _ _ _=>by kernel_rfl)
def xZ:Nat→(Int×Int)×Value
 | 3=>((16,0),rA 0 0 0 0 0) | 6=>((17,0),rA 0 0 0 0 0) | 9=>((20,0),rA 0 0 0 0 0) | 12=>((22,0),rA 0 0 0 0 0) | 15=>((16,1),rA 0 0 0 0 0)
 | 19=>((17,4),rA 2 3 100 117 107) | 22=>((17,5),rA 1 0 0 0 0) | 25=>((20,6),rA 1 0 0 0 0) | 29=>((20,7),rA 2 2 111 99 0) | _=>((22,4),rA 2 2 114 97 0)
def Iv:List Nat:=[3,6,9,12,15,19,22,25,29,33]
def aBG:List ((Int×Int)×Value):=Iv.map xZ
def aCT(v:Value)(hs:List HP)(_:Piece):Prop:=∃(g:Nat) (sub:List Nat),v=.map (some g)∧sub.Perm Iv∧hs=[HP.uH g (sub.reverse.map xZ)]
theorem aFK(w:World):Cz 211 #[] w (fun y w'=>(∃v hs q,y=.returned v∧q.w=w'∧aCT v hs q∧gX w hs q)∧Below w.heap.size w w'):=by
 refine aT func211 ntmps211 ?_;refine eG ?_;refine gN ?_;refine jZ rfl aC ?_;refine fP ?_;refine eG ?_;refine rK 34 aF aF ?_;refine fR 1 rfl rfl rfl aC (lI (zs:=[iv 0,iv 0]) (L:=[(0,1),(1,1)]) (iH aF) aF rfl (by simp[fL,gR,Value.cells];rfl)) aF (fun _ _ _ h=>h) (fun _ h=>h) ?_;refine fR 2 rfl rfl rfl aC (lI (zs:=[iv 0,iv 0,.int .u8 0,.int .u8 0,.int .u8 0]) (L:=[(0,1),(1,1),(2,3)]) (iH aF) aF rfl (by simp[fL,gR,Value.cells];rfl)) aF (fun _ _ _ h=>h) (fun _ h=>h) ?_;refine fR 4 rfl rfl rfl aC (lI (zs:=[iv 0,iv 0]) (L:=[(0,1),(1,1)]) (iH aF) aF rfl (by simp[fL,gR,Value.cells];rfl)) aF (fun _ _ _ h=>h) (fun _ h=>h) ?_;refine fR 5 rfl rfl rfl aC (lI (zs:=[iv 0,iv 0,.int .u8 0,.int .u8 0,.int .u8 0]) (L:=[(0,1),(1,1),(2,3)]) (iH aF) aF rfl (by simp[fL,gR,Value.cells];rfl)) aF (fun _ _ _ h=>h) (fun _ h=>h) ?_;refine fR 7 rfl rfl rfl aC (lI (zs:=[iv 0,iv 0]) (L:=[(0,1),(1,1)]) (iH aF) aF rfl (by simp[fL,gR,Value.cells];rfl)) aF (fun _ _ _ h=>h) (fun _ h=>h) ?_;refine fR 8 rfl rfl rfl aC (lI (zs:=[iv 0,iv 0,.int .u8 0,.int .u8 0,.int .u8 0]) (L:=[(0,1),(1,1),(2,3)]) (iH aF) aF rfl (by simp[fL,gR,Value.cells];rfl)) aF (fun _ _ _ h=>h) (fun _ h=>h) ?_;refine fR 10 rfl rfl rfl aC (lI (zs:=[iv 0,iv 0]) (L:=[(0,1),(1,1)]) (iH aF) aF rfl (by simp[fL,gR,Value.cells];rfl)) aF (fun _ _ _ h=>h) (fun _ h=>h) ?_;refine fR 11 rfl rfl rfl aC (lI (zs:=[iv 0,iv 0,.int .u8 0,.int .u8 0,.int .u8 0]) (L:=[(0,1),(1,1),(2,3)]) (iH aF) aF rfl (by simp[fL,gR,Value.cells];rfl)) aF (fun _ _ _ h=>h) (fun _ h=>h) ?_;refine fR 13 rfl rfl rfl aC (lI (zs:=[iv 0,iv 0]) (L:=[(0,1),(1,1)]) (iH aF) aF rfl (by simp[fL,gR,Value.cells];rfl)) aF (fun _ _ _ h=>h) (fun _ h=>h) ?_;refine fR 14 rfl rfl rfl aC (lI (zs:=[iv 0,iv 0,.int .u8 0,.int .u8 0,.int .u8 0]) (L:=[(0,1),(1,1),(2,3)]) (iH aF) aF rfl (by simp[fL,gR,Value.cells];rfl)) aF (fun _ _ _ h=>h) (fun _ h=>h) ?_;refine fR 16 rfl rfl rfl aC (lI (zs:=[iv 0,iv 0]) (L:=[(0,1),(1,1)]) (iH aF) aF rfl (by simp[fL,gR,Value.cells];rfl)) aF (fun _ _ _ h=>h) (fun _ h=>h) ?_;refine fR 17 rfl rfl rfl aC (aBU (n:=3) (sz:=1) (el:=5) (zs:=[.int .u8 0,.int .u8 0,.int .u8 0]) (iH aF) aF aF rfl (by simp[fL,gR,Value.cells,List.range_succ,List.set];rfl)) aF (fun _ _ _ h=>h) (fun _ h=>h) ?_;refine fR 18 rfl rfl rfl aC (lI (zs:=[iv 0,iv 0,.int .u8 0,.int .u8 0,.int .u8 0]) (L:=[(0,1),(1,1),(2,3)]) (iH aF) aF rfl (by simp[fL,gR,Value.cells];rfl)) aF (fun _ _ _ h=>h) (fun _ h=>h) ?_;refine fR 20 rfl rfl rfl aC (lI (zs:=[iv 0,iv 0]) (L:=[(0,1),(1,1)]) (iH aF) aF rfl (by simp[fL,gR,Value.cells];rfl)) aF (fun _ _ _ h=>h) (fun _ h=>h) ?_;refine fR 21 rfl rfl rfl aC (lI (zs:=[iv 0,iv 0,.int .u8 0,.int .u8 0,.int .u8 0]) (L:=[(0,1),(1,1),(2,3)]) (iH aF) aF rfl (by simp[fL,gR,Value.cells];rfl)) aF (fun _ _ _ h=>h) (fun _ h=>h) ?_;refine fR 23 rfl rfl rfl aC (lI (zs:=[iv 0,iv 0]) (L:=[(0,1),(1,1)]) (iH aF) aF rfl (by simp[fL,gR,Value.cells];rfl)) aF (fun _ _ _ h=>h) (fun _ h=>h) ?_;refine fR 24 rfl rfl rfl aC (lI (zs:=[iv 0,iv 0,.int .u8 0,.int .u8 0,.int .u8 0]) (L:=[(0,1),(1,1),(2,3)]) (iH aF) aF rfl (by simp[fL,gR,Value.cells];rfl)) aF (fun _ _ _ h=>h) (fun _ h=>h) ?_;refine fR 26 rfl rfl rfl aC (lI (zs:=[iv 0,iv 0]) (L:=[(0,1),(1,1)]) (iH aF) aF rfl (by simp[fL,gR,Value.cells];rfl)) aF (fun _ _ _ h=>h) (fun _ h=>h) ?_;refine fR 27 rfl rfl rfl aC (aBU (n:=3) (sz:=1) (el:=5) (zs:=[.int .u8 0,.int .u8 0,.int .u8 0]) (iH aF) aF aF rfl (by simp[fL,gR,Value.cells,List.range_succ,List.set];rfl)) aF (fun _ _ _ h=>h) (fun _ h=>h) ?_;refine fR 28 rfl rfl rfl aC (lI (zs:=[iv 0,iv 0,.int .u8 0,.int .u8 0,.int .u8 0]) (L:=[(0,1),(1,1),(2,3)]) (iH aF) aF rfl (by simp[fL,gR,Value.cells];rfl)) aF (fun _ _ _ h=>h) (fun _ h=>h) ?_;refine fR 30 rfl rfl rfl aC (lI (zs:=[iv 0,iv 0]) (L:=[(0,1),(1,1)]) (iH aF) aF rfl (by simp[fL,gR,Value.cells];rfl)) aF (fun _ _ _ h=>h) (fun _ h=>h) ?_;refine fR 31 rfl rfl rfl aC (aBU (n:=3) (sz:=1) (el:=5) (zs:=[.int .u8 0,.int .u8 0,.int .u8 0]) (iH aF) aF aF rfl (by simp[fL,gR,Value.cells,List.range_succ,List.set];rfl)) aF (fun _ _ _ h=>h) (fun _ h=>h) ?_;refine fR 32 rfl rfl rfl aC (lI (zs:=[iv 0,iv 0,.int .u8 0,.int .u8 0,.int .u8 0]) (L:=[(0,1),(1,1),(2,3)]) (iH aF) aF rfl (by simp[fL,gR,Value.cells];rfl)) aF (fun _ _ _ h=>h) (fun _ h=>h) ?_;refine cX 0 ?_;refine aI0 aC fun e=>?_;refine nO ?_;refine aSz (fuel:=2) Iv xZ e aC (fun i c=>?_) aC aF (fun l d h=>h.tail) (fun sub a=>?_)
 ·simp only[Iv,List.mem_cons,List.not_mem_nil,or_false] at c;rcases c with rfl | rfl | rfl | rfl | rfl | rfl | rfl | rfl | rfl | rfl
  all_goals exact⟨_,_,_,_,_,_,_,_,_,rfl,Tryz.underlying322,Vs,rfl,rfl,rfl⟩
 rw[Vy a];refine cX 34 ?_;refine dW rfl aC ?_;refine fB ?_;refine cX 35 ?_;refine jZ rfl aC ?_;refine fB ?_;refine lA ?_;refine eR ?_;refine Nk ?_;refine eR ?_;refine dK [] [] [0] aD rfl aC aC fun q _ _ b=>?_;exact aW (h:=fun d st=>⟨_,_,⟨d,q.Z⟩,rfl,rfl,⟨e,sub,rfl,a,rfl⟩,st.newR aD aD (b aD aD)⟩)
def eD(w:Int):Int:=if cT w 28 4≠0 then 0 else cT w 0 8
def Bp(w:Int):Int:=if cT w 28 4≠0 then 0 else cT w 8 2
def dX(w:Int):Int:=if cT w 28 4≠0 then 0 else cT w 10 8
def Xa(w:Int):Int:=if cT w 28 4≠0 then 0 else cT w 18 10
theorem aDA(w:Int):Cs w=Dn (eD w) (Bp w) (dX w) (Xa w):=by
 unfold Cs eD Bp dX Xa;split<;>rfl
structure lC where
 n:Int
 m:Int
 a:Int
 b:Int
 c:Int
def lC.v(f:lC):Value:=rA f.n f.m f.a f.b f.c
def lC.act(f:lC)(v:Int):Int:=if v=0 then f.a else if v=1 then f.b else f.c
def pN(p m:Int):Option lC:=
 if m=0 then(if p=16∨p=17∨p=20∨p=22 then some ⟨0,0,0,0,0⟩ else none)
 else if m=1 then(if p=16 then some ⟨0,0,0,0,0⟩ else none)
 else if m=4 then(if p=17 then some ⟨2,3,100,117,107⟩ else if p=22 then some ⟨2,2,114,97,0⟩ else none)
 else if m=5 then(if p=17 then some ⟨1,0,0,0,0⟩ else none)
 else if m=6 then(if p=20 then some ⟨1,0,0,0,0⟩ else none)
 else if m=7 then(if p=20 then some ⟨2,2,111,99,0⟩ else none)
 else none
theorem aOm(p m:Int):lG aBG (p,m)=(pN p m).map lC.v:=by
 unfold aBG Iv pN;simp only[List.map_cons,List.map_nil,xZ,Ih,Prod.mk.injEq]
 by_cases i:m=0
 ·subst i
  by_cases c:p=16
  ·subst c;simp[lC.v]
  ·by_cases a:p=17
   ·subst a;simp[lC.v]
   ·by_cases b:p=20
    ·subst b;simp[lC.v]
    ·by_cases d:p=22
     ·subst d;simp[lC.v]
     ·simp[c,a,b,d,lG,Ne.symm c,Ne.symm a,Ne.symm b,Ne.symm d]
 ·by_cases j:m=1
  ·subst j
   by_cases c:p=16
   ·subst c;simp[lC.v]
   ·simp[c,Ne.symm c,lG]
  ·by_cases f:m=4
   ·subst f
    by_cases a:p=17
    ·subst a;simp[lC.v]
    ·by_cases d:p=22
     ·subst d;simp[lC.v]
     ·simp[a,d,Ne.symm a,Ne.symm d,lG]
   ·by_cases e:m=5
    ·subst e
     by_cases a:p=17
     ·subst a;simp[lC.v]
     ·simp[a,Ne.symm a,lG]
    ·by_cases h:m=6
     ·subst h
      by_cases b:p=20
      ·subst b;simp[lC.v]
      ·simp[b,Ne.symm b,lG]
     ·by_cases h7:m=7
      ·subst h7
       by_cases b:p=20
       ·subst b;simp[lC.v]
       ·simp[b,Ne.symm b,lG]
      ·simp[i,j,f,e,h,h7,Ne.symm i,Ne.symm j,Ne.symm f,Ne.symm e,Ne.symm h,Ne.symm h7,lG]
def dZ(p m:Int):lC:=(pN p m).getD ⟨0,0,0,0,0⟩
theorem aOl{sub:List Nat}(h:sub.Perm Iv)(p m:Int):lG (sub.reverse.map xZ) (p,m)=(pN p m).map lC.v:=by
 rw[←aOm]
 have a:(sub.reverse.map xZ).Perm aBG:=((List.reverse_perm sub).trans h).map xZ
 refine aM7 a ?_ _;exact((a.map (·.1)).nodup_iff).2 aC
theorem Ma{sub:List Nat}(h:sub.Perm Iv)(p m:Int):(lG (sub.reverse.map xZ) (p,m)).getD (rA 0 0 0 0 0)=(dZ p m).v∧(lG (sub.reverse.map xZ) (p,m)).isSome=(pN p m).isSome:=by
 rw[aOl h];unfold dZ;cases pN p m<;>exact⟨rfl,rfl⟩
theorem aFG(p m : Int) : ((dZ p m).n = 0 ∨ (dZ p m).n = 1 ∨ (dZ p m).n = 2) ∧ 0 ≤ (dZ p m).m ∧ (dZ p m).m ≤ 3 ∧ (∀ v, 0 ≤ v → v < (dZ p m).m → (dZ p m).act v = 107 → p = 17) ∧
  ((dZ p m).m≠0→p=17∨p=20∨p=22):=by
 unfold dZ pN
 by_cases i:m=0
 ·by_cases h:p=16∨p=17∨p=20∨p=22<;>simp[i,h]<;>omega
 ·by_cases c:m=1
  ·by_cases h:p=16<;>simp[c,h]<;>omega
  ·by_cases b:m=4
   ·by_cases h:p=17
    ·simp[b,h]
    ·by_cases j:p=22
     ·subst b j;simp only[lC.act];refine⟨aD,aD,aD,fun v c d a=>?_,aD⟩;simp at d a;split at a
      ·omega
      ·split at a<;>omega
     ·simp[b,h,j];omega
   ·by_cases e:m=5
    ·by_cases h:p=17<;>simp[e,h]<;>omega
    ·by_cases f:m=6
     ·by_cases h:p=20<;>simp[f,h]<;>omega
     ·by_cases h7:m=7
      ·by_cases h:p=20
       ·subst h7 h;simp only[lC.act];refine⟨aD,aD,aD,fun v c d a=>?_,aD⟩;simp at d a;split at a
        ·omega
        ·split at a<;>omega
       ·simp[h7,h];omega
      ·simp[i,c,b,e,f,h7];omega
def Dd(s:aG)(k:Nat):Bool:=(s.domains[k]?).any (·.ret)
def kindOf(s:aG)(k:Nat):Int:=((s.aJ[k]?).map (·.kind)).getD 0
def pJ(s:aG)(k:Nat):Prop:=kindOf s k=112∨kindOf s k=103
instance(s:aG)(k:Nat):Decidable (pJ s k):=inferInstanceAs (Decidable (_∨_))
def xS(s:aG)(p k:Int)(id:Nat):Prop:=(k=107∧Dd s id=false)∨(p=20∧¬pJ s id)
instance(s:aG)(p k:Int)(id:Nat):Decidable (xS s p k id):=inferInstanceAs (Decidable (_∨_))
def uQ(s:aG)(p:Int)(f:lC)(id v:Int):Int×Int×Int:=
 if(qJ s p:Int)≤id then(-4,0,0) else if f.m=0 then(0,0,0) else if f.m≤v then(-2,0,0) else if xS s p (f.act v) id.toNat then(-2,0,0) else(0,f.act v,id)
def cP(s:aG)(l:List Int):Int×Int×Int:=
 match l with
 | []=>(-10,0,0)
 | w::r=>
  if sY w≠0∨Bp w≠0 then(-10,0,0)
  else if(pN (dX w) (eD w)).isSome=false then(-1,0,0)
  else if(r.length:Int)≠(dZ (dX w) (eD w)).n then(-10,0,0)
  else if(dZ (dX w) (eD w)).n=0 then(0,0,0)
  else uQ s (dX w) (dZ (dX w) (eD w)) (r.getD 0 0) (r.getD ((dZ (dX w) (eD w)).n.toNat - 1) 0)
def aCw(a:Int×Int×Int):Value:=.tuple #[.int .i32 a.1,.agg #[.int .u8 a.2.1,iv a.2.2]]
def mJ(l:List Int):Prop:=∀x∈l,0≤x∧x < 4294967296
theorem aM.u32{w:World}{A:Option Addr}{n:Nat}{l:List Int}(h:aM (all w) 1 A n (eJ l))(a:0 < n):∃b off,A=some ⟨b,off,none⟩∧∀(i:Nat) (x:Int),l[i]? =some x→gG w b (off+i) (.int .u32 x):=by
 obtain⟨b,off,f,c,e⟩:=h.2 a;refine⟨b,off,f,fun i x d=>⟨c,e i _ ?_⟩⟩;simp only[eJ,List.getElem?_map,d,Option.map_some]
section
variable{P:Program}{N:lC}
theorem aRP{nn:Nat}{fn:Func}{c:Ending→World→Prop}{t u n b:Nat}{s:TypeId}{vs:List Value}{f:Value}(p:fn.results=#[.tmp u,.cell t s])(hs:Bh P s n=true)(k:vs.length=n)(m:e.get t=some (pt b))(i:aV w0 R H b 0 vs)(o:e.get u=some f)(h:∀w,St w0 R H w→c (.returned (.tuple #[f,.agg vs.toArray])) w):XK ⟨nn,[]⟩ w0 (bodyPost P fn c .ret) e R H:=fun a w d st=>by
 have j:=Pp (P:=P) hs k (i w st)
 refine bodyPost_ret (v:=.tuple #[f,.agg vs.toArray]) ?_ d.defers (h w st)
 have r:=d.get t _ m
 have l:=d.get u _ o
 simp only[Instr.loadAt,Instr.sureAddr,Sem.run_bind,Sem.run_pure,Result.andThen_ok] at j;simp only[results,p];simp[r,l,asAddr,j]
end
theorem aMc(s:aG)(A1 A2 A3 A4:Option Addr)(n1 k1 n2 k2 n3 k3 n4 k4:Nat)(p:Int){w0:World}(w:World)(hS:iJ w0 s A1 n1 A2 n2 A3 n3 A4 n4):Cz 212 #[.agg #[.slice A1 n1 k1,.slice A2 n2 k2,.slice A3 n3 k3,.slice A4 n4 k4],iv p] w (Rt (iv (qJ s p)) w):=by
 obtain⟨d,c,a,b⟩:=And.intro hS.rY (And.intro hS.rX (And.intro hS.uI hS.tH));subst d c a b;exact aMb s A1 A2 A3 A4 k1 k2 k3 k4 p w
theorem pG{nn:Nat}{w:World}{e:Env}{R:List Piece}{H:List HP}{fn:Func}{t u n b:Nat}{s:TypeId}{vs:List Value}{v c:Value}(f:v=.tuple #[c,.agg vs.toArray])(k:fn.results=#[.tmp u,.cell t s]:=by rfl)(hs:Bh Tryz.prog s n=true:=by kernel_rfl)(h:e.get t=some (pt b):=by rfl)(a:aV w R H b 0 vs:=by first | exact aV.whole 0 rfl | exact aV.whole 1 rfl | exact aV.whole 2 rfl | exact aV.whole 3 rfl)(d:vs.length=n:=by rfl)(j:e.get u=some c:=by rfl)(i:all w∈R:=by simp):XK ⟨nn,[]⟩ w (bodyPost Tryz.prog fn (Rt v w) .ret) e R H:=
 aRP k hs d h a j fun l st=>⟨by rw[f],st.below i⟩
theorem aLc(s:aG)(A1 A2 A3 A4:Option Addr)(n1 k1 n2 k2 n3 k3 n4 k4:Nat)(A:Option Addr)(n c:Nat)(l:List Int)(w:World)(hS:iJ w s A1 n1 A2 n2 A3 n3 A4 n4)(hl:aM (all w) 1 A n (eJ l))(hn:n=l.length)(hn2:n≤1000000)(hu:mJ l):
  Cz 173 #[.agg #[.slice A1 n1 k1,.slice A2 n2 k2,.slice A3 n3 k3,.slice A4 n4 k4],.slice A n c] w (Rt (aCw (cP s l)) w):=by
 refine aT func173 ntmps173 ?_;refine aE ?_;refine bY fun g1=>?_;refine aE ?_;refine cQ fun Y=>?_;refine aE ?_;refine aK rfl (fun h=>?_) (fun h=>?_)
 ·obtain rfl:l=[]:=List.eq_nil_of_length_eq_zero aA;refine aE ?_
  (refine pG ?_;rfl)
 obtain⟨b,off,rfl,hcell⟩:=hl.u32 aA
 obtain⟨e,r,rfl⟩:∃x r,l=x::r:=by
  cases l with
  | nil=>exact absurd (by simpa using hn) (show ¬n=0 by omega)
  | cons x r=>exact⟨x,r,rfl⟩
 have hw1:=hcell 0 e rfl
 have hlen:n=r.length+1:=by simpa using hn
 refine aE ?_;refine aZ (v:=.tuple #[.agg #[iv (eD e),iv (Bp e),iv (dX e),iv (Xa e)],iv (sY e)]) (fun y st=>(aD9 e y).mono fun x w3 hx=>aCK hx (by rw[aDA];rfl)) ?_;refine aE ?_;refine cQ fun g3=>?_;refine aE ?_;refine cN (t:=26) rfl (fun D=>?_) (fun D=>?_)
 ·refine aE ?_
  (refine pG ?_;rw[cP,if_pos (.inl D)];rfl)
 refine aE ?_;refine aK rfl (fun N=>?_) (fun h5=>?_)
 ·refine aE ?_
  (refine pG ?_;rw[cP,if_pos (.inr N)];rfl)
 have N:¬(sY e≠0∨Bp e≠0):=fun hh=>hh.elim D h5
 refine pF ?_;refine eR ?_;refine El (α:=Nat) (fun C=>[(9,.bool (pN (dX e) (eD e)).isSome),(8,pt C),(7,iv (sY e)),(6,pt g3),(5,pt Y),(2,pt g1),(1,.slice (some ⟨b,off,none⟩) n c)]) (fun C=>[HP.aI C 320 [iv (dZ (dX e) (eD e)).n,iv (dZ (dX e) (eD e)).m,.int .u8 (dZ (dX e) (eD e)).a,.int .u8 (dZ (dX e) (eD e)).b,.int .u8 (dZ (dX e) (eD e)).c],HP.aI g3 67 [iv (eD e),iv (Bp e),iv (dX e),iv (Xa e)],HP.aI Y 150 [.int .u8 0,iv 0],HP.aI g1 30 [.slice A1 n1 k1,.slice A2 n2 k2,.slice A3 n3 k3,.slice A4 n4 k4]]) (fun _=>True) ?_ fun C _=>?_
 ·skip
  refine rK 12 aF aF ?_;refine gO 1 rfl rfl rfl (Bw (off:=2) aF rfl) ?_;refine gO 2 rfl rfl rfl (Gj rfl) ?_;refine gO 3 rfl rfl rfl (Bw (off:=0) aF rfl) ?_;refine gO 4 rfl rfl rfl (Gj rfl) ?_;refine gO 5 rfl rfl rfl (lI (zs:=[iv 0,iv 0]) (L:=[(0,1),(1,1)]) (iH aF) aF rfl (by simp[fL,gR,Value.cells];rfl)) ?_;refine Gv 0 10 rfl rfl aF ?_ ?_
  ·refine fK aCT (fun y _=>aFK y) ?_;rintro _ _ q1 ⟨gm,sub,rfl,p,rfl⟩ _;simp only[List.cons_append,List.nil_append];refine iG ?_;refine iC ?_;refine lB (fun _ h=>h.bG.tail) ?_;refine Gv 6 10 rfl rfl aF ?_ ?_
   ·refine Zw (v:=.agg #[iv (dZ (dX e) (eD e)).n,iv (dZ (dX e) (eD e)).m,.int .u8 (dZ (dX e) (eD e)).a,.int .u8 (dZ (dX e) (eD e)).b,.int .u8 (dZ (dX e) (eD e)).c]) (et:=320) (l:=sub.reverse.map xZ) Tryz.underlying322 Vs (z:=rA 0 0 0 0 0) aF rfl (k:=(dX e,eD e)) rfl (fun y st=>st.uH (i:=0) rfl) (Ma p _ _).1 (Ma p _ _).2 aC ?_;refine iG ?_;refine iC ?_;refine lB (fun _ h=>h.bG.tail) ?_;refine fR 7 rfl rfl rfl aC (mG rfl) aF (fun _ _ _ h=>h) (fun _ h=>h.bG.tail) ?_;refine fR 8 rfl rfl rfl aC (zV rfl rfl) aF (fun _ _ _ h=>h) (fun _ h=>h.bG.tail) ?_;refine fR 9 rfl rfl rfl aC (zV rfl rfl) aF (fun _ _ _ h=>h) (fun _ h=>h.bG.tail) ?_;refine cX 10 ?_;refine cQ fun C=>?_;refine iG ?_;refine iC ?_;refine lB (fun _ h=>h.bG.tail.tail) ?_;refine cX 11 ?_;refine sU rfl rfl ?_;simp only[gD,Value.cells,List.set,List.take,List.drop,List.nil_append,List.append_nil,List.length_cons,List.length_nil,List.cons_append,Nat.reduceAdd];refine iG ?_;refine iC ?_;refine lB (fun _ h=>h.bG.tail.tail) ?_;refine cX 12 ?_;refine jZ rfl aC ?_;refine fB ?_;refine lA ?_;refine eR ?_;exact dO C
   ·refine cQ fun C=>?_;refine iG ?_;refine iC ?_;refine lB (fun _ h=>h.bG.tail.tail) ?_;refine cX 6 ?_;refine Zw (v:=.agg #[iv (dZ (dX e) (eD e)).n,iv (dZ (dX e) (eD e)).m,.int .u8 (dZ (dX e) (eD e)).a,.int .u8 (dZ (dX e) (eD e)).b,.int .u8 (dZ (dX e) (eD e)).c]) (et:=320) (l:=sub.reverse.map xZ) Tryz.underlying322 Vs (z:=rA 0 0 0 0 0) aF rfl (k:=(dX e,eD e)) rfl (fun y st=>st.uH (i:=1) rfl) (Ma p _ _).1 (Ma p _ _).2 aC ?_;refine iG ?_;refine iC ?_;refine lB (fun _ h=>h.bG.tail.tail) ?_;refine fR 7 rfl rfl rfl aC (mG rfl) aF (fun _ _ _ h=>h) (fun _ h=>h.bG.tail.tail) ?_;refine fR 8 rfl rfl rfl aC (zV rfl rfl) aF (fun _ _ _ h=>h) (fun _ h=>h.bG.tail.tail) ?_;refine fR 9 rfl rfl rfl aC (zV rfl rfl) aF (fun _ _ _ h=>h) (fun _ h=>h.bG.tail.tail) ?_;refine cX 11 ?_;refine sU rfl rfl ?_;simp only[gD,Value.cells,List.set,List.take,List.drop,List.nil_append,List.append_nil,List.length_cons,List.length_nil,List.cons_append,Nat.reduceAdd];refine iG ?_;refine iC ?_;refine lB (fun _ h=>h.bG.tail.tail) ?_;refine cX 12 ?_;refine jZ rfl aC ?_;refine fB ?_;refine lA ?_;refine eR ?_;exact dO C
  ·refine cQ fun C=>?_;refine iG ?_;refine iC ?_;refine lB (fun _ h=>h.tail) ?_;refine cX 0 ?_;refine fK aCT (fun y _=>aFK y) ?_;rintro _ _ q1 ⟨gm,sub,rfl,p,rfl⟩ _;simp only[List.cons_append,List.nil_append];refine iG ?_;refine iC ?_;refine lB (fun _ h=>h.bG.tail.tail) ?_;refine cX 6 ?_;refine Zw (v:=.agg #[iv (dZ (dX e) (eD e)).n,iv (dZ (dX e) (eD e)).m,.int .u8 (dZ (dX e) (eD e)).a,.int .u8 (dZ (dX e) (eD e)).b,.int .u8 (dZ (dX e) (eD e)).c]) (et:=320) (l:=sub.reverse.map xZ) Tryz.underlying322 Vs (z:=rA 0 0 0 0 0) aF rfl (k:=(dX e,eD e)) rfl (fun y st=>st.uH (i:=0) rfl) (Ma p _ _).1 (Ma p _ _).2 aC ?_;refine iG ?_;refine iC ?_;refine lB (fun _ h=>h.bG.tail.tail) ?_;refine fR 7 rfl rfl rfl aC (mG rfl) aF (fun _ _ _ h=>h) (fun _ h=>h.bG.tail.tail) ?_;refine fR 8 rfl rfl rfl aC (zV rfl rfl) aF (fun _ _ _ h=>h) (fun _ h=>h.bG.tail.tail) ?_;refine fR 9 rfl rfl rfl aC (zV rfl rfl) aF (fun _ _ _ h=>h) (fun _ h=>h.bG.tail.tail) ?_;refine cX 11 ?_;refine sU rfl rfl ?_;simp only[gD,Value.cells,List.set,List.take,List.drop,List.nil_append,List.append_nil,List.length_cons,List.length_nil,List.cons_append,Nat.reduceAdd];refine iG ?_;refine iC ?_;refine lB (fun _ h=>h.bG.tail.tail) ?_;refine cX 12 ?_;refine jZ rfl aC ?_;refine fB ?_;refine lA ?_;refine eR ?_;exact dO C
 obtain⟨hF1,hF2,hF3,hF4,hF5⟩:=aFG (dX e) (eD e);refine aE ?_;cases h7:(pN (dX e) (eD e)).isSome
 ·refine aE ?_
  (refine pG ?_;rw[cP,if_neg N,if_pos h7];rfl)
 have H:¬(pN (dX e) (eD e)).isSome=false:=by rw[h7];simp
 refine aE ?_;refine aK rfl (fun h9=>?_) (fun h9=>?_)
 ·refine aE ?_
  (refine pG ?_;rw[cP,if_neg N,if_neg H,if_pos aA];rfl)
 have R:¬(r.length:Int)≠(dZ (dX e) (eD e)).n:=by omega
 refine aE ?_;refine aK rfl (fun J=>?_) (fun J=>?_)
 ·refine aE ?_
  (refine pG ?_;rw[cP,if_neg N,if_neg H,if_neg R,if_pos J];rfl)
 obtain⟨id,G⟩:∃x,r[0]? =some x:=⟨r[0]' aA,List.getElem?_eq_getElem _⟩
 obtain⟨v,X⟩:∃x,r[(dZ (dX e) (eD e)).n.toNat - 1]? =some x:=⟨r[(dZ (dX e) (eD e)).n.toNat - 1]' aA,List.getElem?_eq_getElem _⟩
 have V:r.getD 0 0=id:=by rw[List.getD_eq_getElem?_getD,G];rfl
 have hv':r.getD ((dZ (dX e) (eD e)).n.toNat - 1) 0=v:=by rw[List.getD_eq_getElem?_getD,X];rfl
 have aSZ:=hu id (List.mem_cons_of_mem _ (List.mem_of_getElem? G))
 have hbv:=hu v (List.mem_cons_of_mem _ (List.mem_of_getElem? X))
 have aSY:=hcell 1 id (by simpa using G)
 have hcv:=hcell (dZ (dX e) (eD e)).n.toNat v (by
  obtain⟨t,ht⟩:∃t,(dZ (dX e) (eD e)).n.toNat=t+1:=⟨(dZ (dX e) (eD e)).n.toNat - 1,aA⟩
  rw[ht] at X⊢;simpa using X)
 have f:cP s (e::r)=uQ s (dX e) (dZ (dX e) (eD e)) id v:=by rw[cP,if_neg N,if_neg H,if_neg R,if_neg J,V,hv']
 refine aE ?_;refine aZ (fun y st=>aMc s A1 A2 A3 A4 n1 k1 n2 k2 n3 k3 n4 k4 (dX e) y hS) ?_;refine aE ?_;refine aK rfl (fun o=>?_) (fun o=>?_)
 ·refine aE ?_
  (refine pG ?_;rw[f,uQ,if_pos o];rfl)
 refine aE ?_;refine aK rfl (fun u=>?_) (fun u=>?_)
 ·refine aE ?_
  (refine pG ?_;rw[f,uQ,if_neg o,if_pos u];rfl)
 refine aE ?_;refine aK rfl (fun B=>?_) (fun B=>?_)
 ·refine aE ?_
  (refine pG ?_;rw[f,uQ,if_neg o,if_neg u,if_pos B];rfl)
 have U:([iv (dZ (dX e) (eD e)).n,iv (dZ (dX e) (eD e)).m,.int .u8 (dZ (dX e) (eD e)).a,.int .u8 (dZ (dX e) (eD e)).b,.int .u8 (dZ (dX e) (eD e)).c]:List Value)[2+v.toNat]? =some (.int .u8 ((dZ (dX e) (eD e)).act v)):=by
  unfold lC.act;rcases(by omega:v=0∨v=1∨v=2) with rfl | rfl | rfl<;>rfl
 have O:=hF4 v hbv.1 aA
 generalize hk:(dZ (dX e) (eD e)).act v=k at *;refine aE ?_;refine kd (bP rfl (Rd.aI 0 rfl U)) ?_;refine aE ?_;refine cQ fun g5=>?_;refine mF 0 rfl ?_;dsimp only[List.set];refine fP ?_;refine El (α:=Unit) (fun _=>[(12,pt g5),(5,pt Y)]) (fun _=>[HP.aI g5 150 [.int .u8 k,iv id],HP.aI Y 150 [.int .u8 0,iv 0]]) (fun _=>¬xS s (dX e) k id.toNat) ?_ fun _ hq'=>?_
 ·refine aE ?_;refine cN (t:=91) rfl (fun D=>?_) (fun D=>?_)
  ·have T:=O D
   obtain⟨dm,M⟩:∃d,s.domains[id.toNat]? =some d:=⟨s.domains[id.toNat]'(by rw[T] at o;simp only[qJ,if_true] at o;omega),List.getElem?_eq_getElem _⟩
   obtain⟨bD,oD,rD,rfl,_,rfl,hRD⟩:=hS.dom.row M
   have E:Dd s id.toNat=dm.ret:=by rw[Dd,M];rfl
   have hlD:=hS.rX
   have aSP:=(List.getElem?_eq_some_iff.1 M).1
   have Qv:=hRD.at_ (j:=2) rfl
   cases hr:dm.ret
   all_goals
    rw[hr] at Qv E;refine aE ?_
   ·(refine pG ?_;rw[f,uQ,if_neg o,if_neg u,if_neg B,hk,if_pos (.inl ⟨D,E⟩)];rfl)
   ·refine cN (t:=104) rfl (fun h20=>by omega) (fun h20=>?_);refine aE ?_;exact dO () (hg:=fun h=>by simp_all [xS])
  ·refine aE ?_;refine cN (t:=104) rfl (fun T=>?_) (fun T=>?_)
   ·obtain⟨Z,K⟩:∃d,s.aJ[id.toNat]? =some d:=⟨s.aJ[id.toNat]'(by rw[T] at o;simp only[qJ,if_true] at o;simp at o;omega),List.getElem?_eq_getElem _⟩
    obtain⟨bC,oC,rC,rfl,_,⟨cA,cn,aTf,rfl,_⟩,hC⟩:=hS.iA.row K
    have F:kindOf s id.toNat=Z.kind:=by rw[kindOf,K];rfl
    have hlC:=hS.rY
    have aSQ:=(List.getElem?_eq_some_iff.1 K).1
    refine aE ?_;refine aZ (fun y st=>aJ4 Z.kind _ _ _ _ _ _ _ y) ?_
    by_cases I:Z.kind=112∨Z.kind=103
    ·rw[decide_eq_true I];refine aE ?_;exact dO () (hg:=fun h=>by simp_all [xS,pJ])
    ·rw[decide_eq_false I];refine aE ?_
     (refine pG ?_;rw[f,uQ,if_neg o,if_neg u,if_neg B,hk,if_pos (.inr ⟨T,fun hc=>I (by rw[←F];exact hc)⟩)];rfl)
   ·refine aE ?_;exact dO () (hg:=fun h=>by simp_all [xS])
 refine aE ?_;refine Sx [2] ?_;refine aE ?_
 (refine pG ?_;rw[f,uQ,if_neg o,if_neg u,if_neg B,hk,if_neg hq'];rfl)
def Eu(l:List Nat)(v:Value)(w w':World):Prop:=∃A c,v=.slice A l.length c∧aM (fresh w w') 1 A l.length (aR (dR l))
theorem aMl{l:List Nat}{k i:Nat}(h:l[k]? =some i):(aR (dR l))[k]? =some (iv (i:Int)):=by simp[aR,dR,h]
theorem Xv(q : Piece)(s : aG)(A1 A2 A3 A4 : Option Addr)(n1 k1 n2 k2 n3 k3 n4 k4 : Nat)(c : Nat)(w : World)(y : rM q s A1 n1 A2 n2 A3 n3 A4 n4)(hm : s.wH)(hq : q.Le (all w))(hc : c < s.aJ.length) :
    Cz 119 #[.agg #[.slice A1 n1 k1,.slice A2 n2 k2,.slice A3 n3 k3,.slice A4 n4 k4],iv (c:Int)] w (Nz (Eu (eW s c)) w):=by
  obtain⟨rfl,rfl,rfl,rfl⟩:=y.len;refine aT func119 ntmps119 ?_;refine yJ q aD hq ?_;refine aE ?_;refine bY fun D=>?_;refine aE ?_;refine mH 3 1 ?_;refine bT [(1,iv (c:Int)),(5,sn),(2,pt D)] ?_;refine aE ?_;refine fG (fun m e R H=>∃(a:Nat) (l:List Nat) (A:Option Addr) (k:Nat),a < s.aJ.length∧l.length≤s.aJ.length∧m=s.aJ.length - l.length∧eW s c=l++kY s (s.aJ.length - l.length) a∧e=[(1,iv (a:Int)),(5,.slice A l.length k),(2,pt D)]∧R=[q,all w]∧H=[HP.own 3 1 (.slice A l.length k) l.length (aR (dR l)),HP.aI D 30 [.slice A1 s.aJ.length k1,.slice A2 s.domains.length k2,.slice A3 s.bA.length k3,.slice A4 s.aH.length k4]]) s.aJ.length ⟨c,[],none,0,hc,aD,rfl,rfl,rfl,rfl,rfl⟩ fun m e R H hI=>?_;obtain⟨a,l,A,k,B,Is,rfl,d,rfl,rfl,rfl⟩:=hI;refine eG ?_;refine aC5 22 (l.length < s.aJ.length) ?_ ?_
  · skip
    refine gN ?_;refine dW rfl aC ?_;refine aI9 rfl rfl aC ?_;refine dW rfl aC ?_;refine cN (t:=8) rfl (fun U=>?_) (fun U=>?_)
    ·
      refine jK rfl rfl ?_;refine dW rfl aC ?_;refine jK rfl rfl ?_;refine xJ (off:=0) aF rfl aC ?_;refine jK rfl rfl ?_;refine Kg rfl ?_;refine jK rfl rfl ?_;refine Hi (el:=73) aF rfl aC ?_;refine jK rfl rfl ?_;refine Tu rfl rfl aC ?_
      (first | refine sW rfl rfl aC ?_ | refine sX rfl rfl aC ?_)
      refine dW rfl aC ?_;refine cN (t:=15) rfl (fun U=>?_) (fun U=>?_)
      ·
        refine jK rfl rfl ?_;refine dW rfl aC ?_;refine jK rfl rfl ?_;refine Hi (el:=3) aF rfl aC ?_;refine jK rfl rfl ?_;refine xJ (off:=0) aF rfl aC ?_;refine jK rfl rfl ?_;refine Kg rfl ?_;refine jK rfl rfl ?_;refine Hi (el:=73) aF rfl aC ?_;refine jK rfl rfl ?_;refine Tu rfl rfl aC ?_
        (first | refine sW rfl rfl aC ?_ | refine sX rfl rfl aC ?_)
        refine fP ?_;exact Yw (by repeat (first | exact trivial | refine⟨rfl,?_⟩)) (Xb rfl aA)
      ·
        refine jY rfl rfl rfl aC ?_;refine jY rfl rfl rfl aC ?_;refine jY rfl rfl rfl aC ?_;refine jY rfl rfl rfl aC ?_;refine jY rfl rfl rfl aC ?_;refine jY rfl rfl rfl aC ?_
        (first | refine sW rfl rfl aC ?_ | refine sX rfl rfl aC ?_)
        refine fP ?_;exact Yw (by repeat (first | exact trivial | refine⟨rfl,?_⟩)) (aBE rfl aA)
    ·
      refine jY rfl rfl rfl aC ?_;refine jY rfl rfl rfl aC ?_;refine jY rfl rfl rfl aC ?_;refine jY rfl rfl rfl aC ?_;refine jY rfl rfl rfl aC ?_
      (first | refine sW rfl rfl aC ?_ | refine sX rfl rfl aC ?_)
      refine dW rfl aC ?_;refine jY rfl rfl rfl aC ?_;refine jY rfl rfl rfl aC ?_;refine jY rfl rfl rfl aC ?_;refine jY rfl rfl rfl aC ?_;refine jY rfl rfl rfl aC ?_;refine jY rfl rfl rfl aC ?_
      (first | refine sW rfl rfl aC ?_ | refine sX rfl rfl aC ?_)
      refine fP ?_;exact Yw (by repeat (first | exact trivial | refine⟨rfl,?_⟩)) (aBE rfl aA)
  refine aK rfl (fun h=>?_) (fun h=>?_)
  ·
    refine aE ?_
    have hlt:l.length < s.aJ.length:=h
    obtain⟨x,M⟩:∃x,s.aJ[a]? =some x:=⟨_,List.getElem?_eq_getElem B⟩
    obtain⟨k0,V⟩:∃k0,s.aJ.length - l.length=k0+1:=⟨s.aJ.length - l.length - 1,aA⟩
    rw[V,aQD M] at d
    have hn9:=hm.nc
    have z:=(hm.aJ a x M).1
    refine aE ?_;refine eT fun g2=>?_;refine iL 1 1 8 1 (n':=l.length+1) (el:=3) aF aF aC rfl rfl rfl (nH 0 rfl rfl) (by simp[Value.oneCell']) rfl aA aA aC fun A' k'=>?_;dsimp only[List.set];rw[show aR (dR l)++[Value.int .i64 (a:Int)]=aR (dR (l++[a])) by simp[aR,dR]];refine aY [1,2] rfl aC (R':=[q,all w]) aD ?_;refine jZ rfl aC ?_;refine fP ?_;refine eG ?_;refine eG ?_;obtain⟨bC,oC,rC,rfl,u,_,hR,r⟩:=y.iA.vC M;obtain⟨As,ns,ks,rfl,rfl,J⟩:=hR;refine gN ?_;refine xJ (off:=0) aF rfl aC ?_;refine Kg rfl ?_;refine dW rfl aC ?_;refine kd (dat (a) (oC+a*6)) ?_;refine xJ (off:=1) aF rfl aC ?_;refine lN aF rfl (Rd.ro (p:=q) aD u (r 1 _ rfl)) aC ?_;refine Hi (el:=3) aF rfl aC ?_;refine aDn rfl rfl aC ?_;refine fP ?_;refine aK rfl (fun O=>?_) (fun O=>?_)
    ·
      refine aE ?_
      have b:x.src=[]:=List.eq_nil_of_length_eq_zero (by have:((x.src.length:Nat):Int)=0:=O;omega)
      rw[b] at d
      have i:(l++[a])=eW s c:=d.symm
      refine dK [] [0] [] aD rfl aC aC fun L j _ o=>?_;obtain⟨Ff,G,K⟩:=j 0 _ aD rfl;obtain⟨N,X,I,n⟩:=yQ (Y:=L.Z) G K
      exact nB rfl rfl fun w1 st=>⟨⟨_,rfl,by
        rw[←i];unfold Eu;rw[I]
        exact⟨N,X,aD,by simpa using aM.le n (st.nL aD (o aD aD))⟩⟩,st.below aD⟩
    ·
      refine pF ?_;refine eR ?_
      obtain⟨f,C,b⟩:∃f C,x.src=f::C:=by
        cases b:x.src with
        | nil=>exact absurd (by rw[b];rfl) O
        | cons f C=>exact⟨f,C,rfl⟩
      have hf:=z f (by rw[b];simp)
      obtain⟨E,rfl⟩:∃E:Nat,f=(E:Int):=⟨f.toNat,aA⟩
      rw[b] at d;obtain⟨bS,oS,rfl,T,F⟩:=J.2 (by rw[b];simp);refine gN ?_;refine xJ (off:=0) aF rfl aC ?_;refine Kg rfl ?_;refine dW rfl aC ?_;refine kd (dat (a) (oC+a*6)) ?_;refine xJ (off:=1) aF rfl aC ?_;refine lN aF rfl (Rd.ro (p:=q) aD u (r 1 _ rfl)) aC ?_;refine aIC 0 oS (el:=3) (sz:=1) aF aF rfl rfl rfl (by rw[b];simp) aA aC ?_;refine lN aF rfl (Rd.ro (p:=q) aD T (F 0 _ (by rw[b];rfl))) aC ?_;refine aE ?_;exact bT [(1,iv (E:Int)),(5,.slice A' (l.length+1) k'),(2,pt D)] (iD (s.aJ.length - (l.length+1)) aA ⟨E,l++[a],A',k',aA,by simp;omega,aD,by rw[d];simp[show s.aJ.length - (l.length+1)=k0 by omega],aD,rfl,aD⟩)
  ·
    refine aE ?_
    have hge:¬l.length < s.aJ.length:=h
    rw[show s.aJ.length - l.length=0 by omega] at d
    have i:l=eW s c:=by rw[d];simp[kY]
    refine dK [] [0] [] aD rfl aC aC fun L j _ o=>?_;obtain⟨Ff,G,K⟩:=j 0 _ aD rfl;obtain⟨N,X,I,n⟩:=yQ (Y:=L.Z) G K
    exact nB rfl rfl fun w1 st=>⟨⟨_,rfl,by
      rw[←i];unfold Eu;rw[I]
      exact⟨N,X,rfl,aM.le n (st.nL aD (o aD aD))⟩⟩,st.below aD⟩
 in
def Im(l:List Int)(x:Int):Int:=if x∈l then(l.idxOf x:Int) else -1
theorem aNk{l:List Int}{x:Int}{i:Nat}(b:∀j y,j < i→l[j]? =some y→y≠x)(h:l[i]? =some x):Im l x=i:=by
 have e:x∈l:=List.mem_of_getElem? h
 rw[Im,if_pos e]
 have f:l.idxOf x=i:=by
  induction l generalizing i with
  | nil=>simp at h
  | cons a r ih =>
   cases i with
   | zero=>simp at h;subst h;simp
   | succ i=>
    have n:a≠x:=b 0 a aA rfl
    simp at h
    have c:x∈r:=List.mem_of_getElem? h
    have k:=ih (fun j y o m=>b (j+1) y aA (by simpa using m)) h c
    have d:(a==x)=false:=by simpa using n
    rw[List.idxOf_cons,d];simp[k]
 rw[f]
theorem aNi{l:List Int}{x:Int}(a:∀(j:Nat) (y:Int),l[j]? =some y→y≠x):Im l x= -1:=by
 rw[Im,if_neg];intro b;obtain⟨j,c⟩:=List.getElem?_of_mem b;exact a j x c rfl
theorem aNj(l:List Int)(x:Int):decide (0≤Im l x)=decide (x∈l):=by
 unfold Im
 by_cases h:x∈l<;>simp[h]
def vQ(s:aG)(c id:Int):Bool:=decide (id∈dR (eW s c.toNat))
def zM(s:aG)(k id:Int)(d:cH):Bool:=
 if k=100∨k=107 then decide (d.domain=id) else if k=111 then vQ s d.clock id else if k=97 then decide (d.reset=id) else false
def zX(s:aG)(wt:List Int)(k id:Int)(i:Nat):Bool:=decide (0 < (wt[i]?).getD 0)&&((s.aH[i]?).any fun d=>zM s k id d)
def Cb(s:aG)(wt:List Int)(k id:Int):Bool:=(List.range s.aH.length).any (zX s wt k id)
theorem Ya{s:aG}{wt:List Int}{k id:Int}{i:Nat}(hi:i < s.aH.length)(h:zX s wt k id i=true):Cb s wt k id=true:=by
 rw[Cb,List.any_eq_true];exact⟨i,List.mem_range.2 hi,h⟩
theorem aCm{s:aG}{wt:List Int}{k id:Int}(h:∀i,i < s.aH.length→zX s wt k id i=false):Cb s wt k id=false:=by
 rw[Cb,List.any_eq_false];intro i a;simp[h i (List.mem_range.1 a)]
def uM(s:aG)(x y:bL)(k id:Int)(i:Nat):Bool:=
 if k=100∨k=107 then((s.domains[i]?).any fun d=>decide (d.above=id))&&nQ x y k i
 else decide ((i:Int)≠id)&&(nQ x y k i&&vQ s i id)
def Bn(s:aG)(k:Int):Nat:=if k=100∨k=107 then s.domains.length else if k=111 then s.aJ.length else 0
def Bo(s:aG)(x y:bL)(k id:Int):Bool:=(List.range (Bn s k)).any (uM s x y k id)
theorem aFB{s:aG}{x y:bL}{k id:Int}{i:Nat}(hi:i < Bn s k)(h:uM s x y k id i=true):Bo s x y k id=true:=by
 rw[Bo,List.any_eq_true];exact⟨i,List.mem_range.2 hi,h⟩
theorem Qx{s:aG}{x y:bL}{k id:Int}(h:∀i,i < Bn s k→uM s x y k id i=false):Bo s x y k id=false:=by
 rw[Bo,List.any_eq_false];intro i a;simp[h i (List.mem_range.1 a)]
def wO(s:aG)(x y:bL)(ag:Nat)(k id:Int):Bool:=iZ (if ag=0 then y else x) k id||Bo s x y k id
def fM(s:aG)(x y:bL)(wt:List Int)(ag:Nat)(l:List Int):Int×Int×Int:=
 if(cP s l).1≠0∨(cP s l).2.1=0∨iZ (if ag=0 then x else y) (cP s l).2.1 (cP s l).2.2=decide (gE (cP s l).2.1) then((cP s l).1,0,0)
 else if gE (cP s l).2.1 then
  (if(cP s l).2.1=117∧(s.domains[(cP s l).2.2.toNat]?).any (fun d=>decide (d.above≠ -1)&& !nQ x y 117 d.above)=true then(-3,0,0) else(0,(cP s l).2))
 else if wO s x y ag (cP s l).2.1 (cP s l).2.2 then(-3,0,0)
 else if Cb s wt (cP s l).2.1 (cP s l).2.2 then(-6,0,0)
 else(0,(cP s l).2)
def uK(k:Int):Int:=if k=117∨k=100∨k=107 then 17 else if k=99∨k=111 then 20 else 22
def xY(k:Int):Prop:=k=117∨k=100∨k=107∨k=99∨k=111∨k=114∨k=97
theorem aOn(p m:Int)(v:Int)(e:0≤v)(a:v < (dZ p m).m):uK ((dZ p m).act v)=p∧xY ((dZ p m).act v):=by
 have d:∀f:lC,pN p m=some f→v < f.m→uK (f.act v)=p∧xY (f.act v):=by
  intro f b a;unfold pN at b
  have c:f.m≤3:=by
   have:=(aFG p m).2.2.1
   unfold dZ pN at this;rw[b] at this;exact this
  rcases(by omega:v=0∨v=1∨v=2) with rfl | rfl | rfl<;>
  ·repeat' split at b
   all_goals first
    | (cases b;done)
    | (cases b;simp at a;done)
    | (cases b;simp_all [uK,xY,lC.act])
 unfold dZ at a⊢;cases h:pN p m with
 | none=>rw[h] at a;simp at a;omega
 | some f=>rw[h] at a;exact d f h a
theorem Vd{s : aG}{l : List Int}(h : mJ l) : ((cP s l).2.1 = 0 ∧ (cP s l).2.2 = 0) ∨ ((cP s l).1 = 0 ∧ xY (cP s l).2.1 ∧ 0 ≤ (cP s l).2.2 ∧ (cP s l).2.2 < (qJ s (uK (cP s l).2.1) : Int) ∧
  ((cP s l).2.1=107→Dd s (cP s l).2.2.toNat=true)∧(uK (cP s l).2.1=20→pJ s (cP s l).2.2.toNat)):=by
 unfold cP;split
 ·exact .inl ⟨rfl,rfl⟩
 ·rename_i w r
  split
  ·exact .inl ⟨rfl,rfl⟩
  ·split
   ·exact .inl ⟨rfl,rfl⟩
   ·split
    ·exact .inl ⟨rfl,rfl⟩
    ·split
     ·exact .inl ⟨rfl,rfl⟩
     ·have hd : ∀ i, 0 ≤ r.getD i 0 := fun i => by
       rw[List.getD_eq_getElem?_getD];cases e:r[i]? with
       | none=>exact Int.le_refl _
       | some x=>exact(h x (List.mem_cons_of_mem _ (List.mem_of_getElem? e))).1
      have b:=hd 0
      have m:=hd ((dZ (dX w) (eD w)).n.toNat - 1)
      generalize r.getD 0 0=id at *;generalize r.getD ((dZ (dX w) (eD w)).n.toNat - 1) 0=v at *;unfold uQ;split
      ·exact .inl ⟨rfl,rfl⟩
      ·split
       ·exact .inl ⟨rfl,rfl⟩
       ·split
        ·exact .inl ⟨rfl,rfl⟩
        ·split
         ·exact .inl ⟨rfl,rfl⟩
         ·rename_i p t o d
          obtain⟨c,f⟩:=aOn (dX w) (eD w) v m aA;refine .inr ⟨rfl,f,b,by dsimp only;rw[c];omega,fun a=>?_,fun a=>?_⟩
          ·dsimp only at a⊢;cases j:Dd s id.toNat with
           | true=>rfl
           | false=>exact absurd (.inl ⟨a,j⟩) d
          ·dsimp only at a⊢;rw[c] at a;exact Decidable.byContradiction fun k=>d (.inr ⟨a,k⟩)
theorem aM.int{w:World}{A:Option Addr}{n:Nat}{l:List Int}(h:aM (all w) 1 A n (aR l))(a:0 < n):∃b off,A=some ⟨b,off,none⟩∧∀(i:Nat) (x:Int),l[i]? =some x→gG w b (off+i) (iv x):=by
 obtain⟨b,off,f,c,e⟩:=h.2 a;refine⟨b,off,f,fun i x d=>⟨c,e i _ ?_⟩⟩;simp only[aR,List.getElem?_map,d,Option.map_some]
section
variable{e':Env}{R':List Piece}
def Tq(ops:Array Oper):List Nat:=(List.range ops.size).filter fun i=>match ops[i]? with
 | some o=>Ve o.op||(o.guard.isSome&&aDP o.op)
 | none=>false
theorem aH1{id:Nat}{l:List Oper}(k:XB Tryz.prog N w0 l.toArray Q R H (Tq l.toArray) fuel listed e' R' H')(hk:XB Tryz.prog N w0 l.toArray Q R H (Tq l.toArray) fuel listed e' R' H'→XL 0 N w0 l.toArray Q R H (Tq l.toArray) l.length (Array.replicate l.length false) e R H:=by
  intro h
  repeat (first | refine Sq ?_ | refine So ?_ | refine Sm ?_ | refine Sn ?_ | refine Yn ?_ | refine Sk ?_ | refine Sr ?_)
  exact h)(hm:Tryz.prog.follows .mixedOrders=true:=by kernel_rfl)(hs:Region.noSelect l.toArray=true:=by kernel_rfl):XK N w0 ((Code.region id l.toArray true).wp Tryz.prog Q) e R H:=jG (Tq l.toArray) (hk k) hm hs
theorem aCC{ops:Array Oper}{Z:List Nat}{p:Prop}[Decidable p](t:Nat)(c:e.get t=some (.bool (decide p)))(f:p→XB Tryz.prog N w0 ops Q R0 H0 Z fuel listed ((t,.bool true)::e) R H)(h:¬p→XB Tryz.prog N w0 ops Q R0 H0 Z fuel listed ((t,.bool false)::e) R H):XB Tryz.prog N w0 ops Q R0 H0 Z fuel listed e R H:=by
 intro up a w d st
 by_cases b:p
 ·rw[decide_eq_true b] at c;exact f b up a w (d.as c) st
 ·rw[decide_eq_false b] at c;exact h b up a w (d.as c) st
theorem Ep{ops:Array Oper}{Z:List Nat}{d j t:Nat}{op:Op}{ty:TypeId}{pos:String}{aL:Array Edge}{want b:Bool}(i:Nat)(k:XB Tryz.prog N w0 ops Q R0 H0 Z fuel (listed.setIfInBounds i true) ((d,undef)::e) R H)(l:Region.ready .any ops listed=[i]:=by decide+kernel)(hi:ops[i]? =some ⟨some d,op,ty,pos,aL,some (j,want)⟩:=by rfl)(hj:(ops[j]?).bind (·.dst)=some t:=by rfl)(f:e.get t=some (.bool b):=by rfl)(c:b= !want:=by rfl)(hd:d < N.n:=by decide)(hS:∀w,St w0 R H w→St w0 R0 H0 w:=by exact fun _ h=>h):XB Tryz.prog N w0 ops Q R0 H0 Z (fuel+1) listed e R H:=
 aQ i (jY hj f c hd (bH k hS)) l hi
end
theorem aNh(A:Option Addr)(n c:Nat)(l:List Int)(x:Int)(w:World)(hs:aM (all w) 1 A n (aR l))(G:n=l.length)(D:n≤1000000):
  Cz 231 #[.slice A n c,iv x] w (Rt (iv (Im l x)) w):=by
 refine aT func231 ntmps231 ?_;refine aE ?_;refine bT [(8,iv 0),(7,iv n),(1,iv x),(0,.slice A n c)] ?_;refine aE ?_;refine fG (fun m e R H=>∃(i:Nat),i≤n∧m=n - i∧(∀(j:Nat) (y:Int),j < i→l[j]? =some y→y≠x)∧e=[(8,iv i),(7,iv n),(1,iv x),(0,.slice A n c)]∧R=[all w]∧H=[]) n ⟨0,aA,rfl,(fun j y r=>absurd r (Nat.not_lt_zero j)),rfl,rfl,rfl⟩ fun m e R H z=>?_;obtain⟨i,I,rfl,a,rfl,rfl,rfl⟩:=z;refine aE ?_;refine aK rfl (fun h=>?_) (fun h=>?_)
 ·
  refine aE ?_
  have u:i < n:=by have C:(i:Int) < (n:Int):=h;omega
  obtain⟨y,f⟩:∃y,l[i]? =some y:=⟨l[i]' aA,List.getElem?_eq_getElem _⟩
  obtain⟨b,off,rfl,F⟩:=hs.int aA
  have E:=F i y f
  refine aE ?_;refine aK rfl (fun o=>?_) (fun o=>?_)
  ·
   refine aE ?_;exact aW (h:=fun _ _=>by rw[aNk (i:=i) a (o▸f)])
  ·
   refine aE ?_
   exact fA (n - (i+1)) ⟨i+1,aA,rfl,(fun j B r d=>by
    rcases Nat.lt_or_ge j i with t | t
    ·exact a j B t d
    ·have k:j=i:=aA
     subst k;rw[f] at d;cases d
     exact fun h=>o h.symm),rfl,rfl,rfl⟩
 ·
  refine aE ?_
  have p:i=n:=by have C:¬(i:Int) < (n:Int):=h;omega
  subst p;exact aW (h:=fun _ _=>by rw[aNi (fun j y f=>a j y (by have:=(List.getElem?_eq_some_iff.1 f).1;omega) f)])
theorem aG3(A:Option Addr)(n c:Nat)(l:List Int)(x:Int)(w:World)(hs:aM (all w) 1 A n (aR l))(d:n=l.length)(a:n≤1000000):
  Cz 214 #[.slice A n c,iv x] w (Rt (.bool (decide (x∈l))) w):=by
 refine aT func214 ntmps214 ?_;refine aE ?_;refine dJ (fun b st=>aNh A n c l x b (hs.le (st.le aD)) d a) ?_;refine aE ?_;exact aW (h:=fun _ _=>by rw[←aNj])
theorem aQN(q:Piece)(s:aG)(A1 A2 A3 A4:Option Addr)(n1 k1 n2 k2 n3 k3 n4 k4:Nat)(A:Option Addr)(u H:Nat)(wt:List Int)(k id:Int)(w:World)(m:rM q s A1 n1 A2 n2 A3 n3 A4 n4)(hm:s.wH)(F:q.Le (all w))(hw:aM (all w) 1 A u (aR wt))(T:u=wt.length):
  Cz 178 #[.agg #[.slice A1 n1 k1,.slice A2 n2 k2,.slice A3 n3 k3,.slice A4 n4 k4],.slice A u H,.agg #[.int .u8 k,iv id]] w (Rt (.bool (Cb s wt k id)) w):=by
 obtain⟨rfl,rfl,rfl,rfl⟩:=m.len;refine aT func178 ntmps178 ?_;refine yJ q aD F ?_;refine aE ?_;refine bY fun J=>?_;refine aE ?_;refine bY fun I=>?_;refine aE ?_;refine sH (α:=Unit) (fun _=>[]) (fun _=>[]) (fun _=>∀j,j < s.aH.length→zX s wt k id j=false) ?_ fun _ e=>?_
 ·refine rI (α:=Unit) (fun i _=>[(12,iv i),(11,iv s.aH.length),(10,.slice A4 s.aH.length k4),(5,pt I),(3,pt J),(1,.slice A u H)]) (fun _ _=>[HP.aI I 150 [.int .u8 k,iv id],HP.aI J 30 [.slice A1 s.aJ.length k1,.slice A2 s.domains.length k2,.slice A3 s.bA.length k3,.slice A4 s.aH.length k4]]) (fun i _=>∀j,j < i→zX s wt k id j=false) s.aH.length () (fun j p=>absurd p (Nat.not_lt_zero j)) fun i _ hi e=>?_
  have b:zX s wt k id i=false→∀j,j < i+1→zX s wt k id j=false:=fun h j p=>by
   rcases(by omega:j < i∨j=i) with p | rfl
   ·exact e j p
   ·exact h
  have hnc:=hm.nc
  have Z:=hm.nd
  have R:=hm.nv
  refine aE ?_;refine aK rfl (fun h=>?_) (fun h=>?_)
  ·have c:i < s.aH.length:=aA
   obtain⟨d,hd⟩:=get_some c;obtain⟨N,hx2,hx3,K,M,hx6,_⟩:=hm.aH i d hd;obtain⟨bV,oV,rV,rfl,D,_,O,r⟩:=m.dev.vC hd;obtain⟨Ar,nr,kr,An,nn,kn,rfl,_⟩:=O;obtain⟨o,B⟩:∃o:Nat,d.clock=(o:Int):=⟨d.clock.toNat,aA⟩
   rw[B] at r
   have hk:=eA.le D r F
   have a:zX s wt k id i=(decide (0 < (wt[i]?).getD 0)&&zM s k id d):=by rw[zX,hd];rfl
   refine aE ?_;refine cQ fun g3=>?_;refine aE ?_;refine cN (t:=21) rfl (fun h2=>?_) (fun h2=>?_)
   ·refine aE ?_;exact lM () (hg:=b (by rw[a,List.getElem?_eq_none aA];rfl))
   obtain⟨y,G⟩:=get_some (l:=wt) (i:=i) aA;obtain⟨bW,oW,rfl,z⟩:=hw.int aA
   have hcy:=z i y G
   rw[G] at a;refine aE ?_;refine aK rfl (fun x=>?_) (fun x=>?_)
   ·refine aE ?_;exact lM () (hg:=b (by rw[a,decide_eq_false (by simpa using x)];rfl))
   rw[decide_eq_true (show 0 < (some y).getD 0 by simpa using x)] at a;refine aE ?_;refine cN (t:=30) rfl (fun hA=>?_) (fun hA=>?_)
   ·refine aE ?_;refine aK rfl (fun n=>?_) (fun n=>?_)
    ·refine aE ?_;exact dL (by rw[Ya c (by rw[a];unfold zM vQ;simp_all)])
    ·refine aE ?_;exact lM () (hg:=b (by rw[a];unfold zM vQ;simp_all))
   refine aE ?_;refine cN (t:=30) rfl (fun hB=>?_) (fun hB=>?_)
   ·refine aE ?_;refine aK rfl (fun n=>?_) (fun n=>?_)
    ·refine aE ?_;exact dL (by rw[Ya c (by rw[a];unfold zM vQ;simp_all)])
    ·refine aE ?_;exact lM () (hg:=b (by rw[a];unfold zM vQ;simp_all))
   refine aE ?_;refine cN (t:=38) rfl (fun U=>?_) (fun U=>?_)
   ·refine aE ?_;refine uT ?_;refine aQ 3 ?_;refine kN [q] (Eu (eW s o)) (fun E st=>Xv q s _ _ _ _ _ k1 _ k2 _ k3 _ k4 o E m hm (st.le aD) aA) ?_;rintro _ E q1 ⟨Ac,cc,rfl,f⟩ X V _
    have f:=f.le X
    have C:=Xw s s.aJ.length o
    refine bH ?_ (hS:=fun _ h=>h.bG);refine aQ 6 ?_;refine aZ (fun Y st=>aG3 Ac _ cc (dR (eW s o)) id Y (f.le (st.le aD)) (by simp[dR]) (by unfold eW;omega)) ?_;refine cS ?_;refine eM ?_;refine aE ?_;refine aK rfl (fun n=>?_) (fun n=>?_)
    ·refine aE ?_;exact dL (by rw[Ya c (by rw[a];unfold zM vQ;simp_all)])
    ·refine aE ?_;exact lM () (hg:=b (by rw[a];unfold zM vQ;simp_all))
   refine aE ?_;refine cN (t:=47) rfl (fun L=>?_) (fun L=>?_)
   ·refine aE ?_;refine aK rfl (fun n=>?_) (fun n=>?_)
    ·refine aE ?_;exact dL (by rw[Ya c (by rw[a];unfold zM vQ;simp_all)])
    ·refine aE ?_;exact lM () (hg:=b (by rw[a];unfold zM vQ;simp_all))
   refine aE ?_;exact lM () (hg:=b (by rw[a];unfold zM vQ;simp_all))
  ·refine aE ?_;exact dO () (hg:=fun j p=>e j aA)
 ·refine aE ?_;exact dL (by rw[aCm e])
theorem tR.box{q:Piece}{x y:bL}{A1 A2 A3 e b h:Option Addr}{n1 k1 n2 k2 n3 k3 n d m c l f:Nat}{w:World}{g:Nat}
  (hx:tR q x y (.agg #[.slice A1 n1 k1,.slice A2 n2 k2,.slice A3 n3 k3,.slice e n d,.slice b m c,.slice h l f])) (a:q.Le (all w)) (hg:eA w g 0 [.slice A1 n1 k1,.slice A2 n2 k2,.slice A3 n3 k3,.slice e n d,.slice b m c,.slice h l f]):StM w g x y:=by
 obtain⟨F,B,H,J,I,A,L,G,K,M,E,C,k,t,z,o,p,r,u⟩:=hx;simp only[Value.agg.injEq,Array.mk.injEq,List.cons.injEq,Value.slice.injEq] at k;obtain⟨⟨rfl,rfl,rfl⟩,⟨rfl,rfl,rfl⟩,⟨rfl,rfl,rfl⟩,⟨rfl,rfl,rfl⟩,⟨rfl,rfl,rfl⟩,⟨rfl,rfl,rfl⟩,_⟩:=k;intro i D;rcases(by omega:i=0∨i=1) with rfl | rfl
 ·exact⟨A1,k1,A2,k2,A3,k3,by simpa using hg.at_ (j:=0) rfl,by simpa using hg.at_ (j:=1) rfl,by simpa using hg.at_ (j:=2) rfl,t.le a,z.le a,o.le a⟩
 ·exact⟨e,d,b,c,h,f,by simpa using hg.at_ (j:=3) rfl,by simpa using hg.at_ (j:=4) rfl,by simpa using hg.at_ (j:=5) rfl,p.le a,r.le a,u.le a⟩
theorem aPN(q qx:Piece)(s:aG)(A1 A2 A3 A4:Option Addr)(n1 k1 n2 k2 n3 k3 n4 k4:Nat)(Z T V O Y R:Option Addr)(D B o n f u l z m A C r:Nat)(x y:bL)(ag:Nat)(k id:Int)(w:World)(U:rM q s A1 n1 A2 n2 A3 n3 A4 n4)(hm:s.wH)(hq:q.Le (all w))(X:tR qx x y (.agg #[.slice Z D B,.slice T o n,.slice V f u,.slice O l z,.slice Y m A,.slice R C r]))(Qm:qx.Le (all w))(hag:ag < 2):
  Cz 177 #[.agg #[.slice A1 n1 k1,.slice A2 n2 k2,.slice A3 n3 k3,.slice A4 n4 k4],.agg #[.slice Z D B,.slice T o n,.slice V f u,.slice O l z,.slice Y m A,.slice R C r],iv (ag:Int),.agg #[.int .u8 k,iv id]] w (Rt (.bool (wO s x y ag k id)) w):=by
 obtain⟨rfl,rfl,rfl,rfl⟩:=U.len
 have hnc:=hm.nc
 have hnd:=hm.nd
 have nx:∀{i:Nat} {p:Nat→Prop},(∀j,j < i→p j)→p i→∀j,j < i+1→p j:=fun {i p} G h2 j H=>by
  rcases(by omega:j < i∨j=i) with H | rfl
  ·exact G j H
  ·exact h2
 refine aT func177 ntmps177 ?_;refine yJ qx aD Qm ?_;refine yJ q aD hq ?_;refine aE ?_;refine bY fun L=>?_;refine aE ?_;refine bY fun F=>?_;refine aE ?_;refine bY fun K=>?_;refine aE ?_;refine sH (α:=Unit) (fun _=>[(7,pt K),(5,pt F),(4,pt L)]) (fun _=>[HP.aI K 150 [.int .u8 k,iv id],HP.aI F 145 [.slice Z D B,.slice T o n,.slice V f u,.slice O l z,.slice Y m A,.slice R C r],HP.aI L 30 [.slice A1 s.aJ.length k1,.slice A2 s.domains.length k2,.slice A3 s.bA.length k3,.slice A4 s.aH.length k4]]) (fun _=>iZ (if ag=0 then y else x) k id=false) ?_ fun _ I=>?_
 ·refine rI (α:=Unit) (fun i _=>[(13,iv i),(7,pt K),(5,pt F),(4,pt L),(2,iv (ag:Int))]) (fun _ _=>[HP.aI K 150 [.int .u8 k,iv id],HP.aI F 145 [.slice Z D B,.slice T o n,.slice V f u,.slice O l z,.slice Y m A,.slice R C r],HP.aI L 30 [.slice A1 s.aJ.length k1,.slice A2 s.domains.length k2,.slice A3 s.bA.length k3,.slice A4 s.aH.length k4]]) (fun i _=>∀j:Nat,j < i→¬(j:Int)=ag→iZ (if j=0 then x else y) k id=false) 2 () (fun j H=>absurd H (Nat.not_lt_zero j)) fun i _ hi a=>?_;refine aE ?_;refine aK rfl (fun h=>?_) (fun h=>?_)
  ·have hi2:i < 2:=aA
   refine aE ?_;refine cN (t:=19) rfl (fun G=>?_) (fun G=>?_)
   ·refine aE ?_;refine aZ (fun w1 st=>aAc F i (if i=0 then x else y) k id w1 hi2 (tR.box X (st.le aD) (st.box (i:=1) rfl) i hi2)) ?_;cases hb:iZ (if i=0 then x else y) k id
    ·refine aE ?_;exact lM () (hg:=nx a fun _=>hb)
    ·refine aE ?_;refine iV aD ?_
     have I:iZ (if ag=0 then y else x) k id=true:=by
      rcases(by omega:(i=0∧ag=1)∨(i=1∧ag=0)) with⟨rfl,rfl⟩ | ⟨rfl,rfl⟩<;>simpa using hb
     rw[wO,I];rfl
   ·refine aE ?_;exact lM () (hg:=nx a fun hc=>absurd hc G)
  ·obtain rfl:i=2:=by omega
   refine aE ?_;refine dO () (hg:=?_);rcases(by omega:ag=0∨ag=1) with rfl | rfl
   ·simpa using a 1 aA aA
   ·simpa using a 0 aA aA
 have e:wO s x y ag k id=Bo s x y k id:=by rw[wO,I,Bool.false_or]
 refine eG ?_;refine eG ?_;refine gN ?_;refine bJ ?_;refine bJ ?_;refine fP ?_;refine wX ?_;refine El (α:=Bool) (fun b=>[(30,.bool b),(29,.int .u8 k),(7,pt K),(5,pt F),(4,pt L)]) (fun _=>[HP.aI K 150 [.int .u8 k,iv id],HP.aI F 145 [.slice Z D B,.slice T o n,.slice V f u,.slice O l z,.slice Y m A,.slice R C r],HP.aI L 30 [.slice A1 s.aJ.length k1,.slice A2 s.domains.length k2,.slice A3 s.bA.length k3,.slice A4 s.aH.length k4]]) (fun b=>b=true↔k=100∨k=107) ?_ fun b hb=>?_
 ·refine aE ?_;refine cN (t:=30) rfl (fun hA=>?_) (fun hA=>?_)
  ·refine aE ?_;exact dO true (hg:=by simp[hA])
  ·refine aE ?_;refine cN (t:=30) rfl (fun hB=>?_) (fun hB=>?_)
   ·exact dO true (hg:=by simp[hB])
   ·exact dO false (hg:=by simp[hA,hB])
 cases b
 ·have E:¬(k=100∨k=107):=fun hh=>by simpa using hb.2 hh
  refine aE ?_;refine cN (t:=53) rfl (fun hC=>?_) (fun hC=>?_)
  ·have J:Bn s k=s.aJ.length:=by rw[Bn,if_neg E,if_pos hC]
   refine aE ?_;refine rI (α:=Unit) (fun i _=>[(58,iv i),(57,iv s.aJ.length),(7,pt K),(5,pt F),(4,pt L)]) (fun _ _=>[HP.aI K 150 [.int .u8 k,iv id],HP.aI F 145 [.slice Z D B,.slice T o n,.slice V f u,.slice O l z,.slice Y m A,.slice R C r],HP.aI L 30 [.slice A1 s.aJ.length k1,.slice A2 s.domains.length k2,.slice A3 s.bA.length k3,.slice A4 s.aH.length k4]]) (fun i _=>∀j,j < i→uM s x y k id j=false) s.aJ.length () (fun j H=>absurd H (Nat.not_lt_zero j)) fun i _ hi a=>?_;refine aE ?_;refine aK rfl (fun h=>?_) (fun h=>?_)
   ·have M:i < s.aJ.length:=aA
    have c:uM s x y k id i=(decide ((i:Int)≠id)&&(nQ x y k i&&decide (id∈dR (eW s i)))):=by rw[uM,if_neg E,vQ,Int.toNat_natCast]
    refine aE ?_;refine aH1 ?_;refine aCC 65 rfl (fun G=>?_) (fun G=>?_)
    ·rw[decide_eq_true G] at c;refine rL 5 ?_;refine aQ 8 ?_;refine aE ?_;refine aZ (fun w1 st=>aAe F x y k i w1 (tR.box X (st.le aD) (st.box (i:=1) rfl))) ?_;cases hw:nQ x y k i
     all_goals
      rw[hw] at c;refine bH ?_;refine rL 9 ?_
     ·refine Ep 13 ?_;refine rL 14 ?_;refine Ep 16 ?_;refine rL 17 ?_;refine eM ?_;refine aE ?_;exact lM () (hg:=nx a (by rw[c];rfl))
     ·refine aQ 13 ?_;refine aE ?_;refine kN [q] (Eu (eW s i)) (fun w2 st=>Xv q s _ _ _ _ _ k1 _ k2 _ k3 _ k4 i w2 U hm (st.le aD) aA) ?_;rintro _ w2 q1 ⟨Ac,cc,rfl,N⟩ hf hle _
      have N:=N.le hf
      have aSX:=Xw s s.aJ.length i
      refine bH ?_ (hS:=fun _ h=>h.bG);refine aQ 16 ?_;refine aE ?_;refine aZ (fun w3 st=>aG3 Ac _ cc (dR (eW s i)) id w3 (N.le (st.le aD)) (by simp[dR]) (by unfold eW;omega)) ?_;refine bH ?_ (hS:=fun _ h=>h.bG);refine nZ 17 ?_;refine eM ?_;refine aE ?_;refine aK rfl (fun h4=>?_) (fun h4=>?_)
      ·refine aE ?_;exact dL (by rw[e,aFB (by rw[J];exact M) (by rw[c,decide_eq_true h4];rfl)])
      ·refine aE ?_;exact lM () (hg:=nx a (by rw[c,decide_eq_false h4];rfl))
    ·refine rL 5 ?_;refine Ep 8 ?_;refine rL 9 ?_;refine Ep 13 ?_;refine rL 14 ?_;refine Ep 16 ?_;refine rL 17 ?_;refine eM ?_;refine aE ?_;exact lM () (hg:=nx a (by rw[c,decide_eq_false G];rfl))
   ·refine aE ?_;exact dL (by rw[e,Qx (by rw[J];exact fun j H=>a j aA)])
  ·refine aE ?_;exact dL (by rw[e,Qx (by rw[Bn,if_neg E,if_neg hC];exact fun j H=>absurd H (Nat.not_lt_zero j))])
 ·have E:k=100∨k=107:=hb.1 rfl
  have J:Bn s k=s.domains.length:=by rw[Bn,if_pos E]
  refine aE ?_;refine rI (α:=Unit) (fun i _=>[(36,iv i),(35,iv s.domains.length),(34,.slice A2 s.domains.length k2),(7,pt K),(5,pt F),(4,pt L)]) (fun _ _=>[HP.aI K 150 [.int .u8 k,iv id],HP.aI F 145 [.slice Z D B,.slice T o n,.slice V f u,.slice O l z,.slice Y m A,.slice R C r],HP.aI L 30 [.slice A1 s.aJ.length k1,.slice A2 s.domains.length k2,.slice A3 s.bA.length k3,.slice A4 s.aH.length k4]]) (fun i _=>∀j,j < i→uM s x y k id j=false) s.domains.length () (fun j H=>absurd H (Nat.not_lt_zero j)) fun i _ hi a=>?_;refine aE ?_;refine aK rfl (fun h=>?_) (fun h=>?_)
  ·have M:i < s.domains.length:=aA
   obtain⟨d,hd⟩:=get_some M;obtain⟨bD,oD,rD,rfl,Ql,_,rfl,Qv⟩:=U.dom.vC hd
   have hk:=eA.le Ql Qv hq
   have c:uM s x y k id i=(decide (d.above=id)&&nQ x y k i):=by rw[uM,if_pos E,hd];rfl
   refine aE ?_;refine cQ fun g4=>?_;refine aE ?_;refine cN (t:=46) rfl (fun G=>?_) (fun G=>?_)
   ·rw[decide_eq_true G] at c;refine aE ?_;refine aZ (fun w1 st=>aAe F x y k i w1 (tR.box X (st.le aD) (st.box (i:=2) rfl))) ?_;cases hw:nQ x y k i
    all_goals
     rw[hw] at c;refine aE ?_
    ·exact lM () (hg:=nx a c)
    ·exact dL (by rw[e,aFB (by rw[J];exact M) c])
   ·refine aE ?_;exact lM () (hg:=nx a (by rw[c,decide_eq_false G];rfl))
  ·refine aE ?_;exact dL (by rw[e,Qx (by rw[J];exact fun j H=>a j aA)])
theorem aPU(q qx:Piece)(s:aG)(A1 A2 A3 A4:Option Addr)(n1 k1 n2 k2 n3 k3 n4 k4:Nat)(X1 X2 X3 Y1 Y2 Y3:Option Addr)(L G z u o B p C r E J A:Nat)(x y:bL)(Aw:Option Addr)(Y cw:Nat)(wt:List Int)(ag:Nat)(Al:Option Addr)(V cl:Nat)(l:List Int)(w:World)(f:rM q s A1 n1 A2 n2 A3 n3 A4 n4)(hm:s.wH)(hq:q.Le (all w))(H:tR qx x y (.agg #[.slice X1 L G,.slice X2 z u,.slice X3 o B,.slice Y1 p C,.slice Y2 r E,.slice Y3 J A]))(Qm:qx.Le (all w))(hw:aM (all w) 1 Aw Y (aR wt))(hnw:Y=wt.length)(I:ag < 2)(hl:aM (all w) 1 Al V (eJ l))(zL:V=l.length)(U:V≤1000000)(hu:mJ l):
  Cz 127 #[.agg #[.slice A1 n1 k1,.slice A2 n2 k2,.slice A3 n3 k3,.slice A4 n4 k4],.agg #[.slice X1 L G,.slice X2 z u,.slice X3 o B,.slice Y1 p C,.slice Y2 r E,.slice Y3 J A],.slice Aw Y cw,iv (ag:Int),.slice Al V cl] w (Rt (aCw (fM s x y wt ag l)) w):=by
 generalize a:cP s l=rd;obtain⟨st,k,id⟩:=rd;refine aT func127 ntmps127 ?_;refine yJ qx aD Qm ?_;refine yJ q aD hq ?_;refine aE ?_;refine bY fun g1=>?_;refine aE ?_;refine bY fun g2=>?_;refine aE ?_;refine cQ fun g3=>?_;refine aE ?_;refine cN (t:=17) rfl (fun h=>absurd h aA) (fun _=>?_);refine aE ?_;refine cN (t:=21) rfl (fun h=>absurd h aA) (fun _=>?_);refine aE ?_;refine aZ (v:=iv 0) (fun b st=>(Xt s A1 A2 A3 A4 n1 k1 n2 k2 n3 k3 n4 k4 b (f.W (st.le aD) hm.small)).mono fun _ _ h=>aCK h (by rw[hm.Mz])) ?_;refine aE ?_;refine aZ (v:=.tuple #[.int .i32 st,.agg #[.int .u8 k,iv id]]) (fun b st=>(aLc s A1 A2 A3 A4 n1 k1 n2 k2 n3 k3 n4 k4 Al V cl l b (f.W (st.le aD) hm.small) (hl.le (st.le aD)) zL U hu).mono fun _ _ h=>aCK h (by rw[a];rfl)) ?_;refine aE ?_;refine cQ fun g4=>?_;refine aE ?_;refine aH1 ?_;refine aCC 35 rfl (fun h1=>?_) (fun h1=>?_)
 ·refine rL 3 ?_;refine Ep 13 ?_;refine rL 14 ?_;refine Ep 16 ?_;refine rL 17 ?_;refine eM ?_;refine aE ?_
  (refine pG ?_;rw[fM,a];dsimp only;rw[if_pos (.inl h1)];rfl)
 refine rL 3 ?_;refine aCC 40 rfl (fun h2=>?_) (fun h2=>?_)
 ·refine rL 8 ?_;refine Ep 13 ?_;refine rL 14 ?_;refine Ep 16 ?_;refine rL 17 ?_;refine eM ?_;refine aE ?_
  (refine pG ?_;rw[fM,a];dsimp only;rw[if_pos (.inr (.inl h2))];rfl)
 refine rL 8 ?_;refine aQ 13 ?_;refine aE ?_;refine aZ (fun b st=>aAc g2 ag (if ag=0 then x else y) k id b I (tR.box H (st.le aD) (st.box (i:=2) rfl) ag I)) ?_;refine bH ?_;refine rL 14 ?_;refine aQ 16 ?_;refine aE ?_;refine aZ (fun b st=>aAQ k b) ?_;refine bH ?_;refine rL 17 ?_;refine eM ?_;refine aE ?_;refine pZ rfl (fun X=>?_) (fun X=>?_)
 ·refine aE ?_
  (refine pG ?_;rw[fM,a];dsimp only;rw[if_pos (.inr (.inr (by simpa using X)))];rfl)
 have R:st=0:=by omega
 have K:¬(st≠0∨k=0∨iZ (if ag=0 then x else y) k id=decide (gE k)):=fun c=>by
  rcases c with c | c | c
  ·exact c R
  ·exact h2 c
  ·rw[c] at X;simp at X
 refine aE ?_;refine aZ (fun b st=>aAQ k b) ?_;refine aE ?_;refine aK rfl (fun n=>?_) (fun n=>?_)
 ·refine aE ?_;refine aK rfl (fun h7=>?_) (fun h7=>?_)
  ·subst h7
   have O:=Vd (s:=s) hu
   rw[a] at O
   have N:=O.resolve_left (fun c=>by have:=c.1;simp at this)
   have aSS:0≤id:=N.2.2.1
   have aSR:id < (s.domains.length:Int):=N.2.2.2.1
   obtain⟨d,hd⟩:=get_some (l:=s.domains) (i:=id.toNat) aA;obtain⟨rfl,rfl,rfl,rfl⟩:=f.len;obtain⟨bD,oD,rD,rfl,Ql,_,rfl,Z⟩:=f.dom.vC hd
   have hk:=eA.le Ql Z hq
   have ha:=hk.at_ (j:=0) rfl
   have m:(s.domains[id.toNat]?).any (fun d=>decide (d.above≠ -1)&& !nQ x y 117 d.above)=(decide (d.above≠ -1)&& !nQ x y 117 d.above):=by rw[hd];rfl
   refine aE ?_;refine cN (t:=69) rfl (fun h8=>?_) (fun h8=>?_)
   ·rw[decide_eq_true h8] at m;refine aE ?_;refine aZ (fun b st=>aAe g2 x y 117 d.above b (tR.box H (st.le aD) (st.box (i:=2) rfl))) ?_;cases hw9:nQ x y 117 d.above
    all_goals
     rw[hw9] at m;refine aE ?_
    ·(refine pG ?_;rw[fM,a];dsimp only;rw[if_neg K,if_pos n,if_pos ⟨rfl,m⟩];rfl)
    ·refine Sx [2] ?_;refine aE ?_
     (refine pG ?_;rw[fM,a];dsimp only;rw[if_neg K,if_pos n,if_neg (fun c=>by have M:=c.2;rw[m] at M;cases M)];rfl)
   ·rw[decide_eq_false h8] at m;refine aE ?_;refine Sx [2] ?_;refine aE ?_
    (refine pG ?_;rw[fM,a];dsimp only;rw[if_neg K,if_pos n,if_neg (fun c=>by have M:=c.2;rw[m] at M;cases M)];rfl)
  ·refine aE ?_;refine Sx [2] ?_;refine aE ?_
   (refine pG ?_;rw[fM,a];dsimp only;rw[if_neg K,if_pos n,if_neg (fun c=>h7 c.1)];rfl)
 ·refine aE ?_;refine aZ (fun b st=>aPN q qx s A1 A2 A3 A4 n1 k1 n2 k2 n3 k3 n4 k4 X1 X2 X3 Y1 Y2 Y3 L G z u o B p C r E J A x y ag k id b f hm (st.le aD) H (st.le aD) I) ?_;cases D:wO s x y ag k id
  ·refine aE ?_;refine aZ (fun b st=>aQN q s A1 A2 A3 A4 n1 k1 n2 k2 n3 k3 n4 k4 Aw Y cw wt k id b f hm (st.le aD) (hw.le (st.le aD)) hnw) ?_;cases T:Cb s wt k id
   ·refine aE ?_;refine Sx [2] ?_;refine aE ?_
    (refine pG ?_;rw[fM,a];dsimp only;rw[if_neg K,if_neg n,D,if_neg aD,T,if_neg aD];rfl)
   ·refine aE ?_
    (refine pG ?_;rw[fM,a];dsimp only;rw[if_neg K,if_neg n,D,if_neg aD,T,if_pos rfl];rfl)
  ·refine aE ?_
   (refine pG ?_;rw[fM,a];dsimp only;rw[if_neg K,if_neg n,D,if_pos rfl];rfl)
def lZ(l:List Bool)(id:Int)(b:Bool):List Bool:=if 0≤id∧id < (l.length:Int) then l.set id.toNat b else l
theorem aA2{l:List Bool}{id:Int}(b:Bool)(h:¬(0≤id∧id < (l.length:Int))):lZ l id b=l:=if_neg h
theorem Ku(l:List Bool)(id:Int)(b:Bool):(lZ l id b).length=l.length:=by unfold lZ;split<;>simp
def gI(x:bL)(k id:Int):bL:=
 if k=117∨k=100∨k=107 then⟨lZ x.d id (decide (gE k)),x.c,x.l⟩
 else if k=99∨k=111 then⟨x.d,lZ x.c id (decide (gE k)),x.l⟩
 else if k=114∨k=97 then⟨x.d,x.c,lZ x.l id (decide (gE k))⟩ else x
def eF(x:bL)(ag:Nat)(k id:Int):bL:=if ag=0 then gI x k id else x
def fW(y:bL)(ag:Nat)(k id:Int):bL:=if ag=0 then y else gI y k id
theorem aQZ{l:List Bool}{id:Int}(b:Bool)(h:0≤id∧id < (l.length:Int)):(bM l).set id.toNat (.bool b)=bM (lZ l id b):=by
 rw[lZ,if_pos h];simp[bM,List.map_set]
theorem St.aL7(st:St w0 R H w){i n c sz:Nat}{t:TypeId}{A:Option Addr}{xs:List Value}(hi:H[i]? =some (HP.own t sz (.slice A n c) n xs))(h:0 < n):∃g,A=some ⟨g,0,none⟩:=by
 obtain⟨_,a⟩:=st.own hi;rcases a with⟨a,j⟩ | ⟨f,b,e,d,_⟩
 ·omega
 ·injection d with h4 h5 h6
  exact⟨f,h4⟩
theorem aRT(i:Nat){n c sz:Nat}{t:TypeId}{A:Option Addr}{xs:List Value}(hi:H[i]? =some (HP.own t sz (.slice A n c) n xs))(h:n≤c→XK N w0 K e R H):XK N w0 K e R H:=fun a w l st=>by
 obtain⟨_,k⟩:=st.own hi;refine h ?_ a w l st;rcases k with⟨_,d⟩ | ⟨m,b,j,f,_,_,d,_⟩
 ·omega
 ·injection f with h4 h5 h6
  omega
theorem Yt(i:Nat){n c sz:Nat}{t:TypeId}{A:Option Addr}{xs:List Value}(hi:H[i]? =some (HP.own t sz (.slice A n c) n xs))(b:0 < n)(h:(∃g,A=some ⟨g,0,none⟩)→XK N w0 K e R H):XK N w0 K e R H:=fun a w d st=>h (st.aL7 hi b) a w d st
structure gB where
 a1:AC
 a2:AC
 a3:AC
 a4:AC
 x1:AC
 x2:AC
 x3:AC
 y1:AC
 y2:AC
 y3:AC
 b0:AC
 b1:AC
structure bN where
 x:bL
 y:bL
 h0:Int
 h1:Int
 w0:List Int
 w1:List Int
 last:Int
 at_:Int
 kind:Int
 id:Int
def tK(s:aG):bN:=⟨dI s,dI s,0,0,[],[],1,-1,0,0⟩
def wD(a:AC)(n:Nat):Value:=.slice a.1 n a.2
def jV(h:Nat)(L:gB)(s:aG)(z:bN):List Value:=[pt h,.slice L.a1.1 s.aJ.length L.a1.2,.slice L.a2.1 s.domains.length L.a2.2,.slice L.a3.1 s.bA.length L.a3.2,.slice L.a4.1 s.aH.length L.a4.2,
 .slice L.x1.1 z.x.d.length L.x1.2,.slice L.x2.1 z.x.c.length L.x2.2,.slice L.x3.1 z.x.l.length L.x3.2,.slice L.y1.1 z.y.d.length L.y1.2,.slice L.y2.1 z.y.c.length L.y2.2,.slice L.y3.1 z.y.l.length L.y3.2,
 iv z.h0,.slice L.b0.1 z.w0.length L.b0.2,iv z.h1,.slice L.b1.1 z.w1.length L.b1.2,iv z.last,iv z.at_,.int .u8 z.kind,iv z.id]
def uW(L:gB)(s:aG)(p:Piece):Prop:=rM p s L.a1.1 s.aJ.length L.a2.1 s.domains.length L.a3.1 s.bA.length L.a4.1 s.aH.length
theorem uW.le{L:gB}{s:aG}(p q:Piece)(hl:p.Le q)(h:uW L s p):uW L s q:=rM.le h hl
def qB(L:gB)(x y:bL)(p:Piece):Prop:=aM p 1 L.x1.1 x.d.length (bM x.d)∧aM p 1 L.x2.1 x.c.length (bM x.c)∧aM p 1 L.x3.1 x.l.length (bM x.l)∧aM p 1 L.y1.1 y.d.length (bM y.d)∧aM p 1 L.y2.1 y.c.length (bM y.c)∧aM p 1 L.y3.1 y.l.length (bM y.l)
theorem qB.le{L:gB}{x y:bL}(p q:Piece)(hl:p.Le q)(h:qB L x y p):qB L x y q:=⟨h.1.le hl,h.2.1.le hl,h.2.2.1.le hl,h.2.2.2.1.le hl,h.2.2.2.2.1.le hl,h.2.2.2.2.2.le hl⟩
def eI(a:AC)(l:List Int)(p:Piece):Prop:=aM p 1 a.1 l.length (eJ l)
theorem eI.le{a:AC}{l:List Int}(p q:Piece)(hl:p.Le q)(h:eI a l p):eI a l q:=aM.le h hl
theorem tR.P{q:Piece}{x y:bL}{v:Value}(h:tR q x y v):∃m n o k j p:AC,v=.agg #[wD m x.d.length,wD n x.c.length,wD o x.l.length,wD k y.d.length,wD j y.c.length,wD p y.l.length]∧∀f b i I C a:AC,qB ⟨f,b,i,I,m,n,o,k,j,p,C,a⟩ x y q:=by
 obtain⟨u,D,z,K,F,H,G,J,w,B,E,r,e,f,b,i,a,t,A⟩:=h;exact⟨(u,D),(z,K),(F,H),(G,J),(w,B),(E,r),e,fun _ _ _ _ _ _=>⟨f,b,i,a,t,A⟩⟩
def iK(f h:Nat)(L:gB)(s:aG)(z:bN):HP:=HP.many [HP.aI f 152 (jV h L s z),HP.cI (uW L s) (uW.le (L:=L) (s:=s)),HP.cI (qB L z.x z.y) (qB.le (L:=L) (x:=z.x) (y:=z.y)),HP.cI (eI L.b0 z.w0) (eI.le (a:=L.b0) (l:=z.w0)),HP.cI (eI L.b1 z.w1) (eI.le (a:=L.b1) (l:=z.w1))]
def At(f h:Nat)(s:aG)(z:bN):HP:=HP.ex fun L:gB=>iK f h L s z
structure Au(w:World)(f h:Nat)(L:gB)(s:aG)(z:bN):Prop where
 r0:eA w f 0 (jV h L s z)
 so:uW L s (all w)
 st:qB L z.x z.y (all w)
 b0:eI L.b0 z.w0 (all w)
 b1:eI L.b1 z.w1 (all w)
theorem aCU{f h:Nat}{L:gB}{s:aG}{z:bN}{F:Nat→Prop}{w:World}(k:(iK f h L s z).sat F w)(hF:∀b,F b→b < w.heap.size):Au w f h L s z:=by
 obtain⟨G,a,e,_⟩:=k
 have c:∀i,(⟨w,G i⟩:Piece).Le (all w):=fun i b d=>⟨hF b (e i b d),rfl⟩
 exact⟨uP (a 0 _ rfl).2,uW.le _ _ (c 1) (a 1 _ rfl),qB.le _ _ (c 2) (a 2 _ rfl),eI.le _ _ (c 3) (a 3 _ rfl),eI.le _ _ (c 4) (a 4 _ rfl)⟩
theorem St.Bt{w0 w:World}{R:List Piece}{H:List HP}{f h:Nat}{L:gB}{s:aG}{z:bN}(t:St w0 R H w)(i:Nat)(hi:H[i]? =some (iK f h L s z)):Au w f h L s z:=by
 obtain⟨F,a,b,_⟩:=t.chunk hi;exact aCU a b
def aIi(h:Nat)(s:aG)(v:Value)(hs:List HP)(_:Piece):Prop:=∃f,v=.tuple #[pt f,iv 0]∧hs=[At f h s (tK s)]
theorem Xk{w:World}(a:AC)(b:a=(none,0)):(HP.cI (eI a []) (eI.le (a:=a) (l:=[]))).sat (fun _=>False) w:=by
 subst b;exact⟨rfl,fun h=>absurd h aD⟩
theorem aO7(h:Nat)(s:aG)(G:s.dF)(A1 A2 A3 A4:Option Addr)(n1 k1 n2 k2 n3 k3 n4 k4:Nat)(w:World)(hW:iJ w s A1 n1 A2 n2 A3 n3 A4 n4):
  Cz 39 #[pt h,.agg #[.slice A1 n1 k1,.slice A2 n2 k2,.slice A3 n3 k3,.slice A4 n4 k4]] w (fun y w'=>(∃v hs q,y=.returned v∧q.w=w'∧aIi h s v hs q∧gX w hs q)∧Below w.heap.size w w'):=by
 obtain rfl:=hW.rY;obtain rfl:=hW.rX;obtain rfl:=hW.uI;obtain rfl:=hW.tH;refine aT func39 ntmps39 ?_;refine aB ?_;refine bY fun g1=>?_;refine aB ?_;refine aZ (fun e t=>Na s A1 A2 A3 A4 _ k1 _ k2 _ k3 _ k4 e (hW.le (t.started aD)) G.t.Mz) ?_;refine aB ?_;refine jG [1,3] ?_;refine bQ 0 ?_;refine aO 1 ?_;refine aO 3 ?_;refine aQ 2 ?_
 refine kN [] (fun v w w'=>Zq s v w w') (fun e t=>aCf s A1 A2 A3 A4 _ k1 _ k2 _ k3 _ k4 e (hW.le (t.started aD)) (fun d hd=>by
  obtain⟨j,O⟩:=List.getElem?_of_mem hd
  have:=(G.t.aH j d O).2.2.2.2.2.2.2.2.1
  omega)) ?_
 rintro _ e R ⟨cs,rfl,D⟩ E _ k
 have k:=k aD
 obtain⟨r,m1,n,o,Y,x,A,X,m,z,U,u,rfl,c⟩:=uV.P D
 have c:=c.le E
 obtain⟨rfl,rfl,rfl,rfl⟩:=c.len;refine Gr (Φ:=uW ⟨(r,n),(o,x),(A,m),(z,u),(none,0),(none,0),(none,0),(none,0),(none,0),(none,0),(none,0),(none,0)⟩ s) (hm:=uW.le) k (by simp[all]) c ?_;refine bH ?_;refine aQ 4 ?_;refine kN [] (fun v w w'=>tR (fresh w w') (dI s) (dI s) v) (fun e st=>aJG s A1 A2 A3 A4 k1 k2 k3 k4 e G.t) ?_;rintro _ T V B C _ i
 have i:=i aD
 obtain⟨J,K,M,I,H,N,rfl,b⟩:=B.P
 have b:=qB.le _ _ C (b (r,n) (o,x) (A,m) (z,u) (none,0) (none,0))
 refine Gr (Φ:=qB ⟨(r,n),(o,x),(A,m),(z,u),J,K,M,I,H,N,(none,0),(none,0)⟩ (dI s) (dI s)) (hm:=qB.le) i (by simp[all]) b ?_;refine bH ?_;refine aQ 5 ?_;refine kd (iU rfl) ?_;refine cS ?_;refine aQ 6 ?_;refine bY fun f=>?_;refine cS ?_;refine aQ 7 ?_;refine bJ ?_;refine cS ?_;refine eM ?_;refine aB ?_;refine pH (p:=HP.cI (eI (none,0) []) (eI.le (a:=(none,0)) (l:=[]))) (fun w=>Xk _ rfl) ?_;refine pH (p:=HP.cI (eI (none,0) []) (eI.le (a:=(none,0)) (l:=[]))) (fun w=>Xk _ rfl) ?_;refine aY [2,4,3,0,1] rfl aC (R':=[all w]) aD ?_;refine nM ?_;refine rH ?_;refine rH ?_;refine rH ?_;refine uS 0 (f:=fun L:gB=>iK f h L s (tK s)) ⟨(r,n),(o,x),(A,m),(z,u),J,K,M,I,H,N,(none,0),(none,0)⟩ rfl ?_;dsimp only[List.set];refine dK [] [] [0] aD rfl aC aC fun q _ _ F=>?_;exact gF rfl rfl rfl fun e t=>⟨⟨_,_,⟨e,q.Z⟩,rfl,rfl,⟨f,rfl,rfl⟩,t.newR aD aD (F aD aD)⟩,t.below aD⟩
variable{z:bN}{L:gB}
theorem Su(i:Nat)(hi:H[i]? =some (At f h s z))(k:∀L:gB,XK N w0 K e R (HP.aI f 152 (jV h L s z)::H.set i (HP.many [cM,HP.cI (uW L s) (uW.le (L:=L) (s:=s)),HP.cI (qB L z.x z.y) (qB.le (L:=L) (x:=z.x) (y:=z.y)),HP.cI (eI L.b0 z.w0) (eI.le (a:=L.b0) (l:=z.w0)),HP.cI (eI L.b1 z.w1) (eI.le (a:=L.b1) (l:=z.w1))]))):XK N w0 K e R H:=by
 have b:=wK hi
 refine Yu i hi fun L=>?_;refine rG i 0 (by rw[List.getElem?_set_self b];rfl) rfl ?_
 simpa[List.set_set] using k L
theorem yL(L:gB)(i:Nat)(hi:H[i]? =some (HP.many [cM,HP.cI (uW L s) (uW.le (L:=L) (s:=s)),HP.cI (qB L z.x z.y) (qB.le (L:=L) (x:=z.x) (y:=z.y)),HP.cI (eI L.b0 z.w0) (eI.le (a:=L.b0) (l:=z.w0)),HP.cI (eI L.b1 z.w1) (eI.le (a:=L.b1) (l:=z.w1))]))(k:XK N w0 K e R (H.set i (At f h s z))):XK N w0 K e R (HP.aI f 152 (jV h L s z)::H):=by
 have b:=wK hi
 refine rJ i 0 hi rfl ?_;refine uS i (f:=fun L:gB=>iK f h L s z) L (by rw[List.getElem?_set_self b];rfl) ?_;rw[List.set_set];exact k
def fI(z:bN)(a:Int)(l:List Int):Int×bN:=
 if bO 2 a=false then(4,z) else if a=0 then(if z.h0≠0 then(7,z) else(0,{z with h0:=1,w0:=l})) else(if z.h1≠0 then(7,z) else(0,{z with h1:=1,w1:=l}))
theorem aFO(f h:Nat)(s:aG)(z:bN)(a:Int)(A:Option Addr)(n c:Nat)(l:List Int)(w:World)(F:Nat→Prop)(hp:(At f h s z).sat F w)(hF:∀b,F b→b < w.heap.size)(hs:aM ⟨w,fun b=>b < w.heap.size∧¬F b⟩ 1 A n (eJ l))(r:n=l.length)(m:n≤1000000):
  Cz 84 #[pt f,iv a,.slice A n c] w (Wr (iv (fI z a l).1) (At f h s (fI z a l).2) w F):=by
 subst r;cases j:bO 2 a
 ·have e:fI z a l=(4,z):=by simp[fI,j]
  rw[e];refine dD func84 ntmps84 hp hF ?_;refine aB ?_;refine aZ (fun d t=>Il a d) ?_;rw[j];refine aB ?_;exact bU 0 hF
 ·obtain rfl | rfl:a=0∨a=1:=by have:=of_decide_eq_true j;omega
  ·refine dD func84 ntmps84 hp hF ?_;refine Su 0 rfl fun L=>?_;dsimp only[List.set,jV];refine aB ?_;refine aZ (fun d t=>Il 0 d) ?_;refine aB ?_;refine kd (fQ 0 11) ?_;refine aB ?_;refine aK rfl (fun i=>?_) (fun i=>?_)
   ·have e:fI z 0 l=(7,z):=by simp[fI,bO,i]
    rw[e];refine aB ?_;refine yL L 0 rfl ?_;dsimp only[List.set];exact bU 0 hF
   ·have e:fI z 0 l=(0,{z with h0:=1,w0:=l}):=by simp[fI,bO];simpa using i
    rw[e];refine aB ?_;refine jG [5,6] ?_;refine bQ 0 ?_;refine bQ 1 ?_;refine bQ 2 ?_;refine aO 5 ?_;refine aO 6 ?_;refine aQ 3 ?_;refine fK (To l.length (eJ l)) (fun d t=>Xs A _ c _ d (hs.le (t.le aD)) (Fb _) m) ?_;rintro _ _ u ⟨k,o,rfl,rfl⟩ _;dsimp only[List.cons_append,List.nil_append];refine bH ?_;refine aQ 4 ?_;refine kd (iU rfl) ?_;refine bH ?_;refine aQ 7 ?_;refine kd (fQ 0 11) ?_;refine cS ?_;refine aQ 8 ?_;refine qP 1 (t:=152) rfl rfl rfl aF (by simp[Value.cells,Value.oneCell']) (by simp[Value.cells]) ?_;dsimp only[List.set,Value.cells,gD];refine cS ?_;refine eM ?_;refine aB ?_;refine wW 0 (Φ:=eI (k,o) l) (hm:=eI.le) rfl (fun p hp=>hp) ?_;refine bE 2 3 ?_;refine aY [1,2,3] rfl aC (fun _ h=>h) ?_;refine aN 1 3 ?_;refine yL (h:=h) (s:=s) (z:={z with h0:=1,w0:=l}) {L with b0:=(k,o)} 0 rfl ?_;dsimp only[List.set];exact bU 0 hF
  ·refine dD func84 ntmps84 hp hF ?_;refine Su 0 rfl fun L=>?_;dsimp only[List.set,jV];refine aB ?_;refine aZ (fun d t=>Il 1 d) ?_;refine aB ?_;refine kd (fQ 1 13) ?_;refine aB ?_;refine aK rfl (fun i=>?_) (fun i=>?_)
   ·have e:fI z 1 l=(7,z):=by simp[fI,bO,i]
    rw[e];refine aB ?_;refine yL L 0 rfl ?_;dsimp only[List.set];exact bU 0 hF
   ·have e:fI z 1 l=(0,{z with h1:=1,w1:=l}):=by simp[fI,bO];simpa using i
    rw[e];refine aB ?_;refine jG [5,6] ?_;refine bQ 0 ?_;refine bQ 1 ?_;refine bQ 2 ?_;refine aO 5 ?_;refine aO 6 ?_;refine aQ 3 ?_;refine fK (To l.length (eJ l)) (fun d t=>Xs A _ c _ d (hs.le (t.le aD)) (Fb _) m) ?_;rintro _ _ u ⟨k,o,rfl,rfl⟩ _;dsimp only[List.cons_append,List.nil_append];refine bH ?_;refine aQ 4 ?_;refine kd (iU rfl) ?_;refine bH ?_;refine aQ 7 ?_;refine kd (fQ 1 13) ?_;refine cS ?_;refine aQ 8 ?_;refine qP 1 (t:=152) rfl rfl rfl aF (by simp[Value.cells,Value.oneCell']) (by simp[Value.cells]) ?_;dsimp only[List.set,Value.cells,gD];refine cS ?_;refine eM ?_;refine aB ?_;refine wW 0 (Φ:=eI (k,o) l) (hm:=eI.le) rfl (fun p hp=>hp) ?_;refine bE 2 4 ?_;refine aY [1,2,3] rfl aC (fun _ h=>h) ?_;refine aN 1 4 ?_;refine yL (h:=h) (s:=s) (z:={z with h1:=1,w1:=l}) {L with b1:=(k,o)} 0 rfl ?_;dsimp only[List.set];exact bU 0 hF
def jC(z:bN)(a:Int):Option (List Int):=if a=0 then(if z.h0=2 then some z.w0 else none) else if a=1 then(if z.h1=2 then some z.w1 else none) else none
def fU(z:bN)(a:Int):bN:=if a=0 then(if z.h0=2 then {z with h0:=0,w0:=[]} else z) else if a=1 then(if z.h1=2 then {z with h1:=0,w1:=[]} else z) else z
def Kx(l:Option (List Int))(a:AC):Value:=match l with
 | some l=>.tuple #[.slice a.1 l.length a.2,.bool true]
 | none=>.tuple #[.slice none 0 0,.bool false]
def De(f h:Nat)(s:aG)(z:bN)(l:List Int)(c:AC):HP:=HP.many [At f h s z,HP.cI (eI c l) (eI.le (a:=c) (l:=l))]
theorem aBJ(f h:Nat)(s:aG)(z:bN)(a:Int)(w:World)(F:Nat→Prop)(hp:(At f h s z).sat F w)(hF:∀b,F b→b < w.heap.size):
  Cz 48 #[pt f,iv a] w (fun y w'=>∃c:AC,y=.returned (Kx (jC z a) c)∧True∧∃x,(De f h s (fU z a) ((jC z a).getD []) c).sat x w'∧iI w w' F x):=by
 have d:∀w:World,(HP.cI (eI (none,0) []) (eI.le (a:=(none,0)) (l:=[]))).sat (fun _=>False) w:=fun w=>Xk _ rfl
 cases o:bO 2 a
 ·have r:a≠0:=fun h=>by subst h;cases o
  have u:a≠1:=fun h=>by subst h;cases o
  have n:jC z a=none:=by simp[jC,r,u]
  have m:fU z a=z:=by simp[fU,r,u]
  rw[n,m];unfold De;refine dD func48 ntmps48 hp hF ?_;refine aB ?_;refine aZ (fun e t=>Il a e) ?_;rw[o];refine aB ?_;refine pH (p:=HP.cI (eI (none,0) []) (eI.le (a:=(none,0)) (l:=[]))) d ?_;refine aY [1,0] rfl aC (fun _ h=>h) ?_;refine nM ?_;exact gF rfl rfl rfl fun e t=>⟨(none,0),rfl,trivial,t.turns hF aD (i:=0) rfl⟩
 ·obtain rfl | rfl:a=0∨a=1:=by have:=of_decide_eq_true o;omega
  ·refine dD func48 ntmps48 hp hF ?_;refine Su 0 rfl fun L=>?_;dsimp only[List.set,jV];refine aB ?_;refine aZ (fun e t=>Il 0 e) ?_;refine aB ?_;refine kd (fQ 0 11) ?_;refine aB ?_;refine aK rfl (fun k=>?_) (fun k=>?_)
   ·have n:jC z 0=none:=by simp[jC,k]
    have m:fU z 0=z:=by simp[fU,k]
    rw[n,m];unfold De;dsimp only[Option.getD];refine aB ?_;refine yL L 0 rfl ?_;dsimp only[List.set];refine pH (p:=HP.cI (eI (none,0) []) (eI.le (a:=(none,0)) (l:=[]))) d ?_;refine aY [1,0] rfl aC (fun _ h=>h) ?_;refine nM ?_;exact gF rfl rfl rfl fun e t=>⟨(none,0),rfl,trivial,t.turns hF aD (i:=0) rfl⟩
   ·have j:z.h0=2:=by simpa using k
    have n:jC z 0=some z.w0:=by simp[jC,j]
    have m:fU z 0={z with h0:=0,w0:=[]}:=by simp[fU,j]
    rw[n,m];unfold De;dsimp only[Option.getD];refine aB ?_;refine kd (fQ 0 11) ?_;refine aB ?_;refine kd (iU rfl) ?_;refine aB ?_;refine kd (fQ 0 11) ?_;refine qP 0 (t:=152) rfl rfl rfl aF (by simp[Value.cells,Value.oneCell']) (by simp[Value.cells]) ?_;dsimp only[List.set,Value.cells,gD];refine aB ?_;refine bE 1 3 ?_;refine pH (p:=HP.cI (eI (none,0) []) (eI.le (a:=(none,0)) (l:=[]))) d ?_;refine aY [0,2,3,1] rfl aC (fun _ h=>h) ?_;refine aN 1 3 ?_;refine yL (h:=h) (s:=s) (z:={z with h0:=0,w0:=[]}) {L with b0:=(none,0)} 0 rfl ?_;dsimp only[List.set];refine nM ?_;exact gF rfl rfl rfl fun e t=>⟨L.b0,rfl,trivial,t.turns hF aD (i:=0) rfl⟩
  ·refine dD func48 ntmps48 hp hF ?_;refine Su 0 rfl fun L=>?_;dsimp only[List.set,jV];refine aB ?_;refine aZ (fun e t=>Il 1 e) ?_;refine aB ?_;refine kd (fQ 1 13) ?_;refine aB ?_;refine aK rfl (fun k=>?_) (fun k=>?_)
   ·have n:jC z 1=none:=by simp[jC,k]
    have m:fU z 1=z:=by simp[fU,k]
    rw[n,m];unfold De;dsimp only[Option.getD];refine aB ?_;refine yL L 0 rfl ?_;dsimp only[List.set];refine pH (p:=HP.cI (eI (none,0) []) (eI.le (a:=(none,0)) (l:=[]))) d ?_;refine aY [1,0] rfl aC (fun _ h=>h) ?_;refine nM ?_;exact gF rfl rfl rfl fun e t=>⟨(none,0),rfl,trivial,t.turns hF aD (i:=0) rfl⟩
   ·have j:z.h1=2:=by simpa using k
    have n:jC z 1=some z.w1:=by simp[jC,j]
    have m:fU z 1={z with h1:=0,w1:=[]}:=by simp[fU,j]
    rw[n,m];unfold De;dsimp only[Option.getD];refine aB ?_;refine kd (fQ 1 13) ?_;refine aB ?_;refine kd (iU rfl) ?_;refine aB ?_;refine kd (fQ 1 13) ?_;refine qP 0 (t:=152) rfl rfl rfl aF (by simp[Value.cells,Value.oneCell']) (by simp[Value.cells]) ?_;dsimp only[List.set,Value.cells,gD];refine aB ?_;refine bE 1 4 ?_;refine pH (p:=HP.cI (eI (none,0) []) (eI.le (a:=(none,0)) (l:=[]))) d ?_;refine aY [0,2,3,1] rfl aC (fun _ h=>h) ?_;refine aN 1 4 ?_;refine yL (h:=h) (s:=s) (z:={z with h1:=0,w1:=[]}) {L with b1:=(none,0)} 0 rfl ?_;dsimp only[List.set];refine nM ?_;exact gF rfl rfl rfl fun e t=>⟨L.b1,rfl,trivial,t.turns hF aD (i:=0) rfl⟩
def zT(c:eN)(r:Int):Int:=if c.kind=112 then(if 1099511627776 < r*c.mul / c.div then 1099511627776 else r*c.mul / c.div) else if c.kind=100 then r / c.div else r
def Iy(s:aG):Nat→Nat→Int
 | 0,_=>0
 | k + 1, i => match s.aJ[i]? with
  | none=>0
  | some c=>if c.kind=111 then c.rate else zT c (match c.src with
   | []=>0
   | f::_=>Iy s k f.toNat)
def qL(s:aG)(i:Nat):Int:=Iy s (i+1) i
def Fm(s:aG)(st:List eE)(i:Int):Int:=if oG s st i then qL s i.toNat else 0
theorem aOD{s:aG}(hf:Fits eN.fit s.aJ):∀(c k:Nat),c < k→Iy s k c=Iy s (c+1) c:=by
 intro c
 induction c using Nat.strongRecOn with
 | _ c ih =>
  intro k h;obtain⟨k,rfl⟩:=Nat.exists_eq_add_of_lt h;rw[show c+k+1=(c+k)+1 from rfl];unfold Iy;cases e:s.aJ[c]? with
  | none=>rfl
  | some x =>
   dsimp only;cases d:x.src with
   | nil=>rfl
   | cons f fs=>
    have b:=(hf c x e).1 f (by rw[d];simp)
    have a:f.toNat < c:=by omega
    dsimp only;rw[ih f.toNat a (c+k) aA,ih f.toNat a c a]
theorem aFZ{s:aG}(hf:Fits eN.fit s.aJ){i:Nat}{c:eN}(a:s.aJ[i]? =some c):qL s i=if c.kind=111 then c.rate else zT c (match c.src with
  | []=>0
  | f::_=>qL s f.toNat):=by
 unfold qL;rw[Iy,a];dsimp only;cases d:c.src with
 | nil=>rfl
 | cons f fs=>
  have b:=(hf i c a).1 f (by rw[d];simp)
  dsimp only;rw[aOD hf f.toNat i aA]
theorem aOC{s:aG}(hf:Fits eN.fit s.aJ):∀i:Nat,0≤qL s i∧qL s i≤1099511627776:=by
 intro i
 induction i using Nat.strongRecOn with
 | _ i ih =>
  cases h:s.aJ[i]? with
  | none=>unfold qL Iy;rw[h];exact⟨Int.le_refl 0,by show(0:Int)≤1099511627776;omega⟩
  | some c =>
   rw[aFZ hf h];obtain⟨d,e⟩:=hf i c h
   have b:0≤(match c.src with | []=>0 | f::_=>qL s f.toNat)∧(match c.src with | []=>0 | f::_=>qL s f.toNat)≤1099511627776:=by
    cases l:c.src with
    | nil=>exact⟨Int.le_refl 0,by show(0:Int)≤1099511627776;omega⟩
    | cons f fs=>
     have:=d f (by rw[l];simp)
     exact ih f.toNat aA
   generalize (match c.src with | []=>0 | f::_=>qL s f.toNat)=r at b;rcases e with⟨a,_,j,k,_⟩ | ⟨a,_,_,j,k,n,o,_⟩ | ⟨a,_,_,_,j,k,_⟩ | ⟨a,_⟩ | ⟨a,_⟩
   ·rw[if_pos a];omega
   ·rw[if_neg aA,zT,if_pos a]
    have:0≤r*c.mul / c.div:=Int.ediv_nonneg (Int.mul_nonneg b.1 aA) aA
    split<;>omega
   ·rw[if_neg aA,zT,if_neg aA,if_pos a]
    have m:0≤r / c.div:=Int.ediv_nonneg b.1 aA
    have p:r / c.div≤r:=Int.ediv_le_self _ b.1
    omega
   ·rw[if_neg aA,zT,if_neg aA,if_neg aA];exact b
   ·rw[if_neg aA,zT,if_neg aA,if_neg aA];exact b
theorem aGa(n:Int)(a:1≤n)(b:n≤1000)(w:World):Cz 237 #[iv n] w (Rt (.bool true) w):=by
 refine aT func237 ntmps237 ?_;refine aB ?_;refine cN (t:=5) rfl (fun _=>?_) (fun h=>absurd a h);refine aB ?_;refine iV aD ?_;rw[decide_eq_true b]
theorem aKc(r m d:Int)(e:0≤r∧r≤1099511627776)(hm:1≤m∧m≤8)(hd:1≤d∧d≤4)(w:World):Cz 236 #[.int .u64 r,iv m,iv d] w (Rt (.tuple #[.int .u64 (if 1099511627776 < r*m / d then 0 else r*m / d),iv (if 1099511627776 < r*m / d then 3 else 0)]) w):=by
 have a:0≤r*m∧r*m≤1099511627776*8:=⟨Int.mul_nonneg e.1 aA,Int.mul_le_mul e.2 hm.2 aA aA⟩
 have f:0≤r*m / d∧r*m / d≤r*m:=⟨Int.ediv_nonneg a.1 aA,Int.ediv_le_self _ a.1⟩
 refine aT func236 ntmps236 ?_;refine aB ?_;refine cN (t:=11) rfl (fun h=>absurd h aA) (fun _=>?_);refine aB ?_;refine aZ (fun b t=>aGa m hm.1 aA b) ?_;refine aB ?_;refine aZ (fun b t=>aGa d hd.1 aA b) ?_;refine aB ?_;refine Bb (ds:=.int .i64) (kd:=.u64) aF aF rfl (wrap_u64 aA) aC ?_;refine aIy rfl rfl (c:=r*m) (wrap_u64 aA) aC ?_;refine aB ?_;refine Bb (ds:=.int .i64) (kd:=.u64) aF aF rfl (wrap_u64 aA) aC ?_;refine aDi rfl rfl (c:=r*m / d) aA (by rw[Int.tdiv_eq_ediv_of_nonneg a.1];exact wrap_u64 aA) aC ?_;refine aB ?_;refine aK rfl (fun h=>?_) (fun h=>?_)
 ·rw[if_pos h,if_pos h];refine aB ?_;exact gF rfl rfl rfl fun b t=>⟨rfl,t.below aD⟩
 ·rw[if_neg h,if_neg h];refine aB ?_;exact gF rfl rfl rfl fun b t=>⟨rfl,t.below aD⟩
theorem aQu(L:TL)(s:aG)(st:List eE)(V:s.dF)(y u:Nat):∀(i:Nat),i < s.aJ.length→∀w,vU w L s st→gG w y 0 (.pointer (some ⟨L.t,0,none⟩))→gG w u 0 (.func (.func 235) #[] #[pt y,pt u])→
  Cz 235 #[iv (i:Int),pt y,pt u] w (Rt (.int .u64 (qL s i)) w):=by
 intro i
 induction i using Nat.strongRecOn with
 | _ i ih =>
  intro T w J C D;obtain⟨b,off,c,a,x,Y,hx,hA,o,hs⟩:=J.node T
  have r:=aFZ V.t.aJ Y
  have h0:=J.r0
  rw[hA] at h0
  have H:=o.at_ (j:=0) rfl
  have k2:=o.at_ (j:=2) rfl
  have k3:=o.at_ (j:=3) rfl
  have k4:=o.at_ (j:=4) rfl
  have R:=o.at_ (j:=10) rfl
  have X:∀{e},Below w.heap.size w e→gG e y 0 (.pointer (some ⟨L.t,0,none⟩)):=fun n=>⟨Nat.lt_of_lt_of_le C.1 n.size,(n.cell (p:=⟨_,0,none⟩) C.1).trans C.2⟩
  have K:∀{e},Below w.heap.size w e→gG e u 0 (.func (.func 235) #[] #[pt y,pt u]):=fun n=>⟨Nat.lt_of_lt_of_le D.1 n.size,(n.cell (p:=⟨_,0,none⟩) D.1).trans D.2⟩
  obtain⟨A,l⟩:=V.t.aJ i c Y;refine aT func235 ntmps235 ?_;refine aB ?_;refine kd (dat i (off+i*11)) ?_;rcases l with⟨m,E,_⟩ | l
  ·rw[m] at H;rw[if_pos m] at r;refine aB ?_;exact dL (by rw[r])
  obtain⟨f,G,O⟩:∃(f:Nat) (G:List Int),c.src=(f:Int)::G:=by
   cases E:c.src with
   | nil=>rw[E] at l;simp at l
   | cons f G=>exact⟨f.toNat,G,by have:=(A f (by rw[E];simp)).1;rw[Int.toNat_of_nonneg this]⟩
  have Z:f < i:=by have:=(A f (by rw[O];simp)).2;omega
  have z:=aOC V.t.aJ f
  have h:∀e,Below w.heap.size w e→Cz 197 #[.pointer (some ⟨L.t,0,none⟩),iv (i:Int)] e (Rt (iv (f:Int)) e):=fun e n=>My L s st i f c G e (J.below n) Y O
  have k:∀e,Below w.heap.size w e→Cz 235 #[iv (f:Int),pt y,pt u] e (Rt (.int .u64 (qL s f)) e):=fun e n=>ih f Z aA e (J.below n) (X n) (K n)
  rw[O] at r
  have d:qL s i=if c.kind=111 then c.rate else zT c (qL s f):=r
  clear r;rcases l with⟨m,_,_,U,N,I,F,_⟩ | ⟨m,_,_,_,I,F,_⟩ | ⟨m,_⟩ | ⟨m,_⟩
  ·rw[m] at H;rw[if_neg aA,zT,if_pos m] at d;refine aB ?_;refine mI ?_;refine jP ?_;refine tN (fun e t=>h e (t.below aD)) ?_;refine Ei (fi:=[]) (vs:=[iv (f:Int)]) (ca:=[pt y,pt u]) (fun e t=>k e (t.below aD)) ?_;refine jF ?_;refine aB ?_;refine mI ?_;refine jP ?_;refine tN (fun e t=>aKc _ c.mul c.div z ⟨U,N⟩ ⟨I,F⟩ e) ?_;refine jF ?_;refine aB ?_
   by_cases B:1099511627776 < qL s f*c.mul / c.div
   ·rw[if_pos B] at d;rw[if_pos B,if_pos B];refine aB ?_;exact dL (by rw[d])
   ·rw[if_neg B] at d;rw[if_neg B,if_neg B];refine aB ?_;exact dL (by rw[d])
  ·rw[m] at H;rw[if_neg aA,zT,if_neg aA,if_pos m] at d
   have M:byF c=c.div:=by rw[byF,if_pos m]
   rw[M] at R
   have B:0≤qL s f / c.div∧qL s f / c.div≤qL s f:=⟨Int.ediv_nonneg z.1 aA,Int.ediv_le_self _ z.1⟩
   refine aB ?_;refine mI ?_;refine jP ?_;refine tN (fun e t=>h e (t.below aD)) ?_;refine Ei (fi:=[]) (vs:=[iv (f:Int)]) (ca:=[pt y,pt u]) (fun e t=>k e (t.below aD)) ?_;refine jF ?_;refine aB ?_;refine Bb (ds:=.int .i64) (kd:=.u64) aF aF rfl (wrap_u64 aA) aC ?_;refine aDi rfl rfl (c:=qL s f / c.div) aA (by rw[Int.tdiv_eq_ediv_of_nonneg z.1];exact wrap_u64 aA) aC ?_;refine aB ?_;exact dL (by rw[d])
  ·rw[m] at H;rw[if_neg aA,zT,if_neg aA,if_neg aA] at d;refine aB ?_;refine mI ?_;refine jP ?_;refine tN (fun e t=>h e (t.below aD)) ?_;refine Ei (fi:=[]) (vs:=[iv (f:Int)]) (ca:=[pt y,pt u]) (fun e t=>k e (t.below aD)) ?_;refine jF ?_;refine aB ?_;exact dL (by rw[d])
  ·rw[m] at H;rw[if_neg aA,zT,if_neg aA,if_neg aA] at d;refine aB ?_;refine mI ?_;refine jP ?_;refine tN (fun e t=>h e (t.below aD)) ?_;refine Ei (fi:=[]) (vs:=[iv (f:Int)]) (ca:=[pt y,pt u]) (fun e t=>k e (t.below aD)) ?_;refine jF ?_;refine aB ?_;exact dL (by rw[d])
theorem aQr(L:TL)(s:aG)(st:List eE)(e:s.dF)(i:Int)(w:World)(h:vU w L s st):
  Cz 224 #[.pointer (some ⟨L.t,0,none⟩),iv i] w (Rt (.int .u64 (Fm s st i)) w):=by
 unfold Fm;cases c:oG s st i
 ·rw[if_neg aC];refine aT func224 ntmps224 ?_;refine aB ?_;refine bY fun b=>?_;refine aB ?_;refine aZ (fun a t=>Sd L s st e i a (h.below (t.below aD))) ?_;rw[c];refine aB ?_;exact dL
 ·rw[if_pos rfl]
  have k:bO s.aJ.length i=true:=by
   unfold oG at c;exact(Bool.and_eq_true _ _▸c).1
  obtain⟨n,rfl⟩:∃n:Nat,i=n:=⟨i.toNat,by have:=of_decide_eq_true k;omega⟩
  have d:n < s.aJ.length:=by have:=of_decide_eq_true k;omega
  refine aT func224 ntmps224 ?_;refine aB ?_;refine bY fun b=>?_;refine aB ?_;refine aZ (fun a t=>Sd L s st e n a (h.below (t.below aD))) ?_;rw[c];refine aB ?_;refine cQ fun f=>?_;refine aB ?_;refine kK (vf:=[]) (vc:=[pt b,pt f]) rfl rfl aC ?_;refine aB ?_;refine Wf (fi:=[]) (vs:=[iv (n:Int)]) (ca:=[pt b,pt f]) (fun a t=>aQu L s st e b f n d a (h.below (t.below aD)) ((t.box (i:=1) rfl).at_ (j:=0) rfl) ((t.box (i:=0) rfl).at_ (j:=0) rfl)) ?_;refine aB ?_;exact dL
def oY(s:aG)(x:aP)(l:List Int):List Int:=
 let w:=l.headD 0
 if cT w 0 8=0 then[131072]
 else if cT w 10 8=16∧cT w 0 8=1 then[IntKind.u32.wrap (s.domains.length+s.aJ.length*256+s.bA.length*65536+s.aH.length*16777216)]
 else if cT w 10 8=17∧cT w 0 8=5 then[Fq (qV x.dm (l.getD 1 0))]
 else if cT w 10 8=20∧cT w 0 8=6 then[IntKind.u32.wrap (Fm s x.ck (l.getD 1 0)),IntKind.u32.wrap (Fm s x.ck (l.getD 1 0) / 4294967296)] else[]
theorem aNC(L:HL)(s:aG)(x:aP)(w:World)(c:s.dF)(i:Int)(b:tV w L s x):Cz 194 #[.pointer (some ⟨L.h,0,none⟩),iv i] w (Rt (.int .u64 (Fm s x.ck i)) w):=by
 have d:=b.r0.at_ (j:=0) rfl
 refine aT func194 ntmps194 ?_;refine aB ?_;refine aZ (fun a t=>zO L s x a (b.below (t.below aD))) ?_;refine aB ?_;refine aZ (fun a t=>aQr L.T s x.ck c i a (b.tree.below (t.below aD))) ?_;refine aB ?_;exact dL
theorem aGI{α:Type}{cs vs:List α}{o:Nat}(b:(cs.drop o).take vs.length=vs){j:Nat}{v:α}(hj:vs[j]? =some v):cs[o+j]? =some v:=by
 have a:=(List.getElem?_eq_some_iff.1 hj).1
 rw[←b,List.getElem?_take_of_lt a,List.getElem?_drop] at hj;exact hj
theorem aO0(f:Nat)(L:gB)(s:aG)(z:bN)(hL:HL)(x:aP)(J:s.dF)(T:tY s x.dm)(A:Option Addr)(c:Nat)(v:Int)(l:List Int)(w:World)(N:Au w f hL.h L s z)(hh:tV w hL s x)(hs:aM (all w) 1 A (v::l).length (eJ (v::l)))
  (hu:cT v 28 4=0) (I:(cT v 10 8=17∧cT v 0 8=5)∨(cT v 10 8=20∧cT v 0 8=6)→∃i,l=[i]∧0≤i∧i < 4294967296):
  Cz 135 #[pt f,.slice A (v::l).length c] w (fun y w'=>(∃r,y=.returned r∧Zf (oY s x (v::l)) r w w')∧Below w.heap.size w w'):=by
 obtain⟨b,off,rfl,G⟩:=aM.u32 hs aD
 have k0:=G 0 v rfl
 have hlen:(v::l).length=l.length+1:=rfl
 have hE:sY v=0:=by rw[sY,if_neg (by simp[hu])]
 have hU:Cs v=Dn (cT v 0 8) (cT v 8 2) (cT v 10 8) (cT v 18 10):=by rw[Cs,if_neg (by simp[hu])]
 have kf:=N.r0.at_ (j:=0) rfl
 have k4:eA w f 1 [.slice L.a1.1 s.aJ.length L.a1.2,.slice L.a2.1 s.domains.length L.a2.2,.slice L.a3.1 s.bA.length L.a3.2,.slice L.a4.1 s.aH.length L.a4.2]:=⟨N.r0.1,fun j v hj=>by
  have:=N.r0.2 (1+j) v (aGI rfl hj)
  rwa [Nat.zero_add] at this⟩
 have hnc:=J.t.nc
 have hnd:=J.t.nd
 have hnr:=J.t.nr
 have Dl:=J.t.nv
 refine aT func135 ntmps135 ?_;refine aE ?_;refine aZ (fun u t=>aD9 v u) ?_;rw[hE,hU];dsimp only[Dn];refine aB ?_;refine cQ fun g1=>?_;refine aB ?_;refine aK rfl (fun h1=>?_) (fun h1=>?_)
 ·have d:oY s x (v::l)=[131072]:=if_pos (by simpa using h1)
  rw[d];refine aB ?_;refine eT fun R=>?_;refine aB ?_;refine dK [] [0] [] aD rfl aC aC fun q F _ k=>?_;obtain⟨M,m,a⟩:=F 0 _ aD rfl
  have e:=rN (Y:=q.Z) (sz:=1) (n:=1) (c:=1) m a rfl
  exact aW (h:=fun u st=>⟨_,rfl,_,_,rfl,aM.le e (st.nL aD (k aD aD))⟩)
 ·have H:cT v 0 8≠0:=by simpa using h1
  refine aB ?_;refine cN (t:=26) rfl (fun h2=>?_) (fun h2=>?_)
  ·have p:cT v 10 8=16:=by simpa using h2
   refine aB ?_;refine aK rfl (fun E=>?_) (fun E=>?_)
   ·have o:cT v 0 8=1:=by simpa using E
    have d:oY s x (v::l)=[IntKind.u32.wrap (s.domains.length+s.aJ.length*256+s.bA.length*65536+s.aH.length*16777216)]:=(if_neg H).trans (if_pos ⟨p,o⟩)
    rw[d];refine aB ?_;refine cQ fun R=>?_;refine aB ?_;refine Kf rfl rfl (c:=s.aJ.length*256) aC (by show IntKind.i64.wrap ((s.aJ.length:Int)*256)=_;exact iY aA) aC ?_;refine aB ?_;refine Kf rfl rfl (c:=s.bA.length*65536) aC (by show IntKind.i64.wrap ((s.bA.length:Int)*65536)=_;exact iY aA) aC ?_;refine aB ?_;refine Kf rfl rfl (c:=s.aH.length*16777216) aC (by show IntKind.i64.wrap ((s.aH.length:Int)*16777216)=_;exact iY aA) aC ?_;refine aB ?_;refine Bb (ds:=.int .i64) (kd:=.u32) aF aF rfl rfl aC ?_;refine eT fun g3=>?_;refine aB ?_;refine dK [] [0] [] aD rfl aC aC fun q F _ k=>?_;obtain⟨M,m,a⟩:=F 0 _ aD rfl
    have e:=rN (Y:=q.Z) (sz:=1) (n:=1) (c:=1) m a rfl
    exact aW (h:=fun u st=>⟨_,rfl,_,_,rfl,aM.le e (st.nL aD (k aD aD))⟩)
   ·have o:cT v 0 8≠1:=by simpa using E
    have d:oY s x (v::l)=[]:=(if_neg H).trans ((if_neg fun h=>o h.2).trans ((if_neg fun h=>by have:=h.1;simp[p] at this).trans (if_neg fun h=>by have:=h.1;simp[p] at this)))
    rw[d];refine aB ?_;refine cN (t:=60) rfl (fun B=>absurd B (by simp[p])) (fun _=>?_);refine aB ?_;refine cN (t:=80) rfl (fun B=>absurd B (by simp[p])) (fun _=>?_);refine aB ?_;exact aW (h:=fun _ _=>⟨_,rfl,_,_,rfl,rfl,fun h=>absurd h aD⟩)
  ·have p:cT v 10 8≠16:=by simpa using h2
   refine aB ?_;refine cN (t:=60) rfl (fun E=>?_) (fun E=>?_)
   ·have C:cT v 10 8=17:=by simpa using E
    refine aB ?_;refine aK rfl (fun B=>?_) (fun B=>?_)
    ·have o:cT v 0 8=5:=by simpa using B
     obtain⟨i,rfl,V,X⟩:=I (.inl ⟨C,o⟩)
     have D:[v,i].length=2:=rfl
     have d:oY s x [v,i]=[Fq (qV x.dm i)]:=(if_neg H).trans ((if_neg fun h=>p h.1).trans (if_pos ⟨C,o⟩))
     have k1:=G 1 i rfl
     rw[d];refine aB ?_;refine jG [1,2,3,5,6,7] ?_;refine bQ 0 ?_;refine bQ 4 ?_;refine aO 1 ?_;refine aO 2 ?_;refine aO 3 ?_;refine aO 5 ?_ (dG:=dat (sz:=1) 1 (off+1));refine aO 6 ?_;refine aO 7 ?_ (dG:=Gk (ds:=.int .u32) aF aF rfl (iY aA));refine aQ 8 ?_;refine aZ (fun u t=>aB5 hL s x u T i (hh.below (t.below aD))) ?_;refine cS ?_;refine aQ 9 ?_;refine aZ (fun u t=>aOy _ u) ?_;refine cS ?_;refine aQ 10 ?_;refine eT fun R=>?_;refine cS ?_;refine aQ 11 ?_;refine bJ ?_;refine cS ?_;refine eM ?_;refine aB ?_;refine dK [] [0] [] aD rfl aC aC fun q F _ k=>?_;obtain⟨M,m,a⟩:=F 0 _ aD rfl
     have e:=rN (Y:=q.Z) (sz:=1) (n:=1) (c:=1) m a rfl
     exact aW (h:=fun u st=>⟨_,rfl,_,_,rfl,aM.le e (st.nL aD (k aD aD))⟩)
    ·have o:cT v 0 8≠5:=by simpa using B
     have d:oY s x (v::l)=[]:=(if_neg H).trans ((if_neg fun h=>p h.1).trans ((if_neg fun h=>o h.2).trans (if_neg fun h=>by have:=h.1;simp[C] at this)))
     rw[d];refine aB ?_;refine cN (t:=80) rfl (fun B=>absurd B (by simp[C])) (fun _=>?_);refine aB ?_;exact aW (h:=fun _ _=>⟨_,rfl,_,_,rfl,rfl,fun h=>absurd h aD⟩)
   ·have C:cT v 10 8≠17:=by simpa using E
    refine aB ?_;refine cN (t:=80) rfl (fun U=>?_) (fun U=>?_)
    ·have K:cT v 10 8=20:=by simpa using U
     refine aB ?_;refine aK rfl (fun O=>?_) (fun O=>?_)
     ·have o:cT v 0 8=6:=by simpa using O
      obtain⟨i,rfl,V,X⟩:=I (.inr ⟨K,o⟩)
      have D:[v,i].length=2:=rfl
      have d:oY s x [v,i]=[IntKind.u32.wrap (Fm s x.ck i),IntKind.u32.wrap (Fm s x.ck i / 4294967296)]:=(if_neg H).trans ((if_neg fun h=>p h.1).trans ((if_neg fun h=>C h.1).trans (if_pos ⟨K,o⟩)))
      have k1:=G 1 i rfl
      rw[d];refine aB ?_;refine jG [1,2,3,5,6,7] ?_;refine bQ 0 ?_;refine bQ 4 ?_;refine aO 1 ?_;refine aO 2 ?_;refine aO 3 ?_;refine aO 5 ?_ (dG:=dat (sz:=1) 1 (off+1));refine aO 6 ?_;refine aO 7 ?_ (dG:=Gk (ds:=.int .u32) aF aF rfl (iY aA));refine aQ 8 ?_;refine aZ (fun u t=>aNC hL s x u J i (hh.below (t.below aD))) ?_;refine cS ?_;refine aQ 9 ?_;refine bJ ?_;refine cS ?_;refine eM ?_;refine aB ?_;refine Bb (ds:=.int .u64) (kd:=.u32) aF aF rfl rfl aC ?_;refine aB ?_;refine aIw rfl rfl (c:=Fm s x.ck i / 4294967296) aC (by show Int.fdiv _ (2 ^ 32)=_;rw[Int.fdiv_eq_ediv_of_nonneg _ aC];rfl) aC ?_;refine Bb (ds:=.int .u64) (kd:=.u32) aF aF rfl rfl aC ?_;refine eT fun R=>?_;refine aB ?_;refine dK [] [0] [] aD rfl aC aC fun q F _ k=>?_;obtain⟨M,m,a⟩:=F 0 _ aD rfl
      have e:=rN (Y:=q.Z) (sz:=1) (n:=2) (c:=2) m a rfl
      exact aW (h:=fun u st=>⟨_,rfl,_,_,rfl,aM.le e (st.nL aD (k aD aD))⟩)
     ·have o:cT v 0 8≠6:=by simpa using O
      have d:oY s x (v::l)=[]:=(if_neg H).trans ((if_neg fun h=>p h.1).trans ((if_neg fun h=>C h.1).trans (if_neg fun h=>o h.2)))
      rw[d];refine aB ?_;exact aW (h:=fun _ _=>⟨_,rfl,_,_,rfl,rfl,fun h=>absurd h aD⟩)
    ·have K:cT v 10 8≠20:=by simpa using U
     have d:oY s x (v::l)=[]:=(if_neg H).trans ((if_neg fun h=>p h.1).trans ((if_neg fun h=>C h.1).trans (if_neg fun h=>K h.1)))
     rw[d];refine aB ?_;exact aW (h:=fun _ _=>⟨_,rfl,_,_,rfl,rfl,fun h=>absurd h aD⟩)
def gY(f:Nat)(hL:HL)(s:aG)(z:bN)(x:aP):HP:=HP.many [At f hL.h s z,dS hL s x]
def jO(z:bN)(a:Nat):List Int:=if a=0 then z.w0 else z.w1
def uR(s:aG)(x:aP)(l:List Int)(st:Int):List Int:=l.headD 0::IntKind.u32.wrap st::(if st=0 then oY s x l else[])
def Vj(z:bN)(a:Nat)(hs:Int)(l:List Int):bN:=if a=0 then {z with h0:=hs,w0:=l} else {z with h1:=hs,w1:=l}
def mP(s:aG)(x:aP)(z:bN)(a:Nat)(st:Int):bN:=Vj z a 2 (uR s x (jO z a) st)
structure sK(l:List Int):Prop where
 ne:∃v r,l=v::r∧cT v 28 4=0∧((cT v 10 8=17∧cT v 0 8=5)∨(cT v 10 8=20∧cT v 0 8=6)→∃i,r=[i]∧0≤i∧i < 4294967296)
theorem aEU(s:aG)(x:aP)(l:List Int):(oY s x l).length≤2:=by
 unfold oY;dsimp only;split
 ·simp
 ·split
  ·simp
  ·split
   ·simp
   ·split<;>simp
section
variable{v:Int}
theorem eI.at_{a:AC}{w:World}(c:eI a (v::r) (all w)):∃b off,a.1=some ⟨b,off,none⟩∧w.cell? ⟨b,off,none⟩=some (.int .u32 v):=by
 obtain⟨b,off,e,d⟩:=aM.u32 c aD;exact⟨b,off,e,by have:=(d 0 v rfl).2;simpa using this⟩
end
section
variable{P:Program}
theorem Rd.cK(i:Nat){o:Nat}{v:Value}(hi:H[i]? =some (iK f h L s z))(a:(jV h L s z)[o]? =some v):Rd w0 R H f o v:=fun w t=>by
 have:=((t.Bt i hi).r0.at_ a).2
 rwa [Nat.zero_add] at this
theorem aV.cK(i:Nat){o:Nat}{vs:List Value}(hi:H[i]? =some (iK f h L s z))(a:((jV h L s z).drop o).take vs.length=vs):aV w0 R H f o vs:=.of fun _ _ b=>Rd.cK i hi (aGI a b)
end
def vR(L:gB)(b:Nat):AC:=if b=0 then L.b0 else L.b1
theorem aFR{b:Nat}(a:b < 2):(jV h L s z)[12+b*2]? =some (.slice (vR L b).1 (jO z b).length (vR L b).2):=by
 obtain rfl | rfl:b=0∨b=1:=by omega
 ·rfl
 ·rfl
theorem Au.box{w:World}{f:Nat}(k:Au w f h L s z){b:Nat}(a:b < 2):aM (all w) 1 (vR L b).1 (jO z b).length (eJ (jO z b)):=by
 obtain rfl | rfl:b=0∨b=1:=by omega
 ·exact k.b0
 ·exact k.b1
theorem Au.stR{w:World}{f:Nat}(k:Au w f h L s z):tR (all w) z.x z.y (.agg #[.slice L.x1.1 z.x.d.length L.x1.2,.slice L.x2.1 z.x.c.length L.x2.2,.slice L.x3.1 z.x.l.length L.x3.2,.slice L.y1.1 z.y.d.length L.y1.2,.slice L.y2.1 z.y.c.length L.y2.2,.slice L.y3.1 z.y.l.length L.y3.2]):=
 ⟨_,_,_,_,_,_,_,_,_,_,_,_,rfl,k.st.1,k.st.2.1,k.st.2.2.1,k.st.2.2.2.1,k.st.2.2.2.2.1,k.st.2.2.2.2.2⟩
section
variable{v:Int}
theorem aSh{a:Nat}(l:a < 2)(i:Nat)(hi:H[i]? =some (iK f h L s z))(hw:jO z a=v::r)(k:∀b off,(vR L a).1=some ⟨b,off,none⟩→Rd w0 R H b off (.int .u32 v)→XK N w0 K e R H):XK N w0 K e R H:=fun a w n st=>by
 obtain⟨b,off,j,_⟩:=eI.at_ (hw▸(st.Bt i hi).box l);refine k b off j (fun o t=>?_) a w n st;obtain⟨p,d,c,m⟩:=eI.at_ (hw▸(t.Bt i hi).box l);rw[j] at c;cases c;exact m
end
theorem aBI(f:Nat)(hL:HL)(s:aG)(z:bN)(x:aP)(K:s.dF)(C:gQ hL s)(j:cR s x)(a:Nat)(D:a < 2)(st:Int)(i:st=0→sK (jO z a))(w:World)(F:Nat→Prop)(hp:(gY f hL s z x).sat F w)(hF:∀b,F b→b < w.heap.size):
  Cz 80 #[pt f,iv (a:Int),.int .i32 st] w (Wr (.tuple #[]) (gY f hL s (mP s x z a st) x) w F):=by
 unfold mP uR;generalize e:jO z a=l at i⊢;refine dD func80 ntmps80 hp hF ?_;refine bE 0 0 ?_;refine iQ 0 fun L=>?_;refine aB ?_;refine kd (fQ a (11+a*2)) ?_;refine aB ?_;refine kd (bP rfl (Rd.cK 0 rfl (v:=.slice (vR L a).1 l.length (vR L a).2) (by rw[show 11+a*2+1=12+a*2 by omega,←e];exact aFR D))) ?_;refine aE ?_;refine Nr (α:=Unit) (fun _=>[(7,.int .u32 (l.headD 0)),(6,.slice (vR L a).1 l.length (vR L a).2),(2,.int .i32 st),(1,iv (a:Int)),(0,pt f)]) (fun _=>[iK f hL.h L s z,HP.many [cM,dS hL s x]]) (fun _=>True) ?_ fun _ _=>?_
 ·refine aK rfl (fun h=>?_) (fun h=>?_)
  ·cases l with
   | nil=>simp at h
   | cons v r=>
    refine aSh D 0 rfl e fun b off k O=>?_;rw[k];refine aE ?_;exact dO ()
  ·cases l with
   | nil=>
    refine aE ?_;exact dO ()
   | cons v r=>simp at h
 refine aE ?_;refine Nr (α:=AC) (fun q=>[(8,.slice q.1 (if st=0 then oY s x l else[]).length q.2),(7,.int .u32 (l.headD 0)),(2,.int .i32 st),(1,iv (a:Int)),(0,pt f)]) (fun q=>[HP.cI (eI q (if st=0 then oY s x l else[])) (eI.le (a:=q) (l:=if st=0 then oY s x l else[])),iK f hL.h L s z,HP.many [cM,dS hL s x]]) (fun _=>True) ?_ fun q _=>?_
 ·refine aK rfl (fun h=>?_) (fun h=>?_)
  ·rw[if_pos h];obtain⟨v,r,rfl,J,y⟩:=(i h).ne;refine bE 1 1 ?_;refine aE ?_
   refine kN [] (fun N w I=>Zf (oY s x (v::r)) N w I) (fun m t=>by
    have E:=t.Bt 1 rfl
    have d:=E.box D
    obtain⟨b,off,k,_⟩:=eI.at_ (e▸d);rw[e,k] at d
    have:=aO0 f _ s z hL x K j.dm _ (vR L a).2 v r m E (t.mU 0 rfl C j) d J y
    rw[←k] at this
    exact this) ?_
   rintro _ R T ⟨G,H,rfl,c⟩ A _ n
   have c:=c.le A
   refine aN 1 1 ?_;refine Gr (Φ:=eI (G,H) (oY s x (v::r))) (hm:=eI.le) (n aD) (fun p hp b e=>by simp at hp;subst hp;exact e.1) c ?_;refine aE ?_;exact dO (G,H)
  ·rw[if_neg h];refine pH (p:=HP.cI (eI (none,0) []) (eI.le (a:=(none,0)) (l:=[]))) (fun w=>Xk _ rfl) ?_;refine aE ?_;exact dO (none,0)
 have B:(if st=0 then oY s x l else[]).length≤2:=by
  split
  ·exact aEU s x l
  ·simp
 generalize V:(if st=0 then oY s x l else[])=M at B⊢;refine bE 1 0 ?_;refine jG [7,8] ?_;refine bQ 0 ?_;refine bQ 1 ?_;refine bQ 2 ?_;refine bQ 3 ?_;refine bQ 4 ?_;refine aO 7 ?_;refine aO 8 ?_;refine aQ 5 ?_;refine fK (Zg (l.headD 0::IntKind.u32.wrap st::M)) (fun m t=>aRk _ st _ rfl q.1 M.length q.2 M m (t.cI 1 rfl) rfl aA) ?_;rintro _ _ U ⟨u,o,rfl,rfl⟩ _;dsimp only[List.cons_append,List.nil_append];refine bH ?_;refine aQ 6 ?_;refine kd (iU rfl) ?_;refine bH ?_;refine aQ 9 ?_;refine kd (fQ a (11+a*2)) ?_;refine cS ?_;refine aQ 10 ?_;refine qP 1 (t:=152) rfl rfl rfl aF (by simp[Value.cells,Value.oneCell']) (by simp[Value.cells,jV];omega) ?_;dsimp only[List.set];refine cS ?_;refine eM ?_;refine wW 0 (Φ:=eI (u,o) (l.headD 0::IntKind.u32.wrap st::M)) (hm:=eI.le) rfl (fun p hp=>hp) ?_;obtain rfl | rfl:a=0∨a=1:=by omega
 ·refine bE 3 3 ?_;refine aY [1,2,4,5] rfl aC (R':=[⟨w,fun b=>b < w.heap.size∧¬F b⟩]) aD ?_;refine aN 1 3 ?_;refine yL (h:=hL.h) (s:=s) (z:={z with h0:=2,w0:=l.headD 0::IntKind.u32.wrap st::M}) {L with b0:=(u,o)} 0 rfl ?_;dsimp only[List.set];refine aN 0 0 ?_;exact fO 0 hF
 ·refine bE 3 4 ?_;refine aY [1,2,4,5] rfl aC (R':=[⟨w,fun b=>b < w.heap.size∧¬F b⟩]) aD ?_;refine aN 1 4 ?_;refine yL (h:=hL.h) (s:=s) (z:={z with h1:=2,w1:=l.headD 0::IntKind.u32.wrap st::M}) {L with b1:=(u,o)} 0 rfl ?_;dsimp only[List.set];refine aN 0 0 ?_;exact fO 0 hF
def kB(z:bN)(a:Nat):Int:=if a=0 then z.h0 else z.h1
def nK(z:bN):Option Nat:=if kB z (1 - z.last).toNat=1 then some (1 - z.last).toNat else if kB z z.last.toNat=1 then some z.last.toNat else none
def jS(s:aG)(x:aP):List Int:=(List.range s.aH.length).map fun i=>(kS x.wt i:Int)
theorem aOr(f:Nat)(hL:HL)(s:aG)(z:bN)(x:aP)(hl:z.last=0∨z.last=1)(c:nK z=none)(w:World)(F:Nat→Prop)(hp:(gY f hL s z x).sat F w)(hF:∀b,F b→b < w.heap.size):
  Cz 78 #[pt f] w (Wr (.bool false) (gY f hL s z x) w F):=by
 have a:z.h0≠1∧z.h1≠1:=by
  unfold nK at c;rcases hl with h | h<;>rw[h] at c<;>simp[kB] at c<;>by_cases p:z.h0=1<;>by_cases q:z.h1=1<;>simp[p,q] at c⊢
 refine dD func78 ntmps78 hp hF ?_;refine bE 0 0 ?_;refine Su 0 rfl fun L=>?_;dsimp only[List.set,jV];rcases hl with hl | hl<;>rw[hl]
 ·refine aB ?_;refine kd (fQ 1 13) ?_;refine aB ?_;refine aK rfl (fun _=>?_) (fun h=>absurd h (by simp[a.2]));refine aB ?_;refine kd (fQ 0 11) ?_;refine aB ?_;refine aK rfl (fun _=>?_) (fun h=>absurd h (by simp[a.1]));refine aB ?_;rw[←hl];refine yL (h:=hL.h) (s:=s) (z:=z) L 0 rfl ?_;dsimp only[List.set];refine aN 0 0 ?_;exact bU 0 hF
 ·refine aB ?_;refine kd (fQ 0 11) ?_;refine aB ?_;refine aK rfl (fun _=>?_) (fun h=>absurd h (by simp[a.1]));refine aB ?_;refine kd (fQ 1 13) ?_;refine aB ?_;refine aK rfl (fun _=>?_) (fun h=>absurd h (by simp[a.2]));refine aB ?_;rw[←hl];refine yL (h:=hL.h) (s:=s) (z:=z) L 0 rfl ?_;dsimp only[List.set];refine aN 0 0 ?_;exact bU 0 hF
def Th(P:Program)(c:Code)(Q:Exit→Act→World→Prop):Nat→Act→World→Prop
 | 0=>fun _ _=>False
 | n+1=>c.wp P (Exit.then (Th P c Q n) Q)
section
variable{P:Program}{c:Code}{n:Nat}
theorem aRN(n:Nat)(h:XK N w0 (Th P c Q n) e R H):XK N w0 ((Code.loop c).wp P Q) e R H:=fun a w f st=>by
 refine Zy (Th P c Q) n (h a w f st) fun n a w d=>?_;cases n with
 | zero=>exact absurd d (fun h=>h)
 | succ n=>
  refine wp_mono d fun x j i b=>?_;cases x with
  | normal=>exact⟨n,Nat.lt_succ_self n,b⟩
  | _=>exact b
theorem Zc{y:Code}{x:Code}(M:Env→List Piece→List HP→Prop)(h:XK N w0 (x.wp P (Exit.then (fun b w'=>∃e' R' H',M e' R' H'∧eH N e' b∧St w0 R' H' w') Q)) e R H)
  (hy:∀e' R' H',M e' R' H'→XK N w0 (y.wp P Q) e' R' H'):XK N w0 (x.wp P (Exit.then (y.wp P Q) Q)) e R H:=fun a w j st=>
 wp_mono (h a w j st) fun x b w' f=>by
  cases x with
  | normal=>
   obtain⟨e',R',H',i,c,d⟩:=f;exact hy e' R' H' i b w' c d
  | _=>exact f
theorem aCz(h:XK N w0 (c.wp P (Exit.then (Th P c Q n) Q)) e R H):XK N w0 (Th P c Q (n+1)) e R H:=h
end
theorem aPm(x y:bL)(ag:Nat)(k id:Int):(eF x ag k id).d.length=x.d.length∧(eF x ag k id).c.length=x.c.length∧(eF x ag k id).l.length=x.l.length∧(fW y ag k id).d.length=y.d.length∧(fW y ag k id).c.length=y.c.length∧(fW y ag k id).l.length=y.l.length:=by
 have h:∀z:bL,(gI z k id).d.length=z.d.length∧(gI z k id).c.length=z.c.length∧(gI z k id).l.length=z.l.length:=fun z=>by
  unfold gI;split
  ·exact⟨Ku _ _ _,rfl,rfl⟩
  ·split
   ·exact⟨rfl,Ku _ _ _,rfl⟩
   ·split
    ·exact⟨rfl,rfl,Ku _ _ _⟩
    ·exact⟨rfl,rfl,rfl⟩
 unfold eF fW;split
 ·exact⟨(h x).1,(h x).2.1,(h x).2.2,rfl,rfl,rfl⟩
 ·exact⟨rfl,rfl,rfl,(h y).1,(h y).2.1,(h y).2.2⟩
theorem aDX(k id:Int)(z:bL):((∀a b c,gT k a b c=sn)∧gI z k id=z)∨((∀a b c,gT k a b c=a)∧gI z k id=⟨lZ z.d id (decide (gE k)),z.c,z.l⟩)∨((∀a b c,gT k a b c=b)∧gI z k id=⟨z.d,lZ z.c id (decide (gE k)),z.l⟩)∨((∀a b c,gT k a b c=c)∧gI z k id=⟨z.d,z.c,lZ z.l id (decide (gE k))⟩):=by
 by_cases e:k=117∨k=100∨k=107
 ·exact .inr (.inl ⟨fun a b c=>by rw[gT,if_pos e],by rw[gI,if_pos e]⟩)
 by_cases f:k=99∨k=111
 ·exact .inr (.inr (.inl ⟨fun a b c=>by rw[gT,if_neg e,if_pos f],by rw[gI,if_neg e,if_pos f]⟩))
 by_cases h:k=114∨k=97
 ·exact .inr (.inr (.inr ⟨fun a b c=>by rw[gT,if_neg e,if_neg f,if_pos h],by rw[gI,if_neg e,if_neg f,if_pos h]⟩))
 exact .inl ⟨fun a b c=>by rw[gT,if_neg e,if_neg f,if_neg h],by rw[gI,if_neg e,if_neg f,if_neg h]⟩
theorem aL6{l:List Bool}{id:Int}{n:Nat}{cs:List Value}{b:Bool}(h:cs.take n=bM l)(hi:0≤id∧id < (l.length:Int)):(cs.set id.toNat (.bool b)).take (n*1)=bM (lZ l id b):=by
 rw[Nat.mul_one,←aQZ _ hi,←h,List.take_set]
theorem Nn{N:cO}{w0:World}{e:Env}{R:List Piece}{H H':List HP}{K:Act→World→Prop}{t:TypeId}{A:Option Addr}{n c:Nat}{xs:List Value}(i:Nat)(d:e.get 10=some (.slice A n c))(b:xQ (i::(List.range 9).filter (· !=i)) H=some (HP.own t 1 (.slice A n c) n xs::H'))(a:(i::(List.range 9).filter (· !=i)).Nodup)(h:XK N w0 K e R (HP.own t 1 (.slice A n c) n xs::H')):XK N w0 K e R H:=aY _ b a (fun _ h=>h) h
theorem aPo(qx:Piece)(X1 X2 X3 Y1 Y2 Y3:Option Addr)(xk1 xk2 xk3 yk1 yk2 yk3:Nat)(x y:bL)(ag:Nat)(k id:Int)(w:World)(Qm:qx.Le (all w))(hag:ag < 2)(hbx:x.sm)(V:y.sm)(s0:aM qx 1 X1 x.d.length (bM x.d))(s1:aM qx 1 X2 x.c.length (bM x.c))(s2:aM qx 1 X3 x.l.length (bM x.l))(s3:aM qx 1 Y1 y.d.length (bM y.d))(s4:aM qx 1 Y2 y.c.length (bM y.c))(s5:aM qx 1 Y3 y.l.length (bM y.l)):
  Cz 128 #[.agg #[.slice X1 x.d.length xk1,.slice X2 x.c.length xk2,.slice X3 x.l.length xk3,.slice Y1 y.d.length yk1,.slice Y2 y.c.length yk2,.slice Y3 y.l.length yk3],iv (ag:Int),.agg #[.int .u8 k,iv id]] w (Nz (fun v w w'=>tR (fresh w w') (eF x ag k id) (fW y ag k id) v) w):=by
 obtain⟨h0,h1,o⟩:=hbx;obtain⟨h3,h4,h5⟩:=V;refine aT func128 ntmps128 ?_;refine yJ qx aD Qm ?_;refine aB ?_;refine bY fun g1=>?_;refine bY fun g2=>?_;refine cQ fun g3=>?_;refine aB ?_;refine cQ fun L=>?_;refine aB ?_;refine aRN 3 ?_;refine aCz ?_;refine aB ?_;refine aDl 0 (len:=2) (n:=3) aF rfl rfl rfl aC rfl aC ?_;refine cQ fun g5=>?_;refine aB ?_;refine jG [1,2,4,5,7,8,11] ?_;refine bQ 0 ?_;refine aO 1 ?_;refine aO 2 ?_;refine aO 4 ?_;refine aO 5 ?_;refine aO 7 ?_;refine aO 8 ?_;refine aO 11 ?_;refine aQ 3 ?_;refine fK (Ka x.d.length (bM x.d)) (fun a st=>Mw _ _ _ _ a (s0.le (st.le aD)) (Nf _) (by have:=h0;omega)) ?_;rintro _ _ q0 ⟨G,D,rfl,rfl⟩ _;dsimp only[List.cons_append,List.nil_append];refine bH ?_ (hS:=fun _ h=>h.bG.tail);refine aQ 6 ?_;refine fK (Ka x.c.length (bM x.c)) (fun a st=>Mw _ _ _ _ a (s1.le (st.le aD)) (Nf _) (by have:=h1;omega)) ?_;rintro _ _ q1 ⟨E,K,rfl,rfl⟩ _;dsimp only[List.cons_append,List.nil_append];refine bH ?_ (hS:=fun _ h=>h.bG.bG.tail.tail);refine aQ 9 ?_;refine fK (Ka x.l.length (bM x.l)) (fun a st=>Mw _ _ _ _ a (s2.le (st.le aD)) (Nf _) (by have:=o;omega)) ?_;rintro _ _ q2 ⟨C,c2,rfl,rfl⟩ _;dsimp only[List.cons_append,List.nil_append];refine bH ?_ (hS:=fun _ h=>h.bG.bG.bG.tail.tail.tail);refine aQ 10 ?_;refine kd (iU rfl) ?_;refine bH ?_ (hS:=fun _ h=>h.bG.bG.bG.tail.tail.tail);refine aQ 12 ?_;refine kd (fQ (sz:=3) 0 0) ?_;refine cS ?_;refine aQ 13 ?_;refine sU rfl rfl ?_;simp only[gD,Value.cells,List.set,List.take,List.drop,List.nil_append,List.append_nil,List.length_cons,List.length_nil,List.cons_append,Nat.reduceAdd];refine cS ?_;refine eM ?_;refine aB ?_;refine aY [2,1,0,4,5,6,7] rfl aC (R':=[qx,all w]) aD ?_;refine aCz ?_;refine aB ?_;refine aDl 1 (len:=2) (n:=3) aF rfl rfl rfl aC rfl aC ?_;refine cQ fun g6=>?_;refine aB ?_;refine jG [1,2,4,5,7,8,11] ?_;refine bQ 0 ?_;refine aO 1 ?_;refine aO 2 ?_;refine aO 4 ?_;refine aO 5 ?_;refine aO 7 ?_;refine aO 8 ?_;refine aO 11 ?_;refine aQ 3 ?_;refine fK (Ka y.d.length (bM y.d)) (fun a st=>Mw _ _ _ _ a (s3.le (st.le aD)) (Nf _) (by have:=h3;omega)) ?_;rintro _ _ q3 ⟨T,M,rfl,rfl⟩ _;dsimp only[List.cons_append,List.nil_append];refine bH ?_ (hS:=fun _ h=>h.bG.tail);refine aQ 6 ?_;refine fK (Ka y.c.length (bM y.c)) (fun a st=>Mw _ _ _ _ a (s4.le (st.le aD)) (Nf _) (by have:=h4;omega)) ?_;rintro _ _ q4 ⟨J,O,rfl,rfl⟩ _;dsimp only[List.cons_append,List.nil_append];refine bH ?_ (hS:=fun _ h=>h.bG.bG.tail.tail);refine aQ 9 ?_;refine fK (Ka y.l.length (bM y.l)) (fun a st=>Mw _ _ _ _ a (s5.le (st.le aD)) (Nf _) (by have:=h5;omega)) ?_;rintro _ _ q5 ⟨B,u,rfl,rfl⟩ _;dsimp only[List.cons_append,List.nil_append];refine bH ?_ (hS:=fun _ h=>h.bG.bG.bG.tail.tail.tail);refine aQ 10 ?_;refine kd (iU rfl) ?_;refine bH ?_ (hS:=fun _ h=>h.bG.bG.bG.tail.tail.tail);refine aQ 12 ?_;refine kd (fQ (sz:=3) 1 3) ?_;refine cS ?_;refine aQ 13 ?_;refine sU rfl rfl ?_;simp only[gD,Value.cells,List.set,List.take,List.drop,List.nil_append,List.append_nil,List.length_cons,List.length_nil,List.cons_append,Nat.reduceAdd];refine cS ?_;refine eM ?_;refine aB ?_;refine aY [4,5,6,2,1,0,9,7,8] rfl aC (R':=[qx,all w]) aD ?_;refine aCz ?_;refine aB ?_;refine cN (t:=33) rfl (fun h=>absurd h aA) (fun _=>?_);refine aB ?_;refine aK rfl (fun h=>absurd h aA) (fun _=>?_);refine aB ?_;obtain⟨X,hX⟩:∃z,z=eF x ag k id:=⟨_,rfl⟩
 obtain⟨Y,hY⟩:∃z,z=fW y ag k id:=⟨_,rfl⟩
 have hl:=aPm x y ag k id
 rw[←hX,←hY] at hl⊢;obtain rfl | rfl:ag=0∨ag=1:=by omega
 have U:=aDX k id x
 refine jG [1,2,3,4] ?_;refine bQ 0 ?_;refine aO 1 ?_;refine aO 2 ?_ (dG:=fQ (sz:=3) 0 0);refine aO 3 ?_;refine aO 4 ?_;refine aQ 5 ?_;refine aZ (fun a t=>aBl L 0 k (.slice G x.d.length D) (.slice E x.c.length K) (.slice C x.l.length c2) a (by simpa using(t.box (i:=7) rfl).at_ (j:=0) rfl) (by simpa using(t.box (i:=7) rfl).at_ (j:=1) rfl) (by simpa using(t.box (i:=7) rfl).at_ (j:=2) rfl)) ?_
 rotate_left
 have U:=aDX k id y
 refine jG [1,2,3,4] ?_;refine bQ 0 ?_;refine aO 1 ?_;refine aO 2 ?_ (dG:=fQ (sz:=3) 1 3);refine aO 3 ?_;refine aO 4 ?_;refine aQ 5 ?_;refine aZ (fun a t=>aBl L 3 k (.slice T y.d.length M) (.slice J y.c.length O) (.slice B y.l.length u) a (by simpa using(t.box (i:=7) rfl).at_ (j:=3) rfl) (by simpa using(t.box (i:=7) rfl).at_ (j:=4) rfl) (by simpa using(t.box (i:=7) rfl).at_ (j:=5) rfl)) ?_
 all_goals
  refine cS ?_;refine aQ 6 ?_;refine bJ ?_;refine cS ?_;refine eM ?_;refine eR ?_;refine aY [0,1,2,3,4,5,6,7,8] rfl aC (fun _ h=>h) ?_;refine bT [(10,_),(7,pt L),(6,pt g3),(5,pt g2)] ?_;refine Zc (fun e R H=>e=[(7,pt L),(6,pt g3)]∧R=[qx,all w]∧H=[HP.own 4 1 (.slice G x.d.length D) x.d.length (bM X.d),HP.own 4 1 (.slice E x.c.length K) x.c.length (bM X.c),HP.own 4 1 (.slice C x.l.length c2) x.l.length (bM X.l),HP.own 4 1 (.slice T y.d.length M) y.d.length (bM Y.d),HP.own 4 1 (.slice J y.c.length O) y.c.length (bM Y.c),HP.own 4 1 (.slice B y.l.length u) y.l.length (bM Y.l),HP.aI g2 150 [.int .u8 k,iv id],HP.aI L 145 [.slice G x.d.length D,.slice E x.c.length K,.slice C x.l.length c2,.slice T y.d.length M,.slice J y.c.length O,.slice B y.l.length u],HP.aI g3 145 [sn,sn,sn,sn,sn,sn]]) ?_ ?_
  ·clear hl;simp only[eF,fW,if_true,if_false,Nat.one_ne_zero] at hX hY;subst hX hY;obtain⟨h,o⟩ | U:=U
   ·rw[h,o];refine aB ?_;refine cN (t:=47) rfl (fun m=>?_) (fun m=>?_)
    ·refine aB ?_;refine aK rfl (fun h=>absurd h aA) (fun _=>?_);refine aB ?_;exact oJ ⟨rfl,rfl,rfl⟩
    ·refine aB ?_;exact oJ ⟨rfl,rfl,rfl⟩
   rcases U with⟨h,o⟩ | ⟨h,o⟩ | ⟨h,o⟩
   all_goals
    rw[h,o];dsimp only
    first | refine Nn 0 rfl rfl aC ?_ | refine Nn 1 rfl rfl aC ?_ | refine Nn 2 rfl rfl aC ?_ | refine Nn 3 rfl rfl aC ?_ | refine Nn 4 rfl rfl aC ?_ | refine Nn 5 rfl rfl aC ?_
    refine aB ?_;refine cN (t:=47) rfl (fun m=>?_) (fun m=>?_)
    ·refine aB ?_;refine aK rfl (fun f=>?_) (fun f=>?_)
     ·have hin:=And.intro m f
      refine Yt 0 rfl aA ?_;rintro⟨gb,rfl⟩;refine Ej 0 rfl fun cs N I hnc hcm=>?_;simp only[Nat.mul_one] at N I;dsimp only[List.set];refine jG [1,2,3,4] ?_;refine bQ 0 ?_;refine aO 1 ?_;refine aO 2 ?_;refine aO 3 ?_;refine aO 4 ?_;refine aQ 5 ?_;refine aZ (fun a t=>aAQ k a) ?_;refine bH ?_;refine aQ 6 ?_;refine kd (dat id.toNat id.toNat) ?_;refine cS ?_;refine aQ 7 ?_;refine eZ rfl rfl ?_;dsimp only[List.set];refine cS ?_;refine eM ?_;refine aB ?_;refine Ce 0 (sz:=1) rfl (by simpa using N) (aL6 I hin) hnc hcm ?_;dsimp only[List.set];exact oJ ⟨rfl,rfl,rfl⟩
     ·rw[aA2 _ fun h=>f h.2];refine aB ?_;exact oJ ⟨rfl,rfl,rfl⟩
    ·rw[aA2 _ fun h=>m h.1];refine aB ?_;exact oJ ⟨rfl,rfl,rfl⟩
  ·rintro _ _ _ ⟨rfl,rfl,rfl⟩;refine aY [7,8,0,1,2,3,4,5] rfl aC (fun _ h=>h) ?_;refine aB ?_;refine dK [] [2,3,4,5,6,7] [0,1] aD rfl aC aC fun q p _ hfr=>?_;refine Ji rfl (n:=6) (vs:=[.slice G x.d.length D,.slice E x.c.length K,.slice C x.l.length c2,.slice T y.d.length M,.slice J y.c.length O,.slice B y.l.length u]) aF rfl rfl (aV.whole 1 rfl) fun a st=>⟨⟨_,rfl,?_⟩,st.below aD⟩
   have hle:=st.nL aD (hfr aD aD)
   obtain⟨l1,l2,l3,l4,l5,l6⟩:=hl
   have r:∀{A n c xs},(∃F,(HP.own 4 1 (.slice A n c) n xs).sat F q.w∧∀b,F b→q.Z b)→aM (fresh w a) 1 A n xs:=fun h=>(aM.own h).le hle
   refine⟨G,D,E,K,C,c2,T,M,J,O,B,u,?_,?_,?_,?_,?_,?_,?_⟩
   ·rw[l1,l2,l3,l4,l5,l6]
   ·rw[l1];exact r (p 2 _ aD rfl)
   ·rw[l2];exact r (p 3 _ aD rfl)
   ·rw[l3];exact r (p 4 _ aD rfl)
   ·rw[l4];exact r (p 5 _ aD rfl)
   ·rw[l5];exact r (p 6 _ aD rfl)
   ·rw[l6];exact r (p 7 _ aD rfl)
theorem aFQ{b:Nat}(a:b < 2):(jV h L s z)[11+b*2]? =some (iv (kB z b)):=by
 obtain rfl | rfl:b=0∨b=1:=by omega
 ·rfl
 ·rfl
structure Ch(s:aG)(z:bN):Prop where
 la:z.last=0∨z.last=1
 u0:mJ z.w0
 u1:mJ z.w1
 n0:z.w0.length≤1000000
 n1:z.w1.length≤1000000
 sx:z.x.sm
 sy:z.y.sm
theorem Ch.box{s:aG}{z:bN}(h:Ch s z)(b:Nat):mJ (jO z b)∧(jO z b).length≤1000000:=by
 unfold jO;split
 ·exact⟨h.u0,h.n0⟩
 ·exact⟨h.u1,h.n1⟩
def bX(s:aG)(x:aP)(z:bN)(a:Nat):Int×Int×Int:=fM s z.x z.y (jS s x) a (jO z a)
def kD(s:aG)(x:aP)(z:bN)(a:Nat):bN×Bool:=
 let d:=bX s x z a
 if d.2.1=0 then(mP s x {z with last:=a} a d.1,false)
 else({z with last:=a,x:=eF z.x a d.2.1 d.2.2,y:=fW z.y a d.2.1 d.2.2,at_:=a,kind:=d.2.1,id:=d.2.2},true)
def iP(s:aG)(x:aP)(z:bN):bN×Bool:=match nK z with
 | none=>(z,false)
 | some a=>kD s x z a
theorem aFM(f:Nat)(hL:HL)(s:aG)(z:bN)(x:aP)(hH:s.dF)(Qy:gQ hL s)(U:cR s x)(hz:Ch s z)(l a:Nat)(hl:z.last=(l:Int))(hl1:l≤1)(N:a < 2)(hab:(kB z (1 - l)=1∧a=1 - l)∨(kB z (1 - l)≠1∧a=l))(h1:kB z a=1)
  (K:(bX s x z a).2.1=0→(bX s x z a).1=0→sK (jO z a)) (w:World) (F:Nat→Prop) (hp:(gY f hL s z x).sat F w) (hF:∀b,F b→b < w.heap.size):
  Cz 78 #[pt f] w (Wr (.bool (kD s x z a).2) (gY f hL s (kD s x z a).1 x) w F):=by
 have Dl:=hH.t.nv
 unfold kD;generalize hdz:bX s x z a=dz at K⊢;obtain⟨st,k,id⟩:=dz;dsimp only at K⊢;obtain⟨hbu,hbn⟩:=hz.box a;refine dD func78 ntmps78 hp hF ?_;refine bE 0 0 ?_;refine iQ 0 fun L=>?_
 have E:(jV hL.h L s z)[15]? =some (iv (l:Int)):=by rw[←hl];rfl
 refine eG ?_;refine gN ?_;refine bJ ?_;refine fP ?_;refine eG ?_;refine gN ?_;refine bJ ?_;refine bJ ?_;refine bJ ?_;refine kd (bP rfl (Rd.cK 0 rfl E)) ?_;refine kd (Iz rfl rfl (c:=((1 - l:Nat):Int)) (by rw[show(1:Int) - (l:Int)=((1 - l:Nat):Int) by omega];exact iY aA)) ?_;refine bJ ?_;refine fP ?_;refine Nq (fun e R H=>e=[(3,iv (a:Int)),(0,pt f)]∧R=[⟨w,fun b=>b < w.heap.size∧¬F b⟩]∧H=[iK f hL.h L s z,HP.many [cM,dS hL s x]]) ?_ ?_
 ·refine eG ?_;refine gN ?_;refine bJ ?_;refine bJ ?_;refine bJ ?_;refine bJ ?_;refine kd (fQ (1 - l) (11+(1 - l)*2)) ?_;refine bJ ?_;refine kd (bP rfl (Rd.cK 0 rfl (aFQ aA))) ?_;refine bJ ?_;refine fP ?_;rcases hab with⟨J,rfl⟩ | ⟨J,rfl⟩
  ·refine aK rfl (fun h=>absurd J h) (fun _=>?_);refine pF ?_;refine eR ?_;exact oJ ⟨rfl,rfl,rfl⟩
  ·refine aK rfl (fun _=>?_) (fun h=>absurd J h);refine gN ?_;refine bJ ?_;refine bJ ?_;refine bJ ?_;refine kd (bP rfl (Rd.cK 0 rfl E)) ?_;refine bJ ?_;refine fP ?_;exact oJ ⟨rfl,rfl,rfl⟩
 rintro _ _ _ ⟨rfl,rfl,rfl⟩;refine aB ?_;refine kd (fQ a (11+a*2)) ?_;refine aB ?_;refine kd (bP rfl (Rd.cK 0 rfl (aFQ N))) ?_;refine aB ?_;refine aK rfl (fun h=>absurd h1 h) (fun _=>?_);refine aB ?_;refine bE 0 0 ?_;refine eZ rfl rfl ?_ (hs:=eS.mk 0 rfl cZ.h rfl (by simp[jV]));dsimp only[List.set];rw[show(jV hL.h L s z).set (0+15) (iv (a:Int))=jV hL.h L s {z with last:=(a:Int)} from rfl];refine aN 0 0 ?_
 change XK _ _ _ _ _ [iK f hL.h L s {z with last:=(a:Int)},HP.many [cM,dS hL s x]]
 generalize D:({z with last:=(a:Int)}:bN)=z1
 have e1:z1.x=z.x:=by rw[←D]
 have e2:z1.y=z.y:=by rw[←D]
 have e3:jO z1 a=jO z a:=by rw[←D];rfl
 refine aB ?_;refine kd (bP rfl (Rd.cK 0 rfl rfl)) ?_;refine aB ?_;refine mN (n:=s.aH.length) 8 (el:=3) (z:=iv 0) aF aF rfl rfl rfl aA aA aC fun M=>?_;refine aB ?_;refine bE 2 1 ?_
 rw[show List.replicate s.aH.length (Value.int .i64 0)=aR (kV (jS s x) ((jS s x).map fun _=>0) 0) by
  rw[Qe];refine List.ext_getElem? fun j=>?_;simp only[aR,jS,List.map_map,List.getElem?_replicate,List.getElem?_map]
  by_cases h:j < s.aH.length
  ·rw[if_pos h,List.getElem?_range h];rfl
  ·rw[if_neg h,List.getElem?_eq_none (by simp;omega)];rfl]
 refine bT [(46,iv 0),(45,iv s.aH.length),(4,.slice (some ⟨M,0,none⟩) s.aH.length s.aH.length),(3,iv (a:Int)),(0,pt f)] ?_
 have C:(jS s x).length=s.aH.length:=by simp[jS]
 refine fG (fun m e R H=>∃i:Nat,i≤s.aH.length∧m=s.aH.length - i∧e=[(46,iv i),(45,iv s.aH.length),(4,.slice (some ⟨M,0,none⟩) s.aH.length s.aH.length),(3,iv (a:Int)),(0,pt f)]∧R=[⟨w,fun b=>b < w.heap.size∧¬F b⟩]∧H=[dS hL s x,HP.aI M 3 (aR (kV (jS s x) ((jS s x).map fun _=>0) i)),iK f hL.h L s z1,HP.many [cM,cM]]) s.aH.length ⟨0,aA,rfl,rfl,rfl,rfl⟩ fun m e R H hI=>?_;obtain⟨i,hi,rfl,rfl,rfl,rfl⟩:=hI
 have T:=Qg (vs:=jS s x) (old:=(jS s x).map fun _=>0) (n:=s.aH.length) C (by simp[jS]) hi
 have vL:(aR (kV (jS s x) ((jS s x).map fun _=>0) i)).length=s.aH.length:=by simp[aR,T]
 refine aB ?_;refine aK rfl (fun B=>?_) (fun hge=>?_)
 ·have B:i < s.aH.length:=aA
  have hwi:(jS s x)[i]? =some (kS x.wt i:Int):=by simp[jS,B]
  have mA:(aR (kV (jS s x) ((jS s x).map fun _=>0) i)).set i (iv (kS x.wt i:Nat))=aR (kV (jS s x) ((jS s x).map fun _=>0) (i+1)):=by
   rw[←Qf aD hwi,aR,aR,List.map_set]
  refine aB ?_;refine kd (bP rfl (Rd.cK 2 rfl rfl)) ?_;refine aB ?_;refine aZ (fun o t=>aN9 hL s x o i B (t.mU 0 rfl Qy U)) ?_;refine aB ?_;refine kd (dat i i) ?_;refine eZ rfl rfl ?_;dsimp only[List.set];rw[mA];refine aB ?_;exact fA (s.aH.length - (i+1)) ⟨i+1,B,rfl,rfl,rfl,rfl⟩
 obtain rfl:i=s.aH.length:=by omega
 rw[Qh C (by simp[jS])];refine aN 2 1 ?_;refine aB ?_;refine Zc (fun e R H=>∃G:Nat,e=[(7,pt G),(6,.int .i32 st),(3,iv (a:Int)),(0,pt f)]∧R=[⟨w,fun b=>b < w.heap.size∧¬F b⟩]∧H=[HP.aI G 150 [.int .u8 k,iv id],iK f hL.h L s z1,HP.many [cM,dS hL s x]]) ?_ ?_
 ·refine jG [1,2,3,5,6,7,12,13,14,15,16,19,20] ?_;refine bQ 0 ?_;refine bQ 4 ?_;refine bQ 8 ?_;refine bQ 9 ?_;refine bQ 10 ?_;refine bQ 11 ?_;refine aO 1 ?_;refine aO 2 ?_;refine aO 3 ?_ (dG:=kO rfl (aV.cK 1 rfl (vs:=[.slice L.a1.1 s.aJ.length L.a1.2,.slice L.a2.1 s.domains.length L.a2.2,.slice L.a3.1 s.bA.length L.a3.2,.slice L.a4.1 s.aH.length L.a4.2]) rfl));refine aO 5 ?_;refine aO 6 ?_;refine aO 7 ?_ (dG:=kO rfl (aV.cK 1 rfl (vs:=[.slice L.x1.1 z1.x.d.length L.x1.2,.slice L.x2.1 z1.x.c.length L.x2.2,.slice L.x3.1 z1.x.l.length L.x3.2,.slice L.y1.1 z1.y.d.length L.y1.2,.slice L.y2.1 z1.y.c.length L.y2.2,.slice L.y3.1 z1.y.l.length L.y3.2]) rfl));refine aO 12 ?_;refine aO 13 ?_;refine aO 14 ?_ (dG:=fQ (sz:=2) a (11+a*2));refine aO 15 ?_;refine aO 16 ?_ (dG:=bP rfl (Rd.cK 1 rfl (v:=.slice (vR L a).1 (jO z1 a).length (vR L a).2) (by rw[show 11+a*2+1=12+a*2 by omega];exact aFR N)))
  have r:∀H:List HP,H[H.length - 2]? =some (iK f hL.h L s z1)→(H.length=3∨H.length=4)→H[H.length - 3]? =some (HP.aI M 3 (aR (jS s x)))→∀o,St w [⟨w,fun b=>b < w.heap.size∧¬F b⟩] H o→Cz 127 #[.agg #[.slice L.a1.1 s.aJ.length L.a1.2,.slice L.a2.1 s.domains.length L.a2.2,.slice L.a3.1 s.bA.length L.a3.2,.slice L.a4.1 s.aH.length L.a4.2],.agg #[.slice L.x1.1 z1.x.d.length L.x1.2,.slice L.x2.1 z1.x.c.length L.x2.2,.slice L.x3.1 z1.x.l.length L.x3.2,.slice L.y1.1 z1.y.d.length L.y1.2,.slice L.y2.1 z1.y.c.length L.y2.2,.slice L.y3.1 z1.y.l.length L.y3.2],.slice (some ⟨M,0,none⟩) s.aH.length s.aH.length,iv (a:Int),.slice (vR L a).1 (jO z1 a).length (vR L a).2] o (Rt (aCw (st,k,id)) o):=fun H J _ h3 o t=>by
   have A:=t.Bt _ J
   have:=aPU (all o) (all o) s _ _ _ _ _ L.a1.2 _ L.a2.2 _ L.a3.2 _ L.a4.2 _ _ _ _ _ _ _ L.x1.2 _ L.x2.2 _ L.x3.2 _ L.y1.2 _ L.y2.2 _ L.y3.2 z1.x z1.y (some ⟨M,0,none⟩) s.aH.length s.aH.length (jS s x) a _ _ (vR L a).2 (jO z1 a) o A.so hH.t (Piece.Le.refl _) A.stR (Piece.Le.refl _) (t.vA h3 (by simp[aR,C])) C.symm N (A.box N) rfl (by rw[e3];exact hbn) (by rw[e3];exact hbu)
   rw[show fM s z1.x z1.y (jS s x) a (jO z1 a)=(st,k,id) by rw[e1,e2,e3];exact hdz] at this;exact this
  refine yN 17 21 rfl rfl aF ?_ ?_
  ·refine aZ (fun o t=>r _ rfl (.inl rfl) rfl o t) ?_;refine bH ?_;refine bQ 18 ?_;refine aO 19 ?_;refine aO 20 ?_;refine aQ 21 ?_;refine cQ fun G=>?_;refine bH ?_;refine aQ 22 ?_;refine bJ ?_;refine bH ?_;refine aQ 23 ?_;refine mF 0 rfl ?_;dsimp only[List.set];refine cS ?_;refine eM ?_;refine eR ?_;refine aY [0,2,3] rfl aC (fun _ h=>h) ?_;exact oJ ⟨G,rfl,rfl,rfl⟩
  ·refine cQ fun G=>?_;refine bH ?_;refine aQ 17 ?_;refine aZ (fun o t=>r _ rfl (.inr rfl) rfl o t) ?_;refine bH ?_;refine bQ 18 ?_;refine aO 19 ?_;refine aO 20 ?_;refine aQ 22 ?_;refine bJ ?_;refine bH ?_;refine aQ 23 ?_;refine mF 0 rfl ?_;dsimp only[List.set];refine cS ?_;refine eM ?_;refine eR ?_;refine aY [0,2,3] rfl aC (fun _ h=>h) ?_;exact oJ ⟨G,rfl,rfl,rfl⟩
 rintro _ _ _ ⟨G,rfl,rfl,rfl⟩;refine aB ?_;refine aK rfl (fun O=>?_) (fun O=>?_)
 ·have O:k=0:=O
  rw[if_pos O];refine cY 1 (fun L:gB=>iK f hL.h L s z1) L ?_;refine aY [1,0,2] rfl aC (fun _ h=>h) ?_;refine aN 1 0 ?_;refine aB ?_;refine cG 1 (gY f hL s (mP s x z1 a st) x) (fun o F1 t h1 J h3=>aBI f hL s z1 x hH Qy U a N st (fun h0=>by rw[e3];exact K O h0) o F1 h1 J) ?_;refine aB ?_;exact bU 1 hF
 ·rw[if_neg O];rw[show({z with last:=(a:Int),x:=eF z.x a k id,y:=fW z.y a k id,at_:=(a:Int),kind:=k,id:=id}:bN)={z1 with x:=eF z1.x a k id,y:=fW z1.y a k id,at_:=(a:Int),kind:=k,id:=id} by rw[←D]];refine aB ?_;refine jG [2,3,4,6] ?_;refine bQ 0 ?_;refine bQ 1 ?_;refine bQ 5 ?_;refine aO 2 ?_;refine aO 3 ?_;refine aO 4 ?_ (dG:=kO rfl (aV.cK 1 rfl (vs:=[.slice L.x1.1 z1.x.d.length L.x1.2,.slice L.x2.1 z1.x.c.length L.x2.2,.slice L.x3.1 z1.x.l.length L.x3.2,.slice L.y1.1 z1.y.d.length L.y1.2,.slice L.y2.1 z1.y.c.length L.y2.2,.slice L.y3.1 z1.y.l.length L.y3.2]) rfl));refine aO 6 ?_;refine aQ 7 ?_
  refine kN [] (fun v w w'=>tR (fresh w w') (eF z1.x a k id) (fW z1.y a k id) v) (fun o t=>by
   have A:=t.Bt 1 rfl
   exact aPo (all o) _ _ _ _ _ _ L.x1.2 L.x2.2 L.x3.2 L.y1.2 L.y2.2 L.y3.2 z1.x z1.y a k id o (Piece.Le.refl _) N (by rw[e1];exact hz.sx) (by rw[e2];exact hz.sy) A.st.1 A.st.2.1 A.st.2.2.1 A.st.2.2.2.1 A.st.2.2.2.2.1 A.st.2.2.2.2.2) ?_
  rintro _ w2 q2 Y hq2 _ I
  have I:=I aD
  obtain⟨x1,x2,Z,V,y2,y3,rfl,u⟩:=Y.P
  have u:=qB.le _ _ hq2 (u L.a1 L.a2 L.a3 L.a4 L.b0 L.b1)
  refine Gr (Φ:=qB ⟨L.a1,L.a2,L.a3,L.a4,x1,x2,Z,V,y2,y3,L.b0,L.b1⟩ (eF z1.x a k id) (fW z1.y a k id)) (hm:=qB.le) I (fun p hp b hb=>by simp at hp;subst hp;exact hb.1) u ?_;refine cS ?_;refine aQ 8 ?_;refine bJ ?_;refine cS ?_;refine aQ 9 ?_;refine bJ ?_;refine cS ?_;refine aQ 10 ?_;refine bE 2 0 ?_;refine qP 0 (t:=152) rfl rfl rfl aF (by simp[Value.cells,Value.oneCell',wD]) (by simp[Value.cells,jV]) ?_;dsimp only[List.set];rw[show gD (jV hL.h L s z1) (0+5) (Value.agg #[wD x1 (eF z1.x a k id).d.length,wD x2 (eF z1.x a k id).c.length,wD Z (eF z1.x a k id).l.length,wD V (fW z1.y a k id).d.length,wD y2 (fW z1.y a k id).c.length,wD y3 (fW z1.y a k id).l.length]).cells.toList=jV hL.h ⟨L.a1,L.a2,L.a3,L.a4,x1,x2,Z,V,y2,y3,L.b0,L.b1⟩ s {z1 with x:=eF z1.x a k id,y:=fW z1.y a k id} from rfl];refine cS ?_;refine eM ?_;refine eR ?_;refine bE 3 2 ?_;refine aY [1,2,3,4,5] rfl aC (R':=[⟨w,fun b=>b < w.heap.size∧¬F b⟩]) aD ?_;refine aY [1,0,2,3,4] rfl aC (fun _ h=>h) ?_;refine aN 2 2 ?_;generalize X:({z1 with x:=eF z1.x a k id,y:=fW z1.y a k id}:bN)=z2;rw[show({z1 with x:=eF z1.x a k id,y:=fW z1.y a k id,at_:=(a:Int),kind:=k,id:=id}:bN)={z2 with at_:=(a:Int),kind:=k,id:=id} by rw[←X]];generalize hL2:(⟨L.a1,L.a2,L.a3,L.a4,x1,x2,Z,V,y2,y3,L.b0,L.b1⟩:gB)=L2;refine eG ?_;refine Zc (fun e R H=>e=[(0,pt f)]∧R=[⟨w,fun b=>b < w.heap.size∧¬F b⟩]∧H=[HP.aI f 152 (jV hL.h L2 s {z2 with at_:=(a:Int),kind:=k,id:=id}),HP.aI G 150 [.int .u8 k,iv id],HP.many [cM,HP.cI (uW L s) (uW.le (L:=L) (s:=s)),HP.cI (qB L2 (eF z1.x a k id) (fW z1.y a k id)) (qB.le (L:=L2) (x:=eF z1.x a k id) (y:=fW z1.y a k id)),HP.cI (eI L.b0 z1.w0) (eI.le (a:=L.b0) (l:=z1.w0)),HP.cI (eI L.b1 z1.w1) (eI.le (a:=L.b1) (l:=z1.w1))],HP.many [cM,dS hL s x]]) ?_ ?_
  ·refine jG [] ?_;refine bQ 0 ?_;refine bQ 1 ?_;refine bQ 2 ?_
   repeat' (first
    | (refine eM ?_;refine eR ?_;exact oJ ⟨rfl,rfl,rfl⟩)
    | refine yN 3 4 rfl rfl (by decide+kernel) ?_ ?_
    | refine yN 3 5 rfl rfl (by decide+kernel) ?_ ?_
    | refine yN 3 6 rfl rfl (by decide+kernel) ?_ ?_
    | refine aQ 3 ?_
    | refine aQ 4 ?_
    | refine aQ 5 ?_
    | refine aQ 6 ?_
    | refine aQ 7 ?_
    | refine aQ 8 ?_
    | refine aQ 9 ?_
    | refine cS ?_
    | refine bJ ?_
    | (refine eZ rfl rfl ?_ (hs:=eS.mk 0 rfl cZ.h rfl (by simp[jV]));dsimp only[List.set];rw[show(jV hL.h L2 s z2).set (0+16) (iv (a:Int))=jV hL.h L2 s {z2 with at_:=(a:Int)} from rfl])
    | (refine qP 0 (t:=152) rfl rfl rfl aF (by simp[Value.cells,Value.oneCell']) (by simp[Value.cells,jV]) ?_;dsimp only[List.set];rw[show gD (jV hL.h L2 s {z2 with at_:=(a:Int)}) (0+17) (Value.agg #[.int .u8 k,iv id]).cells.toList=jV hL.h L2 s {z2 with at_:=(a:Int),kind:=k,id:=id} from rfl]))
  rintro _ _ _ ⟨rfl,rfl,rfl⟩;refine aN 1 0 ?_;subst hL2;subst X;refine uS 1 (f:=fun L:gB=>iK f hL.h L s {({z1 with x:=eF z1.x a k id,y:=fW z1.y a k id}:bN) with at_:=(a:Int),kind:=k,id:=id}) ⟨L.a1,L.a2,L.a3,L.a4,x1,x2,Z,V,y2,y3,L.b0,L.b1⟩ rfl ?_;dsimp only[List.set];refine aY [1,0,2] rfl aC (fun _ h=>h) ?_;refine aN 1 0 ?_;refine aB ?_;exact bU 1 hF
theorem aFN(f:Nat)(hL:HL)(s:aG)(z:bN)(x:aP)(p:s.dF)(m:gQ hL s)(j:cR s x)(n:Ch s z)(d:∀a,nK z=some a→(bX s x z a).2.1=0→(bX s x z a).1=0→sK (jO z a))(w:World)(F:Nat→Prop)(hp:(gY f hL s z x).sat F w)(hF:∀b,F b→b < w.heap.size):
  Cz 78 #[pt f] w (Wr (.bool (iP s x z).2) (gY f hL s (iP s x z).1 x) w F):=by
 unfold iP;cases c:nK z with
 | none=>exact aOr f hL s z x n.la c w F hp hF
 | some a =>
  obtain⟨l,r,e⟩:∃l:Nat,z.last=(l:Int)∧l≤1:=by
   rcases n.la with h | h
   ·exact⟨0,h,aA⟩
   ·exact⟨1,h,aA⟩
  have i:=c
  unfold nK at c;rw[show(1 - z.last).toNat=1 - l by omega,show z.last.toNat=l by omega] at c
  by_cases k:kB z (1 - l)=1
  ·rw[if_pos k] at c;obtain rfl:=Option.some.inj c;exact aFM f hL s z x p m j n l _ r e aA (.inl ⟨k,rfl⟩) k (d _ i) w F hp hF
  ·rw[if_neg k] at c
   by_cases o:kB z l=1
   ·rw[if_pos o] at c;obtain rfl:=Option.some.inj c;exact aFM f hL s z x p m j n l _ r e aA (.inr ⟨k,rfl⟩) o (d _ i) w F hp hF
   ·rw[if_neg o] at c;cases c
section
variable{P:Program}
theorem Zb{nn:Nat}{F:Nat→Prop}{p:HP}{f:FuncId}{fn:Func}{c:Code}{vs:List Value}{a:Ending→World→Prop}(hf:P.funcs[f]? =some fn)(i:fn.body=some c)(k:fn.ntmps=nn)(hl:vs.length≤nn)(hp:p.sat F w)(hF:∀b,F b→b < w.heap.size)
  (h:XK ⟨nn,[]⟩ w (c.wp P (bodyPostD P fn a)) (Cd 0 vs) [⟨w,fun b=>b < w.heap.size∧¬F b⟩] [p]):Calls P f vs.toArray w a:=by
 refine calls_of_wp_defers hf i (h _ _ ⟨?_,rfl,fun t v j=>?_⟩ (aCH hp hF))
 ·simp;omega
 ·obtain⟨_,d⟩:=Sg vs 0 t v j;rw[Nat.sub_zero] at d
  have e:t < vs.length:=by
   rcases Nat.lt_or_ge t vs.length with h | h
   ·exact h
   ·rw[List.getElem?_eq_none h] at d;cases d
  rw[Array.getElem?_append_left (by simpa using e)]
  simpa using d
theorem Ab{nn:Nat}{f:FuncId}{fi ca:List Value}{fn:Func}{b:Ending→World→Prop}{x:Exit}(hx:x=.ret∨x=.normal)(hf:fJ P f=true)
  (d:∀w,CallsD P f (fi++ca).toArray .returning w fun y j w'=>y=.returned (.tuple #[])∧j=.returning∧w'=w) (m:fn.results=#[])
  (h:∀w,St w0 R H w→b (.returned (.tuple #[])) w):XK ⟨nn,[Gl f fi ca]⟩ w0 (bodyPostD P fn b x) e R H:=by
 have c:XK ⟨nn,[Gl f fi ca]⟩ w0 (bodyPostD P fn b .ret) e R H:=aRW (H':=H) hf (fun i st=>(d i).mono fun y j w' h=>by
  obtain⟨l,k,rfl⟩:=h
  exact⟨⟨_,l⟩,k,st⟩) fun a i _ st=>⟨.tuple #[],results_none m _ _ _,h i st⟩
 rcases hx with rfl | rfl
 ·exact c
 ·exact c
end
theorem Rf(w:World):CallsD Tryz.prog 77 #[] .returning w fun e b w'=>e=.returned (.tuple #[])∧b=.returning∧w'=w:=by
 refine callsD_of_wpS func77 rfl fun a d c=>?_;apply wpS_region;simp[wpOpsS,go_sem,recoverD,c,ntmps77,Exit.thenS];cases a;simp_all [bodyPostS,results,Tryz.results77]
section
variable{hL:HL}
theorem Et(i:Nat){o:Nat}{v:Value}(hi:H[i]? =some (gY f hL s z x))(e:∀L,(jV hL.h L s z)[o]? =some v):Rd w0 R H f o v:=fun w t=>by
 obtain⟨F,⟨G,d,j,_⟩,k,_⟩:=t.chunk hi;obtain⟨L,a⟩:=d 0 _ rfl
 have:=((aCU a fun b c=>k b (j 0 b c)).r0.at_ (e L)).2
 rwa [Nat.zero_add] at this
end
theorem aOv(f:Nat)(hL:HL)(s:aG)(z:bN)(x:aP)(n:s.dF)(k:gQ hL s)(j:cR s x)(m:Ch s z)(d:∀a,nK z=some a→(bX s x z a).2.1=0→(bX s x z a).1=0→sK (jO z a))(e:z.at_ < 0)(c:(iP s x z).2=false)(w:World)(F:Nat→Prop)(hp:(gY f hL s z x).sat F w)(hF:∀b,F b→b < w.heap.size):
  Cz 45 #[pt f] w (Wr (.tuple #[]) (gY f hL s (iP s x z).1 x) w F):=by
 refine Zb (vs:=[pt f]) (p:=gY f hL s z x) func45 rfl ntmps45 aD hp hF ?_;refine aB ?_;refine Tx (f:=77) (fi:=[]) (ca:=[]) rfl ?_;refine aB ?_;refine kd (bP rfl (Et 0 rfl fun _=>rfl)) ?_;refine aB ?_;refine cN (t:=8) rfl (fun _=>?_) (fun h=>absurd e h);refine aB ?_;refine cG 0 (gY f hL s (iP s x z).1 x) (fun l o t r u y=>aFN f hL s z x n k j m d l o r u) ?_;rw[c];refine aB ?_;exact Ab (.inl rfl) aF Rf rfl fun l t=>⟨rfl,t.turns hF aD (i:=0) rfl⟩
def aB3(m p k:Int):Bool:=decide ((dH m 0 p k).2=0∧cT (dH m 0 p k).1 28 4=0∧cT (dH m 0 p k).1 0 8=m∧cT (dH m 0 p k).1 8 2=0∧cT (dH m 0 p k).1 10 8=p∧cT (dH m 0 p k).1 18 10=k)
theorem aN3:([4,7]:List Int).all (fun m=>([17,20,22]:List Int).all fun p=>(List.range 64).all fun k=>aB3 m p k)=true:=by decide+kernel
theorem aN4{m p:Int}{k:Nat}(hm:m=4∨m=7)(hp:p=17∨p=20∨p=22)(hk:k < 64):(dH m 0 p k).2=0∧sY (dH m 0 p k).1=0∧Cs (dH m 0 p k).1=Dn m 0 p k:=by
 have h:=aN3
 rw[List.all_eq_true] at h
 have c:=h m (by rcases hm with rfl | rfl<;>simp)
 rw[List.all_eq_true] at c
 have a:=c p (by rcases hp with rfl | rfl | rfl<;>simp)
 rw[List.all_eq_true] at a
 have d:=of_decide_eq_true (a k (List.mem_range.2 hk))
 obtain⟨j,b,i,f,l,e⟩:=d;refine⟨j,?_,?_⟩
 ·rw[sY,if_neg (fun h=>h b)]
 ·rw[Cs,if_neg (fun h=>h b),i,f,l,e]
theorem aEJ:(List.range 256).all (fun v=>decide (zY (IntKind.u32.wrap v) (vF 8 0)=0))=true:=by decide+kernel
theorem aMh:(List.range 4).all (fun v=>decide (zY (IntKind.u32.wrap v) (vF 2 0)=0))=true:=by decide+kernel
theorem aMi:(List.range 1024).all (fun v=>decide (zY (IntKind.u32.wrap v) (vF 10 0)=0))=true:=by decide+kernel
theorem Vn{n:Nat}{many v:Int}(h:(List.range n).all (fun v=>decide (zY (IntKind.u32.wrap v) (vF many 0)=0))=true)(a:0≤v)(b:v < n):zY (IntKind.u32.wrap v) (vF many 0)=0:=by
 rw[List.all_eq_true] at h
 have:=of_decide_eq_true (h v.toNat (List.mem_range.2 aA))
 rwa [show((v.toNat:Nat):Int)=v by omega] at this
theorem Vh{w a many v:Int}(hm:zY (IntKind.u32.wrap v) (vF many 0)=0)(c:0≤v)(b:v < IntKind.i64.wrap (1*2 ^ min many.toNat 64)):(gK w a many v).2=0:=by
 unfold gK;rw[if_neg aA,if_neg (by rw[wF,if_neg (fun h=>h hm)];exact fun h=>h rfl)]
theorem aL4{m p k:Int}(hm:0≤m∧m < 256)(hp:0≤p∧p < 256)(hk:0≤k∧k < 1024):(dH m 0 p k).2=0:=by
 have c:IntKind.i64.wrap (1*2 ^ min (8:Int).toNat 64)=256:=by decide+kernel
 have j:IntKind.i64.wrap (1*2 ^ min (2:Int).toNat 64)=4:=by decide+kernel
 have b:IntKind.i64.wrap (1*2 ^ min (10:Int).toNat 64)=1024:=by decide+kernel
 have e:∀w a,(gK w a 8 m).2=0:=fun w a=>Vh (Vn aEJ hm.1 hm.2) hm.1 (by rw[c];exact hm.2)
 have d:∀w a,(gK w a 2 0).2=0:=fun w a=>Vh (Vn aMh aC aC) aC (by rw[j];decide)
 have i:∀w a,(gK w a 8 p).2=0:=fun w a=>Vh (Vn aEJ hp.1 hp.2) hp.1 (by rw[c];exact hp.2)
 have f:∀w a,(gK w a 10 k).2=0:=fun w a=>Vh (Vn aMi hk.1 hk.2) hk.1 (by rw[b];exact hk.2)
 unfold dH;rw[if_neg (fun h=>h (e _ _)),if_neg (fun h=>h (d _ _)),if_neg (fun h=>h (i _ _)),if_neg (fun h=>h (f _ _))]
theorem aAN(a b:Int):0≤zI a b∧zI a b < 4294967296:=Kj _
theorem aE0(w a many v:Int):0≤(gK w a many v).1∧(gK w a many v).1 < 4294967296:=by
 unfold gK;split
 ·exact⟨aC,aC⟩
 ·split
  ·exact⟨aC,aC⟩
  ·unfold wF;split
   ·exact⟨aC,aC⟩
   ·exact aAN _ _
theorem aL5(m t p k:Int):0≤(dH m t p k).1∧(dH m t p k).1 < 4294967296:=by
 unfold dH;split
 ·exact⟨by dsimp only;decide,by dsimp only;decide⟩
 ·split
  ·exact⟨by dsimp only;decide,by dsimp only;decide⟩
  ·split
   ·exact⟨by dsimp only;decide,by dsimp only;decide⟩
   ·split
    ·exact⟨by dsimp only;decide,by dsimp only;decide⟩
    ·exact aE0 _ _ _ _
def aHO(l:List Int)(v:Value)(hs:List HP)(_:Piece):Prop:=∃A c,v=.slice A l.length c∧hs=[HP.own 36 1 (.slice A l.length c) l.length (eJ l)]
def aCY(l:List Int)(v:Value)(hs:List HP)(_:Piece):Prop:=∃A c,v=.tuple #[.slice A l.length c,iv 0]∧hs=[HP.own 36 1 (.slice A l.length c) l.length (eJ l)]
theorem aJj(l:List Int)(x:Int):eJ l++[.int .u32 x]=eJ (l++[x]):=by simp[eJ]
theorem aDB(l:List Int)(i:Nat)(x:Int):(eJ l).set i (.int .u32 x)=eJ (l.set i x):=by simp[eJ,List.map_set]
theorem aEc(P:Program)(a b:Int)(w:World):(Op.intBits .or .u32 a b).run P w=.ok (.int .u32 (zI a b)) w:=by rfl
section
variable{l:Int}{b:Nat}{m a:List Int}
end
theorem Qc{s:aG}{st:List eE}(f:s.dF)(h:qF s st)(i:Int)(b:Bool):qF s (gL s st i b).2:=by
 unfold gL;split
 ·exact h
 ·split
  ·rename_i c x d j
   split
   ·exact h
   ·refine⟨by simp[h.len],fun y a=>?_⟩;rcases List.mem_or_eq_of_mem_set a with a | rfl
    ·exact h.left y a
    ·have k:=(f.t.aJ i.toNat c d).2
     have e:=h.left x (List.mem_of_getElem? j)
     unfold Fs;dsimp only;split
     ·omega
     ·exact e
  ·exact h
theorem aD8{s:aG}{st:List fH}(d:s.dF)(h:tY s st)(i:Int):tY s (qS s st i).2:=by
 unfold qS;split
 ·exact h
 ·split
  ·rename_i c x b f
   split
   ·exact h
   ·have e:=(d.domains i.toNat c b).2
    refine⟨by simp[h.len],fun y a=>?_,fun y a=>?_⟩
    ·rcases List.mem_or_eq_of_mem_set a with a | rfl
     ·exact h.left y a
     ·exact e
    ·rcases List.mem_or_eq_of_mem_set a with a | rfl
     ·exact h.phase y a
     ·exact⟨by show(0:Int)≤114;omega,by show(114:Int) < 256;omega⟩
  ·exact h
section
def eV(p:Piece):Prop:=∀(i:Nat) (v:Int),[(114:Int),97,115,100][i]? =some v→p.Z 0∧p.w.cell? ⟨0,i,none⟩=some (.int .u8 v)
theorem eV.at_{p:Piece}{w:World}(h:eV p)(hl:p.Le (all w)):Og w:=fun i v b=>by
 obtain⟨d,e⟩:=h i v b;obtain⟨a,c⟩:=hl 0 d;refine⟨a,?_⟩;rw[←e];exact World.cell?_of_block c
theorem eV.le{p q:Piece}(h:eV p)(hl:p.Le q):eV q:=fun i v b=>by
 obtain⟨d,e⟩:=h i v b;obtain⟨a,c⟩:=hl 0 d;exact⟨a,(World.cell?_of_block c).trans e⟩
def Dj(s:aG)(d:Int)(k:Nat)(p:dB×dN):dB×dN:=match s.aH[k]? with
 | some dv=>if dv.domain=d then(p.1,(mT p.2).2) else p
 | none=>p
def tI(s:aG)(x:aP)(d:Int)(n:Nat):List (dB×dN):=x.dv.mapIdx fun k p=>if k < n then Dj s d k p else p
def lE(s:aG)(x:aP)(d:Int):aP×Bool:=
 if qV x.dm d=48∨qV x.dm d=116 then({x with dm:=(qS s x.dm d).2},false)
 else if qV x.dm d=49 then({x with dv:=tI s x d s.aH.length},true) else(x,false)
def pE(s:aG)(x:aP)(c:Nat):aP×Bool:=
 ({x with ck:=(gL s x.ck c true).2},oG s (gL s x.ck c true).2 c||(decide ((eW s c).length < 2)|| !oG s (gL s x.ck c true).2 ((eW s c).getD 1 0:Nat)))
def qH(x:aP)(i:Int):aP×Bool:=if zN x.ln i then({x with ln:=(rU x.ln i).2},false) else(x,true)
theorem aFi{x:dN}(h:yR x):yR (mT x).2:=by
 unfold mT;split
 ·exact h
 ·exact⟨by show(0:Int)≤0;omega,by show(0:Int)≤3;omega⟩
theorem aBo{s:aG}{x:aP}(j:s.dF)(b:cR s x)(d:Int)(n:Nat):cR s {x with dv:=tI s x d n}:=Qd j b (by simp[tI]) fun i e p hd a=>by
 rw[tI,List.getElem?_mapIdx] at a;cases c:x.dv[i]? with
 | none=>rw[c] at a;cases a
 | some q =>
  rw[c] at a;obtain⟨f,h⟩:=b.each i e q hd c;simp only[Option.map_some,Option.some.injEq] at a;subst a;split
  ·unfold Dj;rw[hd];dsimp only;split
   ·exact⟨f,aFi h⟩
   ·exact⟨f,h⟩
  ·exact⟨f,h⟩
theorem aDk(n:Nat)(Φ:List Value→Prop){x:Operand}{t:TypeId}{b o:Nat}[hT:nC t n](hx:e.ev x=some (.pointer (some ⟨b,o,none⟩)))(h:∀w,St w0 R H w→∃vs,eA w b o vs∧vs.length=n∧Φ vs)(k:∀vs,Φ vs→XK N w0 (wpList Tryz.prog ops Q rest) ((d,.agg vs.toArray)::e) R H)(hd:d < N.n:=by decide):
  XK N w0 (wpList Tryz.prog ops Q (⟨some d,.load t x,ty,pos,aL,none⟩::rest)) e R H:=sV rfl fun a w c st=>by
 obtain⟨vs,i,j,f⟩:=h w st;exact⟨.agg vs.toArray,w,aGt (N:=N) (w0:=w) (R:=[all w]) (H:=[]) (d:=d) (ty:=ty) (pos:=pos) (aL:=aL) n hT.h hx (xA aD i) j a w c (St.start w),k vs f _ _ (c.put hd _) st⟩
theorem aHu(j:Nat)(hj:H[j]? =some (iK f h L s z))(c:0 < s.aH.length)(k:∀b off,L.a4.1=some ⟨b,off,none⟩→XK N w0 K e R H):XK N w0 K e R H:=fun a w i st=>by
 obtain⟨b,off,r,d,_⟩:=kJ.row (st.Bt j hj).so.dev (List.getElem?_eq_getElem c);exact k b off d a w i st
def aCX(d:cH)(vs:List Value):Prop:=∃A n k b a c,vs=[iv d.clock,iv d.domain,iv d.reset,.int .u32 d.vP,.slice A n k,.slice b a c]
theorem aFT{i b off:Nat}{d:cH}(kf:Au w f h L s z)(t:L.a4.1=some ⟨b,off,none⟩)(hd:s.aH[i]? =some d):∃vs,eA w b (off+i*6) vs∧vs.length=6∧aCX d vs:=by
 obtain⟨u,e,r,a,m,⟨A,n,k,p,o,l,j,_⟩,c⟩:=kJ.row kf.so.dev hd;rw[t] at a;cases a;exact⟨r,c,m,A,n,k,p,o,l,j⟩
variable(f:Nat)(hL:HL)(s:aG)(z:bN)(x:aP)(w:World)
theorem aOx(T:s.dF)(u:gQ hL s)(o:cR s x)(d:Int)(F:Nat→Prop)(hp:(gY f hL s z x).sat F w)(hF:∀b,F b→b < w.heap.size)(M:eV ⟨w,fun b=>b < w.heap.size∧¬F b⟩):
  Cz 129 #[pt f,iv d] w (Wr (.bool (lE s x d).2) (gY f hL s z (lE s x d).1) w F):=by
 have Dl:=T.t.nv
 have pM:=o.dv
 refine dD func129 ntmps129 hp hF ?_;generalize C:(⟨w,fun b=>b < w.heap.size∧¬F b⟩:Piece)=R0 at M⊢;refine bE 0 0 ?_;refine iQ 0 fun L=>?_;refine bE 1 1 ?_;refine aB ?_;refine kd (bP rfl (Rd.cK 1 rfl rfl)) ?_;refine aB ?_;refine aZ (fun B t=>aB5 hL s x B o.dm d (t.mU 0 rfl u o)) ?_;unfold lE;generalize hph:qV x.dm d=ph
 by_cases U:ph=48
 ·subst U;rw[if_pos (.inl rfl)];refine aB ?_;refine kd (bP rfl (Rd.cK 1 rfl rfl)) ?_;refine aB ?_;refine cG 0 (dS hL s {x with dm:=(qS s x.dm d).2}) (fun B N t V X h3=>aF2 hL s x B T u o d N V X) ?_;refine aB ?_;refine aN 1 1 ?_;refine cY 0 (fun L:gB=>iK f hL.h L s z) L ?_;refine aN 0 0 ?_;subst C;exact bU 0 hF
 by_cases G:ph=116
 ·subst G;rw[if_pos (.inr rfl)];refine aB ?_;refine kd (bP rfl (Rd.cK 1 rfl rfl)) ?_;refine aB ?_;refine cG 0 (dS hL s {x with dm:=(qS s x.dm d).2}) (fun B N t V X h3=>aF2 hL s x B T u o d N V X) ?_;refine aB ?_;refine aN 1 1 ?_;refine cY 0 (fun L:gB=>iK f hL.h L s z) L ?_;refine aN 0 0 ?_;subst C;exact bU 0 hF
 rw[if_neg aA]
 by_cases J:ph=49
 ·subst J;rw[if_pos rfl];refine aB ?_;refine kd (bP rfl (Rd.cK 1 rfl rfl)) ?_;refine aB ?_
  have Z:tI s x d 0=x.dv:=Lh _ _
  refine bT [(31,iv (0)),(30,iv s.aH.length),(29,.slice L.a4.1 s.aH.length L.a4.2),(0,pt f),(1,iv d)] ?_;refine fG (fun m e R H=>∃i:Nat,i≤s.aH.length∧m=s.aH.length - i∧e=[(31,iv (i:Int)),(30,iv s.aH.length),(29,.slice L.a4.1 s.aH.length L.a4.2),(0,pt f),(1,iv d)]∧R=[R0]∧H=[dS hL s {x with dv:=tI s x d i},iK f hL.h L s z,HP.many [cM,cM]]) s.aH.length ⟨0,aA,rfl,rfl,rfl,by rw[Z]⟩ fun m e R H hI=>?_;obtain⟨i,hi,rfl,rfl,rfl,rfl⟩:=hI
  have j:=aBo T o d i
  refine aB ?_;refine aK rfl (fun c=>?_) (fun hge=>?_)
  ·have c:i < s.aH.length:=aA
   obtain⟨dv,E⟩:=get_some c;obtain⟨p,O⟩:=get_some (l:=x.dv) (i:=i) aA
   have y:(tI s x d i)[i]? =some p:=Lj O
   have hstep:(tI s x d i).set i (Dj s d i p)=tI s x d (i+1):=Li (f:=Dj s d) O
   obtain⟨q1,q2⟩:=(j.each i dv p E y).2;refine aHu 1 rfl aA fun b off hA=>?_;refine aB ?_;refine kd (dat i (off+i*6) (hx:=by rw[←hA];rfl)) ?_;refine aDk 6 (aCX dv) rfl (fun B t=>aFT (t.Bt 1 rfl) hA E) ?_;rintro _ ⟨A,n,k,A',n',k',rfl⟩;refine cQ fun g1=>?_;refine aB ?_;refine aK rfl (fun K=>?_) (fun K=>?_)
   ·have D:Dj s d i p=p:=by
     unfold Dj;rw[E];exact if_neg K
    rw[D,wE y] at hstep;rw[hstep];refine aB ?_;refine aY [1,2,3] rfl aC (fun _ h=>h) ?_;exact fA (s.aH.length - (i+1)) ⟨i+1,c,rfl,rfl,rfl,rfl⟩
   ·have K:dv.domain=d:=by simpa using K
    have D:Dj s d i p=(p.1,(mT p.2).2):=by
     unfold Dj;rw[E];exact if_pos K
    have Y:wC {x with dv:=tI s x d i} i=pS p.2.at_:=by
     unfold wC;dsimp only;rw[y];rfl
    refine aB ?_;refine kd (bP rfl (Rd.cK 2 rfl rfl)) ?_;refine aB ?_;refine aZ (fun B t=>aF3 hL s _ B u j i c (M.at_ (t.le aD)) (t.mU 1 rfl u j)) ?_;rw[Y]
    by_cases I:p.2.at_=2∨p.2.at_=3
    ·have a:pS p.2.at_=115∨pS p.2.at_=100:=by
      rcases I with I | I<;>rw[I]
      ·exact .inl rfl
      ·exact .inr rfl
     rcases a with a | a<;>rw[a]
     all_goals
      refine aB ?_;refine kd (bP rfl (Rd.cK 2 rfl rfl)) ?_;refine aB ?_;refine vX (α:=Int) 1 (f:=184) (fi:=[]) (ca:=[]) (fun r=>iv r) (fun _=>dS hL s (xX {x with dv:=tI s x d i} i)) (fun _=>True) aF rfl rfl rfl aC (fun B N t V X h3=>aB6 hL s _ B T u j i c N V X) ?_;rintro _ _;dsimp only[List.set]
      have hX:xX {x with dv:=tI s x d i} i={x with dv:=tI s x d (i+1)}:=by
       unfold xX;dsimp only;rw[y,←hstep,D]
      rw[hX];refine aB ?_;refine aY [1,2,3] rfl aC (fun _ h=>h) ?_;exact fA (s.aH.length - (i+1)) ⟨i+1,c,rfl,rfl,rfl,rfl⟩
    ·have hq:(mT p.2).2=p.2:=by
      unfold mT;rw[if_pos aA]
     have a:pS p.2.at_=114∨pS p.2.at_=97:=by
      have:p.2.at_=0∨p.2.at_=1:=by omega
      rcases this with I | I<;>rw[I]
      ·exact .inl rfl
      ·exact .inr rfl
     rw[D,hq,wE y] at hstep;rcases a with a | a<;>rw[a,hstep]
     all_goals
      refine aB ?_;refine aY [1,2,3] rfl aC (fun _ h=>h) ?_;exact fA (s.aH.length - (i+1)) ⟨i+1,c,rfl,rfl,rfl,rfl⟩
  obtain rfl:i=s.aH.length:=by omega
  refine aB ?_;refine aN 1 1 ?_;refine cY 0 (fun L:gB=>iK f hL.h L s z) L ?_;refine aN 0 0 ?_;subst C;exact bU 0 hF
 ·rw[if_neg J];refine aB ?_;refine aK rfl (fun h=>absurd h U) (fun _=>?_);refine aB ?_;refine aK rfl (fun h=>absurd h G) (fun _=>?_);refine aB ?_;refine aK rfl (fun h=>absurd h J) (fun _=>?_);refine aB ?_;refine aN 1 1 ?_;refine cY 0 (fun L:gB=>iK f hL.h L s z) L ?_;refine aN 0 0 ?_;subst C;exact bU 0 hF
theorem aOw(k:s.dF)(d:gQ hL s)(a:cR s x)(i:Int)(F:Nat→Prop)(hp:(gY f hL s z x).sat F w)(hF:∀b,F b→b < w.heap.size):
  Cz 133 #[pt f,iv i] w (Wr (.bool (qH x i).2) (gY f hL s z (qH x i).1) w F):=by
 refine dD func133 ntmps133 hp hF ?_;generalize c:(⟨w,fun b=>b < w.heap.size∧¬F b⟩:Piece)=R0;refine bE 0 0 ?_;refine iQ 0 fun L=>?_;refine bE 1 1 ?_;refine aB ?_;refine kd (bP rfl (Rd.cK 1 rfl rfl)) ?_;refine aB ?_;refine aZ (fun e t=>aND hL s x e i (t.mU 0 rfl d a)) ?_;unfold qH;cases o:zN x.ln i
 ·refine aB ?_;refine aN 1 1 ?_;refine cY 0 (fun L:gB=>iK f hL.h L s z) L ?_;refine aN 0 0 ?_;subst c;exact bU 0 hF
 ·refine aB ?_;refine kd (bP rfl (Rd.cK 1 rfl rfl)) ?_;refine aB ?_;refine cG 0 (dS hL s {x with ln:=(rU x.ln i).2}) (fun e l t m j n=>aNB hL s x e k d a i l m j) ?_;refine aB ?_;refine aN 1 1 ?_;refine cY 0 (fun L:gB=>iK f hL.h L s z) L ?_;refine aN 0 0 ?_;subst c;exact bU 0 hF
theorem aO2(m:s.dF)(k:gQ hL s)(a:cR s x)(c:Nat)(I:c < s.aJ.length)(F:Nat→Prop)(hp:(gY f hL s z x).sat F w)(hF:∀b,F b→b < w.heap.size):
  Cz 131 #[pt f,iv (c:Int)] w (Wr (.bool (pE s x c).2) (gY f hL s z (pE s x c).1) w F):=by
 refine dD func131 ntmps131 hp hF ?_;generalize j:(⟨w,fun b=>b < w.heap.size∧¬F b⟩:Piece)=R0;refine bE 0 0 ?_;refine iQ 0 fun L=>?_;refine bE 1 1 ?_;refine aB ?_;refine kd (bP rfl (Rd.cK 1 rfl rfl)) ?_;refine aB ?_;refine cG 0 (dS hL s {x with ck:=(gL s x.ck c true).2}) (fun i G t D E J=>aF7 hL s x i m k a c true G D E) ?_
 have d:cR s {x with ck:=(gL s x.ck c true).2}:=⟨Qc m a.ck _ _,a.dm,a.ln,a.dv,a.each,a.wt⟩
 unfold pE;generalize u:({x with ck:=(gL s x.ck c true).2}:aP)=x2 at d⊢
 have o:(gL s x.ck c true).2=x2.ck:=by rw[←u]
 rw[o];refine aB ?_;refine kd (bP rfl (Rd.cK 1 rfl rfl)) ?_;refine aB ?_;refine aZ (fun i t=>aF4 hL s x2 i m c (t.mU 0 rfl k d)) ?_;cases N:oG s x2.ck c
 ·refine aB ?_;refine kd (kO rfl (aV.cK 1 rfl (vs:=[.slice L.a1.1 s.aJ.length L.a1.2,.slice L.a2.1 s.domains.length L.a2.2,.slice L.a3.1 s.bA.length L.a3.2,.slice L.a4.1 s.aH.length L.a4.2]) rfl)) ?_;refine aB ?_;refine kN [] (Eu (eW s c)) (fun i t=>Xv (all i) s _ _ _ _ _ L.a1.2 _ L.a2.2 _ L.a3.2 _ L.a4.2 c i (t.Bt 1 rfl).so m.t (Piece.Le.refl _) I) ?_;rintro _ i y ⟨O,M,rfl,e⟩ A _ _
  have e:=e.le A
  clear A;refine aB ?_;rcases Wy:eW s c with _ | ⟨C,_ | ⟨n,cr⟩⟩
  ·refine mI ?_;refine jF ?_;refine aB ?_;refine aN 1 1 ?_;refine cY 0 (fun L:gB=>iK f hL.h L s z) L ?_;refine aN 0 0 ?_;subst j;exact bU 0 hF
  ·refine mI ?_;refine jF ?_;refine aB ?_;refine aN 1 1 ?_;refine cY 0 (fun L:gB=>iK f hL.h L s z) L ?_;refine aN 0 0 ?_;subst j;exact bU 0 hF
  ·rw[Wy] at e;obtain⟨b,off,H,B,r⟩:=e.2 aD
   have K:Rd w [y,R0] [dS hL s x2,iK f hL.h L s z,HP.many [cM,cM]] b (off+1) (iv (n:Int)):=Rd.ro (p:=y) aD B (r 1 _ rfl)
   have l:decide ((C::n::cr).length < 2)=false:=by simp
   rw[l];refine mI ?_;refine jP ?_;refine Jg 27 rfl (fun h=>absurd h (by simp;omega)) (fun _=>?_);refine jP ?_;refine yH (bP rfl (Rd.cK 1 rfl rfl)) ?_;refine jP ?_;refine yH (dat 1 (off+1) (hx:=by rw[←H];rfl) (hlt:=aD)) ?_;refine jP ?_;refine tN (fun i t=>aF4 hL s x2 i m n (t.mU 0 rfl k d)) ?_;refine jF ?_;refine aB ?_;refine aN 1 1 ?_;refine cY 0 (fun L:gB=>iK f hL.h L s z) L ?_;refine aN 0 0 ?_;subst j;exact bU 0 hF
 ·refine aB ?_;refine aN 1 1 ?_;refine cY 0 (fun L:gB=>iK f hL.h L s z) L ?_;refine aN 0 0 ?_;subst j;exact bU 0 hF
end
end Go.Proofs.YtmpkkaknjkffpaaGreatDoor
