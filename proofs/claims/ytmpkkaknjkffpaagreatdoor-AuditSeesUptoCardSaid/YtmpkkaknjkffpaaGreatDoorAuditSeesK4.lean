/- package power: the grid. -/
import Derived.Test.YtmpkkaknjkffpaaGreatDoorAuditSeesK3
namespace Go.Proofs.YtmpkkaknjkffpaaGreatDoor
set_option linter.all false
set_option maxHeartbeats 4000000
set_option maxRecDepth 20000
open Go.RowKit Go.Proofs.Tryz
variable{s:aI}{w w0:World}{P:Program}{N:cQ}{K:Act->World->Prop}{e:Env}{R:List Piece}{H H':List HP}{st:List lK}{ops:Array Oper}{rest:List Oper}{d:Nat}{ty:TypeId}{pos:String}{aN:Array Edge}
structure GL where
 t:Nat
 A:Option Addr
 c:Nat
def rW(c:Dom)(x:gK):List Value:=[iv c.above,iv c.delay,.bool c.ret,.int .u8 x.phase,iv x.left,.bool x.kept,.bool x.keep]
def tF(s:aI)(st:List gK):List (List Value):=List.zipWith rW s.domains st
abbrev yW(L:GL)(s:aI)(st:List gK):HP:=Rx 217 219 7 L.t L.A s.domains.length L.c (tF s st)
abbrev aMv(w:World)(L:GL)(s:aI)(st:List gK):Prop:=Gj w 7 L.t L.A s.domains.length L.c (tF s st)
section
variable{st:List gK}
def aCe(d:xY s st):(tF s st).length=s.domains.length/\∀r∈tF s st,r.length=7:=by
 have:=d.len
 refine⟨by simp[tF];omega,fun r e=>?_⟩;obtain⟨j,c⟩:=lA e;rw[tF,lP] at c;split at c<;>cases c
 rfl
def Nq{i:Nat}{c:Dom}{x:gK}(d:s.domains[i]? =some c)(hx:st[i]? =some x):(tF s st)[i]? =some (rW c x):=by
 rw[tF,lP,d,hx]
def aFn{i:Nat}{c:Dom}{x:gK}(e:s.domains[i]? =some c)(hi:i < st.length):(tF s st).set i (rW c x)=tF s (st.set i x):=by
 refine qR fun j=>?_;rw[gX]
 by_cases d:i=j
 .subst d;rw[aH rfl,Nq e (x:=x) (by rw[kR hi])];rw[aH]
  have f:=(cE.1 e).1
  simp[tF];omega
 .rw[aC d,tF,tF,lP,lP,pZ d]
end
def aDS(t n c b off i:Nat)(w:World)(d:iD w t 0 (.slice (some ⟨b,off,none⟩) n c))(hi:i < n):
  Cz 198 #[pt t,iv (i:Int)] w (Rt (.pointer (some ⟨b,off+i*7,none⟩)) w):=by
 refine bQ func198 ntmps198 ?_;refine cH (t:=11) rfl (fun h=>absurd h aA) (fun _=>?_);refine aD ?_;refine dD rfl (fun h=>absurd h aA) (fun _=>?_);refine aD ?_;refine cG (dat i (off+i*7)) ?_;exact dP
def aDR(t n c:Nat)(A:Option Addr)(i:Int)(w:World)(d:iD w t 0 (.slice A n c))(hi:bJ n i=false):
  Cz 198 #[pt t,iv i] w (Rt (.pointer none) w):=by
 have hi:=Tr hi
 refine bQ func198 ntmps198 ?_;refine cH (t:=11) rfl (fun h=>?_) (fun h=>?_)
 .refine aD ?_;exact dP
 .refine aD ?_;refine dD rfl (fun h=>?_) (fun h=>absurd hi aA);refine aD ?_;exact dP
def aIa(g o:Nat)(p:Int)(w:World)(h3:iD w g (o+3) (.int .u8 p)):
  Cz 232 #[.pointer (some ⟨g,o,none⟩)] w (Rt (.bool (decide (p=48\/p=116))) w):=by
 refine bQ func232 ntmps232 ?_;refine cH (t:=8) rfl (fun h=>?_) (fun h=>?_)
 .refine aD ?_;refine lD aB ?_;simp[h]
 .refine aD ?_;refine lD aB ?_;simp[h]
def aHZ(L:GL)(s:aI)(st:List gK)(f:xY s st)(d:Int)(w:World)(o:aMv w L s st):
  Cz 139 #[.pointer (some ⟨L.t,0,none⟩),iv d] w (Rt (.int .u8 (tY st d)) w):=by
 have r:=f.len
 cases h:bJ s.domains.length d
 .refine bQ func139 ntmps139 ?_;refine cR (fun k t=>aDR L.t s.domains.length L.c L.A d k ((o.below (t.below aB)).r0) h) ?_;refine lD aB ?_;simp[tY,r,h]
 .obtain⟨n,rfl⟩:∃n:Nat,d=n:=⟨d.toNat,by have:=eV h;omega⟩
  have e:n < s.domains.length:=by have:=eV h;omega
  obtain⟨c,y⟩:=get_some e;obtain⟨x,p⟩:=get_some (l:=st) (i:=n) aA;obtain⟨b,off,z,m⟩:=o.at_ (aCe f).2 (Nq y p) e
  have B:=m.at_ (j:=3) rfl
  refine bQ func139 ntmps139 ?_;refine cR (fun k t=>aDS L.t s.domains.length L.c b off n k (by rw[<-z];exact(o.below (t.below aB)).r0) e) ?_;refine lD aB ?_;simp[tY,r,h,p]
def aPR(L:GL)(s:aI)(st:List gK)(hH:s.dM)(p:xY s st)(d:Int)(w:World)(F:Nat->Prop)(hp:(yW L s st).sat F w)(hF:∀b,F b->b < w.heap.size):
  Cz 215 #[.pointer (some ⟨L.t,0,none⟩),iv d] w (Wr (iv (wM s st d).1) (yW L s (wM s st d).2) w F):=by
 have X:=p.len
 cases B:bJ s.domains.length d
 .have hr:wM s st d=(4,st):=by simp[wM,X,B]
  rw[hr];refine oQ func215 ntmps215 hp hF ?_;refine cR (fun o t=>aDR L.t s.domains.length L.c L.A d o ((t.aDH 0 rfl).r0) B) ?_;exact cJ 0 hF
 .obtain⟨n,rfl⟩:∃n:Nat,d=n:=⟨d.toNat,by have:=eV B;omega⟩
  have f:n < s.domains.length:=by have:=eV B;omega
  obtain⟨c,G⟩:=get_some f;obtain⟨x,V⟩:=get_some (l:=st) (i:=n) aA;obtain⟨m,k⟩:=aCe p
  have e:wM s st (n:Int)=if Np x=false\/Ri st c.above=false then(6,st) else(0,st.set n ⟨114,c.delay,decide (x.phase=116),x.keep⟩):=by
   simp[wM,X,B,G,V]
  obtain⟨hfa,_,_⟩:=hH.domains n c G;refine fS func215 ntmps215 hp hF ?_;refine aFP 0 rfl aA fun g Z I E z H D=>?_;dsimp only[List.set]
  have hs:=Ig z m k (Nq G V)
  have Y:n*7+7<=Z.length:=by omega
  have R:=hs.set 5 (.bool (decide (x.phase=116))) (by simp[rW]) aA
  have T:=R.set 3 (.int .u8 114) (by simp[rW]) (by simp;omega)
  have K:=T.set 4 (iv c.delay) (by simp[rW]) (by simp;omega)
  have U:=(((xQ.refl Z (n*7) 7).set 5 (.bool (decide (x.phase=116))) aE).set 3 (.int .u8 114) aE).set 4 (iv c.delay) aE
  have O:=Fs (r':=rW c ⟨114,c.delay,decide (x.phase=116),x.keep⟩) z m k f aA rfl K U
  rw[aFn G aA] at O;refine aD ?_;refine cM (fun o t=>aDS L.t s.domains.length L.c g 0 n o ((t.box (i:=1) rfl).at_ (j:=0) rfl) f) ?_;rw[mA];refine aD ?_;refine oU ?_;refine kU ?_;refine xK (fun o t=>aIa g (n*7) x.phase o ⟨(t.aK (i:=0) rfl).lt,Rd.sub 0 3 rfl hs rfl rfl o t⟩) ?_;refine kU ?_;refine Rj 14 rfl (fun hd=>?_) (fun hd=>?_)
  .rw[e,aH (.inl (gW hd))];refine kM ?_;refine aD ?_;refine Lm 0 I E z H D rfl ?_;exact cJ 0 hF
  .have r:Np x=true:=eM (Jy.1 hd)
   refine kU ?_;refine Rj 21 rfl (fun J=>?_) (fun J=>?_)
   .obtain⟨a,N,aJg⟩:∃a:Nat,c.above=a/\a < n:=⟨c.above.toNat,aA,aA⟩
    obtain⟨ca,M⟩:=get_some (l:=s.domains) (i:=a) aA;obtain⟨xa,C⟩:=get_some (l:=st) (i:=a) aA
    have hsa:=Ig z m k (Nq M C)
    refine kU ?_;refine Ed (dat a (a*7)) ?_;refine kM ?_
    have y:Ri st c.above=decide (xa.phase=49):=by
     unfold Ri;rw[N,dL,C]
     first | (simp;done) | (simp;omega)
    refine dD rfl (fun h=>?_) (fun h=>?_)
    .rw[e,aH (.inr (by rw[y];exact gW h))];refine aD ?_;refine Lm 0 I E z H D rfl ?_;exact cJ 0 hF
    .rw[e,aC (by rw[y,r];simp;exact Jy.1 h)];refine aD ?_;refine Lm 0 I (by simpa using E) O H D rfl ?_;exact cJ 0 hF
   .have J:=Jy.1 J
    rw[e,aC (by rw[r];simp[Ri,J])];refine kM ?_;refine aD ?_;refine Lm 0 I (by simpa using E) O H D rfl ?_;exact cJ 0 hF
def aSz{s:aI}{st:List gK}{d:Int}(h:∀(j:Nat) (c:Dom) (x:gK),s.domains[j]? =some c->st[j]? =some x->Ks d c x=false):Hy s st d=false:=by
 unfold Hy;rw[Yd];intro b k;obtain⟨j,e⟩:=lA k;rw[lP] at e;cases f:s.domains[j]? with
 | none=>rw[f] at e;cases e
 | some c =>
  cases i:st[j]? with
  | none=>rw[f,i] at e;cases e
  | some x=>
   rw[f,i] at e;cases e;rw[h j c x f i];decide
def aSy{s:aI}{st:List gK}{d:Int}{j:Nat}{c:Dom}{x:gK}(e:s.domains[j]? =some c)(hx:st[j]? =some x)(h:Ks d c x=true):Hy s st d=true:=by
 unfold Hy;rw[Mt];exact⟨Ks d c x,dJ (i:=j) (by rw[lP,e,hx]),h⟩
def aPW(L:GL)(s:aI)(st:List gK)(J:xY s st)(hnd:s.domains.length<=1000)(d:Int)(keep:Bool)(w:World)(F:Nat->Prop)(hp:(yW L s st).sat F w)(hF:∀b,F b->b < w.heap.size):
  Cz 219 #[.pointer (some ⟨L.t,0,none⟩),iv d,.bool keep] w (Wr (iv (yQ s st d keep).1) (yW L s (yQ s st d keep).2) w F):=by
 have hl:=J.len
 cases K:bJ s.domains.length d
 .have hr:yQ s st d keep=(4,st):=by simp[yQ,hl,K]
  rw[hr];refine oQ func219 ntmps219 hp hF ?_;refine cR (fun I t=>aDR L.t s.domains.length L.c L.A d I ((t.aDH 0 rfl).r0) K) ?_;exact cJ 0 hF
 .obtain⟨n,rfl⟩:∃n:Nat,d=n:=⟨d.toNat,by have:=eV K;omega⟩
  have z:n < s.domains.length:=by have:=eV K;omega
  obtain⟨c,hc⟩:=get_some z;obtain⟨x,hx⟩:=get_some (l:=st) (i:=n) aA;obtain⟨E,C⟩:=aCe J
  have p:yQ s st (n:Int) keep=if x.phase≠49 then(6,st) else if keep=true/\c.ret=false then(1,st) else if Hy s st n then(7,st) else(0,st.set n ⟨99,x.left,x.kept,keep⟩):=by
   simp[yQ,hl,K,hc,hx]
  refine fS func219 ntmps219 hp hF ?_;refine aFP 0 rfl aA fun g cs V T G U O=>?_;dsimp only[List.set]
  have hs:=Ig G E C (Nq hc hx)
  have hlen:n*7+7<=cs.length:=by omega
  have M:=hs.set 3 (.int .u8 99) (by simp[rW]) aA
  have N:=M.set 6 (.bool keep) (by simp[rW]) (by simp;omega)
  have hu2:=((xQ.refl cs (n*7) 7).set 3 (.int .u8 99) aE).set 6 (.bool keep) aE
  have hf:=Fs (r':=rW c ⟨99,x.left,x.kept,keep⟩) G E C z aA rfl N hu2
  rw[aFn hc aA] at hf;refine aF ?_;refine cM (fun I t=>aDS L.t s.domains.length L.c g 0 n I ((t.box (i:=1) rfl).at_ (j:=0) rfl) z) ?_;rw[mA];refine aF ?_;refine bP (fun B=>?_) (fun B=>?_)
  .rw[p,aH B];refine aF ?_;refine Lm 0 V T G U O rfl ?_;exact cJ 0 hF
  rw[aC B] at p;refine sQ ?_;refine eR ?_;refine fO ?_;refine Rn 27 (keep=true/\c.ret=false) ?_ ?_
  .cases keep
   .refine aD ?_;exact Gd
   .refine aD ?_;cases hrt:c.ret<;>exact Gd
  refine bP (fun X=>?_) (fun X=>?_)
  .rw[p,aH X];refine aF ?_;refine Lm 0 V T G U O rfl ?_;exact cJ 0 hF
  rw[aC X] at p;refine aF ?_;refine cF [(33,iv 0),(32,iv s.domains.length),(7,.pointer (some ⟨g,n*7,none⟩)),(2,.bool keep),(1,iv n),(0,.pointer (some ⟨L.t,0,none⟩))] ?_;refine gA (fun m e R H=>∃i:Nat,i<=s.domains.length/\(∀(j:Nat) (c:Dom) (x:gK),j < i->s.domains[j]? =some c->st[j]? =some x->Ks n c x=false)/\m=s.domains.length - i/\e=[(33,iv i),(32,iv s.domains.length),(7,.pointer (some ⟨g,n*7,none⟩)),(2,.bool keep),(1,iv n),(0,.pointer (some ⟨L.t,0,none⟩))]/\R=[⟨w,fun b=>b < w.heap.size/\¬F b⟩]/\H=[HP.aK g 219 cs,HP.aK L.t 217 [.slice (some ⟨g,0,none⟩) s.domains.length L.c],HP.many [cS,cS]]) s.domains.length ⟨0,aA,fun j _ _ hj=>by omega,rfl,rfl,rfl,rfl⟩ fun m e R H hI=>?_;obtain⟨i,hi2,D,rfl,rfl,rfl,rfl⟩:=hI;refine aF ?_;refine bP (fun o=>?_) (fun hge=>?_)
  .have o:i < s.domains.length:=aA
   obtain⟨ci,y⟩:=get_some o;obtain⟨xi,r⟩:=get_some (l:=st) (i:=i) aA
   have hsi:=Ig G E C (Nq y r)
   clear M N;refine aD ?_;refine cG (dat i (i*7)) ?_;refine cH (t:=47) rfl (fun Z=>?_) (fun Z=>?_)
   .refine aD ?_;refine cG (dat i (i*7)) ?_;refine cR (fun I t=>aIa g (i*7) xi.phase I ⟨(t.aK (i:=0) rfl).lt,Rd.sub 0 3 rfl hsi rfl rfl I t⟩) ?_;refine bP (fun hd=>?_) (fun hd=>?_)
    .have Y:Hy s st n=true:=aSy y r (by simp[Ks,Z,Np];simpa using hd)
     rw[p,aH Y];refine aF ?_;refine Lm 0 V T G U O rfl ?_;exact cJ 0 hF
    .refine aF ?_;refine cF [(33,iv (i+1:Nat)),(32,iv s.domains.length),(7,.pointer (some ⟨g,n*7,none⟩)),(2,.bool keep),(1,iv n),(0,.pointer (some ⟨L.t,0,none⟩))] ?_;refine iZ (s.domains.length - (i+1)) aA ⟨i+1,o,fun j c x hj f k=>?_,rfl,rfl,rfl,rfl⟩;rcases dI j i with h | h
     .exact D j c x h f k
     .obtain rfl:j=i:=by omega
      rw[y] at f;rw[r] at k;cases f;cases k
      have hd:=Jy.1 hd
      simp[Ks,Np,hd]
   .refine aF ?_;refine cF [(33,iv (i+1:Nat)),(32,iv s.domains.length),(7,.pointer (some ⟨g,n*7,none⟩)),(2,.bool keep),(1,iv n),(0,.pointer (some ⟨L.t,0,none⟩))] ?_;refine iZ (s.domains.length - (i+1)) aA ⟨i+1,o,fun j c x hj f k=>?_,rfl,rfl,rfl,rfl⟩;rcases dI j i with h | h
    .exact D j c x h f k
    .obtain rfl:j=i:=by omega
     rw[y] at f;rw[r] at k;cases f;cases k;simp[Ks,Z]
  .obtain rfl:i=s.domains.length:=by omega
   have Y:Hy s st n=false:=aSz fun j c x f k=>D j c x (cE.1 f).1 f k
   rw[p,aC (by rw[Y];decide)];refine aF ?_;refine Lm 0 V (by simpa using T) hf U O rfl ?_;exact cJ 0 hF
def qO(cs:List Value)(o:Nat)(x:gK):List Value:=
 if x.phase=114 then(if 0 < x.left then cs.set (o+4) (iv (x.left - 1)) else cs.set (o+3) (.int .u8 104))
 else if x.phase=104 then cs.set (o+3) (.int .u8 49)
 else if x.phase=99 then cs.set (o+3) (.int .u8 (if x.keep then 116 else 48)) else cs
def aNE{cs:List Value}{o:Nat}{c:Dom}{x:gK}(h:Sub cs o (rW c x))(hl:o+7<=cs.length):Sub (qO cs o x) o (rW c (jQ x).2)/\xQ cs (qO cs o x) o 7:=by
 have d:=xQ.refl cs o 7
 obtain⟨i,left,kept,keep⟩:=x
 by_cases f:i=114
 .subst f
  by_cases e:0 < left
  .simp only[qO,jQ,aH e,if_true];exact⟨h.set 4 (iv (left - 1)) (by simp[rW]) aA,d.set 4 _ aE⟩
  .simp only[qO,jQ,aC e,if_true];exact⟨h.set 3 (.int .u8 104) (by simp[rW]) aA,d.set 3 _ aE⟩
 .by_cases e:i=104
  .simp only[qO,jQ,aC f,aH e];exact⟨h.set 3 (.int .u8 49) (by simp[rW]) aA,d.set 3 _ aE⟩
  .by_cases j:i=99
   .simp only[qO,jQ,aC f,aC e,aH j];cases keep
    .exact⟨h.set 3 (.int .u8 48) (by simp[rW]) aA,d.set 3 _ aE⟩
    .exact⟨h.set 3 (.int .u8 116) (by simp[rW]) aA,d.set 3 _ aE⟩
   .simp only[qO,jQ,aC f,aC e,aC j];exact⟨h,d⟩
def aPT(g o:Nat)(cs:List Value)(c:Dom)(x:gK)(hs:Sub cs o (rW c x))(k:o+7<=cs.length)(hx:0<=x.left/\x.left<=3)(w:World)(F:Nat->Prop)(hp:(HP.aK g 219 cs).sat F w)(hF:∀b,F b->b < w.heap.size):
  Cz 204 #[.pointer (some ⟨g,o,none⟩)] w (Wr (.int .u8 (jQ x).1) (HP.aK g 219 (qO cs o x)) w F):=by
 refine fS func204 ntmps204 hp hF ?_;obtain⟨m,left,kept,keep⟩:=x;dsimp only at hx;dsimp only[rW] at hs;refine aD ?_;refine dD rfl (fun h=>?_) (fun h=>?_)
 .subst h;refine aD ?_;refine dD rfl (fun hp=>?_) (fun hp=>?_)
  .refine aD ?_;refine xM rfl rfl fun j t=>⟨by simp[jQ,qO,hp,if_true],?_⟩
   simp only[jQ,qO,aH hp,if_true];exact t.turns hF aB (i:=0) rfl
  .have l:=hs.set 3 (.int .u8 104) aB aA
   refine aD ?_;refine tI rfl (fun d=>?_) (fun d=>?_)
   .refine aD ?_;refine xM rfl rfl fun j t=>⟨by simp[jQ,qO,hp,if_true,d],?_⟩
    simp only[jQ,qO,aC hp,if_true,d];exact t.turns hF aB (i:=0) rfl
   .refine aD ?_;refine xM rfl rfl fun j t=>⟨by simp[jQ,qO,hp,if_true,d],?_⟩
    simp only[jQ,qO,aC hp,if_true,d];exact t.turns hF aB (i:=0) rfl
 .refine aD ?_;refine dD rfl (fun e=>?_) (fun e=>?_)
  .refine aD ?_;refine xM rfl rfl fun j t=>⟨by simp[jQ,qO,h,e],?_⟩
   simp only[jQ,qO,aC h,aH e];exact t.turns hF aB (i:=0) rfl
  .refine aD ?_;refine dD rfl (fun f=>?_) (fun f=>?_)
   .refine aD ?_;refine tI rfl (fun d=>?_) (fun d=>?_)
    .refine aD ?_;refine xM rfl rfl fun j t=>⟨by simp[jQ,qO,h,e,f,d,if_true],?_⟩
     simp only[jQ,qO,aC h,aC e,aH f,d,if_true];exact t.turns hF aB (i:=0) rfl
    .refine aD ?_;refine xM rfl rfl fun j t=>⟨by simp[jQ,qO,h,e,f,d],?_⟩
     simp only[jQ,qO,aC h,aC e,aH f,d];exact t.turns hF aB (i:=0) rfl
   .refine aD ?_;refine xM rfl rfl fun j t=>⟨by simp[jQ,qO,h,e,f],?_⟩
    simp only[jQ,qO,aC h,aC e,aC f];exact t.turns hF aB (i:=0) rfl
def aHn{α:Type}{l:List α}{i:Nat}{x:α}(h:l[i]? =some x):l.set i x=l:=by
 refine qR fun j=>?_;rw[gX]
 by_cases c:i=j
 .subst c;rw[aH rfl,aH (cE.1 h).1,h]
 .rw[aC c]
def Kh(st:List gK)(i:Nat):List gK:=(sE st).take i++st.drop i
def aEk{α:Type}(f:α->α)(st:List α){i:Nat}(hi:i < st.length):((st.map f).take i++st.drop i)[i]? =st[i]? :=by
 have:((st.map f).take i).length=i:=by simp;omega
 rw[nA aA,this,yC,Bp,Ms]
def aEj{α:Type}(f:α->α)(st:List α){i:Nat}{x:α}(hx:st[i]? =some x):((st.map f).take i++st.drop i).set i (f x)=(st.map f).take (i+1)++st.drop (i+1):=by
 have e:=(cE.1 hx).1
 refine qR fun j=>?_;rw[gX]
 by_cases d:i=j
 .subst d;rw[aH rfl,aH (by simp;omega),pL (by simp;omega),wV aA,eO,hx];rfl
 .rw[aC d];rcases dI j i with c | c
  .rw[pL (by simp;omega),pL (by simp;omega),wV c,wV aA]
  .rw[nA (by simp;omega),nA (by simp;omega),Bp,Bp]
   congr 1
   simp;omega
def aGV{x:gK}(hl:0<=x.left/\x.left<=3)(hp:0<=x.phase/\x.phase < 256):(0<=(jQ x).2.left/\(jQ x).2.left<=3)/\(0<=(jQ x).2.phase/\(jQ x).2.phase < 256):=by
 unfold jQ
 repeat' split
 all_goals(dsimp only;constructor<;>omega)
def aDx{s:aI}{st:List gK}(c:xY s st):xY s (sE st):=by
 have f:=c.len
 refine⟨by simp[sE];omega,fun x e=>?_,fun x e=>?_⟩
 .obtain⟨y,d,rfl⟩:=fR.1 e;exact(aGV (c.left y d) (c.phase y d)).1
 .obtain⟨y,d,rfl⟩:=fR.1 e;exact(aGV (c.left y d) (c.phase y d)).2
def aQX{s:aI}{st:List gK}(c:xY s st){i:Nat}(hi:i<=s.domains.length):xY s (Kh st i):=by
 have f:=c.len
 have e:=aDx c
 refine⟨by simp[Kh,sE];omega,fun x d=>?_,fun x d=>?_⟩
 .rcases oM.1 d with h | h
  .exact e.left x (Dg h)
  .exact c.left x (Ph h)
 .rcases oM.1 d with h | h
  .exact e.phase x (Dg h)
  .exact c.phase x (Ph h)
def Ij(p:Int×Nat):List Value:=[.int .u8 p.1,iv (p.2:Int)]
def aJM(st:List gK)(n:Nat):(nD st n).length<=n:=by
 unfold nD;exact oL (List.length_filterMap_le _ _) aB
def aTq{st:List gK}{i:Nat}{x:gK}(hx:st[i]? =some x):nD st (i+1)=nD st i++(if(jQ x).1=0 then[] else[((jQ x).1,i)]):=by
 unfold nD;rw[zH,List.filterMap_append];simp only[List.filterMap_cons,List.filterMap_nil,hx,Bo]
 by_cases h:(jQ x).1=0<;>simp[h]
def aPS(L:GL)(s:aI)(st:List gK)(j:xY s st)(hnd:s.domains.length<=1000)(w:World)(F:Nat->Prop)(hp:(yW L s st).sat F w)(hF:∀b,F b->b < w.heap.size):
  Cz 146 #[.pointer (some ⟨L.t,0,none⟩)] w (fun y w'=>∃a:Option Addr×Nat,y=.returned (.slice a.1 (nD st s.domains.length).length a.2)/\True/\∃N,(HP.many [yW L s (sE st),HP.own 258 2 (.slice a.1 (nD st s.domains.length).length a.2) (nD st s.domains.length).length ((nD st s.domains.length).flatMap Ij)]).sat N w'/\jG w w' F N):=by
 have hl:=j.len
 refine fS func146 ntmps146 hp hF ?_
 have Y:Rd w [⟨w,fun b=>b < w.heap.size/\¬F b⟩] [yW L s st] L.t 0 (.slice L.A s.domains.length L.c):=Rd.row 0 rfl
 refine aD ?_;refine oF 258 2 ?_;refine cF [(13,iv 0),(12,iv s.domains.length),(3,sn),(0,.pointer (some ⟨L.t,0,none⟩))] ?_;refine gA (fun m e R H=>∃(i:Nat) (A:Option Addr) (k:Nat),i<=s.domains.length/\m=s.domains.length - i/\e=[(13,iv i),(12,iv s.domains.length),(3,.slice A (nD st i).length k),(0,.pointer (some ⟨L.t,0,none⟩))]/\R=[⟨w,fun b=>b < w.heap.size/\¬F b⟩]/\H=[HP.own 258 2 (.slice A (nD st i).length k) (nD st i).length ((nD st i).flatMap Ij),yW L s (Kh st i)]) s.domains.length ⟨0,none,0,aA,rfl,rfl,rfl,by simp[Kh,nD]⟩ fun m e R H hI=>?_;obtain⟨i,A,k,hi,rfl,rfl,rfl,rfl⟩:=hI;refine aD ?_;refine bP (fun f=>?_) (fun hge=>?_)
 .have f:i < s.domains.length:=aA
  obtain⟨c,X⟩:=get_some f;obtain⟨x,D⟩:=get_some (l:=st) (i:=i) aA
  have I:(Kh st i)[i]? =some x:=by rw[Kh,sE,aEk _ st aA];exact D
  have h:=aQX j hi
  obtain⟨B,r⟩:=aCe h
  have hel:=aJM st i
  refine aFP 1 rfl aA fun g E hA h1 O h3 h4=>?_;dsimp only[List.set]
  have hs:=Ig O B r (Nq X I)
  obtain⟨K,n⟩:=aNE hs aA
  have U:=Fs (r':=rW c (jQ x).2) O B r f aA rfl K n
  rw[aFn X (by have:=h.len;omega),Kh,sE,aEj (fun x=>(jQ x).2) st D] at U;refine aD ?_;refine kd (dat i (i*7)) ?_;refine Xm 0 (fi:=[]) (ca:=[]) (p:=HP.aK g 219 E) (HP.aK g 219 (qO E (i*7) x)) aJ rfl rfl rfl ⟨aE,rfl⟩ (fun T G t hG C=>aPT g (i*7) E c x hs aA (j.left x (dJ D)) T G hG C) ?_;dsimp only[List.set]
  have J:(qO E (i*7) x).length=L.c*7:=by rw[n.1,h1]
  refine Lm 1 hA J U h3 h4 rfl ?_;dsimp only[List.set]
  have d:=aTq D
  refine aD ?_;refine bP (fun z=>?_) (fun z=>?_)
  .rw[aC z] at d;refine aF ?_;refine eX fun g2=>?_;refine jU 1 2 16 1 (el:=258) aJ aJ aE rfl rfl rfl (tU 0 rfl rfl) (by simp[Value.oneCell']) rfl aA aA aE fun M V=>?_;dsimp only[List.set];refine aD ?_
   have Z:(nD st (i+1)).length=(nD st i).length+1:=by rw[d];simp
   have e2:(nD st (i+1)).flatMap Ij=(nD st i).flatMap Ij++[.int .u8 (jQ x).1,iv (i:Int)]:=by rw[d,List.flatMap_append];rfl
   refine aZ [1,2] ?_;refine cF [(13,iv (i+1:Nat)),(12,iv s.domains.length),(3,.slice M ((nD st i).length+1) V),(0,.pointer (some ⟨L.t,0,none⟩))] ?_;exact iZ (s.domains.length - (i+1)) aA ⟨i+1,M,V,f,rfl,by rw[Z],rfl,by rw[Z,e2];rfl⟩
  .have z:=Jy.1 z
   rw[aH z,nZ] at d;refine aD ?_;refine cF [(13,iv (i+1:Nat)),(12,iv s.domains.length),(3,.slice A (nD st i).length k),(0,.pointer (some ⟨L.t,0,none⟩))] ?_;refine iZ (s.domains.length - (i+1)) aA ⟨i+1,A,k,f,rfl,by rw[d],rfl,by rw[d];rfl⟩
 .obtain rfl:i=s.domains.length:=by omega
  have o:Kh st s.domains.length=sE st:=by
   rw[Kh,Ti aA,nZ,yE (by simp[sE];omega)]
  rw[o];refine aD ?_;refine aZ [1,0] ?_;refine oP ?_;exact Ai fun T t=>⟨(A,k),rfl,trivial,t.turns hF aB (i:=0) rfl⟩
def aT0(w:World)(q:Piece):(⟨w,fun _=>False⟩:Piece).Le q:=fun _ h=>h.elim
def aVo(i:Nat)(r:Rg)(w:World):
  Cz 169 #[iv (i:Int),.agg r.cells.toArray] w (Rt (.int .u32 r.reset) w):=by
 refine bQ func169 ntmps169 ?_;refine eI fun c=>?_;dsimp only[Value.cells,Rg.cells];refine aD ?_;exact dP
def aBj(L:FL)(d:bR)(x:dO)(h:d.aX.length<=100)(e:Co d x)(w:World)(F:Nat->Prop)(hp:(jB L d x).sat F w)(hF:∀b,F b->b < w.heap.size):
  Cz 112 #[.pointer (some ⟨L.f,0,none⟩)] w (Wr (.tuple #[]) (jB L d (Ir d x)) w F):=by
 refine oQ func112 ntmps112 hp hF ?_
 refine gM 0 (jB L d ⟨d.aX.map (·.reset),x.saved,x.kept⟩) (fun k G t hG c o=>by
  have:=aHQ L d x h 169 aJ [] ⟨k,fun _=>False⟩ (d.aX.map (·.reset)) aB e.now (fun i r v l j n m p _ _ _=>by
   rw[eO,l] at j;cases j
   exact aVo i r m) k G hG c (aT0 _ _)
  exact this) ?_
 refine aAx 0 rfl ?_;dsimp only[List.set,Nk];refine aD ?_;refine aAz (x:=Ir d x) 0 rfl ?_;exact gF 0 hF
def aPu(L:FL)(d:bR)(x:dO)(l i:Nat)(r:Rg)(v:Int)(p:d.aX[i]? =some r)(n:x.saved[i]? =some v)(w:World)(c:Gr w L d x)(z:iD w l 0 (.pointer (some ⟨L.f,0,none⟩))):
  Cz 226 #[iv (i:Int),.agg r.cells.toArray,pt l] w (Rt (.int .u32 (aBg x.kept r v)) w):=by
 have m:=(cE.1 p).1
 have e:=c.r0.at_ (j:=3) rfl
 have A:=c.r0.at_ (j:=2) rfl
 have o:=c.saved.at_ (aDr n)
 rw[mA] at o;obtain⟨y,t⟩:=r;cases h:x.kept
 .rw[h] at e;refine bQ func226 ntmps226 ?_;refine eI fun k=>?_;dsimp only[Value.cells,Rg.cells];refine aD ?_;exact dP
 .rw[h] at e;cases t
  .refine bQ func226 ntmps226 ?_;refine eI fun k=>?_;dsimp only[Value.cells,Rg.cells];refine aD ?_;exact dP
  .refine bQ func226 ntmps226 ?_;refine eI fun k=>?_;dsimp only[Value.cells,Rg.cells];refine aF ?_;exact dP
def aP2(L:FL)(d:bR)(x:dO)(n:d.aX.length<=100)(c:Co d x)(w:World)(F:Nat->Prop)(hp:(jB L d x).sat F w)(hF:∀b,F b->b < w.heap.size):
  Cz 206 #[.pointer (some ⟨L.f,0,none⟩)] w (Wr (.tuple #[]) (jB L d (Mj d x)) w F):=by
 have A:=c.saved
 refine fS func206 ntmps206 hp hF ?_;refine aD ?_;refine eI fun h=>?_;refine aD ?_;refine lH (vf:=[]) (vc:=[pt h]) rfl rfl aE ?_;refine dX [⟨w,fun b=>b < w.heap.size/\¬F b⟩] [0] [1] fun q E N _=>?_;obtain⟨R,y,z⟩:=E 0 _ aB rfl
 refine gM 0 (jB L d (Mj d x)) (fun H G t hG e k=>by
  have:=aHQ L d x n 226 aJ [pt h] q (Mj d x).now (by simp[Mj];omega) c.now (fun i r v m o j C T O D K=>by
   have B:=(cE.1 m).1
   obtain⟨u,p⟩:=get_some (l:=x.saved) (i:=i) aA
   have J:v=aBg x.kept r u:=by
    rw[Mj,lP,m,p] at o;cases o;rfl
   subst J;obtain⟨I,M⟩:=K h (z _ y.1)
   exact aPu L d ⟨j,x.saved,x.kept⟩ h i r u m p C (aA8 O D) ⟨I,(World.cell?_of_block (w:=q.w) M).trans (by rw[y.2.cell];rfl)⟩) H G hG e (k q aB)
  exact this) ?_
 refine aD ?_;exact gF 0 hF
def aOA(p:Piece)(L:FL)(d:bR)(x:dO)(h i:Nat)(r:Rg)(v u:Int)(B:d.aX[i]? =some r)(D:x.now[i]? =some v)(G:x.saved[i]? =some u)(H:x.saved.length=d.aX.length)
  (m:p.Z h/\p.w.cell? ⟨h,0,none⟩=some (.pointer (some ⟨L.f,0,none⟩))) (w:World) (F:Nat->Prop) (hp:(jB L d x).sat F w) (hF:∀b,F b->b < w.heap.size) (j:p.Le ⟨w,fun b=>b < w.heap.size/\¬F b⟩):
  Cz 225 #[iv (i:Int),.agg r.cells.toArray,pt h] w (Wr (.tuple #[]) (jB L d ⟨x.now,x.saved.set i (Pb r (v,u)),x.kept⟩) w F):=by
 have z:=(cE.1 B).1
 obtain⟨n,o⟩:=j h m.1
 have y:w.cell? ⟨h,0,none⟩=some (.pointer (some ⟨L.f,0,none⟩)):=(World.cell?_of_block (w:=p.w) o).trans m.2
 obtain⟨k,E⟩:=r;cases E
 .have e:x.saved.set i (Pb ⟨k,false⟩ (v,u))=x.saved:=aHn G
  rw[e];refine oQ func225 ntmps225 hp hF ?_;refine eI fun l=>?_;dsimp only[Value.cells,Rg.cells];refine aD ?_;exact gF 1 hF
 .refine oQ func225 ntmps225 hp hF ?_;refine eI fun l=>?_;dsimp only[Value.cells,Rg.cells];refine aD ?_;refine aAx 1 rfl ?_;dsimp only[List.set,Nk]
  have C:=aAP x.now
  have t:=aAP x.saved
  have r1:Rd w [⟨w,fun b=>b < w.heap.size/\¬F b⟩] [HP.aK L.gs 36 (pU x.saved),HP.aK L.gn 36 (pU x.now),HP.aK L.f 227 [.slice L.A d.aX.length L.c,.slice (some ⟨L.gn,0,none⟩) d.aX.length d.aX.length,.slice (some ⟨L.gs,0,none⟩) d.aX.length d.aX.length,.bool x.kept],HP.aK l 82 [.int .u32 k,.bool true],HP.many [cS,cS,cS,HP.cO (wI d L.A) (wI.le (d:=d) (A:=L.A))]] h 0 (.pointer (some ⟨L.f,0,none⟩)):=Rd.ro (mL.2 rfl) n y
  have r2:Rd w [⟨w,fun b=>b < w.heap.size/\¬F b⟩] [HP.aK L.gs 36 (pU x.saved),HP.aK L.gn 36 (pU x.now),HP.aK L.f 227 [.slice L.A d.aX.length L.c,.slice (some ⟨L.gn,0,none⟩) d.aX.length d.aX.length,.slice (some ⟨L.gs,0,none⟩) d.aX.length d.aX.length,.bool x.kept],HP.aK l 82 [.int .u32 k,.bool true],HP.many [cS,cS,cS,HP.cO (wI d L.A) (wI.le (d:=d) (A:=L.A))]] L.gn i (.int .u32 v):=Rd.aK 1 rfl (aDr D)
  refine vA 12 aJ aJ ?_;refine bE 0 ?_;refine bE 1 ?_;refine bE 2 ?_;refine bE 3 ?_;refine bE 4 ?_;refine bE 5 ?_;refine bE 6 ?_;refine bE 7 ?_;refine bE 8 ?_;refine bE 9 ?_;refine bE 10 ?_ (bL:=dat (sz:=1) i i);refine bE 11 ?_;refine dB 12 ?_;refine kd (dat i i) ?_;refine fY ?_;refine dB 13 ?_;refine vR ?_;rw[aDq];refine fY ?_;refine kV ?_;refine aD ?_;refine aZ [0,1,2,4] ?_;refine aAz (x:=⟨x.now,x.saved.set i v,x.kept⟩) 0 rfl ?_;exact gF 0 hF
def aP1(L:FL)(d:bR)(x:dO)(E:d.aX.length<=100)(h:Co d x)(w:World)(F:Nat->Prop)(hp:(jB L d x).sat F w)(hF:∀b,F b->b < w.heap.size):
  Cz 205 #[.pointer (some ⟨L.f,0,none⟩)] w (Wr (.tuple #[]) (jB L d (zC d x)) w F):=by
 have j:=h.saved
 have X:=h.now
 have k:(zC d x).saved.length=d.aX.length:=by simp[zC];omega
 refine fS func205 ntmps205 hp hF ?_;refine aD ?_;refine eI fun o=>?_;refine aD ?_;refine lH (vf:=[]) (vc:=[pt o]) rfl rfl aE ?_;refine dX [⟨w,fun b=>b < w.heap.size/\¬F b⟩] [0] [1] fun q R V _=>?_;obtain⟨Y,n,I⟩:=R 0 _ aB rfl
 refine gM 0 (jB L d ⟨x.now,(zC d x).saved,x.kept⟩) (fun K G t hG m B=>by
  have e:=aHP q (fun i=>jB L d ⟨x.now,mN (zC d x).saved x.saved i,x.kept⟩) L d E 225 aJ [pt o]
   (fun i _ w F y p=>⟨_,aA8 y p⟩) (fun i r C O D y p T=>by
    have N:=(cE.1 C).1
    obtain⟨v,J⟩:=get_some (l:=x.now) (i:=i) aA;obtain⟨u,M⟩:=get_some (l:=x.saved) (i:=i) aA
    have U:(zC d x).saved[i]? =some (Pb r (v,u)):=by
     rw[zC,lP,C,(Tj (z:=(v,u))).2 ⟨J,M⟩]
    have:=aOA q L d ⟨x.now,mN (zC d x).saved x.saved i,x.kept⟩ o i r v u C J (aQV aA aA M) (Yt k j aA)
     ⟨I _ n.1,by rw[n.2.cell];rfl⟩ O D y p T
    try dsimp only at this
    rw[Ys aA U] at this
    exact this) K G (by show(jB L d ⟨x.now,mN (zC d x).saved x.saved 0,x.kept⟩).sat G K;rw[Yr];exact hG) m (B q aB)
  try dsimp only at e
  rw[Yu k j] at e
  exact e) ?_
 refine aAx 0 rfl ?_;dsimp only[List.set,Nk]
 have r1:∀H,Rd w [q,⟨w,fun b=>b < w.heap.size/\¬F b⟩] H o 0 (.pointer (some ⟨L.f,0,none⟩)):=fun H=>Rd.ro (by simp:q∈_) (I _ n.1) (by rw[n.2.cell];rfl)
 have r1:=r1 [HP.aK L.gs 36 (pU (zC d x).saved),HP.aK L.gn 36 (pU x.now),HP.aK L.f 227 [.slice L.A d.aX.length L.c,.slice (some ⟨L.gn,0,none⟩) d.aX.length d.aX.length,.slice (some ⟨L.gs,0,none⟩) d.aX.length d.aX.length,.bool x.kept],HP.many [cS,cS,cS,HP.cO (wI d L.A) (wI.le (d:=d) (A:=L.A))]]
 refine aD ?_;refine aAz (x:=zC d x) 0 rfl ?_;exact gF 0 hF
def aP3(L:FL)(d:bR)(x:dO)(i:Nat)(v:Int)(n:x.now.length=d.aX.length)(k:x.now[i]? =some v)(w:World)(c:Gr w L d x):
  Cz 201 #[.pointer (some ⟨L.f,0,none⟩),iv (i:Int)] w (Rt (.tuple #[.int .u32 v,iv 0]) w):=by
 have m:i < d.aX.length:=by have:=(cE.1 k).1;omega
 have o:=c.r0.at_ (j:=1) rfl
 have l:=c.now.at_ (aDr k)
 rw[mA] at l;refine bQ func201 ntmps201 ?_;refine cH (t:=8) rfl (fun h=>absurd h aA) (fun _=>?_);refine aD ?_;refine cR (fun e t=>Xz L d x e (c.below (t.below aB))) ?_;refine dD rfl (fun h=>absurd h aA) (fun _=>?_);refine aF ?_;exact kN fun e t=>⟨rfl,t.below aB⟩
def aP0(L:FL)(d:bR)(x:dO)(i:Nat)(v:Int)(j:x.now.length=d.aX.length)(hlt:i < d.aX.length)(w:World)(F:Nat->Prop)(hp:(jB L d x).sat F w)(hF:∀b,F b->b < w.heap.size):
  Cz 202 #[.pointer (some ⟨L.f,0,none⟩),iv (i:Int),.int .u32 v] w (Wr (iv 0) (jB L d ⟨x.now.set i v,x.saved,x.kept⟩) w F):=by
 refine oQ func202 ntmps202 hp hF ?_;refine cH (t:=9) rfl (fun h=>absurd h aA) (fun _=>?_);refine aD ?_;refine cR (fun c t=>Xz L d x c (t.aFe 0 rfl)) ?_;refine dD rfl (fun h=>absurd h aA) (fun _=>?_);refine aAx 0 rfl ?_;dsimp only[List.set,Nk]
 have e:=aAP x.now
 refine aF ?_;rw[aDq];refine aD ?_;refine aAz (x:=⟨x.now.set i v,x.saved,x.kept⟩) 0 rfl ?_;exact cJ 0 hF
def aMj(n:Nat)(xs:List Value)(v:Value)(hs:List HP)(_:Piece):Prop:=∃A c,v=.slice A n c/\hs=[HP.own 73 6 (.slice A n c) n xs]
def aQi(A:Option Addr)(n c:Nat)(xs:List Value)(w:World)(hs:aO (all w) 6 A n xs)(f:∀u∈xs,u.oneCell'=true)(j:n<=1000000):
  Cz 113 #[.slice A n c] w (fun y w'=>(∃v hs q,y=.returned v/\q.w=w'/\aMj n xs v hs q/\iV w hs q)/\Below w.heap.size w w'):=by
 refine bQ func113 ntmps113 ?_;refine oF 73 6 ?_;refine jU 0 6 64 n (n':=n) (v:=sn) (el:=73) aJ aJ aE rfl rfl rfl (sF aB hs) f aA aA aA aE fun i k=>?_;dsimp only[List.set,dG];refine aD ?_;refine dX [] [] [0] fun q _ _ d=>?_;exact bK (h:=fun e st=>⟨_,_,⟨e,q.Z⟩,rfl,rfl,⟨_,_,rfl,rfl⟩,st.newR aB aB (d aB aB)⟩)
def aMh(n:Nat)(xs:List Value)(v:Value)(hs:List HP)(_:Piece):Prop:=∃A c,v=.slice A n c/\hs=[HP.own 75 3 (.slice A n c) n xs]
def aQg(A:Option Addr)(n c:Nat)(xs:List Value)(w:World)(hs:aO (all w) 3 A n xs)(f:∀u∈xs,u.oneCell'=true)(j:n<=1000000):
  Cz 114 #[.slice A n c] w (fun y w'=>(∃v hs q,y=.returned v/\q.w=w'/\aMh n xs v hs q/\iV w hs q)/\Below w.heap.size w w'):=by
 refine bQ func114 ntmps114 ?_;refine oF 75 3 ?_;refine jU 0 3 24 n (n':=n) (v:=sn) (el:=75) aJ aJ aE rfl rfl rfl (sF aB hs) f aA aA aA aE fun i k=>?_;dsimp only[List.set,dG];refine aD ?_;refine dX [] [] [0] fun q _ _ d=>?_;exact bK (h:=fun e st=>⟨_,_,⟨e,q.Z⟩,rfl,rfl,⟨_,_,rfl,rfl⟩,st.newR aB aB (d aB aB)⟩)
def aMf(n:Nat)(xs:List Value)(v:Value)(hs:List HP)(_:Piece):Prop:=∃A c,v=.slice A n c/\hs=[HP.own 77 1 (.slice A n c) n xs]
def aQe(A:Option Addr)(n c:Nat)(xs:List Value)(w:World)(hs:aO (all w) 1 A n xs)(f:∀u∈xs,u.oneCell'=true)(j:n<=1000000):
  Cz 115 #[.slice A n c] w (fun y w'=>(∃v hs q,y=.returned v/\q.w=w'/\aMf n xs v hs q/\iV w hs q)/\Below w.heap.size w w'):=by
 refine bQ func115 ntmps115 ?_;refine oF 77 1 ?_;refine jU 0 1 8 n (n':=n) (v:=sn) (el:=77) aJ aJ aE rfl rfl rfl (sF aB hs) f aA aA aA aE fun i k=>?_;dsimp only[List.set,dG];refine aD ?_;refine dX [] [] [0] fun q _ _ d=>?_;exact bK (h:=fun e st=>⟨_,_,⟨e,q.Z⟩,rfl,rfl,⟨_,_,rfl,rfl⟩,st.newR aB aB (d aB aB)⟩)
def aMi(n:Nat)(xs:List Value)(v:Value)(hs:List HP)(_:Piece):Prop:=∃A c,v=.slice A n c/\hs=[HP.own 80 6 (.slice A n c) n xs]
def aQh(A:Option Addr)(n c:Nat)(xs:List Value)(w:World)(hs:aO (all w) 6 A n xs)(f:∀u∈xs,u.oneCell'=true)(j:n<=1000000):
  Cz 116 #[.slice A n c] w (fun y w'=>(∃v hs q,y=.returned v/\q.w=w'/\aMi n xs v hs q/\iV w hs q)/\Below w.heap.size w w'):=by
 refine bQ func116 ntmps116 ?_;refine oF 80 6 ?_;refine jU 0 6 80 n (n':=n) (v:=sn) (el:=80) aJ aJ aE rfl rfl rfl (sF aB hs) f aA aA aA aE fun i k=>?_;dsimp only[List.set,dG];refine aD ?_;refine dX [] [] [0] fun q _ _ d=>?_;exact bK (h:=fun e st=>⟨_,_,⟨e,q.Z⟩,rfl,rfl,⟨_,_,rfl,rfl⟩,st.newR aB aB (d aB aB)⟩)
def aGi(n:Nat)(xs:List Value)(v:Value)(hs:List HP)(_:Piece):Prop:=∃A c,v=.slice A n c/\hs=[HP.own 3 1 (.slice A n c) n xs]
def aIj(A:Option Addr)(n c:Nat)(xs:List Value)(w:World)(hs:aO (all w) 1 A n xs)(f:∀u∈xs,u.oneCell'=true)(j:n<=1000000):
  Cz 109 #[.slice A n c] w (fun y w'=>(∃v hs q,y=.returned v/\q.w=w'/\aGi n xs v hs q/\iV w hs q)/\Below w.heap.size w w'):=by
 refine bQ func109 ntmps109 ?_;refine oF 3 1 ?_;refine jU 0 1 8 n (n':=n) (v:=sn) (el:=3) aJ aJ aE rfl rfl rfl (sF aB hs) f aA aA aA aE fun i k=>?_;dsimp only[List.set,dG];refine aD ?_;refine dX [] [] [0] fun q _ _ d=>?_;exact bK (h:=fun e st=>⟨_,_,⟨e,q.Z⟩,rfl,rfl,⟨_,_,rfl,rfl⟩,st.newR aB aB (d aB aB)⟩)
def aMg(n:Nat)(xs:List Value)(v:Value)(hs:List HP)(_:Piece):Prop:=∃A c,v=.slice A n c/\hs=[HP.own 82 2 (.slice A n c) n xs]
def aQf(A:Option Addr)(n c:Nat)(xs:List Value)(w:World)(hs:aO (all w) 2 A n xs)(f:∀u∈xs,u.oneCell'=true)(j:n<=1000000):
  Cz 117 #[.slice A n c] w (fun y w'=>(∃v hs q,y=.returned v/\q.w=w'/\aMg n xs v hs q/\iV w hs q)/\Below w.heap.size w w'):=by
 refine bQ func117 ntmps117 ?_;refine oF 82 2 ?_;refine jU 0 2 8 n (n':=n) (v:=sn) (el:=82) aJ aJ aE rfl rfl rfl (sF aB hs) f aA aA aA aE fun i k=>?_;dsimp only[List.set,dG];refine aD ?_;refine dX [] [] [0] fun q _ _ d=>?_;exact bK (h:=fun e st=>⟨_,_,⟨e,q.Z⟩,rfl,rfl,⟨_,_,rfl,rfl⟩,st.newR aB aB (d aB aB)⟩)
structure Oe(p:Piece)(s:aI)(A1:Option Addr)(n1:Nat)(A2:Option Addr)(n2:Nat)(A3:Option Addr)(n3:Nat)(A4:Option Addr)(n4:Nat):Prop where
 iO:kQ (gB p) (vD (gB p)) 73 6 A1 n1 s.aL
 dom:kQ (gB p) xX 75 3 A2 n2 s.domains
 Ex:kQ (gB p) Ci 77 1 A3 n3 s.bG
 dev:kQ (gB p) (sV (gB p)) 80 6 A4 n4 s.aG
section
variable{p q:Piece}{A1 A2 A3 A4:Option Addr}{n1 n2 n3 n4:Nat}
def Oe.le(h:Oe p s A1 n1 A2 n2 A3 n3 A4 n4)(hl:p.Le q):Oe q s A1 n1 A2 n2 A3 n3 A4 n4:=
 ⟨h.iO.mono (lN hl) (fun _ _=>vD.mono (lN hl)),h.dom.mono (lN hl) (fun _ _ h=>h),h.Ex.mono (lN hl) (fun _ _ h=>h),h.dev.mono (lN hl) (fun _ _=>sV.mono (lN hl))⟩
def Oe.W(h:Oe p s A1 n1 A2 n2 A3 n3 A4 n4)(hl:p.Le (all w))(hs:s.small):jH w s A1 n1 A2 n2 A3 n3 A4 n4:=⟨(h.le hl).iO,(h.le hl).dom,(h.le hl).Ex,(h.le hl).dev,hs⟩
def Oe.len(h:Oe p s A1 n1 A2 n2 A3 n3 A4 n4):n1=s.aL.length/\n2=s.domains.length/\n3=s.bG.length/\n4=s.aG.length:=by
 obtain⟨⟨_,_,d,_⟩,⟨_,_,f,_⟩,⟨_,_,c,_⟩,⟨_,_,e,_⟩⟩:=h;exact⟨d,f,c,e⟩
def yT.Q{cs:Array Value}(h:yT (gB p) s cs):∃A1 n1 k1 A2 n2 k2 A3 n3 k3 A4 n4 k4,cs=#[.slice A1 n1 k1,.slice A2 n2 k2,.slice A3 n3 k3,.slice A4 n4 k4]/\Oe p s A1 n1 A2 n2 A3 n3 A4 n4:=by
 obtain⟨A1,n1,k1,A2,n2,k2,A3,n3,k3,A4,n4,k4,f,i,e,c,d⟩:=h;exact⟨A1,n1,k1,A2,n2,k2,A3,n3,k3,A4,n4,k4,f,i,e,c,d⟩
end
def kQ.aHH{α:Type}{p:Piece}{R:α->List Value->Prop}{t:TypeId}{sz n:Nat}{A:Option Addr}{es:List α}(h:kQ (gB p) R t sz A n es){k:Nat}{e:α}(hk:es[k]? =some e):
  ∃b off r,A=some ⟨b,off,none⟩/\p.Z b/\r.length=sz/\R e r/\∀f u,r[f]? =some u->p.w.cell? ⟨b,off+k*sz+f,none⟩=some u:=by
 obtain⟨rows,z,x,l⟩:=h
 have c:k < n:=by
  rw[x];rcases dI k es.length with h | h
  .exact h
  .rw[eW h] at hk;cases hk
 obtain⟨b,off,m,y,j⟩:=aO.at_ l c;obtain⟨r,i,o,C⟩:=z.get hk;refine⟨b,off,r,m,y,i,o,fun f u d=>j f u ?_⟩
 have B:f < sz:=by
  rw[<-i];rcases dI f r.length with h | h
  .exact h
  .rw[eW h] at d;cases d
 rw[C f B,d]
def rZ{N:cQ}{w0:World}{e:Env}{R:List Piece}{H:List HP}{K:Act->World->Prop}{p:HP}(hp:∀w,p.sat (fun _=>False) w)(h:XK N w0 K e R (p::H)):XK N w0 K e R H:=fun a w c st=>
 h a w c (st.new (w':=w) (Below.refl _ _) (by
  rw[show(fresh w w).Z=fun _=>False from by funext b;simp only[fresh,eq_iff_iff,iff_false];omega]
  exact hp w))
abbrev AC:=Option Addr×Nat
def Dy(c:fK)(a:AC):List Value:=[.int .u8 c.kind,.slice a.1 c.src.length a.2,.int .u64 c.rate,iv c.mul,iv c.div,iv c.lock]
def Dx(d:bR)(p:AC×AC):List Value:=[iv d.clock,iv d.domain,iv d.reset,.int .u32 d.zX,.slice p.1.1 d.aX.length p.1.2,.slice p.2.1 d.kJ.length p.2.2]
def Vy(s:aI)(fa:List AC):List (List Value):=List.zipWith Dy s.aL fa
def Vt(s:aI)(da:List (AC×AC)):List (List Value):=List.zipWith Dx s.aG da
section
variable{α β:Type}{f:α->β->List Value}{sz:Nat}
def aAB{es:List α}{bs:List β}(hl:bs.length=es.length)(hf:∀e a,(f e a).length=sz):(List.zipWith f es bs).length=es.length/\∀r∈List.zipWith f es bs,r.length=sz:=by
 refine⟨by simp;omega,fun r d=>?_⟩;obtain⟨j,c⟩:=lA d;rw[lP] at c;split at c<;>cases c
 exact hf _ _
def Xh{es:List α}{bs:List β}{i:Nat}{e:α}{a:β}(c:es[i]? =some e)(d:bs[i]? =some a):(List.zipWith f es bs)[i]? =some (f e a):=by rw[lP,c,d]
def aGw{es:List α}{bs:List β}{i:Nat}{e:α}{a:β}(d:es[i]? =some e)(hi:i < bs.length):(List.zipWith f es bs).set i (f e a)=List.zipWith f es (bs.set i a):=by
 refine qR fun j=>?_;rw[gX]
 by_cases c:i=j
 .subst c
  have h:=(cE.1 d).1
  rw[aH rfl,Xh d (kR hi),aH (by simp;omega)]
 .rw[aC c,lP,lP,pZ c]
def aGx{es:List α}{bs:List β}(hf:∀e a,∀u∈f e a,u.oneCell'=true):∀u∈(List.zipWith f es bs).flatten,u.oneCell'=true:=fun u c=>by
 obtain⟨r,h,c⟩:=List.mem_flatten.1 c;obtain⟨j,d⟩:=lA h;rw[lP] at d;split at d<;>cases d
 exact hf _ _ u c
end
def aVm(c:fK)(a:AC):∀u∈Dy c a,u.oneCell'=true:=by simp[Dy,Value.oneCell']
def aUF(d:bR)(p:AC×AC):∀u∈Dx d p,u.oneCell'=true:=by simp[Dx,Value.oneCell']
def aF3{S:xS}:∀{cl:List fK} {f:List (List Value)},Rows (vD S) 6 cl f->∃fa:List AC,fa.length=cl.length/\f=List.zipWith Dy cl fa/\∀(i:Nat) (c:fK) (a:AC),cl[i]? =some c->fa[i]? =some a->S 3 1 a.1 c.src.length (aU c.src)
 | [],[],_=>⟨[],rfl,rfl,fun i c a h=>by simp at h⟩
 | e::es,r::f,h=>by
  obtain⟨_,⟨A,n,k,l,p,hS⟩,h3⟩:=h;obtain⟨fa,o,m,t⟩:=aF3 h3;subst p;refine⟨(A,k)::fa,by simp[o],by rw[l,m];rfl,fun i c a d j=>?_⟩;cases i with
  | zero=>simp at d j;subst d;subst j;exact hS
  | succ i=>exact t i c a (by simpa using d) (by simpa using j)
def aHF{S:xS}:∀{cl:List fK} {fa:List AC},fa.length=cl.length->(∀(i:Nat) (c:fK) (a:AC),cl[i]? =some c->fa[i]? =some a->S 3 1 a.1 c.src.length (aU c.src))->Rows (vD S) 6 cl (List.zipWith Dy cl fa)
 | [],[],_,_=>trivial
 | c::cl,a::fa,hl,h=>⟨rfl,⟨a.1,_,a.2,rfl,rfl,h 0 c a rfl rfl⟩,aHF (by simpa using hl) fun i j e d f=>h (i+1) j e (by simpa using d) (by simpa using f)⟩
def aFs{S:xS}:∀{cl:List bR} {j:List (List Value)},Rows (sV S) 6 cl j->∃da:List (AC×AC),da.length=cl.length/\j=List.zipWith Dx cl da/\∀(i:Nat) (d:bR) (p:AC×AC),cl[i]? =some d->da[i]? =some p->S 82 2 p.1.1 d.aX.length (d.aX.flatMap Rg.cells)/\S 3 1 p.2.1 d.kJ.length (aU d.kJ)
 | [],[],_=>⟨[],rfl,rfl,fun i c a h=>by simp at h⟩
 | e::es,r::j,h=>by
  obtain⟨_,⟨A,n,k,A',n',w,t,z,m,hS,l⟩,h3⟩:=h;obtain⟨da,y,x,B⟩:=aFs h3;subst z;subst m;refine⟨((A,k),(A',w))::da,by simp[y],by rw[t,x];rfl,fun i d p f o=>?_⟩;cases i with
  | zero=>simp at f o;subst f;subst o;exact⟨hS,l⟩
  | succ i=>exact B i d p (by simpa using f) (by simpa using o)
def aHE{S:xS}:∀{cl:List bR} {da:List (AC×AC)},da.length=cl.length->(∀(i:Nat) (d:bR) (p:AC×AC),cl[i]? =some d->da[i]? =some p->S 82 2 p.1.1 d.aX.length (d.aX.flatMap Rg.cells)/\S 3 1 p.2.1 d.kJ.length (aU d.kJ))->Rows (sV S) 6 cl (List.zipWith Dx cl da)
 | [],[],_,_=>trivial
 | c::cl,a::da,hl,h=>⟨rfl,⟨a.1.1,_,a.1.2,a.2.1,_,a.2.2,rfl,rfl,rfl,(h 0 c a rfl rfl).1,(h 0 c a rfl rfl).2⟩,aHE (by simpa using hl) fun i k f e j=>h (i+1) k f (by simpa using e) (by simpa using j)⟩
def aUc{es:List Dom}{d:List (List Value)}(h:Rows xX 3 es d):∀u∈d.flatten,u.oneCell'=true:=fun u c=>by
 obtain⟨r,i,c⟩:=List.mem_flatten.1 c;obtain⟨j,k⟩:=lA i;obtain⟨e,_,_,f⟩:=h.at_ k;unfold xX at f;subst f;simp only[fT,pY,or_false] at c;rcases c with rfl | rfl | rfl<;>rfl
def aOT{es:List Int}{d:List (List Value)}(h:Rows Ci 1 es d):∀u∈d.flatten,u.oneCell'=true:=fun u c=>by
 obtain⟨r,i,c⟩:=List.mem_flatten.1 c;obtain⟨j,k⟩:=lA i;obtain⟨e,_,_,f⟩:=h.at_ k;unfold Ci at f;subst f;simp only[fT,pY,or_false] at c;subst c;rfl
def Cq(s:aI)(fa:List AC)(i:Nat)(p:Piece):Prop:=∀(j:Nat) (c:fK) (a:AC),j < i->s.aL[j]? =some c->fa[j]? =some a->aO p 1 a.1 c.src.length (aU c.src)
def Cq.le{s:aI}{fa:List AC}{i:Nat}(p q:Piece)(hl:p.Le q)(h:Cq s fa i p):Cq s fa i q:=fun j c a e d f=>(h j c a e d f).le hl
def Gt(s:aI)(da:List (AC×AC))(i:Nat)(p:Piece):Prop:=∀(j:Nat) (d:bR) (a:AC×AC),j < i->s.aG[j]? =some d->da[j]? =some a->aO p 2 a.1.1 d.aX.length (d.aX.flatMap Rg.cells)/\aO p 1 a.2.1 d.kJ.length (aU d.kJ)
def Gt.le{s:aI}{da:List (AC×AC)}{i:Nat}(p q:Piece)(hl:p.Le q)(h:Gt s da i p):Gt s da i q:=fun j c a e d f=>⟨(h j c a e d f).1.le hl,(h j c a e d f).2.le hl⟩
def Tg{l:List Rg}:∀u∈l.flatMap Rg.cells,u.oneCell'=true:=fun u c=>by
 obtain⟨r,_,c⟩:=List.mem_flatMap.1 c;simp only[Rg.cells,fT,pY,or_false] at c;rcases c with rfl | rfl<;>rfl
def aCT(s:aI)(v:Value)(w w':World):Prop:=∃c,v=.agg c/\yT (gB (fresh w w')) s c
def aF1(s:aI)(A1 A2 A3 A4:Option Addr)(n1 k1 n2 k2 n3 k3 n4 k4:Nat)(w:World)(hW:jH w s A1 n1 A2 n2 A3 n3 A4 n4)(hsr:∀d∈s.aG,d.aX.length<=1000000):
  Cz 69 #[.agg #[.slice A1 n1 k1,.slice A2 n2 k2,.slice A3 n3 k3,.slice A4 n4 k4]] w (fun y w'=>(∃v,y=.returned v/\aCT s v w w')/\Below w.heap.size w w'):=by
 obtain⟨rc,hrc,Nc,hsc⟩:=hW.iO;obtain⟨rd,hrd,hn2,hsd⟩:=hW.dom;obtain⟨rr,xD,Zd,hst⟩:=hW.Ex;obtain⟨rv,hrv,Qn,hsv⟩:=hW.dev;obtain⟨A,aRZ,rfl,aSb⟩:=aF3 hrc;obtain⟨k,aSh,rfl,aSi⟩:=aFs hrv;obtain⟨sm1,sm2,sm3,sm4,sm5,sm6⟩:=hW.small;subst Nc;subst hn2;subst Zd;subst Qn
 have ho1:=aGx (es:=s.aL) (bs:=A) aVm
 have ho4:=aGx (es:=s.aG) (bs:=k) aUF
 refine fP func69 ntmps69 ?_;refine fO ?_;refine jS ?_;refine eI fun g1=>?_;refine eE fun O=>?_;refine iJ ?_;refine Wn (fun e R H=>∃C I D N E K V J z,e=[(3,pt z),(2,pt O)]/\R=[all w]/\H=[HP.own 73 6 (.slice C s.aL.length I) s.aL.length (Vy s A).flatten,HP.own 80 6 (.slice V s.aG.length J) s.aG.length (Vt s k).flatten,HP.own 75 3 (.slice D s.domains.length N) s.domains.length rd.flatten,HP.own 77 1 (.slice E s.bG.length K) s.bG.length rr.flatten,HP.aK z 30 [.slice C s.aL.length I,.slice D s.domains.length N,.slice E s.bG.length K,.slice V s.aG.length J],HP.aK O 30 [sn,sn,sn,sn]]) ?_ ?_
 .refine vA 14 aJ aJ ?_;refine bE 0 ?_;refine bE 1 ?_;refine bE 3 ?_;refine bE 4 ?_;refine bE 6 ?_;refine bE 7 ?_;refine bE 9 ?_;refine bE 10 ?_;refine aLG (j:=13) 3 30 [sn,sn,sn,sn] fun M=>?_;refine Wt 2 13 rfl rfl (sD aJ) aE aJ aJ (fun _ h=>h) (fun M=>?_);refine Xl (f:=113) (fi:=[]) (ca:=[]) aJ (Vk M rfl rfl) (Vj M rfl rfl) aE (aMj s.aL.length (Vy s A).flatten) (fun B st=>aQi A1 _ k1 _ B (hsc.le (st.le aB)) ho1 sm1) ?_;rintro _ _ q1 ⟨C,I,rfl,rfl⟩ _;dsimp only[dW,dG];refine aC7 ?_;refine jA ?_;refine iU ?_;refine aA1 aE rfl (fun _ h=>h.cN.tail) ?_;refine Wt 5 13 rfl rfl (sD aJ) aE aJ aJ (fun _ h=>h.cN.tail) (fun M=>?_);refine Xl (f:=114) (fi:=[]) (ca:=[]) aJ (Vk M rfl rfl) (Vj M rfl rfl) aE (aMh s.domains.length rd.flatten) (fun B st=>aQg A2 _ k2 _ B (hsd.le (st.le aB)) (aUc hrd) sm2) ?_;rintro _ _ q2 ⟨D,N,rfl,rfl⟩ _;dsimp only[dW,dG];refine aC7 ?_;refine jA ?_;refine iU ?_;refine aA1 aE rfl (fun _ h=>h.cN.tail.cN.tail) ?_;refine Wt 8 13 rfl rfl (sD aJ) aE aJ aJ (fun _ h=>h.cN.tail.cN.tail) (fun M=>?_);refine Xl (f:=115) (fi:=[]) (ca:=[]) aJ (Vk M rfl rfl) (Vj M rfl rfl) aE (aMf s.bG.length rr.flatten) (fun B st=>aQe A3 _ k3 _ B (hst.le (st.le aB)) (aOT xD) sm3) ?_;rintro _ _ q3 ⟨E,K,rfl,rfl⟩ _;dsimp only[dW,dG];refine aC7 ?_;refine jA ?_;refine iU ?_;refine aA1 aE rfl (fun _ h=>h.cN.tail.cN.tail.cN.tail) ?_;refine Wt 11 13 rfl rfl (sD aJ) aE aJ aJ (fun _ h=>h.cN.tail.cN.tail.cN.tail) (fun M=>?_);refine Xl (f:=116) (fi:=[]) (ca:=[]) aJ (Vk M rfl rfl) (Vj M rfl rfl) aE (aMi s.aG.length (Vt s k).flatten) (fun B st=>aQh A4 _ k4 _ B (hsv.le (st.le aB)) ho4 sm4) ?_;rintro _ _ q4 ⟨V,J,rfl,rfl⟩ _;dsimp only[dW,dG];refine aC7 ?_;refine jA ?_;refine iU ?_;refine aA1 aE rfl (fun _ h=>h.cN.tail.cN.tail.cN.tail.cN.tail) ?_;cases M with
  | none=>
   dsimp only[yP,Bx,Dm,Ie];refine nG 12 rfl rfl rfl aE (Im (zs:=[sn,sn,sn,sn]) (L:=[(0,1),(1,1),(2,1),(3,1)]) (sD aJ) aJ rfl (by simp[mR,qQ,Value.cells];rfl)) aJ (fun _ _ _ h=>h) (fun _ h=>h.cN.tail.cN.tail.cN.tail.cN.tail) ?_;refine dB 13 ?_;refine eE fun z=>?_;refine jA ?_;refine iU ?_;refine mF (fun _ h=>h.tail.cN.tail.cN.tail.cN.tail.cN.tail) ?_;refine dB 14 ?_;refine mO 0 rfl ?_;dsimp only[List.set];refine fY ?_;refine kV ?_;refine eR ?_;exact xL [4,1,3,2,0,5] rfl aE aB (cF [(3,pt z),(2,pt O)] (aAy ⟨C,I,D,N,E,K,V,J,z,rfl,rfl,rfl⟩))
  | some z=>
   dsimp only[yP,Bx,Dm,Ie];refine nG 12 rfl rfl rfl aE (Im (zs:=[sn,sn,sn,sn]) (L:=[(0,1),(1,1),(2,1),(3,1)]) (sD aJ) aJ rfl (by simp[mR,qQ,Value.cells];rfl)) aJ (fun _ _ _ h=>h) (fun _ h=>h.tail.cN.tail.cN.tail.cN.tail.cN.tail) ?_;refine dB 14 ?_;refine mO 0 rfl ?_;dsimp only[List.set];refine fY ?_;refine kV ?_;refine eR ?_;exact xL [4,1,3,2,0,5] rfl aE aB (cF [(3,pt z),(2,pt O)] (aAy ⟨C,I,D,N,E,K,V,J,z,rfl,rfl,rfl⟩))
 rintro _ _ _ ⟨C,I,D,N,E,K,V,J,z,rfl,rfl,rfl⟩;refine rZ (p:=HP.cO (Cq s A 0) (Cq.le (s:=s) (fa:=A) (i:=0))) (fun B j c a hj=>absurd hj aA) ?_;refine aD ?_;refine cF [(23,iv 0),(22,iv s.aL.length),(3,pt z),(2,pt O)] ?_;refine gA (fun m e R H=>∃(i:Nat) (o:List AC),i<=s.aL.length/\o.length=s.aL.length/\(∀j,i<=j->o[j]? =A[j]?)/\m=s.aL.length - i/\e=[(23,iv i),(22,iv s.aL.length),(3,pt z),(2,pt O)]/\R=[all w]/\H=[HP.cO (Cq s o i) (Cq.le (s:=s) (fa:=o) (i:=i)),HP.own 73 6 (.slice C s.aL.length I) s.aL.length (Vy s o).flatten,HP.own 80 6 (.slice V s.aG.length J) s.aG.length (Vt s k).flatten,HP.own 75 3 (.slice D s.domains.length N) s.domains.length rd.flatten,HP.own 77 1 (.slice E s.bG.length K) s.bG.length rr.flatten,HP.aK z 30 [.slice C s.aL.length I,.slice D s.domains.length N,.slice E s.bG.length K,.slice V s.aG.length J],HP.aK O 30 [sn,sn,sn,sn]]) s.aL.length ⟨0,A,aA,aRZ,fun _ _=>rfl,rfl,rfl,rfl,rfl⟩ fun m e R H hI=>?_;obtain⟨i,o,hi,hfl,T,rfl,rfl,rfl,rfl⟩:=hI;refine aD ?_;refine dD rfl (fun r=>?_) (fun hge=>?_)
 .have r:i < s.aL.length:=aA
  obtain⟨c,hc⟩:=get_some r;obtain⟨a,ha⟩:=get_some (l:=o) (i:=i) aA
  have ha0:A[i]? =some a:=by rw[<-T i (gE _)];exact ha
  have aRY:=aSb i c a hc ha0
  have hcs:=sm5 c (dJ hc)
  refine aZ [1,0,2,3,4,5,6] ?_;refine aC9 0 rfl aA fun gC hC=>?_;subst hC;refine Iv 0 rfl fun cs h1 U h3 h4=>?_;dsimp only[List.set];obtain⟨Z,Y⟩:=aAB (f:=Dy) (es:=s.aL) (bs:=o) (sz:=6) hfl (fun _ _=>rfl)
  have hs:=Ig U Z Y (Xh hc ha)
  refine aD ?_;refine vA 10 aJ aJ ?_;refine bE 0 ?_;refine bE 1 ?_;refine bE 2 ?_;refine bE 3 ?_;refine bE 4 ?_;refine bE 5 ?_;refine bE 6 ?_ (bL:=dat (sz:=6) i (i*6));refine bE 7 ?_;refine bE 8 ?_;refine dB 9 ?_;refine gN (aGi c.src.length (aU c.src)) (fun B st=>aIj a.1 _ a.2 _ B (aO.le aRY (st.le aB)) (Us _) hcs) ?_;rintro _ _ q ⟨Af,kf,rfl,rfl⟩ _;dsimp only[dW,dG];refine qH ?_;refine dB 10 ?_;refine kd (dat i (i*6)) ?_;refine fY ?_;refine dB 11 ?_;refine bN ?_;refine fY ?_;refine dB 12 ?_;refine vR ?_;refine fY ?_;refine kV ?_
  have hs1:=hs.set 1 (.slice Af c.src.length kf) (by simp[Dy]) aA
  have hu1:=(xQ.refl cs (i*6) 6).set 1 (.slice Af c.src.length kf) aE
  have hf:=Fs (r':=Dy c (Af,kf)) U Z Y r aA rfl hs1 hu1
  rw[show(Vy s o).set i (Dy c (Af,kf))=Vy s (o.set i (Af,kf)) from aGw hc aA] at hf;refine Aj 1 (n:=s.aL.length) (c:=I) (sz:=6) rfl (by simpa using h1) hf h3 h4 ?_;dsimp only[List.set];refine Ch 0 (Φ:=fun p=>aO p 1 Af c.src.length (aU c.src)) (hm:=fun p q hl h=>aO.le h hl) rfl (fun p h=>h) ?_;dsimp only[List.set];refine aZ [0,2,1,3,4,5,6,7] ?_
  refine Ny (X:=Cq s (o.set i (Af,kf)) (i+1)) (h3:=Cq.le) (fun p h1 U j c' a' hj hc' x=>by
   rcases dI j i with h | h
   .rw[pZ aA] at x;exact U j c' a' h hc' x
   .obtain rfl:j=i:=by omega
    rw[hc] at hc';cases hc';rw[kR aA] at x;cases x
    exact h1) ?_
  refine aD ?_;refine cF [(23,iv (i+1:Nat)),(22,iv s.aL.length),(3,pt z),(2,pt O)] ?_;refine Ee (R':=[all w]) aB ?_;exact iZ (s.aL.length - (i+1)) aA ⟨i+1,o.set i (Af,kf),r,by simpa using hfl,fun j hj=>by rw[pZ aA];exact T j aA,rfl,rfl,rfl,rfl⟩
 .obtain rfl:i=s.aL.length:=by omega
  refine rZ (p:=HP.cO (Gt s k 0) (Gt.le (s:=s) (da:=k) (i:=0))) (fun B j d a hj=>absurd hj aA) ?_;refine aD ?_;refine cF [(42,iv 0),(41,iv s.aG.length),(3,pt z),(2,pt O)] ?_;refine gA (fun m e R H=>∃(i:Nat) (F:List (AC×AC)),i<=s.aG.length/\F.length=s.aG.length/\(∀j,i<=j->F[j]? =k[j]?)/\m=s.aG.length - i/\e=[(42,iv i),(41,iv s.aG.length),(3,pt z),(2,pt O)]/\R=[all w]/\H=[HP.cO (Gt s F i) (Gt.le (s:=s) (da:=F) (i:=i)),HP.cO (Cq s o s.aL.length) (Cq.le (s:=s) (fa:=o) (i:=s.aL.length)),HP.own 73 6 (.slice C s.aL.length I) s.aL.length (Vy s o).flatten,HP.own 80 6 (.slice V s.aG.length J) s.aG.length (Vt s F).flatten,HP.own 75 3 (.slice D s.domains.length N) s.domains.length rd.flatten,HP.own 77 1 (.slice E s.bG.length K) s.bG.length rr.flatten,HP.aK z 30 [.slice C s.aL.length I,.slice D s.domains.length N,.slice E s.bG.length K,.slice V s.aG.length J],HP.aK O 30 [sn,sn,sn,sn]]) s.aG.length ⟨0,k,aA,aSh,fun _ _=>rfl,rfl,rfl,rfl,rfl⟩ fun m e R H hI=>?_;obtain⟨i,F,hi,rR,G,rfl,rfl,rfl,rfl⟩:=hI;refine aD ?_;refine dD rfl (fun r=>?_) (fun hge=>?_)
  .have r:i < s.aG.length:=aA
   obtain⟨d,hd⟩:=get_some r;obtain⟨⟨a1,a2⟩,ha⟩:=get_some (l:=F) (i:=i) aA
   have ha0:k[i]? =some (a1,a2):=by rw[<-G i (gE _)];exact ha
   obtain⟨aRQ,aRS⟩:=aSi i d _ hd ha0
   have Nb:=hsr d (dJ hd)
   have hr2:=sm6 d (dJ hd)
   refine aZ [3,0,1,2,4,5,6,7] ?_;refine aC9 0 rfl aA fun gV hV=>?_;subst hV;refine Iv 0 rfl fun cs h1 U h3 h4=>?_;dsimp only[List.set];obtain⟨Z,Y⟩:=aAB (f:=Dx) (es:=s.aG) (bs:=F) (sz:=6) rR (fun _ _=>rfl)
   have hs:=Ig U Z Y (Xh hd ha)
   refine aD ?_;refine cG (dat i (i*6)) ?_;refine kO [3,4,5,8,9,10] ?_;refine bU 0 ?_;refine bU 1 ?_;refine bU 2 ?_;refine bU 7 ?_;refine aQ 3 ?_;refine aQ 4 ?_;refine aQ 5 ?_;refine aQ 8 ?_;refine aQ 9 ?_;refine aQ 10 ?_;refine aR 6 ?_;refine gN (aMg d.aX.length (d.aX.flatMap Rg.cells)) (fun B st=>aQf a1.1 _ a1.2 _ B (aO.le aRQ (st.le aB)) Tg Nb) ?_;rintro _ _ q1 ⟨Ag,kg,rfl,rfl⟩ _;dsimp only[dW,dG];refine bH ?_;refine aR 11 ?_;refine gN (aGi d.kJ.length (aU d.kJ)) (fun B st=>aIj a2.1 _ a2.2 _ B (aO.le aRS (st.le aB)) (Us _) hr2) ?_;rintro _ _ q2 ⟨An,kn,rfl,rfl⟩ _;dsimp only[dW,dG];refine bH ?_ (hS:=fun _ h=>h.cN.tail.cN.tail);refine aR 12 ?_;refine bN ?_;refine bH ?_ (hS:=fun _ h=>h.cN.tail.cN.tail);refine aR 13 ?_;refine bN ?_;refine bH ?_ (hS:=fun _ h=>h.cN.tail.cN.tail);refine aR 14 ?_;refine vR ?_;refine cT ?_;refine aR 15 ?_;refine bN ?_;refine cT ?_;refine aR 16 ?_;refine bN ?_;refine cT ?_;refine aR 17 ?_;refine vR ?_;refine cT ?_;refine lW ?_
   have hs1:=(hs.set 4 (.slice Ag d.aX.length kg) (by simp[Dx]) aA).set 5 (.slice An d.kJ.length kn) (by simp[Dx]) (by simp;omega)
   have hu1:=((xQ.refl cs (i*6) 6).set 4 (.slice Ag d.aX.length kg) aE).set 5 (.slice An d.kJ.length kn) aE
   have hf:=Fs (r':=Dx d ((Ag,kg),(An,kn))) U Z Y r aA rfl hs1 hu1
   rw[show(Vt s F).set i (Dx d ((Ag,kg),(An,kn)))=Vt s (F.set i ((Ag,kg),(An,kn))) from aGw hd aA] at hf;refine Aj 2 (n:=s.aG.length) (c:=J) (sz:=6) rfl (by simpa using h1) hf h3 h4 ?_;dsimp only[List.set];refine Ch 0 (Φ:=fun p=>aO p 1 An d.kJ.length (aU d.kJ)) (hm:=fun p q hl h=>aO.le h hl) rfl (fun p h=>h) ?_;refine Ch 1 (Φ:=fun p=>aO p 2 Ag d.aX.length (d.aX.flatMap Rg.cells)) (hm:=fun p q hl h=>aO.le h hl) rfl (fun p h=>h) ?_;dsimp only[List.set];refine Ny (X:=fun p=>aO p 1 An d.kJ.length (aU d.kJ)/\aO p 2 Ag d.aX.length (d.aX.flatMap Rg.cells)) (h3:=fun p q hl h=>⟨aO.le h.1 hl,aO.le h.2 hl⟩) (fun p h1 U=>⟨h1,U⟩) ?_;refine aZ [0,2,3,4,1,5,6,7,8] ?_
   refine Ny (X:=Gt s (F.set i ((Ag,kg),(An,kn))) (i+1)) (h3:=Gt.le) (fun p h1 U j d' a' hj hd' x=>by
    rcases dI j i with h | h
    .rw[pZ aA] at x;exact U j d' a' h hd' x
    .obtain rfl:j=i:=by omega
     rw[hd] at hd';cases hd';rw[kR aA] at x;cases x
     exact⟨h1.2,h1.1⟩) ?_
   refine aD ?_;refine cF [(42,iv (i+1:Nat)),(41,iv s.aG.length),(3,pt z),(2,pt O)] ?_;refine Ee (R':=[all w]) aB ?_;exact iZ (s.aG.length - (i+1)) aA ⟨i+1,F.set i ((Ag,kg),(An,kn)),r,by simpa using rR,fun j hj=>by rw[pZ aA];exact G j aA,rfl,rfl,rfl,rfl⟩
  .obtain rfl:i=s.aG.length:=by omega
   refine aZ [6,7,0,1,2,3,4,5] ?_;refine aD ?_;refine dX [] [2,3,4,5,6,7] [1] fun q hq _ hfr=>?_;obtain⟨F0,s0,z0⟩:=hq 2 _ aB rfl;obtain⟨F1,s1,z1⟩:=hq 3 _ aB rfl
   have e0:Gt s F s.aG.length q:=Gt.le ⟨q.w,F0⟩ q (fun b hb=>⟨z0 b hb,rfl⟩) s0
   have e1:Cq s o s.aL.length q:=Cq.le ⟨q.w,F1⟩ q (fun b hb=>⟨z1 b hb,rfl⟩) s1
   have e2:=aO.own (hq 4 _ aB rfl)
   have e3:=aO.own (hq 5 _ aB rfl)
   have e4:=aO.own (hq 6 _ aB rfl)
   have e5:=aO.own (hq 7 _ aB rfl)
   have hS:yT (gB q) s #[.slice C s.aL.length I,.slice D s.domains.length N,.slice E s.bG.length K,.slice V s.aG.length J]:=
    ⟨C,_,I,D,_,N,E,_,K,V,_,J,rfl,⟨_,aHF hfl (fun i c a hc ha=>e1 i c a (cE.1 hc).1 hc ha),rfl,e2⟩,⟨rd,hrd,rfl,e4⟩,⟨rr,xD,rfl,e5⟩,⟨_,aHE rR (fun i d p hd hp=>e0 i d p (cE.1 hd).1 hd hp),rfl,e3⟩⟩
   exact aAt (vs:=[.slice C s.aL.length I,.slice D s.domains.length N,.slice E s.bG.length K,.slice V s.aG.length J]) rfl aJ rfl rfl (by first | assumption | exact cI.whole 0 rfl | exact cI.whole 1 rfl | exact cI.whole 2 rfl | exact cI.whole 3 rfl | exact cI.whole 4 rfl | exact cI.whole 5 rfl | exact cI.whole 6 rfl | exact cI.whole 7 rfl | exact cI.whole 8 rfl | exact aCO aB (by assumption)) fun B t=>⟨⟨_,rfl,_,rfl,hS.mono (lN (t.oA aB (hfr aB aB)))⟩,t.below aB⟩
def aAu{p : HP}{ps : List HP}(h : XK N w0 K e R (HP.many (ps ++ [p]) :: H)) : XK N w0 K e R (p :: HP.many ps :: H) := fun a w hr st => by
  obtain⟨Z,F,hz,xD,hs,Nd,tE⟩:=st.ex;obtain⟨G,hG1,hG2,hG3⟩:=hs 1 _ rfl;refine h a w hr ⟨st.os,st.tape,st.output,st.size,Z,fun j=>match j with | 0=>fun b=>F 0 b\/F 1 b | j+1=>F (j+2),hz,xD,fun j r hj=>?_,fun j b hb=>?_,fun j k b Zf hj hk=>?_⟩
  · cases j with
    | zero =>
      simp at hj;subst hj;refine⟨fun i b=>if i < ps.length then G i b else i=ps.length/\F 0 b,fun i r hi=>?_,fun i b hb=>?_,fun i k b hik h1 h2=>?_⟩
      · rcases dI i ps.length with hl | hl
        · rw[pL hl] at hi
          show r.sat (fun b=>if i < ps.length then G i b else i=ps.length/\F 0 b) w
          rw[show(fun b=>if i < ps.length then G i b else i=ps.length/\F 0 b)=G i by funext b;rw[aH hl]];exact hG1 i r hi
        · rw[nA hl] at hi
          have h0:=By hi
          have hil:i=ps.length:=by simp at h0;omega
          subst hil;simp at hi;subst hi
          show p.sat (fun b=>if ps.length < ps.length then G ps.length b else ps.length=ps.length/\F 0 b) w
          rw[show(fun b=>if ps.length < ps.length then G ps.length b else ps.length=ps.length/\F 0 b)=F 0 by funext b;simp];exact hs 0 _ rfl
      · dsimp only at hb
        split at hb
        · exact .inr (hG2 i b hb)
        · exact .inl hb.2
      · dsimp only at h1 h2
        split at h1<;>split at h2
        · exact hG3 i k b hik h1 h2
        · exact tE 1 0 b aA (hG2 i b h1) h2.2
        · exact tE 0 1 b aA h1.2 (hG2 k b h2)
        · omega
    | succ j=>exact hs (j+2) r (by simpa using hj)
  · cases j with
    | zero=>rcases hb with hb | hb<;>exact Nd _ b hb
    | succ j=>exact Nd _ b hb
  · cases j with
    | zero => cases k with
      | zero=>exact Zf rfl
      | succ k => rcases hj with hj | hj
                  · exact tE 0 (k+2) b aA hj hk
                  · exact tE 1 (k+2) b aA hj hk
    | succ j => cases k with
      | zero => rcases hk with hk | hk
                · exact tE 0 (j+2) b aA hk hj
                · exact tE 1 (j+2) b aA hk hj
      | succ k=>exact tE (j+2) (k+2) b aA hj hk
def Ah{N:cQ}{w0:World}{e:Env}{R:List Piece}{H:List HP}{K:Act->World->Prop}{p q r:HP}(h:XK N w0 K e R (HP.many [p,q,r]::H)):XK N w0 K e R (p::q::r::H):=by
 refine oP ?_;refine fun a w f st=>?_
 refine(aAu (ps:=[p,q]) (p:=r) h) a w f (st.weak (fun _ h=>h) (fun i=>match i with
  | 0=>1
  | 1=>0
  | i+2=>i+2) (fun i j _ _ d=>by
   match i,j with
   | 0,0=>rfl
   | 0,1=>simp at d
   | 0,j+2=>simp at d
   | 1,0=>simp at d
   | 1,1=>rfl
   | 1,j+2=>simp at d
   | i+2,0=>simp at d
   | i+2,1=>simp at d
   | i+2,j+2=>simpa using d) (fun i p c=>by
   match i,c with
   | 0,c=>simpa using c
   | 1,c=>simpa using c
   | i+2,c=>simpa using c))
def aWN{N:cQ}{w0:World}{e:Env}{R:List Piece}{H:List HP}{K:Act->World->Prop}{p q r s:HP}(h:XK N w0 K e R (HP.many [p,q,r,s]::H)):XK N w0 K e R (p::q::r::s::H):=by
 refine oP ?_;refine fun a w k st=>?_
 have c:∀{x y:HP} {H:List HP} {w:World},St w0 R (x::y::H) w->St w0 R (y::x::H) w:=fun st=>st.weak (fun _ h=>h) (fun i=>match i with
  | 0=>1
  | 1=>0
  | i+2=>i+2) (fun i j _ _ f=>by
   match i,j with
   | 0,0=>rfl
   | 0,1=>simp at f
   | 0,j+2=>simp at f
   | 1,0=>simp at f
   | 1,1=>rfl
   | 1,j+2=>simp at f
   | i+2,0=>simp at f
   | i+2,1=>simp at f
   | i+2,j+2=>simpa using f) (fun i p d=>by
   match i,d with
   | 0,d=>simpa using d
   | 1,d=>simpa using d
   | i+2,d=>simpa using d)
 refine(aAu (ps:=[p,q]) (p:=r) (H:=s::H) (fun a w k st=>?_)) a w k (c st);exact(aAu (ps:=[p,q,r]) (p:=s) h) a w k (c st)
def aM0(d:bR)(v:Value)(hs:List HP)(_:Piece):Prop:=∃L:FL,v=.tuple #[.pointer (some ⟨L.f,0,none⟩),iv 0]/\hs=[jB L d (Ih d)]
def Hq(l:List Rg):List.replicate l.length (Value.int .u32 0)=pU (l.map fun _=>0):=by
 refine qR fun j=>?_;simp only[pU,Mr,zJ,eO]
 by_cases h:j < l.length
 .rw[aH h,cX h];rfl
 .rw[aC h,eW aA];rfl
def aP4(d:bR)(F:d.aX.length<=8)(D:∀r∈d.aX,0<=r.reset/\r.reset < 4294967296)(A:Option Addr)(c:Nat)(w:World)(hs:aO (all w) 2 A d.aX.length (d.aX.flatMap Rg.cells)):
  Cz 65 #[.slice A d.aX.length c] w (fun y w'=>(∃v hs q,y=.returned v/\q.w=w'/\aM0 d v hs q/\iV w hs q)/\Below w.heap.size w w'):=by
 refine fP func65 ntmps65 ?_;refine fO ?_;refine jS ?_;refine bN ?_;refine bN ?_;refine iJ ?_;refine fO ?_;refine fO ?_;refine jS ?_;refine bN ?_;refine bN ?_;refine bN ?_;refine aF ?_;refine dD rfl (fun h=>absurd h aA) (fun _=>?_);refine sQ ?_;refine eR ?_;refine Wn (fun e R H=>∃B j i k f,e=[(4,pt f)]/\R=[all w]/\H=[HP.aK f 227 [.slice B d.aX.length j,.slice (some ⟨i,0,none⟩) d.aX.length d.aX.length,.slice (some ⟨k,0,none⟩) d.aX.length d.aX.length,.bool false],HP.aK i 36 (pU (d.aX.map fun _=>0)),HP.aK k 36 (pU (d.aX.map fun _=>0)),HP.own 82 2 (.slice B d.aX.length j) d.aX.length (d.aX.flatMap Rg.cells)]) ?_ ?_
 .refine vA 8 aJ aJ ?_;refine bE 0 ?_;refine bE 2 ?_;refine bE 3 ?_;refine bE 5 ?_;refine bE 6 ?_;refine aXp 1 4 7 rfl rfl rfl aJ ?_ ?_ ?_
  .skip
   refine gN (Xe d.aX.length (d.aX.flatMap Rg.cells)) (fun l st=>aAb A _ c _ l (hs.le (st.le aB)) Tg aA) ?_;rintro _ _ q ⟨B,j,rfl,rfl⟩ _;dsimp only[dW,dG];refine qH ?_ (hS:=(fun _ h=>h.cN.tail));refine Od 4 7 rfl rfl aJ ?_ ?_
   .skip
    refine oZ (n:=d.aX.length) 4 (el:=36) (z:=.int .u32 0) aJ aJ rfl rfl rfl aA aA aE fun i=>?_;rw[Hq d.aX];refine qH ?_ (hS:=(fun _ h=>h.tail.cN.tail));refine dB 7 ?_;refine oZ (n:=d.aX.length) 4 (el:=36) (z:=.int .u32 0) aJ aJ rfl rfl rfl aA aA aE fun k=>?_;rw[Hq d.aX];refine qH ?_ (hS:=(fun _ h=>h.tail.tail.cN.tail));refine dB 8 ?_;refine kd (fI rfl) ?_;refine fY ?_;refine dB 9 ?_;refine eI fun f=>?_;refine fY ?_;refine dB 10 ?_;refine bN ?_;refine fY ?_;refine kV ?_;refine eR ?_;exact rK ⟨B,j,i,k,f,rfl,rfl,rfl⟩
   .skip
    refine oZ (n:=d.aX.length) 4 (el:=36) (z:=.int .u32 0) aJ aJ rfl rfl rfl aA aA aE fun k=>?_;rw[Hq d.aX];refine qH ?_ (hS:=(fun _ h=>h.tail.cN.tail));refine dB 4 ?_;refine oZ (n:=d.aX.length) 4 (el:=36) (z:=.int .u32 0) aJ aJ rfl rfl rfl aA aA aE fun i=>?_;rw[Hq d.aX];refine qH ?_ (hS:=(fun _ h=>h.tail.tail.cN.tail));refine dB 8 ?_;refine kd (fI rfl) ?_;refine fY ?_;refine dB 9 ?_;refine eI fun f=>?_;refine fY ?_;refine dB 10 ?_;refine bN ?_;refine fY ?_;refine kV ?_;refine eR ?_;exact rK ⟨B,j,i,k,f,rfl,rfl,rfl⟩
  .skip
   refine oZ (n:=d.aX.length) 4 (el:=36) (z:=.int .u32 0) aJ aJ rfl rfl rfl aA aA aE fun i=>?_;rw[Hq d.aX];refine qH ?_ (hS:=(fun _ h=>h.tail));refine Od 1 7 rfl rfl aJ ?_ ?_
   .skip
    refine gN (Xe d.aX.length (d.aX.flatMap Rg.cells)) (fun l st=>aAb A _ c _ l (hs.le (st.le aB)) Tg aA) ?_;rintro _ _ q ⟨B,j,rfl,rfl⟩ _;dsimp only[dW,dG];refine qH ?_ (hS:=(fun _ h=>h.cN.tail.tail));refine dB 7 ?_;refine oZ (n:=d.aX.length) 4 (el:=36) (z:=.int .u32 0) aJ aJ rfl rfl rfl aA aA aE fun k=>?_;rw[Hq d.aX];refine qH ?_ (hS:=(fun _ h=>h.tail.cN.tail.tail));refine dB 8 ?_;refine kd (fI rfl) ?_;refine fY ?_;refine dB 9 ?_;refine eI fun f=>?_;refine fY ?_;refine dB 10 ?_;refine bN ?_;refine fY ?_;refine kV ?_;refine eR ?_;exact rK ⟨B,j,i,k,f,rfl,rfl,rfl⟩
   .skip
    refine oZ (n:=d.aX.length) 4 (el:=36) (z:=.int .u32 0) aJ aJ rfl rfl rfl aA aA aE fun k=>?_;rw[Hq d.aX];refine qH ?_ (hS:=(fun _ h=>h.tail.tail));refine dB 1 ?_;refine gN (Xe d.aX.length (d.aX.flatMap Rg.cells)) (fun l st=>aAb A _ c _ l (hs.le (st.le aB)) Tg aA) ?_;rintro _ _ q ⟨B,j,rfl,rfl⟩ _;dsimp only[dW,dG];refine qH ?_ (hS:=(fun _ h=>h.cN.tail.tail.tail));refine dB 8 ?_;refine kd (fI rfl) ?_;refine fY ?_;refine dB 9 ?_;refine eI fun f=>?_;refine fY ?_;refine dB 10 ?_;refine bN ?_;refine fY ?_;refine kV ?_;refine eR ?_;exact rK ⟨B,j,i,k,f,rfl,rfl,rfl⟩
  .skip
   refine oZ (n:=d.aX.length) 4 (el:=36) (z:=.int .u32 0) aJ aJ rfl rfl rfl aA aA aE fun k=>?_;rw[Hq d.aX];refine qH ?_ (hS:=(fun _ h=>h.tail));refine Od 1 4 rfl rfl aJ ?_ ?_
   .skip
    refine gN (Xe d.aX.length (d.aX.flatMap Rg.cells)) (fun l st=>aAb A _ c _ l (hs.le (st.le aB)) Tg aA) ?_;rintro _ _ q ⟨B,j,rfl,rfl⟩ _;dsimp only[dW,dG];refine qH ?_ (hS:=(fun _ h=>h.cN.tail.tail));refine dB 4 ?_;refine oZ (n:=d.aX.length) 4 (el:=36) (z:=.int .u32 0) aJ aJ rfl rfl rfl aA aA aE fun i=>?_;rw[Hq d.aX];refine qH ?_ (hS:=(fun _ h=>h.tail.cN.tail.tail));refine dB 8 ?_;refine kd (fI rfl) ?_;refine fY ?_;refine dB 9 ?_;refine eI fun f=>?_;refine fY ?_;refine dB 10 ?_;refine bN ?_;refine fY ?_;refine kV ?_;refine eR ?_;exact rK ⟨B,j,i,k,f,rfl,rfl,rfl⟩
   .skip
    refine oZ (n:=d.aX.length) 4 (el:=36) (z:=.int .u32 0) aJ aJ rfl rfl rfl aA aA aE fun i=>?_;rw[Hq d.aX];refine qH ?_ (hS:=(fun _ h=>h.tail.tail));refine dB 1 ?_;refine gN (Xe d.aX.length (d.aX.flatMap Rg.cells)) (fun l st=>aAb A _ c _ l (hs.le (st.le aB)) Tg aA) ?_;rintro _ _ q ⟨B,j,rfl,rfl⟩ _;dsimp only[dW,dG];refine qH ?_ (hS:=(fun _ h=>h.cN.tail.tail.tail));refine dB 8 ?_;refine kd (fI rfl) ?_;refine fY ?_;refine dB 9 ?_;refine eI fun f=>?_;refine fY ?_;refine dB 10 ?_;refine bN ?_;refine fY ?_;refine kV ?_;refine eR ?_;exact rK ⟨B,j,i,k,f,rfl,rfl,rfl⟩
 rintro _ _ _ ⟨B,j,i,k,f,rfl,rfl,rfl⟩;refine Ch 3 (Φ:=wI d B) (hm:=wI.le (d:=d) (A:=B)) rfl (fun p h=>h) ?_;dsimp only[List.set];refine aWN ?_;refine aF ?_
 refine gM 0 (jB ⟨f,i,k,B,j⟩ d (Ir d ⟨d.aX.map fun _=>0,d.aX.map fun _=>0,false⟩)) (fun l G t hG m C=>aBj ⟨f,i,k,B,j⟩ d ⟨d.aX.map fun _=>0,d.aX.map fun _=>0,false⟩ aA ⟨aB,aB,fun v x=>by
  obtain⟨r,E,rfl⟩:=fR.1 x;decide,fun v x=>by
  obtain⟨r,E,rfl⟩:=fR.1 x
  decide⟩ l G hG m) ?_
 refine aF ?_;refine dX [] [] [0] fun q _ _ o=>?_;exact kN fun l t=>⟨⟨_,_,⟨l,q.Z⟩,rfl,rfl,⟨⟨f,i,k,B,j⟩,rfl,rfl⟩,t.newR aB aB (o aB aB)⟩,t.below aB⟩
def aPI(w:World):
  Cz 67 #[] w (fun y w'=>(∃v hs q,y=.returned v/\q.w=w'/\(∃g,v=pt g/\hs=[HP.aK g 229 [iv 0,iv 0]])/\iV w hs q)/\Below w.heap.size w w'):=by
 refine fP func67 ntmps67 ?_;refine aD ?_;refine kd (fI rfl) ?_;refine eI fun g=>?_;refine aD ?_;refine dX [] [] [0] fun q _ _ c=>?_;exact bK (h:=fun d t=>⟨_,_,⟨d,q.Z⟩,rfl,rfl,⟨g,rfl,rfl⟩,t.newR aB aB (c aB aB)⟩)
def Wx(x:eK):List Value:=[iv x.at_,iv x.denied]
def xT(g:Nat)(x:eK):HP:=HP.aK g 229 (Wx x)
def Xb(w:World):Prop:=∀i v,[(114:Int),97,115,100][i]? =some v->iD w 0 i (.int .u8 v)
def Xb.below{w w':World}(h:Xb w)(d:Below w.heap.size w w'):Xb w':=fun i v c=>
 ⟨jC (h i v c).1 d.size,(d.cell (p:=⟨0,i,none⟩) (h i v c).1).trans (h i v c).2⟩
def aHU(g:Nat)(x:eK)(hx:En x)(w:World)(hL:Xb w)(h:eL w g 0 (Wx x)):
  Cz 216 #[pt g] w (Rt (.int .u8 (sO x.at_)) w):=by
 have f:=h.at_ (j:=0) rfl
 obtain⟨l,m⟩:=hx;obtain⟨i,c⟩:∃i:Nat,x.at_=i:=⟨x.at_.toNat,aA⟩
 have k:[(114:Int),97,115,100][i]? =some (sO x.at_):=by
  have:i=0\/i=1\/i=2\/i=3:=by omega
  rcases this with rfl | rfl | rfl | rfl<;>rw[c]<;>rfl
 have d:=hL i _ k
 have e:i < 4:=by omega
 rw[c] at f d|-;refine fP func216 ntmps216 ?_;refine aD ?_;refine kd (iA i i) ?_;refine aD ?_;exact dP
section
variable{g:Nat}{x:eK}{F:Nat->Prop}
def aPL(hp:(xT g x).sat F w)(hF:∀b,F b->b < w.heap.size):
  Cz 233 #[pt g] w (Wr (iv (vY x).1) (xT g (vY x).2) w F):=by
 refine fS func233 ntmps233 hp hF ?_;dsimp only[xT,Wx];refine aD ?_;refine bP (fun h=>?_) (fun h=>?_)
 .have c:vY x=(6,x):=aH (by simpa using h)
  rw[c];refine aD ?_;exact cJ 0 hF
 .have c:vY x=(0,⟨1,x.denied⟩):=aC (by simpa using h)
  rw[c];refine aD ?_;exact cJ 0 hF
def aPK(hp:(xT g x).sat F w)(hF:∀b,F b->b < w.heap.size):
  Cz 217 #[pt g] w (Wr (iv (qD x).1) (xT g (qD x).2) w F):=by
 refine fS func217 ntmps217 hp hF ?_;dsimp only[xT,Wx];refine aD ?_;refine cH (t:=11) rfl (fun e=>?_) (fun e=>?_)
 .refine aD ?_;refine bP (fun h=>?_) (fun h=>?_)
  .have c:qD x=(6,x):=aH ⟨by simpa using e,by simpa using h⟩
   rw[c];refine aD ?_;exact cJ 0 hF
  .have c:qD x=(0,⟨0,x.denied⟩):=aC fun d=>d.2 (by simpa using h)
   rw[c];refine aD ?_;exact cJ 0 hF
 .have c:qD x=(0,⟨0,x.denied⟩):=aC fun d=>d.1 (by simpa using e)
  rw[c];refine aD ?_;exact cJ 0 hF
def aPJ(c d:Bool)(hp:(xT g x).sat F w)(hF:∀b,F b->b < w.heap.size):
  Cz 143 #[pt g,.bool c,.bool d] w (Wr (.tuple #[]) (xT g (yA x c d)) w F):=by
 refine fS func143 ntmps143 hp hF ?_;dsimp only[xT,Wx];refine aD ?_;refine bP (fun h=>?_) (fun h=>?_)
 .have e:yA x c d=x:=aH (by simpa using h)
  rw[e];refine aD ?_;exact gF 0 hF
 .have f:¬x.at_≠1:=by simpa using h
  cases d
  .cases c
   .have e:yA x false false=⟨2,0⟩:=(aC f).trans ((aC aE).trans (aC aE))
    rw[e];refine aD ?_;exact gF 0 hF
   .have e:yA x true false=x:=(aC f).trans ((aC aE).trans (aH rfl))
    rw[e];refine aD ?_;exact gF 0 hF
  .have e:yA x c true=⟨3,IntKind.i64.wrap (x.denied+1)⟩:=(aC f).trans (aH rfl)
   rw[e];refine aD ?_;refine aAH rfl rfl rfl aE ?_;refine aD ?_;exact gF 0 hF
end
structure TL where
 t:Nat
 A:Option Addr
 c:Nat
 fa:List (Option Addr×Nat)
def uR(c:fK)(a:Option Addr×Nat)(x:fE):List Value:=[.int .u8 c.kind,.slice a.1 c.src.length a.2,.int .u64 c.rate,iv c.mul,iv c.div,iv c.lock,.bool x.on,iv x.left,iv 0,iv 0,iv (byF c)]
def lQ(s:aI)(fa:List (Option Addr×Nat))(st:List fE):List (List Value):=List.zipWith (fun c p=>uR c p.1 p.2) s.aL (fa.zip st)
structure At(w:World)(L:TL)(s:aI)(st:List fE):Prop where
 r0:iD w L.t 0 (.slice L.A s.aL.length L.c)
 row:aO (all w) 11 L.A s.aL.length (lQ s L.fa st).flatten
 uT:∀(i:Nat) (c:fK) (a:Option Addr×Nat),s.aL[i]? =some c->L.fa[i]? =some a->aO (all w) 1 a.1 c.src.length (aU c.src)
 fl:L.fa.length=s.aL.length
 ok:tQ s st
def At.below{w w':World}{L:TL}{s:aI}{st:List fE}(h:At w L s st)(d:Below w.heap.size w w'):At w' L s st:=
 ⟨⟨jC h.r0.1 d.size,(d.cell (p:=⟨_,0,none⟩) h.r0.1).trans h.r0.2⟩,h.row.le (nF d),fun i c a e f=>(h.uT i c a e f).le (nF d),h.fl,h.ok⟩
def At.node{w:World}{L:TL}{s:aI}{st:List fE}(h:At w L s st){i:Nat}(hi:i < s.aL.length):
  ∃b off c a x,s.aL[i]? =some c/\st[i]? =some x/\L.A=some ⟨b,off,none⟩/\eL w b (off+i*11) (uR c a x)/\aO (all w) 1 a.1 c.src.length (aU c.src):=by
 obtain⟨c,d⟩:=get_some hi;obtain⟨a,n⟩:=get_some (l:=L.fa) (i:=i) (by rw[h.fl];exact hi);obtain⟨x,m⟩:=get_some (l:=st) (i:=i) (by rw[h.ok.len];exact hi)
 have e:(lQ s L.fa st)[i]? =some (uR c a x):=by
  rw[lQ,lP,d,(Tj (z:=(a,x))).2 ⟨n,m⟩]
 obtain⟨b,off,o,f⟩:=aO.row h.row (fun r e=>by
  obtain⟨j,k⟩:=lA e;rw[lQ,lP] at k;split at k<;>cases k
  rfl) e hi
 exact⟨b,off,c,a,x,d,m,o,f,h.uT i c a d n⟩
def wK(s:aI)(fa:List (Option Addr×Nat))(p:Piece):Prop:=∀(i:Nat) (c:fK) (a:Option Addr×Nat),s.aL[i]? =some c->fa[i]? =some a->aO p 1 a.1 c.src.length (aU c.src)
def wK.le{s:aI}{fa:List (Option Addr×Nat)}(p q:Piece)(hl:p.Le q)(h:wK s fa p):wK s fa q:=fun i c a d e=>(h i c a d e).le hl
def tJ(L:TL)(s:aI)(st:List fE):HP:=HP.many [HP.aK L.t 212 [.slice L.A s.aL.length L.c],HP.own 214 11 (.slice L.A s.aL.length L.c) s.aL.length (lQ s L.fa st).flatten,HP.cO (wK s L.fa) (wK.le (s:=s) (fa:=L.fa))]
def aLM{L:TL}{s:aI}{st:List fE}{F:Nat->Prop}{w:World}(h:(tJ L s st).sat F w)(hF:∀b,F b->b < w.heap.size)(e:L.fa.length=s.aL.length)(d:tQ s st):At w L s st:=by
 obtain⟨G,j,r,_⟩:=h
 have m:=j 0 _ rfl
 have t:=j 1 _ rfl
 have p:=j 2 _ rfl
 have l:∀i b,G i b->b < w.heap.size:=fun i b f=>hF b (r i b f)
 obtain⟨y,z,k,o⟩:=Em (Y:=fun b=>b < w.heap.size) t (l 1)
 injection k with k
 subst k;exact⟨⟨m.2.lt,by rw[m.2.cell];rfl⟩,o,fun i c a n x=>(p i c a n x).le (fun b f=>⟨l 2 b f,rfl⟩),e,d⟩
def aK8(t n c b off i:Nat)(w:World)(d:iD w t 0 (.slice (some ⟨b,off,none⟩) n c))(hi:i < n):
  Cz 195 #[pt t,iv (i:Int)] w (Rt (.pointer (some ⟨b,off+i*11,none⟩)) w):=by
 refine bQ func195 ntmps195 ?_;refine cH (t:=11) rfl (fun h=>absurd h aA) (fun _=>?_);refine aD ?_;refine dD rfl (fun h=>absurd h aA) (fun _=>?_);refine aD ?_;refine cG (dat i (off+i*11)) ?_;exact dP
def aK7(t n c:Nat)(A:Option Addr)(i:Int)(w:World)(d:iD w t 0 (.slice A n c))(hi:bJ n i=false):
  Cz 195 #[pt t,iv i] w (Rt (.pointer none) w):=by
 have hi:=Tr hi
 refine bQ func195 ntmps195 ?_;refine cH (t:=11) rfl (fun h=>?_) (fun h=>?_)
 .refine aD ?_;exact dP
 .refine aD ?_;refine dD rfl (fun h=>?_) (fun h=>absurd hi aA);refine aD ?_;exact dP
def Vz(L:TL)(s:aI)(st:List fE)(i f:Nat)(c:fK)(B:List Int)(w:World)(r:At w L s st)(hi:s.aL[i]? =some c)(hf:c.src=(f:Int)::B):
  Cz 197 #[.pointer (some ⟨L.t,0,none⟩),iv (i:Int)] w (Rt (iv (f:Int)) w):=by
 have d:i < s.aL.length:=(cE.1 hi).1
 obtain⟨b,off,z,a,x,m,E,y,e,o⟩:=r.node d;obtain rfl:c=z:=by rw[hi] at m;exact sJ m
 have C:=r.r0
 rw[y] at C
 have p:=e.at_ (j:=1) rfl
 have F:=e.at_ (j:=8) rfl
 rw[hf] at p o;obtain⟨A,n,h,l,k⟩:=o.2 aB;rw[h] at p
 have D:iD w A n (iv (f:Int)):=⟨l,k 0 _ rfl⟩
 refine fP func197 ntmps197 ?_;refine aD ?_;refine kd (dat i (off+i*11)) ?_;refine aD ?_;refine oU ?_;refine kU ?_;refine Ed (dat 0 n (hlt:=aB)) ?_;refine kM ?_;refine aD ?_;exact dP
def aVh(L:TL)(s:aI)(st:List fE)(T:s.dM)(D B:Nat):∀(i:Nat),i < s.aL.length->∀w,At w L s st->iD w D 0 (.pointer (some ⟨L.t,0,none⟩))->iD w B 0 (.func (.func 196) #[] #[pt D,pt B])->
  Cz 196 #[iv (i:Int),pt D,pt B] w (Rt (.bool (runs s st i)) w):=by
 intro i
 induction i using Nat.strongRecOn with
 | _ i ih =>
  intro R w r G H;obtain⟨b,off,c,a,x,K,U,V,I,Z⟩:=r.node R
  have o:=aH3 T.t.aL K U
  have X:=r.r0
  rw[V] at X
  have N:=I.at_ (j:=0) rfl
  have O:=I.at_ (j:=6) rfl
  have Y:=I.at_ (j:=7) rfl
  have C:∀{l},Below w.heap.size w l->iD l D 0 (.pointer (some ⟨L.t,0,none⟩)):=fun M=>⟨jC G.1 M.size,(M.cell (p:=⟨_,0,none⟩) G.1).trans G.2⟩
  have z:∀{l},Below w.heap.size w l->iD l B 0 (.func (.func 196) #[] #[pt D,pt B]):=fun M=>⟨jC H.1 M.size,(M.cell (p:=⟨_,0,none⟩) H.1).trans H.2⟩
  obtain⟨F,m⟩:=T.t.aL i c K;refine fP func196 ntmps196 ?_;refine aD ?_;refine kd (dat i (off+i*11)) ?_;rcases m with⟨n,y,_⟩ | m
  .rw[n] at N;refine aD ?_;refine lD aB ?_;rw[o,y];simp[uK,n]
  obtain⟨f,E,J⟩:∃(f:Nat) (E:List Int),c.src=(f:Int)::E:=by
   cases y:c.src with
   | nil=>rw[y] at m;simp at m
   | cons f E=>exact⟨f.toNat,E,by have:=(F f (by rw[y];simp)).1;rw[Int.toNat_of_nonneg this]⟩
  have A:f < i:=by have:=(F f (by rw[J];simp)).2;omega
  have e:runs s st i=(uK c x&&runs s st f):=by rw[o,J];rfl
  clear o;rcases m with⟨n,_⟩ | ⟨n,_⟩ | ⟨n,_⟩ | ⟨n,_⟩
  .rw[n] at N;cases k:x.on
   .rw[k] at O;refine aD ?_;refine oU ?_;refine kM ?_;refine aD ?_;refine lD aB ?_;rw[e];simp[uK,n,k]
   .rw[k] at O;refine aD ?_;refine oU ?_;refine kU ?_;refine Rj 32 rfl (fun h=>?_) (fun h=>?_)
    .refine kU ?_;refine xK (fun l d=>Vz L s st i f c E l (r.below (d.below aB)) K J) ?_;refine kU ?_;refine Li (fi:=[]) (vs:=[iv (f:Int)]) (ca:=[pt D,pt B]) (fun l d=>ih f A aA l (r.below (d.below aB)) (C (d.below aB)) (z (d.below aB))) ?_;refine kM ?_;refine aD ?_;refine lD aB ?_;rw[e];simp[uK,n,k,h]
    .refine kM ?_;refine aD ?_;refine lD aB ?_;rw[e];simp[uK,n,k,h]
  .rw[n] at N;refine aD ?_;refine oU ?_;refine kU ?_;refine xK (fun l d=>Vz L s st i f c E l (r.below (d.below aB)) K J) ?_;refine Li (fi:=[]) (vs:=[iv (f:Int)]) (ca:=[pt D,pt B]) (fun l d=>ih f A aA l (r.below (d.below aB)) (C (d.below aB)) (z (d.below aB))) ?_;refine kM ?_;refine aD ?_;refine lD aB ?_;rw[e];simp[uK,n]
  .rw[n] at N;cases k:x.on
   .rw[k] at O;refine aD ?_;refine oU ?_;refine kM ?_;refine aD ?_;refine lD aB ?_;rw[e];simp[uK,n,k]
   .rw[k] at O;refine aD ?_;refine oU ?_;refine kU ?_;refine xK (fun l d=>Vz L s st i f c E l (r.below (d.below aB)) K J) ?_;refine kU ?_;refine Li (fi:=[]) (vs:=[iv (f:Int)]) (ca:=[pt D,pt B]) (fun l d=>ih f A aA l (r.below (d.below aB)) (C (d.below aB)) (z (d.below aB))) ?_;refine kM ?_;refine aD ?_;refine lD aB ?_;rw[e];simp[uK,n,k]
  .rw[n] at N;refine aD ?_;refine oU ?_;refine kU ?_;refine xK (fun l d=>Vz L s st i f c E l (r.below (d.below aB)) K J) ?_;refine Li (fi:=[]) (vs:=[iv (f:Int)]) (ca:=[pt D,pt B]) (fun l d=>ih f A aA l (r.below (d.below aB)) (C (d.below aB)) (z (d.below aB))) ?_;refine kM ?_;refine aD ?_;refine lD aB ?_;rw[e];simp[uK,n]
section
variable{L:TL}{st:List fE}
def St.aDu(t:St w0 R H w)(i:Nat)(hi:H[i]? =some (tJ L s st))(d:L.fa.length=s.aL.length)(c:tQ s st):At w L s st:=by
 obtain⟨F,e,f,_⟩:=t.chunk hi;exact aLM e f d c
def Rd.tree(i:Nat)(hi:H[i]? =some (tJ L s st))(e:L.fa.length=s.aL.length)(d:tQ s st):Rd w0 R H L.t 0 (.slice L.A s.aL.length L.c):=fun w t=>(t.aDu i hi e d).r0.2
def aEe(e:L.fa.length=s.aL.length)(d:tQ s st):(lQ s L.fa st).length=s.aL.length/\∀r∈lQ s L.fa st,r.length=11:=by
 have:=d.len
 refine⟨by simp[lQ];omega,fun r f=>?_⟩;obtain⟨j,c⟩:=lA f;rw[lQ,lP] at c;split at c<;>cases c
 rfl
def Ua{i:Nat}{c:fK}{a:Option Addr×Nat}{x:fE}(d:s.aL[i]? =some c)(e:L.fa[i]? =some a)(hx:st[i]? =some x):(lQ s L.fa st)[i]? =some (uR c a x):=by
 rw[lQ,lP,d,(Tj (z:=(a,x))).2 ⟨e,hx⟩]
def aIy{i:Nat}{c:fK}{a:Option Addr×Nat}{x:fE}(e:s.aL[i]? =some c)(f:L.fa[i]? =some a)(hi:i < st.length):(lQ s L.fa st).set i (uR c a x)=lQ s L.fa (st.set i x):=by
 refine qR fun j=>?_;rw[gX]
 by_cases d:i=j
 .subst d;rw[aH rfl,Ua e f (x:=x) (by rw[kR hi])];rw[aH]
  have l:=(cE.1 e).1
  have k:=(cE.1 f).1
  simp[lQ];omega
 .rw[aC d,lQ,lQ,lP,lP]
  have h:(L.fa.zip st)[j]? =(L.fa.zip (st.set i x))[j]? :=by
   rw[List.zip_eq_zipWith,List.zip_eq_zipWith,lP,lP,pZ d]
  rw[h]
def St.aN9{g:Nat}{cs:List Value}(t:St w0 R H w)(i j:Nat)(hi:H[i]? =some (HP.aK g 214 cs))(hj:H[j]? =some (HP.many [HP.aK L.t 212 [.slice (some ⟨g,0,none⟩) s.aL.length L.c],cS,HP.cO (wK s L.fa) (wK.le (s:=s) (fa:=L.fa))]))(r:L.A=some ⟨g,0,none⟩)(D:cs.take (s.aL.length*11)=(lQ s L.fa st).flatten)(e:L.fa.length=s.aL.length)(d:tQ s st):At w L s st:=by
 obtain⟨p,o⟩:=aEe e d
 have x:=t.aK hi
 obtain⟨F,⟨G,y,E,_⟩,m,_⟩:=t.chunk hj
 have z:=y 0 _ rfl
 have f:=y 2 _ rfl
 refine⟨⟨z.2.lt,by rw[z.2.cell,r];rfl⟩,⟨by rw[Pe _ o,p],fun _=>⟨g,0,r,x.lt,fun k u l=>?_⟩⟩,fun k c a B I=>(f k c a B I).le (fun b n=>⟨m b (E 2 b n),rfl⟩),e,d⟩;rw[<-D] at l;rw[mA]
 show w.cell? _=_
 rw[x.cell]
 have C:k < s.aL.length*11:=by
  rcases dI k (s.aL.length*11) with h | h
  .exact h
  .rw[eW (by rw[pX];omega)] at l;cases l
 rw[wV C] at l
 simpa using l
def aLv(i:Nat)(hi:H[i]? =some (tJ L s st))(k:0 < s.aL.length)(h:∀g cs,L.A=some ⟨g,0,none⟩->cs.length=L.c*11->cs.take (s.aL.length*11)=(lQ s L.fa st).flatten->s.aL.length<=L.c->L.c<=maxLen->
  XK N w0 K e R (HP.aK g 214 cs::H.set i (HP.many [HP.aK L.t 212 [.slice L.A s.aL.length L.c],cS,HP.cO (wK s L.fa) (wK.le (s:=s) (fa:=L.fa))]))):XK N w0 K e R H:=by
 refine uX i 1 hi rfl ?_;refine aC9 0 rfl k fun g d=>?_;dsimp only[List.set];rw[d];refine Iv 0 rfl fun cs f m l j=>?_
 have:=h g cs d f m l j
 rw[d] at this;exact this
def Ei(i:Nat){g:Nat}{cs:List Value}{d:List fE}(j:L.A=some ⟨g,0,none⟩)(f:cs.length=L.c*11)(l:cs.take (s.aL.length*11)=(lQ s L.fa d).flatten)(h3:s.aL.length<=L.c)(k:L.c<=maxLen)
  (hi:H[i]? =some (HP.many [HP.aK L.t 212 [.slice (some ⟨g,0,none⟩) s.aL.length L.c],cS,HP.cO (wK s L.fa) (wK.le (s:=s) (fa:=L.fa))]))
  (h:XK N w0 K e R (H.set i (tJ L s d))):XK N w0 K e R (HP.aK g 214 cs::H):=by
 refine Aj 0 (n:=s.aL.length) (c:=L.c) (sz:=11) rfl f l h3 k ?_;dsimp only[List.set];rw[<-j] at hi|-;exact uZ i 1 hi rfl h
end
def aAc(L:TL)(s:aI)(st:List fE)(o:s.dM)(i:Int)(w:World)(h:At w L s st):
  Cz 138 #[.pointer (some ⟨L.t,0,none⟩),iv i] w (Rt (.bool (sG s st i)) w):=by
 cases f:bJ s.aL.length i
 .refine fP func138 ntmps138 ?_;refine aD ?_;refine eI fun k=>?_;refine aD ?_;refine cM (fun e t=>aK7 L.t s.aL.length L.c L.A i e ((h.below (t.below aB)).r0) f) ?_;refine aD ?_;refine lD aB ?_;simp[sG,f]
 .obtain⟨n,rfl⟩:∃n:Nat,i=n:=⟨i.toNat,by have:=eV f;omega⟩
  have d:n < s.aL.length:=by have:=eV f;omega
  obtain⟨b,off,c,a,x,p,r,m,_⟩:=h.node d;refine fP func138 ntmps138 ?_;refine aD ?_;refine eI fun k=>?_;refine aD ?_;refine cM (fun e t=>aK8 L.t s.aL.length L.c b off n e (by rw[<-m];exact(h.below (t.below aB)).r0) d) ?_;refine aD ?_;refine eE fun l=>?_;refine aD ?_;refine lH (vf:=[]) (vc:=[pt k,pt l]) rfl rfl aE ?_;refine aD ?_;refine aBG (fi:=[]) (vs:=[iv (n:Int)]) (ca:=[pt k,pt l]) (fun e t=>aVh L s st o k l n d e (h.below (t.below aB)) ((t.box (i:=1) rfl).at_ (j:=0) rfl) ((t.box (i:=0) rfl).at_ (j:=0) rfl)) ?_;refine aD ?_;refine lD aB ?_;simp[sG,f]
def aVj(L:TL)(s:aI)(st:List fE)(I:L.fa.length=s.aL.length)(B:tQ s st)(i:Int)(on:Bool)(w:World)(F:Nat->Prop)(hp:(tJ L s st).sat F w)(hF:∀b,F b->b < w.heap.size):
  Cz 220 #[.pointer (some ⟨L.t,0,none⟩),iv i,.bool on] w (Wr (iv (lI s st i on).1) (tJ L s (lI s st i on).2) w F):=by
 cases y:bJ s.aL.length i
 .have m:lI s st i on=(4,st):=by simp[lI,y]
  rw[m];refine oQ func220 ntmps220 hp hF ?_;refine cR (fun R t=>aK7 L.t s.aL.length L.c L.A i R ((t.aDu 0 rfl I B).r0) y) ?_;exact cJ 0 hF
 .obtain⟨n,rfl⟩:∃n:Nat,i=n:=⟨i.toNat,by have:=eV y;omega⟩
  have e:n < s.aL.length:=by have:=eV y;omega
  have Z:=B.len
  obtain⟨c,C⟩:=get_some e;obtain⟨a,Y⟩:=get_some (l:=L.fa) (i:=n) aA;obtain⟨x,E⟩:=get_some (l:=st) (i:=n) aA;obtain⟨p,k⟩:=aEe I B;refine fS func220 ntmps220 hp hF ?_;refine aLv 0 rfl aA fun g T G K D M J=>?_;dsimp only[List.set];rw[G]
  have X:=Ig D p k (Ua C Y E)
  have V:n*11+11<=T.length:=by omega
  refine bB 1 0 ?_;refine aD ?_;refine cM (fun R t=>aK8 L.t s.aL.length L.c g 0 n R ((t.box (i:=0) rfl).at_ (j:=0) rfl) e) ?_;refine aP 1 0 ?_;rw[mA];refine aD ?_
  have z:∀O:fE,(lQ s L.fa st).set n (uR c a O)=lQ s L.fa (st.set n O):=fun O=>aIy C Y aA
  refine cH (t:=19) rfl (fun f=>?_) (fun f=>?_)
  .refine aD ?_;refine bP (fun H=>?_) (fun H=>?_)
   .have m:lI s st (n:Int) on=(1,st):=by simp[lI,y,C,E,f,H]
    rw[m];refine aD ?_;refine Ei 0 G K D M J rfl ?_;exact cJ 0 hF
   .have H:c.kind=103:=Jy.1 H
    have m:lI s st (n:Int) on=(0,st.set n ⟨on,x.left⟩):=by simp[lI,y,C,E,H,Py]
    rw[m]
    have o:=X.set 6 (.bool on) (by simp[uR]) aA
    have r:=(xQ.refl T (n*11) 11).set 6 (.bool on) aE
    have d:=Fs (r':=uR c a ⟨on,x.left⟩) D p k e aA rfl o r
    rw[z] at d;refine aD ?_;refine cH (t:=37) rfl (fun h=>absurd h f) (fun _=>?_);refine aD ?_;refine Ei 0 G (by simpa using K) d M J rfl ?_;exact cJ 0 hF
  .have f:c.kind=112:=Jy.1 f
   have o:=X.set 6 (.bool on) (by simp[uR]) aA
   have r:=(xQ.refl T (n*11) 11).set 6 (.bool on) aE
   cases on
   .have m:lI s st (n:Int) false=(0,st.set n ⟨false,c.lock⟩):=by simp[lI,y,C,E,f,Py]
    rw[m];refine aD ?_;refine cH (t:=37) rfl (fun _=>?_) (fun h=>absurd f h)
    have U:=o.set 7 (iv c.lock) (by simp[uR]) (by simp;omega)
    have N:=r.set 7 (iv c.lock) aE
    have d:=Fs (r':=uR c a ⟨false,c.lock⟩) D p k e aA rfl U N
    rw[z] at d;refine aD ?_;refine Ei 0 G (by simpa using K) d M J rfl ?_;exact cJ 0 hF
   .have m:lI s st (n:Int) true=(0,st.set n ⟨true,x.left⟩):=by simp[lI,y,C,E,f,Py]
    rw[m]
    have d:=Fs (r':=uR c a ⟨true,x.left⟩) D p k e aA rfl o r
    rw[z] at d;refine aD ?_;refine cH (t:=37) rfl (fun _=>?_) (fun h=>absurd f h);refine aD ?_;refine Ei 0 G (by simpa using K) d M J rfl ?_;exact cJ 0 hF
def aO.Dd{p:Piece}{sz n:Nat}{A:Option Addr}{rows:List (List Value)}(h:aO p sz A n rows.flatten)(hl:∀r∈rows,r.length=sz){k:Nat}{r:List Value}(hk:rows[k]? =some r)(f:k < n):
  ∃b off,A=some ⟨b,off,none⟩/\p.Z b/\∀j u,r[j]? =some u->p.w.cell? ⟨b,off+k*sz+j,none⟩=some u:=by
 obtain⟨b,off,e,l,d⟩:=aO.at_ h f;refine⟨b,off,e,l,fun j u c=>d j u ?_⟩
 have i:j < sz:=by
  rw[<-hl r (dJ hk)];exact(cE.1 c).1
 rw[Ve rows hl k j r hk i,c]
def aX4{w0:World}{R:List Piece}{H:List HP}{p:Piece}{b o:Nat}{vs:List Value}(hp:p∈R)(d:p.Z b)(h:∀j u,vs[j]? =some u->p.w.cell? ⟨b,o+j,none⟩=some u):cI w0 R H b o vs:=.of fun j v c=>Rd.ro hp d (h j v c)
def Wb(s:aI)(A1 A2 A3 A4:Option Addr)(n1 k1 n2 k2 n3 k3 n4 k4:Nat)(w:World)(hW:jH w s A1 n1 A2 n2 A3 n3 A4 n4)(c:Rf s=0):
  Cz 54 #[.agg #[.slice A1 n1 k1,.slice A2 n2 k2,.slice A3 n3 k3,.slice A4 n4 k4]] w (Rt (iv 0) w):=by
 have:=aAd s A1 A2 A3 A4 n1 k1 n2 k2 n3 k3 n4 k4 w hW
 rw[c] at this;exact this
def aLL(s:aI)(v:Value)(hs:List HP)(_:Piece):Prop:=∃L:TL,v=.tuple #[.pointer (some ⟨L.t,0,none⟩),iv 0]/\hs=[tJ L s (s.aL.map Ce)]/\L.fa.length=s.aL.length
def aVk(s:aI)(G:s.dM)(A1 A2 A3 A4:Option Addr)(n1 k1 n2 k2 n3 k3 n4 k4:Nat)(w:World)(hW:jH w s A1 n1 A2 n2 A3 n3 A4 n4):
  Cz 62 #[.agg #[.slice A1 n1 k1,.slice A2 n2 k2,.slice A3 n3 k3,.slice A4 n4 k4]] w (fun y w'=>(∃v hs q,y=.returned v/\q.w=w'/\aLL s v hs q/\iV w hs q)/\Below w.heap.size w w'):=by
 have hnc:=G.t.nc
 have M:∀d∈s.aG,d.aX.length<=1000000:=fun d hd=>by
  obtain⟨i,hi⟩:=lA hd
  have:=G.t.aG i d hi
  unfold bR.fit at this;omega
 refine bQ func62 ntmps62 ?_;refine iG fun g1=>?_;refine cR (fun B t=>Wb s A1 A2 A3 A4 n1 k1 n2 k2 n3 k3 n4 k4 B (hW.le (t.started aB)) G.t.Wa) ?_;refine iG fun E=>?_;refine jL [] (aCT s) (fun B t=>aF1 s A1 A2 A3 A4 n1 k1 n2 k2 n3 k3 n4 k4 B (hW.le (t.started aB)) M) ?_;rintro _ B q1 ⟨cs1,rfl,hS⟩ F _ o
 have o:=o aB
 obtain⟨V,m1,N,B2,m2,j2,B3,m3,j3,B4,m4,j4,rfl,U⟩:=(hS.mono (lN F)).Q;clear F hS;obtain⟨rc,T,hm1,K⟩:=U.iO;obtain⟨n,D,rfl,Y⟩:=aF3 T;subst hm1;obtain⟨vU,hcr⟩:=aAB (f:=Dy) (es:=s.aL) (bs:=n) (sz:=6) D (fun _ _=>rfl)
 have hl0:(s.aL.map Ce).length=s.aL.length:=by simp
 refine cG (aKj (off:=0) (cs:=[.slice V s.aL.length N,.slice B2 m2 j2,.slice B3 m3 j3,.slice B4 m4 j4]) aJ rfl rfl) ?_;refine oF 214 11 ?_;refine cF [(20,iv 0),(19,iv s.aL.length),(18,.slice V s.aL.length N),(5,pt E)] ?_;refine gA (fun m e R H=>∃(i:Nat) (A:Option Addr) (k:Nat),i<=s.aL.length/\m=s.aL.length - i/\e=[(20,iv i),(19,iv s.aL.length),(18,.slice V s.aL.length N),(5,pt E)]/\R=[q1,all w]/\H=[HP.own 214 11 (.slice A i k) i ((lQ s n (s.aL.map Ce)).take i).flatten,HP.aK E 212 [.slice A i k],HP.aK g1 30 [.slice A1 n1 k1,.slice A2 n2 k2,.slice A3 n3 k3,.slice A4 n4 k4]]) s.aL.length ⟨0,none,0,aA,rfl,rfl,rfl,aB⟩ fun m e R H hI=>?_;obtain⟨i,A,k,hi,rfl,rfl,rfl,rfl⟩:=hI;refine aF ?_;refine dD rfl (fun j=>?_) (fun hge=>?_)
 .have j:i < s.aL.length:=aA
  obtain⟨c,C⟩:=get_some j;obtain⟨a,J⟩:=get_some (l:=n) (i:=i) aA;obtain⟨b,off,hB,hz,hcell⟩:=aO.Dd K hcr (Xh C J) j;subst hB
  have hrow:(lQ s n (s.aL.map Ce))[i]? =some (uR c a (Ce c)):=Ua (L:=⟨0,none,0,n⟩) C J (by rw[eO,C];rfl)
  have h:((lQ s n (s.aL.map Ce)).take (i+1)).flatten=((lQ s n (s.aL.map Ce)).take i).flatten++uR c a (Ce c):=by
   rw[List.take_succ,hrow,Ts];simp
  have X:∀H,cI w [q1,all w] H b (off+i*6) (Dy c a):=fun H=>aX4 aB hz hcell
  have aXE:=X [HP.own 214 11 (.slice A i k) i ((lQ s n (s.aL.map Ce)).take i).flatten,HP.aK E 212 [.slice A i k],HP.aK g1 30 [.slice A1 n1 k1,.slice A2 n2 k2,.slice A3 n3 k3,.slice A4 n4 k4]]
  refine aD ?_;refine cG (dat i (off+i*6)) ?_;refine eE fun g3=>?_;obtain⟨kdx,src,rate,mul,dv,lock⟩:=c;dsimp only[Dy];refine aF ?_;refine eE fun g4=>?_
  have x:=(G.t.aL i _ C).2
  dsimp only at x;rcases x with⟨rfl,_⟩ | ⟨rfl,_⟩ | ⟨rfl,_⟩ | ⟨rfl,_⟩ | ⟨rfl,_⟩
  .skip
   refine aD ?_;refine kO [2,3,4,5] ?_;refine bU 0 ?_;refine bU 1 ?_;refine aQ 2 ?_;refine aQ 3 ?_;refine aQ 4 ?_;refine aQ 5 ?_;refine aR 6 ?_;refine eX fun I=>?_;refine bH ?_;refine aR 7 ?_;refine jU 3 11 104 1 (el:=214) aJ aJ aE rfl rfl rfl (tU 0 rfl rfl) (by simp[Value.oneCell']) rfl aA aA aE fun r p=>?_;dsimp only[List.set];refine cT ?_;refine aR 8 ?_;refine bN ?_;refine cT ?_;refine aR 9 ?_;refine bN ?_;refine cT ?_;refine aR 10 ?_;refine vR ?_;refine cT ?_;refine kA ?_;refine aZ [3,4,5] ?_;exact fX (s.aL.length - (i+1)) ⟨i+1,r,p,j,rfl,rfl,rfl,by rw[h]⟩
  .skip
   refine aD ?_;refine kO [2,3,4,5] ?_;refine bU 0 ?_;refine bU 1 ?_;refine aQ 2 ?_;refine aQ 3 ?_;refine aQ 4 ?_;refine aQ 5 ?_;refine aR 6 ?_;refine eX fun I=>?_;refine bH ?_;refine aR 7 ?_;refine jU 3 11 104 1 (el:=214) aJ aJ aE rfl rfl rfl (tU 0 rfl rfl) (by simp[Value.oneCell']) rfl aA aA aE fun r p=>?_;dsimp only[List.set];refine cT ?_;refine aR 8 ?_;refine bN ?_;refine cT ?_;refine aR 9 ?_;refine bN ?_;refine cT ?_;refine aR 10 ?_;refine vR ?_;refine cT ?_;refine kA ?_;refine aZ [3,4,5] ?_;exact fX (s.aL.length - (i+1)) ⟨i+1,r,p,j,rfl,rfl,rfl,by rw[h]⟩
  .skip
   refine aD ?_;refine kO [2,3,4,5] ?_;refine bU 0 ?_;refine bU 1 ?_;refine aQ 2 ?_;refine aQ 3 ?_;refine aQ 4 ?_;refine aQ 5 ?_;refine aR 6 ?_;refine eX fun I=>?_;refine bH ?_;refine aR 7 ?_;refine jU 3 11 104 1 (el:=214) aJ aJ aE rfl rfl rfl (tU 0 rfl rfl) (by simp[Value.oneCell']) rfl aA aA aE fun r p=>?_;dsimp only[List.set];refine cT ?_;refine aR 8 ?_;refine bN ?_;refine cT ?_;refine aR 9 ?_;refine bN ?_;refine cT ?_;refine aR 10 ?_;refine vR ?_;refine cT ?_;refine kA ?_;refine aZ [3,4,5] ?_;exact fX (s.aL.length - (i+1)) ⟨i+1,r,p,j,rfl,rfl,rfl,by rw[h]⟩
  .skip
   refine aD ?_;refine kO [2,3,4,5] ?_;refine bU 0 ?_;refine bU 1 ?_;refine aQ 2 ?_;refine aQ 3 ?_;refine aQ 4 ?_;refine aQ 5 ?_;refine aR 6 ?_;refine eX fun I=>?_;refine bH ?_;refine aR 7 ?_;refine jU 3 11 104 1 (el:=214) aJ aJ aE rfl rfl rfl (tU 0 rfl rfl) (by simp[Value.oneCell']) rfl aA aA aE fun r p=>?_;dsimp only[List.set];refine cT ?_;refine aR 8 ?_;refine bN ?_;refine cT ?_;refine aR 9 ?_;refine bN ?_;refine cT ?_;refine aR 10 ?_;refine vR ?_;refine cT ?_;refine kA ?_;refine aZ [3,4,5] ?_;exact fX (s.aL.length - (i+1)) ⟨i+1,r,p,j,rfl,rfl,rfl,by rw[h]⟩
  .skip
   refine aD ?_;refine kO [2,3,4,5] ?_;refine bU 0 ?_;refine bU 1 ?_;refine aQ 2 ?_;refine aQ 3 ?_;refine aQ 4 ?_;refine aQ 5 ?_;refine aR 6 ?_;refine eX fun I=>?_;refine bH ?_;refine aR 7 ?_;refine jU 3 11 104 1 (el:=214) aJ aJ aE rfl rfl rfl (tU 0 rfl rfl) (by simp[Value.oneCell']) rfl aA aA aE fun r p=>?_;dsimp only[List.set];refine cT ?_;refine aR 8 ?_;refine bN ?_;refine cT ?_;refine aR 9 ?_;refine bN ?_;refine cT ?_;refine aR 10 ?_;refine vR ?_;refine cT ?_;refine kA ?_;refine aZ [3,4,5] ?_;exact fX (s.aL.length - (i+1)) ⟨i+1,r,p,j,rfl,rfl,rfl,by rw[h]⟩
 .obtain rfl:i=s.aL.length:=by omega
  refine aF ?_
  have z:(lQ s n (s.aL.map Ce)).take s.aL.length=lQ s n (s.aL.map Ce):=yE (by simp[lQ];omega)
  rw[z];refine aZ [1,0] ?_;refine Nx o (by simp[all]) (Φ:=wK s n) (hm:=wK.le (s:=s) (fa:=n)) (fun i c a C J=>Y i c a C J) ?_;refine aZ [1,2,0] ?_;refine Ah ?_;refine dX [] [] [0] fun q _ _ O=>?_;exact kN fun B t=>⟨⟨_,_,⟨B,q.Z⟩,rfl,rfl,⟨⟨E,A,k,n⟩,rfl,rfl,D⟩,t.newR aB aB (O aB aB)⟩,t.below aB⟩
def kE(r:Int)(x:lK):Value:=.agg #[iv r,iv x.left,.bool x.held,.bool x.wanted]
def Qe(s:aI)(st:List lK)(i:Nat):Int×Value:=((i:Int),kE (s.bG.getD i 0) (st.getD i uS))
def qU(s:aI)(st:List lK):List (Int×Value):=(List.range st.length).map (Qe s st)
def aIA(f:Nat->Value)(n:Nat)(i:Int):pM ((List.range n).map fun j:Nat=>((j:Int),f j)) i=if bJ n i then some (f i.toNat) else none:=by
 induction n with
 | zero=>
  have:bJ 0 i=false:=gW aA
  rw[this];rfl
 | succ n ih =>
  have k:pM ((List.range (n+1)).map fun j:Nat=>((j:Int),f j)) i=(pM ((List.range n).map fun j:Nat=>((j:Int),f j)) i).or (pM [((n:Int),f n)] i):=by
   rw[zH,Jw];unfold pM;rw[List.find?_append];cases List.find? (fun p=>decide (p.1=i)) ((List.range n).map fun j:Nat=>((j:Int),f j))<;>rfl
  rw[k,ih]
  by_cases c:bJ n i=true
  .have:bJ (n+1) i=true:=by have:=eV c;exact eM aA
   rw[aH c,aH this];rfl
  .have h:bJ n i=false:=by simpa using c
   have:=Tr h
   rw[aC c,Ue]
   by_cases d:(n:Int)=i
   .subst d
    have:bJ (n+1) (n:Int)=true:=eM aA
    rw[aH rfl,aH this];rfl
   .have e:bJ (n+1) i=false:=gW aA
    rw[aC d,e];rfl
def aQR(f : Nat -> Value)(n i : Nat)(v : Value)(hi : i < n) : rH ((List.range n).map fun j : Nat => ((j : Int), f j)) (i : Int) v = (List.range n).map fun j : Nat => ((j : Int), if j = i then v else f j) := by
  have key:∀(l:List Nat),i∈l->l.Nodup->rH (l.map fun j:Nat=>((j:Int),f j)) (i:Int) v=l.map fun j:Nat=>((j:Int),if j=i then v else f j):=by
    intro l
    induction l with
    | nil=>intro h;simp at h
    | cons a l ih =>
      intro h hn;rw[vJ,rH,vJ]
      by_cases ha:(a:Int)=(i:Int)
      · have ha':a=i:=aA
        subst ha';rw[aH rfl,aH rfl]
        congr 1
        refine Tt fun j hj=>?_;rw[aC (fun he:j=a=>(Bm.1 hn).1 (he▸hj))]
      · rw[aC ha,aC aA]
        congr 1
        exact ih (by rcases fT.1 h with h | h
                     · omega
                     · exact h) (Bm.1 hn).2
  exact key _ (mI.2 hi) List.nodup_range
def aIB{s:aI}{st:List lK}(i:Int):pM (qU s st) i=if bJ st.length i then some (kE (s.bG.getD i.toNat 0) (st.getD i.toNat uS)) else none:=aIA (fun j=>kE (s.bG.getD j 0) (st.getD j uS)) st.length i
def aEi{s:aI}{st:List lK}{i:Nat}{x:lK}{r:Int}(d:s.bG.getD i 0=r)(hi:i < st.length):rH (qU s st) (i:Int) (kE r x)=qU s (st.set i x):=by
 have:=aQR (fun j=>kE (s.bG.getD j 0) (st.getD j uS)) st.length i (kE r x) hi
 refine this.trans ?_;unfold qU;rw[pJ];refine Tt fun j e=>?_;unfold Qe
 congr 1
 by_cases c:j=i
 .subst c;rw[aH rfl,<-d,mZ (l:=st.set j x),kR hi];rfl
 .rw[aC c,mZ (l:=st.set i x),pZ (fN c),mZ (l:=st)]
structure RL where
 t:Nat
 g:Nat
def sU(L:RL)(s:aI)(st:List lK):HP:=HP.many [HP.aK L.t 222 [.map (some L.g)],HP.map L.g (qU s st)]
structure Oi(w:World)(L:RL)(s:aI)(st:List lK):Prop where
 r0:iD w L.t 0 (.map (some L.g))
 m:Az w L.g (qU s st)
def Oi.below{w w':World}{L:RL}{s:aI}{st:List lK}(h:Oi w L s st)(c:Below w.heap.size w w'):Oi w' L s st:=
 ⟨⟨jC h.r0.1 c.size,(c.cell (p:=⟨_,0,none⟩) h.r0.1).trans h.r0.2⟩,h.m.below c⟩
section
variable{L:RL}
def aMn{F:Nat->Prop}(h:(sU L s st).sat F w):Oi w L s st:=by
 obtain⟨G,c,e,_⟩:=h
 have d:=c 0 _ rfl
 exact⟨⟨d.2.lt,by rw[d.2.cell];rfl⟩,(c 1 _ rfl).2⟩
def St.Un(t:St w0 R H w)(i:Nat)(hi:H[i]? =some (sU L s st)):Oi w L s st:=by
 obtain⟨F,c,d,_⟩:=t.chunk hi;exact aMn c
end
def aIK:(Tryz.prog.info? 224).bind (·.zero)=some (kE 0 ⟨0,false,false⟩):=by kernel_rfl
def xG(s:aI)(st:List lK)(i:Int):Value:=if bJ st.length i then kE (s.bG.getD i.toNat 0) (st.getD i.toNat uS) else kE 0 ⟨0,false,false⟩
def aTg(s:aI)(st:List lK)(i:Int):∃r x,xG s st i=kE r x:=by
 unfold xG;split
 .exact⟨_,_,rfl⟩
 .exact⟨_,_,rfl⟩
def Xw(L:RL)(s:aI)(st:List lK)(i:Int)(w:World)(d:Oi w L s st):
  Cz 199 #[.pointer (some ⟨L.t,0,none⟩),iv i] w (Rt (.tuple #[xG s st i,.bool (bJ st.length i)]) w):=by
 have p:=d.r0
 obtain⟨r,x,e⟩:=aTg s st i
 have c:=aIB (s:=s) (st:=st) i
 have j:(pM (qU s st) i).getD (kE 0 ⟨0,false,false⟩)=kE r x:=by
  rw[c,<-e,xG];split<;>rfl
 have k:(pM (qU s st) i).isSome=bJ st.length i:=by
  rw[c];split
  .rename_i h;rw[h];rfl
  .rename_i h;simp at h;rw[h];rfl
 rw[e];refine bQ func199 ntmps199 ?_;refine kK fun o=>?_;refine aAD (kt:=3) (et:=224) (kd:=.i64) (z:=kE 0 ⟨0,false,false⟩) (l:=qU s st) true aJ aJ aIK rfl rfl (fun f t=>(d.below (t.below aB)).m) aE ?_;simp only[if_true];rw[j,k];refine aD ?_;refine eE fun n=>?_;unfold kE;refine aD ?_;exact Ef rfl aJ rfl rfl (by first | assumption | exact cI.whole 0 rfl | exact cI.whole 1 rfl | exact cI.whole 2 rfl | exact cI.whole 3 rfl | exact cI.whole 4 rfl | exact cI.whole 5 rfl | exact cI.whole 6 rfl | exact cI.whole 7 rfl | exact cI.whole 8 rfl | exact aCO aB (by assumption)) rfl fun f t=>⟨rfl,t.below aB⟩
def aH9(L:RL)(s:aI)(st:List lK)(i:Int)(w:World)(f:Oi w L s st):
  Cz 140 #[.pointer (some ⟨L.t,0,none⟩),iv i] w (Rt (.bool (Fo st i)) w):=by
 refine bQ func140 ntmps140 ?_;refine cR (fun e t=>Xw L s st i e (f.below (t.below aB))) ?_;refine eE fun h=>?_;cases c:bJ st.length i
 .have d:xG s st i=kE 0 ⟨0,false,false⟩:=by simp[xG,c]
  rw[d];unfold kE;refine aD ?_;refine lD aB ?_;simp[Fo,c]
 .have d:xG s st i=kE (s.bG.getD i.toNat 0) (st.getD i.toNat uS):=by simp[xG,c]
  rw[d];unfold kE;refine aD ?_;refine lD aB ?_
  have:i.toNat < st.length:=by have:=eV c;omega
  simp[Fo,c,cX this]
def aJY:∀{cl:List Dom} {c:List (List Value)},Rows xX 3 cl c->c=cl.map fun d=>[iv d.above,iv d.delay,.bool d.ret]
 | [],[],_=>rfl
 | e::es,r::c,h=>by
  have f:r=[iv e.above,iv e.delay,.bool e.ret]:=h.2.1
  rw[f,aJY h.2.2];rfl
def aH8:∀{cl:List Int} {c:List (List Value)},Rows Ci 1 cl c->c=cl.map fun d=>[iv d]
 | [],[],_=>rfl
 | e::es,r::c,h=>by
  have f:r=[iv e]:=h.2.1
  rw[f,aH8 h.2.2];rfl
def aMw(s:aI)(v:Value)(hs:List HP)(_:Piece):Prop:=∃L:GL,v=.tuple #[.pointer (some ⟨L.t,0,none⟩),iv 0]/\hs=[yW L s (s.domains.map fun _=>Ca)]
def aPV(s:aI)(B:s.dM)(A1 A2 A3 A4:Option Addr)(n1 k1 n2 k2 n3 k3 n4 k4:Nat)(w:World)(hW:jH w s A1 n1 A2 n2 A3 n3 A4 n4):
  Cz 63 #[.agg #[.slice A1 n1 k1,.slice A2 n2 k2,.slice A3 n3 k3,.slice A4 n4 k4]] w (fun y w'=>(∃v hs q,y=.returned v/\q.w=w'/\aMw s v hs q/\iV w hs q)/\Below w.heap.size w w'):=by
 have E:=B.t.nd
 obtain⟨rd,j,z,p⟩:=hW.dom
 have j:=aJY j
 subst j;subst z
 have F:(s.domains.map fun _=>Ca).length=s.domains.length:=by simp
 refine fP func63 ntmps63 ?_;refine aD ?_;refine eI fun N=>?_;refine aD ?_;refine cM (fun o t=>Wb s A1 A2 A3 A4 n1 k1 _ k2 n3 k3 n4 k4 o (hW.le (t.started aB)) B.t.Wa) ?_;refine aD ?_;refine kd (fI rfl) ?_;refine eI fun l=>?_;refine aD ?_;refine oF 219 7 ?_;refine cF [(18,iv 0),(17,iv s.domains.length),(16,.slice A2 s.domains.length k2),(5,pt l)] ?_;refine gA (fun m e R H=>∃(i:Nat) (A:Option Addr) (k:Nat),i<=s.domains.length/\m=s.domains.length - i/\e=[(18,iv i),(17,iv s.domains.length),(16,.slice A2 s.domains.length k2),(5,pt l)]/\R=[all w]/\H=[HP.own 219 7 (.slice A i k) i ((tF s (s.domains.map fun _=>Ca)).take i).flatten,HP.aK l 217 [.slice A i k],HP.aK N 30 [.slice A1 n1 k1,.slice A2 s.domains.length k2,.slice A3 n3 k3,.slice A4 n4 k4]]) s.domains.length ⟨0,none,0,aA,rfl,rfl,rfl,aB⟩ fun m e R H I=>?_;obtain⟨i,A,k,O,rfl,rfl,rfl,rfl⟩:=I;refine aD ?_;refine bP (fun d=>?_) (fun D=>?_)
 .have d:i < s.domains.length:=aA
  obtain⟨c,x⟩:=get_some d;obtain⟨b,off,K,M⟩:=aO.row p (fun r J=>by obtain⟨q,_,rfl⟩:=fR.1 J;rfl) (r:=[iv c.above,iv c.delay,.bool c.ret]) (by rw[eO,x];rfl) d;subst K
  have hrow:(tF s (s.domains.map fun _=>Ca))[i]? =some (rW c Ca):=Nq x (by rw[eO,x];rfl)
  have h:((tF s (s.domains.map fun _=>Ca)).take (i+1)).flatten=((tF s (s.domains.map fun _=>Ca)).take i).flatten++rW c Ca:=by
   rw[List.take_succ,hrow,Ts];simp
  refine aD ?_;refine kd (dat i (off+i*3)) ?_;refine aD ?_;refine eE fun T=>?_;refine aD ?_;refine kO [2,3,4,5,6] ?_;refine bU 0 ?_;refine bU 1 ?_;refine aQ 2 ?_;refine aQ 3 ?_;refine aQ 4 ?_;refine aQ 5 ?_;refine aQ 6 ?_ (bL:=Im (zs:=[iv 0,iv 0,.bool false,.int .u8 0,iv 0,.bool false,.bool false]) (L:=[(0,3),(3,1),(4,1),(5,1),(6,1)]) (sD aJ) aJ rfl (by simp[mR,qQ,Value.cells];rfl));refine aR 7 ?_;refine eX fun U=>?_;refine bH ?_;refine aR 8 ?_;refine jU 2 7 48 1 (el:=219) aJ aJ aE rfl rfl rfl (tU 0 rfl rfl) (by simp[Value.oneCell']) rfl aA aA aE fun C G=>?_;dsimp only[List.set];refine cT ?_;refine aR 9 ?_;refine bN ?_;refine cT ?_;refine aR 10 ?_;refine bN ?_;refine cT ?_;refine aR 11 ?_;refine vR ?_;refine cT ?_;refine lW ?_;refine aD ?_;refine aZ [2,3,4] ?_;exact fX (s.domains.length - (i+1)) ⟨i+1,C,G,d,rfl,rfl,rfl,by rw[h]⟩
 .obtain rfl:i=s.domains.length:=by omega
  refine aD ?_
  have f:(tF s (s.domains.map fun _=>Ca)).take s.domains.length=tF s (s.domains.map fun _=>Ca):=yE (by simp[tF])
  rw[f];refine aZ [1,0] ?_;refine oP ?_;refine dX [] [] [0] fun q _ _ n=>?_;exact kN fun o t=>⟨⟨_,_,⟨o,q.Z⟩,rfl,rfl,⟨⟨l,A,k⟩,rfl,rfl⟩,t.newR aB aB (n aB aB)⟩,t.below aB⟩
def aMK{N:cQ}{w0:World}{e:Env}{R:List Piece}{H:List HP}{Q:Exit->Act->World->Prop}{ops:Array Oper}{rest:List Oper}{d:Nat}{ty:TypeId}{pos:String}{aN:Array Edge}{x:Operand}{n:Int}{t kt et:TypeId}(f:Tryz.prog.underlying t=some (.map kt et))(hx:e.ev x=some (iv n))(hd:d < N.n)(k:∀g,XK N w0 (wpList Tryz.prog ops Q rest) ((d,.map (some g))::e) R (HP.map g []::H)):XK N w0 (wpList Tryz.prog ops Q (⟨some d,.makeMap t (some x),ty,pos,aN,none⟩::rest)) e R H:=
 vF rfl fun a w c st=>⟨.map (some w.heap.size),w.alloc (.map #[] 0),by simp[execOp,Instr.makeMap,c.ev hx,run_underlying f,asInt,asIntOf],k w.heap.size _ _ (c.put hd _) (st.new (Wf w _) ⟨⟨gE _,aB⟩,#[],0,heap_alloc_new w _,rfl⟩)⟩
def aMm(s:aI)(v:Value)(hs:List HP)(_:Piece):Prop:=∃L:RL,v=.tuple #[.pointer (some ⟨L.t,0,none⟩),iv 0]/\hs=[sU L s (s.bG.map fun _=>uS)]
def aQQ(l:List (Int×Value))(k:Int)(v:Value)(h:pM l k=none):rH l k v=l++[(k,v)]:=by
 induction l with
 | nil=>rfl
 | cons p l ih =>
  obtain⟨a,b⟩:=p;rw[Ue] at h;rw[rH];split at h
  .cases h
  .rename_i c
   rw[aC c,ih h];rfl
def aOW(s:aI)(z:s.dM)(A1 A2 A3 A4:Option Addr)(n1 k1 n2 k2 n3 k3 n4 k4:Nat)(w:World)(hW:jH w s A1 n1 A2 n2 A3 n3 A4 n4):
  Cz 64 #[.agg #[.slice A1 n1 k1,.slice A2 n2 k2,.slice A3 n3 k3,.slice A4 n4 k4]] w (fun y w'=>(∃v hs q,y=.returned v/\q.w=w'/\aMm s v hs q/\iV w hs q)/\Below w.heap.size w w'):=by
 have C:=z.t.nr
 obtain⟨M,f,x,p⟩:=hW.Ex
 have f:=aH8 f
 subst f;subst x
 have G:(s.bG.map fun _=>uS).length=s.bG.length:=by simp
 refine bQ func64 ntmps64 ?_;refine iG fun J=>?_;refine cR (fun o t=>Wb s A1 A2 A3 A4 n1 k1 n2 k2 _ k3 n4 k4 o (hW.le (t.started aB)) z.t.Wa) ?_;refine aMK (kt:=3) (et:=224) aJ rfl aE fun k=>?_;refine kd (fI rfl) ?_;refine iG fun h=>?_;refine cF [(22,iv 0),(21,iv s.bG.length),(20,.slice A3 s.bG.length k3),(5,pt h)] ?_;refine gA (fun m e R H=>∃i:Nat,i<=s.bG.length/\m=s.bG.length - i/\e=[(22,iv i),(21,iv s.bG.length),(20,.slice A3 s.bG.length k3),(5,pt h)]/\R=[all w]/\H=[HP.aK h 222 [.map (some k)],HP.map k ((List.range i).map (Qe s (s.bG.map fun _=>uS))),HP.aK J 30 [.slice A1 n1 k1,.slice A2 n2 k2,.slice A3 s.bG.length k3,.slice A4 n4 k4]]) s.bG.length ⟨0,aA,rfl,rfl,rfl,rfl⟩ fun m e R H D=>?_;obtain⟨i,K,rfl,rfl,rfl,rfl⟩:=D;refine aD ?_;refine bP (fun d=>?_) (fun B=>?_)
 .have d:i < s.bG.length:=aA
  obtain⟨c,A⟩:=get_some d;obtain⟨b,off,F,I⟩:=aO.row p (fun r E=>by obtain⟨q,_,rfl⟩:=fR.1 E;rfl) (r:=[iv c]) (by rw[eO,A];rfl) d;subst F
  have jE:rH ((List.range i).map (Qe s (s.bG.map fun _=>uS))) (i:Int) (kE c uS)=(List.range (i+1)).map (Qe s (s.bG.map fun _=>uS)):=by
   rw[aQQ _ _ _ (by
    have:=aIA (fun j=>kE (s.bG.getD j 0) ((s.bG.map fun _=>uS).getD j uS)) i (i:Int)
    rw[aC (by simp[bJ])] at this
    exact this),zH,Jw]
   congr 1
   simp[Qe,mZ,A]
  refine aD ?_;refine cG (dat i (off+i*1)) ?_;refine kK fun N=>?_;refine kO [1,2,3,5,6,7] ?_;refine bU 0 ?_;refine aQ 1 ?_;refine aQ 2 ?_;refine aQ 3 ?_;refine bU 4 ?_;refine aQ 5 ?_;refine aQ 6 ?_;refine aQ 7 ?_ (bL:=Im (zs:=[iv 0,iv 0,.bool false,.bool false]) (L:=[(0,1),(1,1),(2,1),(3,1)]) (sD aJ) aJ rfl (by simp[mR,qQ,Value.cells];rfl));refine aR 8 ?_;refine Lz (kt:=3) (et:=224) (kd:=.i64) (l:=(List.range i).map (Qe s (s.bG.map fun _=>uS))) (v:=kE c uS) 2 aJ aJ rfl rfl rfl rfl ?_;rw[jE];dsimp only[List.set];refine cT ?_;refine kA ?_;refine aZ [1,2,3] ?_;exact fX (s.bG.length - (i+1)) ⟨i+1,d,rfl,rfl,rfl,rfl⟩
 .obtain rfl:i=s.bG.length:=by omega
  refine aD ?_;refine oP ?_;refine dX [] [] [0] fun q _ _ n=>?_;exact kN fun o t=>⟨⟨_,_,⟨o,q.Z⟩,rfl,rfl,⟨⟨h,k⟩,rfl,by simp[sU,qU]⟩,t.newR aB aB (n aB aB)⟩,t.below aB⟩
structure jN where
 id:Int
 wr:Bool
 bF:Int
 val:Int
def jN.cells(t:jN):List Value:=[iv t.id,.bool t.wr,iv t.bF,.int .u32 t.val]
def QH(v:Value):Option jN->HP
 | none=>qJ (∃A,v=.slice A 0 0)
 | some t=>HP.own 307 4 v 1 t.cells
structure BL where
 b:Nat
 gr:Nat
 gw:Nat
def pE(ws:List (Option jN))(i:Nat):Nat:=if((ws[i]?).join).isSome then 1 else 0
def aGc(g n:Nat)(ws:List (Option jN)):HP:=HP.ex fun c:List Value=>HP.many (HP.aK g 312 c::qJ (c.length=n)::(List.range n).map fun i=>QH (c.getD i undef) (ws[i]?).join)
def Cr(L:BL)(ms:List Int)(ws:List (Option jN))(aV:Int):HP:=HP.many [HP.aK L.b 232 [.slice (some ⟨L.gr,0,none⟩) ms.length ms.length,.slice (some ⟨L.gw,0,none⟩) ms.length ms.length,iv aV],HP.aK L.gr 3 (aU ms),aGc L.gw ms.length ws]
structure Lw(w:World)(L:BL)(ms:List Int)(ws:List (Option jN))(aV:Int):Prop where
 r0:eL w L.b 0 [.slice (some ⟨L.gr,0,none⟩) ms.length ms.length,.slice (some ⟨L.gw,0,none⟩) ms.length ms.length,iv aV]
 rg:eL w L.gr 0 (aU ms)
 wt:∀i,i < ms.length->∃A c,iD w L.gw i (.slice A (pE ws i) c)
def Lw.below{w w':World}{L:BL}{ms:List Int}{ws:List (Option jN)}{aV:Int}(h:Lw w L ms ws aV)(d:Below w.heap.size w w'):Lw w' L ms ws aV:=
 ⟨h.r0.below d,h.rg.below d,fun i f=>by
  obtain⟨A,c,e,j⟩:=h.wt i f
  exact⟨A,c,jC e d.size,(d.cell (p:=⟨_,i,none⟩) e).trans j⟩⟩
def aMA{L:BL}{ms:List Int}{ws:List (Option jN)}{aV:Int}{F:Nat->Prop}{w:World}(h:(Cr L ms ws aV).sat F w):Lw w L ms ws aV:=by
 obtain⟨G,m,y,_⟩:=h;refine⟨yR (m 0 _ rfl).2,yR (m 1 _ rfl).2,fun i r=>?_⟩;obtain⟨k,x,j,_,_⟩:=m 2 _ rfl
 have p:=yR (j 0 _ rfl).2
 have z:k.length=ms.length:=j 1 _ rfl
 obtain⟨v,n⟩:=get_some (l:=k) (i:=i) aA
 have d:=j (i+2) (QH (k.getD i undef) (ws[i]?).join) (by
  rw[tX,tX,eO,Hr r];rfl)
 rw[mZ,n] at d
 have f:=p.at_ n
 rw[mA] at f;unfold pE;cases o:(ws[i]?).join with
 | none=>
  rw[o] at d;obtain⟨A,e⟩:∃A,v=.slice A 0 0:=d;subst e;exact⟨A,0,f⟩
 | some t=>
  rw[o] at d;obtain⟨A,c,e,_⟩:=Em (Y:=fun _=>True) d (fun _ _=>trivial)
  have e:v=.slice A 1 c:=e
  subst e;exact⟨A,c,f⟩
section
variable{L:BL}{ms:List Int}{ws:List (Option jN)}{aV:Int}
def St.aKL(t:St w0 R H w)(i:Nat)(hi:H[i]? =some (Cr L ms ws aV)):Lw w L ms ws aV:=by
 obtain⟨F,c,d,_⟩:=t.chunk hi;exact aMA c
end
def aCs(L:BL)(ms:List Int)(ws:List (Option jN))(aV:Int)(i:Int)(w:World)(c:Lw w L ms ws aV):
  Cz 203 #[.pointer (some ⟨L.b,0,none⟩),iv i] w (Rt (.bool (bJ ms.length i)) w):=by
 have d:=c.r0.at_ (j:=0) rfl
 refine bQ func203 ntmps203 ?_;refine cH (t:=11) rfl (fun h=>?_) (fun h=>?_)
 .refine aD ?_;refine lD aB ?_;unfold bJ
  congr 1
  simp;omega
 .refine aD ?_;refine lD aB ?_
  have:bJ ms.length i=false:=gW aA
  rw[this]
def aKJ(L:BL)(ms:List Int)(ws:List (Option jN))(aV:Int)(i:Nat)(hi:i < ms.length)(w:World)(e:Lw w L ms ws aV):
  Cz 144 #[.pointer (some ⟨L.b,0,none⟩),iv (i:Int)] w (Rt (iv (pE ws i:Nat)) w):=by
 have h:=e.r0.at_ (j:=1) rfl
 obtain⟨A,c,hw⟩:=e.wt i hi
 have d:bJ ms.length (i:Int)=true:=eM aA
 refine bQ func144 ntmps144 ?_;refine cM (fun f t=>aCs L ms ws aV i f (e.below (t.below aB))) ?_;rw[d];refine aF ?_;exact dP
def aM9(ms:List Int)(v:Value)(hs:List HP)(_:Piece):Prop:=∃L:BL,v=.tuple #[.pointer (some ⟨L.b,0,none⟩),iv 0]/\hs=[Cr L ms (ms.map fun _=>none) 0]
def aNs{N:cQ}{w0:World}{e:Env}{R:List Piece}{H:List HP}{K:Act->World->Prop}{g n:Nat}{β:Type}(l:List β)(hl:l.length=n)(i:Nat)(hi:H[i]? =some (HP.aK g 312 (List.replicate n (sn))))(h:XK N w0 K e R (H.set i (aGc g n (l.map fun _=>none)))):XK N w0 K e R H:=by
 refine tH (q:=aGc g n (l.map fun _=>none)) i hi (fun F w m=>⟨List.replicate n (sn),fun k b=>k=0/\F b,fun k p c=>?_,fun k b h=>h.2,fun k j b f r o=>by have:=r.1;have:=o.1;omega⟩) h
 match k,c with
 | 0,c=>
  simp at c;subst c
  show(HP.aK g 312 (List.replicate n (sn))).sat (fun b=>0=0/\F b) w
  rw[show(fun b=>0=0/\F b)=F by funext b;simp];exact m
 | 1,c=>cases c;show(List.replicate n (Value.slice none 0 0)).length=n;simp
 | k + 2, c =>
  rw[tX,tX,eO] at c;cases d:(List.range n)[k]? with
  | none=>rw[d] at c;cases c
  | some j =>
   rw[d] at c
   have t:j < n:=mI.1 (dJ d)
   have:((l.map fun _=>(none:Option jN))[j]?).join=none:=by
    rw[eO];cases l[j]? <;>rfl
   simp only[lO,tW,this] at c;subst c;refine⟨none,?_⟩;rw[mZ,zJ,aH t];rfl
def aVG(ms:List Int)(K:ms.length<=6)(hm:∀m∈ms,0<=m/\m<=8)(A:Option Addr)(c:Nat)(w:World)(hs:aO (all w) 1 A ms.length (aU ms)):
  Cz 68 #[.slice A ms.length c] w (fun y w'=>(∃v hs q,y=.returned v/\q.w=w'/\aM9 ms v hs q/\iV w hs q)/\Below w.heap.size w w'):=by
 refine fP func68 ntmps68 ?_;refine fO ?_;refine jS ?_;refine bN ?_;refine bN ?_;refine iJ ?_;refine fO ?_;refine fO ?_;refine jS ?_;refine bN ?_;refine bN ?_;refine bN ?_;refine aF ?_;refine dD rfl (fun h=>absurd h aA) (fun _=>?_);refine sQ ?_;refine eR ?_;refine Wn (fun e R H=>∃f gw d,e=[(4,pt d),(0,.slice A ms.length c)]/\R=[all w]/\H=[HP.aK d 232 [.slice (some ⟨f,0,none⟩) ms.length ms.length,.slice (some ⟨gw,0,none⟩) ms.length ms.length,iv 0],HP.aK f 3 (List.replicate ms.length (iv 0)),HP.aK gw 312 (List.replicate ms.length (sn))]) ?_ ?_
 .refine vA 6 aJ aJ ?_;refine bE 0 ?_;refine bE 1 ?_;refine bE 3 ?_;refine bE 4 ?_;refine Od 2 5 rfl rfl aJ ?_ ?_
  .refine oZ (n:=ms.length) 8 (el:=3) (z:=iv 0) aJ aJ rfl rfl rfl aA aA aE fun f=>?_;refine qH ?_;refine dB 5 ?_;refine oZ (n:=ms.length) 24 (el:=312) (z:=sn) aJ aJ rfl rfl rfl aA aA aE fun gw=>?_;refine qH ?_;refine dB 6 ?_;refine kd (fI rfl) ?_;refine fY ?_;refine dB 7 ?_;refine eI fun d=>?_;refine fY ?_;refine dB 8 ?_;refine bN ?_;refine fY ?_;refine kV ?_;refine eR ?_;exact rK ⟨f,gw,d,rfl,rfl,rfl⟩
  .refine oZ (n:=ms.length) 24 (el:=312) (z:=sn) aJ aJ rfl rfl rfl aA aA aE fun gw=>?_;refine qH ?_;refine dB 2 ?_;refine oZ (n:=ms.length) 8 (el:=3) (z:=iv 0) aJ aJ rfl rfl rfl aA aA aE fun f=>?_;refine qH ?_;refine dB 6 ?_;refine kd (fI rfl) ?_;refine fY ?_;refine dB 7 ?_;refine eI fun d=>?_;refine fY ?_;refine dB 8 ?_;refine bN ?_;refine fY ?_;refine kV ?_;refine eR ?_;exact rK ⟨f,gw,d,rfl,rfl,rfl⟩
 rintro _ _ _ ⟨f,gw,d,rfl,rfl,rfl⟩;refine aF ?_;refine cF [(20,iv 0),(19,iv ms.length),(18,.slice A ms.length c),(4,pt d)] ?_
 refine gA (fun m e R H=>∃i:Nat,i<=ms.length/\m=ms.length - i/\e=[(20,iv i),(19,iv ms.length),(18,.slice A ms.length c),(4,pt d)]/\R=[all w]/\H=[HP.aK d 232 [.slice (some ⟨f,0,none⟩) ms.length ms.length,.slice (some ⟨gw,0,none⟩) ms.length ms.length,iv 0],HP.aK f 3 (aU (mN ms (ms.map fun _=>0) i)),HP.aK gw 312 (List.replicate ms.length (sn))]) ms.length ⟨0,aA,rfl,rfl,rfl,by
  rw[Yr]
  have:List.replicate ms.length (Value.int .i64 0)=aU (ms.map fun _=>0):=by
   refine qR fun j=>?_;simp only[aU,Mr,zJ,eO]
   by_cases h:j < ms.length
   .rw[aH h,cX h];rfl
   .rw[aC h,eW aA];rfl
  rw[this]⟩ fun m e R H G=>?_
 obtain⟨i,D,rfl,rfl,rfl,rfl⟩:=G
 have l:=Yt (vs:=ms) (old:=ms.map fun _=>0) (n:=ms.length) rfl aB D
 refine aF ?_;refine dD rfl (fun k=>?_) (fun E=>?_)
 .have k:i < ms.length:=aA
  obtain⟨v,o⟩:=get_some k
  have x:=hm v (dJ o)
  obtain⟨b,off,B,r,F⟩:=hs.2 aA;subst B
  have J:iD w b (off+i) (iv v):=⟨r,F i _ (by simp[aU,o])⟩
  have I:(aU (mN ms (ms.map fun _=>0) i)).length=ms.length:=by simp[aU,l]
  have jE:(aU (mN ms (ms.map fun _=>0) i)).set i (iv v)=aU (mN ms (ms.map fun _=>0) (i+1)):=by
   rw[<-Ys aB o,aU,aU,Fi]
  refine aD ?_;refine cG (dat i (off+i)) ?_;refine cH (t:=27) rfl (fun h=>absurd h aA) (fun _=>?_);refine aF ?_;refine dD rfl (fun h=>absurd h aA) (fun _=>?_);refine aF ?_;rw[jE];refine aF ?_;exact fX (ms.length - (i+1)) ⟨i+1,k,rfl,rfl,rfl,rfl⟩
 .obtain rfl:i=ms.length:=by omega
  rw[Yu rfl aB];refine aF ?_;refine aNs ms rfl 2 rfl ?_;dsimp only[List.set];refine Ah ?_;refine dX [] [] [0] fun q _ _ p=>?_;exact kN fun C t=>⟨⟨_,_,⟨C,q.Z⟩,rfl,rfl,⟨⟨d,f,gw⟩,rfl,rfl⟩,t.newR aB aB (p aB aB)⟩,t.below aB⟩
structure aS where
 ck:List fE
 dm:List gK
 ln:List lK
 dv:List (dO×eK)
 wt:List (Option jN)
 aV:Int
def hw0(s:aI):aS:=⟨s.aL.map Ce,s.domains.map fun _=>Ca,s.bG.map fun _=>uS,s.aG.map fun d=>(Ih d,Tx),s.aG.map fun _=>none,0⟩
structure HL where
 h:Nat
 T:TL
 G:GL
 R:RL
 B:BL
 A:Option Addr
 c:Nat
 ds:List (FL×Nat)
def Nn(d:bR)(l:FL×Nat):List Value:=[iv d.clock,iv d.domain,iv d.reset,.int .u32 d.zX,.pointer (some ⟨l.1.f,0,none⟩),.pointer (some ⟨l.2,0,none⟩)]
def zU(ds:List bR)(c:List (FL×Nat)):List (List Value):=List.zipWith Nn ds c
def Vq(d:bR)(p:(FL×Nat)×(dO×eK)):HP:=HP.many [jB p.1.1 d p.2.1,xT p.1.2 p.2.2]
def Bz(ds:List bR)(c:List (FL×Nat))(xs:List (dO×eK)):List HP:=List.zipWith Vq ds (c.zip xs)
def lR(s:aI):List Int:=s.aG.map fun d=>(d.aX.length:Int)
def Zk(L:HL)(n:Nat):List Value:=[.pointer (some ⟨L.T.t,0,none⟩),.pointer (some ⟨L.G.t,0,none⟩),.pointer (some ⟨L.R.t,0,none⟩),.pointer (some ⟨L.B.b,0,none⟩),.slice L.A n L.c]
def eH(L:HL)(s:aI)(x:aS):HP:=HP.many [HP.aK L.h 175 (Zk L s.aG.length),tJ L.T s x.ck,yW L.G s x.dm,sU L.R s x.ln,Cr L.B (lR s) x.wt x.aV,HP.own 182 6 (.slice L.A s.aG.length L.c) s.aG.length (zU s.aG L.ds).flatten,HP.many (Bz s.aG L.ds x.dv)]
def aMp(s:aI)(v:Value)(hs:List HP)(_:Piece):Prop:=∃L:HL,v=.tuple #[.pointer (some ⟨L.h,0,none⟩),iv 0]/\hs=[eH L s (hw0 s)]/\L.T.fa.length=s.aL.length/\L.ds.length=s.aG.length
def Kg(s:aI):(lR s).length=s.aG.length:=by simp[lR]
def aTM{ds:List bR}{i:Nat}{d:bR}(hd:ds[i]? =some d){c:List (FL×Nat)}(hl:c.length=i)(l:FL×Nat):Bz (ds.take (i+1)) (c++[l]) ((ds.take (i+1)).map fun d=>(Ih d,Tx))=Bz (ds.take i) c ((ds.take i).map fun d=>(Ih d,Tx))++[Vq d (l,(Ih d,Tx))]:=by
 have e:i < ds.length:=By hd
 rw[List.take_succ,hd,Jz,Jw];unfold Bz;rw[List.zip_append (by simp;omega),List.zipWith_append (by simp;omega)];rfl
def aTL{ds:List bR}{i:Nat}{d:bR}(hd:ds[i]? =some d){c:List (FL×Nat)}(hl:c.length=i)(l:FL×Nat):(zU (ds.take (i+1)) (c++[l])).flatten=(zU (ds.take i) c).flatten++Nn d l:=by
 have e:i < ds.length:=By hd
 rw[List.take_succ,hd,Jz];unfold zU;rw[List.zipWith_append (by simp;omega),Ts];simp
def uY{N:cQ}{w0:World}{e:Env}{R:List Piece}{H:List HP}{K:Act->World->Prop}{p:HP}{ps:List HP}(h:XK N w0 K e R (HP.many (ps++[p])::H)):XK N w0 K e R (HP.many ps::p::H):=fun a w f st=>
 (aAu (ps:=ps) (p:=p) h) a w f (st.weak (fun _ h=>h) (fun i=>match i with
  | 0=>1
  | 1=>0
  | i+2=>i+2) (fun i j _ _ d=>by
   match i,j with
   | 0,0=>rfl
   | 0,1=>simp at d
   | 0,j+2=>simp at d
   | 1,0=>simp at d
   | 1,1=>rfl
   | 1,j+2=>simp at d
   | i+2,0=>simp at d
   | i+2,1=>simp at d
   | i+2,j+2=>simpa using d) (fun i p c=>by
   match i,c with
   | 0,c=>simpa using c
   | 1,c=>simpa using c
   | i+2,c=>simpa using c))
def aWL{N:cQ}{w0:World}{e:Env}{R:List Piece}{H:List HP}{K:Act->World->Prop}(h:XK N w0 K e R (HP.many []::H)):XK N w0 K e R H:=rZ (p:=HP.many []) (fun w=>⟨fun _ _=>False,fun i p c=>by simp at c,fun _ _ h=>h,fun _ _ _ _ h=>h.elim⟩) h
def aSx(s:aI)(B:s.dM)(A1 A2 A3 A4:Option Addr)(n1 k1 n2 k2 n3 k3 n4 k4:Nat)(w:World)(hW:jH w s A1 n1 A2 n2 A3 n3 A4 n4):
  Cz 38 #[.agg #[.slice A1 n1 k1,.slice A2 n2 k2,.slice A3 n3 k3,.slice A4 n4 k4]] w (fun y w'=>(∃v hs q,y=.returned v/\q.w=w'/\aMp s v hs q/\iV w hs q)/\Below w.heap.size w w'):=by
 have Hw:=B.t.nv
 obtain⟨rv,K,N,Y⟩:=hW.dev;obtain⟨da,L,rfl,X⟩:=aFs K;subst N;refine bQ func38 ntmps38 ?_;refine iG fun g1=>?_;refine cR (fun k t=>Wb s A1 A2 A3 A4 n1 k1 n2 k2 n3 k3 _ k4 k (hW.le (t.started aB)) B.t.Wa) ?_;refine gN (aLL s) (fun k t=>aVk s B A1 A2 A3 A4 n1 k1 n2 k2 n3 k3 _ k4 k (hW.le (t.started aB))) ?_;rintro _ _ q1 ⟨O,rfl,rfl,hfa⟩ _;dsimp only[dW,dG];refine aF ?_;refine gN (aMw s) (fun k t=>aPV s B A1 A2 A3 A4 n1 k1 n2 k2 n3 k3 _ k4 k (hW.le (t.started aB))) ?_;rintro _ _ q2 ⟨U,rfl,rfl⟩ _;dsimp only[dW,dG];refine aF ?_;refine gN (aMm s) (fun k t=>aOW s B A1 A2 A3 A4 n1 k1 n2 k2 n3 k3 _ k4 k (hW.le (t.started aB))) ?_;rintro _ _ q3 ⟨M,rfl,rfl⟩ _;dsimp only[dW,dG];refine aF ?_;refine iG fun G=>?_;refine oZ (n:=s.aG.length) 8 (el:=3) (z:=iv 0) aJ aJ rfl rfl rfl aA aA aE fun F=>?_;refine aF ?_;refine oF 182 6 ?_;refine aWL ?_;refine aZ [0,1,2,3,4,5,6] ?_ (R':=[all w]);refine cF [(56,iv 0),(55,iv s.aG.length),(54,.slice A4 s.aG.length k4),(10,.slice (some ⟨F,0,none⟩) s.aG.length s.aG.length),(9,pt G)] ?_;refine gA (fun m e R H=>∃(i:Nat) (A:Option Addr) (c:Nat) (E:List (FL×Nat)),i<=s.aG.length/\E.length=i/\m=s.aG.length - i/\e=[(56,iv i),(55,iv s.aG.length),(54,.slice A4 s.aG.length k4),(10,.slice (some ⟨F,0,none⟩) s.aG.length s.aG.length),(9,pt G)]/\R=[all w]/\H=[HP.many (Bz (s.aG.take i) E ((s.aG.take i).map fun d=>(Ih d,Tx))),HP.own 182 6 (.slice A i c) i (zU (s.aG.take i) E).flatten,HP.aK F 3 (aU (mN (lR s) ((lR s).map fun _=>0) i)),HP.aK G 175 [.pointer (some ⟨O.t,0,none⟩),.pointer (some ⟨U.t,0,none⟩),.pointer (some ⟨M.t,0,none⟩),.pointer none,.slice A i c],sU M s (hw0 s).ln,yW U s (hw0 s).dm,tJ O s (hw0 s).ck]) s.aG.length ⟨0,none,0,[],aA,rfl,rfl,rfl,rfl,?_⟩ fun m e R H hI=>?_
 .have:List.replicate s.aG.length (Value.int .i64 0)=aU (mN (lR s) ((lR s).map fun _=>0) 0):=by
   rw[Yr];refine qR fun j=>?_;simp only[aU,lR,Mr,zJ,eO]
   by_cases h:j < s.aG.length
   .rw[aH h,cX h];rfl
   .rw[aC h,eW aA];rfl
  rw[this];rfl
 obtain⟨i,A,c,E,hi,D,rfl,rfl,rfl,rfl⟩:=hI
 have p:=Kg s
 have I:=Yt (vs:=lR s) (old:=(lR s).map fun _=>0) (n:=s.aG.length) p (by simp[lR]) hi
 refine aF ?_;refine dD rfl (fun o=>?_) (fun hge=>?_)
 .have o:i < s.aG.length:=aA
  obtain⟨d,hd⟩:=get_some o;obtain⟨⟨a1,a2⟩,ha⟩:=get_some (l:=da) (i:=i) aA;obtain⟨C,J⟩:=X i d _ hd ha
  have x:=B.t.aG i d hd
  obtain⟨b,off,hB,hro⟩:=aO.row Y (aAB (f:=Dx) (es:=s.aG) (bs:=da) (sz:=6) L (fun _ _=>rfl)).2 (Xh (f:=Dx) hd ha) o;subst hB;refine aD ?_;refine cG (dat i (off+i*6)) ?_;refine eE fun g3=>?_
  have V:(lR s)[i]? =some (d.aX.length:Int):=by rw[lR,eO,hd];rfl
  have vU:(aU (mN (lR s) ((lR s).map fun _=>0) i)).length=s.aG.length:=by simp[aU,I]
  have jE:(aU (mN (lR s) ((lR s).map fun _=>0) i)).set i (iv d.aX.length)=aU (mN (lR s) ((lR s).map fun _=>0) (i+1)):=by
   rw[<-Ys aB V,aU,aU,Fi]
  refine aF ?_;refine gN (aM0 d) (fun k t=>aP4 d (by have:=x.2.2.2.2.2.2.2.2.1;omega) (fun r hr=>by have:=x.2.2.2.2.2.2.2.2.2.1 r hr;omega) a1.1 a1.2 k (aO.le C (t.le aB))) ?_;rintro _ _ q1 ⟨LF,rfl,rfl⟩ _;dsimp only[dW,dG];refine aF ?_;refine cR (fun k t=>Xz LF d (Ih d) k (t.aFe 0 rfl)) ?_;rw[jE];refine aD ?_;refine kO [2,3,4,5,6,7,8,9,10,11,12] ?_;refine bU 0 ?_;refine bU 1 ?_;refine bU 13 ?_;refine aQ 2 ?_;refine aQ 3 ?_;refine aQ 4 ?_;refine aQ 5 ?_;refine aQ 6 ?_;refine aQ 7 ?_;refine aQ 8 ?_;refine aQ 9 ?_;refine aQ 10 ?_;refine aQ 11 ?_;refine aQ 12 ?_;refine aR 14 ?_;refine gN (fun v hs _=>∃g,v=pt g/\hs=[HP.aK g 229 [iv 0,iv 0]]) (fun k t=>aPI k) ?_;rintro _ _ q2 ⟨gq,rfl,rfl⟩ _;dsimp only[dW,dG];refine bH ?_;refine aR 15 ?_;refine kd (fI rfl) ?_;refine bH ?_;refine aR 16 ?_;refine eX fun g4=>?_;refine bH ?_ (hS:=fun _ h=>h.tail.cN.tail);refine aR 17 ?_;refine Qh 5 fun An cn=>?_;refine cT ?_;refine aR 18 ?_;refine bN ?_;refine cT ?_;refine aR 19 ?_;refine bN ?_;refine cT ?_;refine aR 20 ?_;refine vR ?_;refine cT ?_;refine kA ?_;refine aZ [2,1,4,5,6,7,8,9,10] ?_ (R':=[all w]);refine oP ?_;refine aAu ?_;refine cF [(56,iv (i+1:Nat)),(55,iv s.aG.length),(54,.slice (some ⟨b,off,none⟩) s.aG.length k4),(10,.slice (some ⟨F,0,none⟩) s.aG.length s.aG.length),(9,pt G)] ?_;exact iZ (s.aG.length - (i+1)) aA ⟨i+1,An,cn,E++[(LF,gq)],o,by simp;omega,rfl,rfl,rfl,by rw[aTM hd D,aTL hd D];rfl⟩
 .obtain rfl:i=s.aG.length:=by omega
  rw[Yu p (by simp[lR])];rw[Bn];refine aF ?_
  refine gN (aM9 (lR s)) (fun k t=>by
   have:=aVG (lR s) aA (fun m hm=>by
    obtain⟨d,hd,rfl⟩:=fR.1 hm;obtain⟨j,hj⟩:=lA hd
    have:=(B.t.aG j d hj).2.2.2.2.2.2.2.2.1
    omega) (some ⟨F,0,none⟩) s.aG.length k
   rw[p] at this
   exact this (t.wP (i:=2) rfl (by simp[aU,p]))) ?_
  rintro _ _ q1 ⟨LB,rfl,rfl⟩ _;dsimp only[dW,dG];refine aF ?_;refine aZ [4,7,6,5,0,2,1] ?_ (R':=[all w]);refine oP ?_;refine uY ?_;refine uY ?_;refine uY ?_;refine uY ?_;refine uY ?_;dsimp only[dW,dG];refine dX [] [] [0] fun q _ _ T=>?_;exact kN fun k t=>⟨⟨_,_,⟨k,q.Z⟩,rfl,rfl,⟨⟨G,O,U,M,LB,A,c,E⟩,rfl,by simp[eH,Zk,hw0,lR,Function.comp_def],hfa,D⟩,t.newR aB aB (T aB aB)⟩,t.below aB⟩
variable{L:HL}{x:aS}
structure dF(s:aI)(x:aS):Prop where
 ck:tQ s x.ck
 dm:xY s x.dm
 ln:Jb s x.ln
 dv:x.dv.length=s.aG.length
 each:∀(i:Nat) (d:bR) (p:dO×eK),s.aG[i]? =some d->x.dv[i]? =some p->Co d p.1/\En p.2
 wt:x.wt.length=s.aG.length
structure iS(L:HL)(s:aI):Prop where
 fa:L.T.fa.length=s.aL.length
 ds:L.ds.length=s.aG.length
structure xV(w:World)(L:HL)(s:aI)(x:aS):Prop where
 r0:eL w L.h 0 (Zk L s.aG.length)
 tree:At w L.T s x.ck
 aEQ:aMv w L.G s x.dm
 lines:Oi w L.R s x.ln
 bus:Lw w L.B (lR s) x.wt x.aV
 rows:aO (all w) 6 L.A s.aG.length (zU s.aG L.ds).flatten
 each:∀(i:Nat) (d:bR) (l:FL×Nat) (p:dO×eK),s.aG[i]? =some d->L.ds[i]? =some l->x.dv[i]? =some p->Gr w l.1 d p.1/\eL w l.2 0 (Wx p.2)
def xV.below{w w':World}{L:HL}{s:aI}{x:aS}(h:xV w L s x)(c:Below w.heap.size w w'):xV w' L s x:=
 ⟨h.r0.below c,h.tree.below c,Gj.below h.aEQ c,h.lines.below c,h.bus.below c,h.rows.le (nF c),fun i d l p f e j=>⟨(h.each i d l p f e j).1.below c,(h.each i d l p f e j).2.below c⟩⟩
def aMq{L:HL}{s:aI}{x:aS}{F:Nat->Prop}{w:World}(h:(eH L s x).sat F w)(hF:∀b,F b->b < w.heap.size)(hL:iS L s)(j:dF s x):xV w L s x:=by
 obtain⟨G,c,t,_⟩:=h
 have f:∀i b,G i b->b < w.heap.size:=fun i b e=>hF b (t i b e)
 obtain⟨I,K,k,C⟩:=Em (Y:=fun b=>b < w.heap.size) (c 5 _ rfl) (f 5)
 injection k with k
 subst k;refine⟨yR (c 0 _ rfl).2,aLM (c 1 _ rfl) (f 1) hL.fa j.ck,aMd (c 2 _ rfl) (f 2),aMn (c 3 _ rfl),aMA (c 4 _ rfl),C,fun i d l p y r B=>?_⟩;obtain⟨D,n,A,_⟩:=c 6 _ rfl
 have z:(Bz s.aG L.ds x.dv)[i]? =some (Vq d (l,p)):=by
  have o:(L.ds.zip x.dv)[i]? =some (l,p):=Tj.2 ⟨r,B⟩
  rw[Bz,lP,y,o]
 have H:∀b,D i b->b < w.heap.size:=fun b e=>f 6 b (A i b e)
 obtain⟨J,m,E,_⟩:=n i _ z;exact⟨aA8 (m 0 _ rfl) (fun b e=>H b (E 0 b e)),yR (m 1 _ rfl).2⟩
def St.pN(t:St w0 R H w)(i:Nat)(hi:H[i]? =some (eH L s x))(hL:iS L s)(c:dF s x):xV w L s x:=by
 obtain⟨F,d,e,_⟩:=t.chunk hi;exact aMq d e hL c
section
variable(L:HL)(s:aI)(x:aS)(w:World)
def Fp(c:xV w L s x):Cz 141 #[.pointer (some ⟨L.h,0,none⟩)] w (Rt (.bool true) w):=by
 have f:=c.r0.at_ (j:=0) rfl
 have d:=c.r0.at_ (j:=1) rfl
 have i:=c.r0.at_ (j:=2) rfl
 have e:=c.r0.at_ (j:=3) rfl
 refine bQ func141 ntmps141 ?_;exact dP
def Uz(i:Int)(c:xV w L s x):Cz 137 #[.pointer (some ⟨L.h,0,none⟩),iv i] w (Rt (.bool (bJ s.aG.length i)) w):=by
 have e:=c.r0.at_ (j:=4) rfl
 refine bQ func137 ntmps137 ?_;refine cR (fun d t=>Fp L s x d (c.below (t.below aB))) ?_;refine cH (t:=11) rfl (fun h=>?_) (fun h=>?_)
 .refine aD ?_;refine lD aB ?_;unfold bJ
  congr 1
  simp;omega
 .refine aD ?_;refine lD aB ?_
  have:bJ s.aG.length i=false:=gW aA
  rw[this]
def aSj(i:Nat)(hi:i < s.aG.length)(c:xV w L s x):Cz 126 #[.pointer (some ⟨L.h,0,none⟩),iv (i:Int)] w (Rt (iv (pE x.wt i:Nat)) w):=by
 have f:=c.r0.at_ (j:=3) rfl
 have e:bJ s.aG.length (i:Int)=true:=eM aA
 refine bQ func126 ntmps126 ?_;refine cM (fun d t=>Uz L s x d i (c.below (t.below aB))) ?_;rw[e];refine aD ?_;refine cR (fun d t=>aKJ L.B (lR s) x.wt x.aV i (by rw[Kg];exact hi) d (c.bus.below (t.below aB))) ?_;exact dP
def aEH(e:xY s x.dm)(i:Int)(c:xV w L s x):Cz 181 #[.pointer (some ⟨L.h,0,none⟩),iv i] w (Rt (.int .u8 (tY x.dm i)) w):=by
 have f:=c.r0.at_ (j:=1) rfl
 refine bQ func181 ntmps181 ?_;refine cR (fun d t=>Fp L s x d (c.below (t.below aB))) ?_;refine cR (fun d t=>aHZ L.G s x.dm e i d (Gj.below c.aEQ (t.below aB))) ?_;exact dP
def aSn(i:Int)(d:xV w L s x):Cz 189 #[.pointer (some ⟨L.h,0,none⟩),iv i] w (Rt (.bool (Fo x.ln i)) w):=by
 have e:=d.r0.at_ (j:=2) rfl
 refine bQ func189 ntmps189 ?_;refine cR (fun c t=>Fp L s x c (d.below (t.below aB))) ?_;refine cR (fun c t=>aH9 L.R s x.ln i c (d.lines.below (t.below aB))) ?_;exact dP
end
def aIT{s:aI}(h:s.dM):dF s (hw0 s):=by
 refine⟨⟨by simp[hw0],fun x e=>?_⟩,⟨by simp[hw0],fun x e=>?_,fun x e=>?_⟩,⟨by simp[hw0],fun x e=>?_⟩,by simp[hw0],fun i d p hd k=>?_,by simp[hw0]⟩
 .obtain⟨c,f,rfl⟩:=fR.1 e;obtain⟨i,m⟩:=lA f
  have:=(h.t.aL i c m).2
  unfold Ce;dsimp only;split
  .omega
  .omega
 .obtain⟨c,f,rfl⟩:=fR.1 e;simp[Ca]
 .obtain⟨c,f,rfl⟩:=fR.1 e;simp[Ca]
 .obtain⟨c,f,rfl⟩:=fR.1 e;simp[uS]
 .simp only[hw0,eO,hd,lO] at k;cases k
  have n:=h.t.aG i d hd
  refine⟨⟨by simp[Ih],by simp[Ih],fun v j=>?_,fun v j=>?_⟩,by simp[En,Tx]⟩
  .obtain⟨r,l,rfl⟩:=fR.1 j
   have:=n.2.2.2.2.2.2.2.2.2.1 r l
   omega
  .simp only[Ih,fR] at j;obtain⟨r,_,rfl⟩:=j;omega
def aGy{s:aI}(h:s.Bv):(dV s).sm:=by
 have c:=h.nc
 have e:=h.nd
 have d:=h.nr
 exact⟨by simp[dV];omega,by simp[dV];omega,by simp[dV];omega⟩
def Bi{α:Type}{l:List α}{i:Nat}{x:α}(h:l[i]? =some x):l.set i x=l:=by
 refine qR fun j=>?_;rw[gX]
 by_cases c:i=j
 .subst c;rw[aH rfl,aH (cE.1 h).1,h]
 .rw[aC c]
def wS(s:aI)(st:List fE)(i:Nat):List Value:=(List.range s.aL.length).map fun j=>.bool (decide (j < i)&&runs s st j)
def aPD(s:aI)(st:List fE):List.replicate s.aL.length (Value.bool false)=wS s st 0:=by
 refine qR fun j=>?_;rw[wS,zJ,eO]
 by_cases c:j < s.aL.length
 .rw[Hr c];simp[c]
 .rw[eW (l:=List.range s.aL.length) (by simp;omega)];simp[c]
def aPE(s:aI)(st:List fE)(i:Nat):(wS s st i).set i (.bool (runs s st i))=wS s st (i+1):=by
 refine qR fun j=>?_;simp only[wS,gX,eO,Jv,List.length_range]
 by_cases d:i=j
 .subst d
  by_cases c:i < s.aL.length
  .rw[aH rfl,aH c,Hr c];simp
  .rw[aH rfl,aC c,eW (by simp;omega)];rfl
 .rw[aC d]
  by_cases c:j < s.aL.length
  .rw[Hr c]
   have:decide (j < i)=decide (j < i+1):=by simp;omega
   simp[this]
  .rw[eW (by simp;omega)];rfl
def aPF{s:aI}{st:List fE}{j:Nat}(h:j < s.aL.length):(wS s st s.aL.length)[j]? =some (.bool (runs s st j)):=by
 simp[wS,h]
def sN(s:aI)(st:List fE)(i:Nat):List fE:=(oJ s st).take i++st.drop i
def aQY(s:aI)(st:List fE):sN s st 0=st:=by simp[sN]
def aRc{s:aI}{st:List fE}(c:tQ s st):sN s st s.aL.length=oJ s st:=by
 have d:=c.len
 rw[sN,Ti aA,nZ,yE (by simp[oJ];omega)]
def aRb{s:aI}{st:List fE}(c:tQ s st){i:Nat}(hi:i < s.aL.length):(sN s st i)[i]? =st[i]? :=by
 have d:=c.len
 have:((oJ s st).take i).length=i:=by simp[oJ];omega
 rw[sN,nA aA,this,yC,Bp,Ms]
def aEm{s:aI}{st:List fE}(c:tQ s st){i:Nat}(hi:i<=s.aL.length):(sN s st i).length=s.aL.length:=by
 have d:=c.len
 simp[sN,oJ];omega
def aQZ{s:aI}{st:List fE}(d:tQ s st){i:Nat}{c:fK}{x:fE}(e:s.aL[i]? =some c)(hx:st[i]? =some x):(sN s st i).set i (Be s st c x)=sN s st (i+1):=by
 have n:=d.len
 have k:=(cE.1 e).1
 have m:(oJ s st)[i]? =some (Be s st c x):=by rw[oJ,lP,e,hx]
 have l:(oJ s st).length=s.aL.length:=by simp[oJ];omega
 refine qR fun j=>?_;rw[gX]
 by_cases h:i=j
 .subst h;rw[aH rfl,aH (by rw[aEm d aA];exact k),sN,pL (by rw[pX];omega),wV aA,m]
 .rw[aC h,sN,sN];rcases dI j i with f | f
  .rw[pL (by rw[pX];omega),pL (by rw[pX];omega),wV f,wV aA]
  .rw[nA (by rw[pX];omega),nA (by rw[pX];omega),Bp,Bp,pX,pX]
   congr 1
   omega
def aNA{s:aI}{st:List fE}(h:s.dM)(d:tQ s st){i:Nat}{c:fK}{x:fE}(f:s.aL[i]? =some c)(hx:x∈st):0<=(Be s st c x).left/\(Be s st c x).left<=3:=by
 have e:=d.left x hx
 have k:=(h.t.aL i c f).2
 have j:0<=c.lock/\c.lock<=3:=by omega
 unfold Be;split
 .split
  .exact j
  .split
   .dsimp only;omega
   .exact e
 .exact e
def aDy{s:aI}{st:List fE}(k:s.dM)(e:tQ s st):tQ s (oJ s st):=by
 have l:=e.len
 refine⟨by simp[oJ];omega,fun x i=>?_⟩;obtain⟨j,d⟩:=lA i;rw[oJ,lP] at d;cases f:s.aL[j]? with
 | none=>rw[f] at d;cases d
 | some c =>
  cases h:st[j]? with
  | none=>rw[f,h] at d;cases d
  | some y=>
   rw[f,h] at d;cases d;exact aNA k e f (dJ h)
def aRa{s:aI}{st:List fE}(e:s.dM)(c:tQ s st){i:Nat}(hi:i<=s.aL.length):tQ s (sN s st i):=⟨aEm c hi,fun x d=>by
 rcases oM.1 d with h | h
 .exact(aDy e c).left x (Dg h)
 .exact c.left x (Ph h)⟩
def aVg(L:TL)(s:aI)(st:List fE)(hH:s.dM)(B:L.fa.length=s.aL.length)(o:tQ s st)(w:World)(F:Nat->Prop)(hp:(tJ L s st).sat F w)(hF:∀b,F b->b < w.heap.size):
  Cz 145 #[.pointer (some ⟨L.t,0,none⟩)] w (Wr (.tuple #[]) (tJ L s (oJ s st)) w F):=by
 have hnc:=hH.t.nc
 have hl:=o.len
 refine fS func145 ntmps145 hp hF ?_
 have aXH:Rd w [⟨w,fun b=>b < w.heap.size/\¬F b⟩] [tJ L s st] L.t 0 (.slice L.A s.aL.length L.c):=Rd.tree 0 rfl B o
 refine aD ?_;refine oZ (n:=s.aL.length) 1 (el:=4) (z:=.bool false) aJ aJ rfl rfl rfl aA aA aE fun E=>?_
 have aXG:Rd w [⟨w,fun b=>b < w.heap.size/\¬F b⟩] [HP.aK E 4 (List.replicate s.aL.length (.bool false)),tJ L s st] L.t 0 (.slice L.A s.aL.length L.c):=Rd.tree 1 rfl B o
 refine aD ?_;rw[aPD s st];refine cF [(19,iv 0),(18,iv s.aL.length),(2,.slice (some ⟨E,0,none⟩) s.aL.length s.aL.length),(0,.pointer (some ⟨L.t,0,none⟩))] ?_;refine gA (fun m e R H=>∃i:Nat,i<=s.aL.length/\m=s.aL.length - i/\e=[(19,iv i),(18,iv s.aL.length),(2,.slice (some ⟨E,0,none⟩) s.aL.length s.aL.length),(0,.pointer (some ⟨L.t,0,none⟩))]/\R=[⟨w,fun b=>b < w.heap.size/\¬F b⟩]/\H=[HP.aK E 4 (wS s st i),tJ L s st]) s.aL.length ⟨0,aA,rfl,rfl,rfl,rfl⟩ fun m e R H hI=>?_;obtain⟨i,hi,rfl,rfl,rfl,rfl⟩:=hI;refine aD ?_;refine dD rfl (fun d=>?_) (fun hge=>?_)
 .have d:i < s.aL.length:=aA
  have Uw:(wS s st i).length=s.aL.length:=by simp[wS]
  refine aD ?_;refine cM (fun w1 t=>aAc L s st hH i w1 (t.aDu 1 rfl B o)) ?_;rw[show sG s st (i:Int)=runs s st i by simp[sG,bJ,d]];refine aF ?_;rw[aPE];exact fX (s.aL.length - (i+1)) ⟨i+1,d,rfl,rfl,rfl,rfl⟩
 .obtain rfl:i=s.aL.length:=by omega
  have aXF:Rd w [⟨w,fun b=>b < w.heap.size/\¬F b⟩] [HP.aK E 4 (wS s st s.aL.length),tJ L s st] L.t 0 (.slice L.A s.aL.length L.c):=Rd.tree 1 rfl B o
  refine aD ?_;refine cF [(34,iv 0),(33,iv s.aL.length),(2,.slice (some ⟨E,0,none⟩) s.aL.length s.aL.length),(0,.pointer (some ⟨L.t,0,none⟩))] ?_;refine gA (fun m e R H=>∃i:Nat,i<=s.aL.length/\m=s.aL.length - i/\e=[(34,iv i),(33,iv s.aL.length),(2,.slice (some ⟨E,0,none⟩) s.aL.length s.aL.length),(0,.pointer (some ⟨L.t,0,none⟩))]/\R=[⟨w,fun b=>b < w.heap.size/\¬F b⟩]/\H=[HP.aK E 4 (wS s st s.aL.length),tJ L s (sN s st i)]) s.aL.length ⟨0,aA,rfl,rfl,rfl,by rw[aQY]⟩ fun m e R H hI=>?_;obtain⟨i,hi,rfl,rfl,rfl,rfl⟩:=hI;refine aD ?_;refine dD rfl (fun d=>?_) (fun hge=>?_)
  .have d:i < s.aL.length:=aA
   obtain⟨c,Z⟩:=get_some d;obtain⟨a,ha⟩:=get_some (l:=L.fa) (i:=i) aA;obtain⟨x,hx⟩:=get_some (l:=st) (i:=i) aA
   have M:=aRa hH o hi
   have hml:=aEm o hi
   have V:(sN s st i)[i]? =some x:=by rw[aRb o d];exact hx
   obtain⟨vT,Qm⟩:=aEe B M
   have hlx:=o.left x (dJ hx)
   have Uw:(wS s st s.aL.length).length=s.aL.length:=by simp[wS]
   have p:(lQ s L.fa (sN s st i)).set i (uR c a (Be s st c x))=lQ s L.fa (sN s st (i+1)):=by rw[aIy Z ha aA,aQZ o Z hx]
   refine aLv 1 rfl aA fun g cs G I r U O=>?_;dsimp only[List.set];rw[G]
   have hs:=Ig r vT Qm (Ua Z ha V)
   have hu:=xQ.refl cs (i*11) 11
   have hrd:Rd w [⟨w,fun b=>b < w.heap.size/\¬F b⟩] [HP.aK g 214 cs,HP.aK E 4 (wS s st s.aL.length),HP.many [HP.aK L.t 212 [.slice (some ⟨g,0,none⟩) s.aL.length L.c],cS,HP.cO (wK s L.fa) (wK.le (s:=s) (fa:=L.fa))]] L.t 0 (.slice (some ⟨g,0,none⟩) s.aL.length L.c):=aX1 2 0 rfl rfl rfl
   refine aD ?_;refine kd (dat i (i*11)) ?_;obtain⟨C,N⟩:=hH.t.aL i c Z;obtain⟨kd,src,y,J,dv,h⟩:=c;obtain⟨on,left⟩:=x;dsimp only at N C hlx;dsimp only[uR] at hs
   have k:kd≠112\/on=false->lQ s L.fa (sN s st i)=lQ s L.fa (sN s st (i+1)):=fun hh=>by
    rw[<-p]
    have:Be s st ⟨kd,src,y,J,dv,h⟩ ⟨on,left⟩=⟨on,left⟩:=by
     unfold Be;rw[aC];rintro⟨I,r⟩;rcases hh with hh | hh
     .exact hh I
     .rw[hh] at r;cases r
    rw[this,Bi (Ua Z ha V)]
   rcases N with⟨rfl,_⟩ | ⟨rfl,hsl,_⟩ | ⟨rfl,_⟩ | ⟨rfl,_⟩ | ⟨rfl,_⟩
   .rw[k (.inl aE)] at r;refine aD ?_;refine oU ?_;refine kM ?_;refine aD ?_;refine Ei 1 G I r U O rfl ?_;exact fX (s.aL.length - (i+1)) ⟨i+1,d,rfl,rfl,rfl,rfl⟩
   .cases on
    .rw[k (.inr rfl)] at r;refine aD ?_;refine oU ?_;refine kM ?_;refine aD ?_;refine Ei 1 G I r U O rfl ?_;exact fX (s.aL.length - (i+1)) ⟨i+1,d,rfl,rfl,rfl,rfl⟩
    .obtain⟨f,T,hf⟩:∃(f:Nat) (T:List Int),src=(f:Int)::T:=by
      cases hs0:src with
      | nil=>rw[hs0] at hsl;simp at hsl
      | cons f T=>exact⟨f.toNat,T,by have:=(C f (by rw[hs0];simp)).1;rw[Int.toNat_of_nonneg this]⟩
     have hfi:f < i:=by have:=(C f (by rw[hf];simp)).2;omega
     subst hf
     have hrun:=aPF (s:=s) (st:=st) (j:=f) aA
     have xD:Rd w [⟨w,fun b=>b < w.heap.size/\¬F b⟩] [HP.aK g 214 cs,HP.aK E 4 (wS s st s.aL.length),HP.many [HP.aK L.t 212 [.slice (some ⟨g,0,none⟩) s.aL.length L.c],cS,HP.cO (wK s L.fa) (wK.le (s:=s) (fa:=L.fa))]] E f (.bool (runs s st f)):=Rd.aK 1 rfl hrun
     refine aD ?_;refine cR (fun w1 t=>Vz L s (sN s st i) i f _ T w1 (t.aN9 0 2 rfl rfl G r B M) Z rfl) ?_
     have ht1:Be s st ⟨112,(f:Int)::T,y,J,dv,h⟩ ⟨true,left⟩=if runs s st f=false then⟨true,h⟩ else if 0 < left then⟨true,left - 1⟩ else⟨true,left⟩:=by
      simp[Be,aAV]
     rw[ht1] at p;cases K:runs s st f
     .rw[K] at xD;rw[aH K] at p
      have X:=hs.set 7 (iv h) aB aA
      have Y:=hu.set 7 (iv h) aE
      have D:=Fs (r':=uR ⟨112,(f:Int)::T,y,J,dv,h⟩ a ⟨true,h⟩) r vT Qm d aA rfl X Y
      rw[p] at D;refine aD ?_;refine Ei 1 G (by simpa using I) D U O rfl ?_;exact fX (s.aL.length - (i+1)) ⟨i+1,d,rfl,rfl,rfl,rfl⟩
     .rw[K] at xD;rw[aC (by rw[K];decide)] at p;refine aD ?_;refine dD rfl (fun hp=>?_) (fun hp=>?_)
      .rw[aH hp] at p
       have X:=hs.set 7 (iv (left - 1)) aB aA
       have Y:=hu.set 7 (iv (left - 1)) aE
       have D:=Fs (r':=uR ⟨112,(f:Int)::T,y,J,dv,h⟩ a ⟨true,left - 1⟩) r vT Qm d aA rfl X Y
       rw[p] at D;refine aD ?_;refine Ei 1 G (by simpa using I) D U O rfl ?_;exact fX (s.aL.length - (i+1)) ⟨i+1,d,rfl,rfl,rfl,rfl⟩
      .rw[aC hp,Bi (Ua Z ha V)] at p;rw[p] at r;refine aD ?_;refine oU ?_;refine kM ?_;refine aD ?_;refine Ei 1 G I r U O rfl ?_;exact fX (s.aL.length - (i+1)) ⟨i+1,d,rfl,rfl,rfl,rfl⟩
   .rw[k (.inl aE)] at r;refine aD ?_;refine oU ?_;refine kM ?_;refine aD ?_;refine Ei 1 G I r U O rfl ?_;exact fX (s.aL.length - (i+1)) ⟨i+1,d,rfl,rfl,rfl,rfl⟩
   .rw[k (.inl aE)] at r;refine aD ?_;refine oU ?_;refine kM ?_;refine aD ?_;refine Ei 1 G I r U O rfl ?_;exact fX (s.aL.length - (i+1)) ⟨i+1,d,rfl,rfl,rfl,rfl⟩
   .rw[k (.inl aE)] at r;refine aD ?_;refine oU ?_;refine kM ?_;refine aD ?_;refine Ei 1 G I r U O rfl ?_;exact fX (s.aL.length - (i+1)) ⟨i+1,d,rfl,rfl,rfl,rfl⟩
  .obtain rfl:i=s.aL.length:=by omega
   rw[aRc o];refine aD ?_;exact gF 1 hF
section
variable{L:RL}
def aFQ(i:Nat)(hi:H[i]? =some (sU L s st))(h:XK N w0 K e R (HP.map L.g (qU s st)::HP.aK L.t 222 [.map (some L.g)]::H.set i (HP.many [cS,cS]))):XK N w0 K e R H:=by
 have c:=By hi
 refine uX i 0 hi rfl ?_;refine uX (i+1) 1 (by rw[tX,kR c]) rfl ?_
 simpa[Tq,sX] using h
def Wo(i:Nat)(hi:H[i]? =some (HP.many [cS,cS]))(h:XK N w0 K e R (H.set i (sU L s st))):XK N w0 K e R (HP.map L.g (qU s st)::HP.aK L.t 222 [.map (some L.g)]::H):=by
 have c:=By hi
 refine uZ (i+1) 1 (by rw[tX];exact hi) rfl ?_;dsimp only[List.set];refine uZ i 0 (by rw[kR c]) rfl ?_
 simpa[sX,sU] using h
end
def aOX(L:RL)(s:aI)(st:List lK)(f:Jb s st)(i:Int)(w:World)(F:Nat->Prop)(hp:(sU L s st).sat F w)(hF:∀b,F b->b < w.heap.size):
  Cz 222 #[.pointer (some ⟨L.t,0,none⟩),iv i] w (Wr (iv (uV s st i).1) (sU L s (uV s st i).2) w F):=by
 have y:=f.len
 cases c:bJ st.length i
 .have k:uV s st i=(4,st):=by simp[uV,c]
  have h:xG s st i=kE 0 ⟨0,false,false⟩:=by simp[xG,c]
  rw[k];refine oQ func222 ntmps222 hp hF ?_;refine cM (fun j t=>Xw L s st i j (t.Un 0 rfl)) ?_;rw[c,h];unfold kE;refine aD ?_;refine kK fun p=>?_;exact cJ 1 hF
 .obtain⟨n,rfl⟩:∃n:Nat,i=n:=⟨i.toNat,by have:=eV c;omega⟩
  have e:n < st.length:=by have:=eV c;omega
  obtain⟨r,d⟩:=get_some (l:=s.bG) (i:=n) aA;obtain⟨x,o⟩:=get_some e
  have m:s.bG.getD n 0=r:=by rw[mZ,d];rfl
  have k:uV s st (n:Int)=(0,st.set n ⟨r,true,false⟩):=by simp[uV,c,d]
  have h:xG s st (n:Int)=kE r x:=by simp[xG,c,mZ,d,o]
  rw[k];refine oQ func222 ntmps222 hp hF ?_;refine cM (fun j t=>Xw L s st n j (t.Un 0 rfl)) ?_;rw[c,h];unfold kE;refine aD ?_;refine kK fun p=>?_;refine aFQ 1 rfl ?_;dsimp only[List.set];refine vA 6 aJ aJ ?_;refine bE 0 ?_;refine bE 1 ?_;refine bE 2 ?_;refine bE 3 ?_;refine bE 4 ?_;refine bE 5 ?_;refine dB 6 ?_;refine Lz (kt:=3) (et:=224) (kd:=.i64) (l:=qU s st) (v:=kE r ⟨r,true,false⟩) 0 aJ aJ rfl rfl rfl rfl ?_;rw[aEi m e];dsimp only[List.set];refine fY ?_;refine kV ?_;refine Wo 1 rfl ?_;refine aD ?_;exact cJ 1 hF
def aOV(L:RL)(s:aI)(st:List lK)(j:Jb s st)(i:Int)(w:World)(F:Nat->Prop)(hp:(sU L s st).sat F w)(hF:∀b,F b->b < w.heap.size):
  Cz 221 #[.pointer (some ⟨L.t,0,none⟩),iv i] w (Wr (iv (yB st i).1) (sU L s (yB st i).2) w F):=by
 have A:=j.len
 cases c:bJ st.length i
 .have k:yB st i=(4,st):=by simp[yB,c]
  have m:xG s st i=kE 0 ⟨0,false,false⟩:=by simp[xG,c]
  rw[k];refine oQ func221 ntmps221 hp hF ?_;refine cM (fun o t=>Xw L s st i o (t.Un 0 rfl)) ?_;rw[c,m];unfold kE;refine aD ?_;refine kK fun z=>?_;exact cJ 1 hF
 .obtain⟨n,rfl⟩:∃n:Nat,i=n:=⟨i.toNat,by have:=eV c;omega⟩
  have d:n < st.length:=by have:=eV c;omega
  obtain⟨r,f⟩:=get_some (l:=s.bG) (i:=n) aA;obtain⟨x,y⟩:=get_some d
  have p:s.bG.getD n 0=r:=by rw[mZ,f];rfl
  have k:yB st (n:Int)=if x.held=false then(6,st) else(0,st.set n ⟨x.left,x.held,true⟩):=by simp[yB,c,y]
  have m:xG s st (n:Int)=kE r x:=by simp[xG,c,mZ,f,y]
  rw[k];refine oQ func221 ntmps221 hp hF ?_;refine cM (fun o t=>Xw L s st n o (t.Un 0 rfl)) ?_;rw[c,m];obtain⟨left,e,h⟩:=x;unfold kE;refine aD ?_;refine eE fun z=>?_;cases e
  .refine aD ?_;exact cJ 1 hF
  .refine aD ?_;refine aFQ 1 rfl ?_;dsimp only[List.set];refine vA 6 aJ aJ ?_;refine bE 0 ?_;refine bE 1 ?_;refine bE 2 ?_;refine bE 3 ?_;refine bE 4 ?_;refine bE 5 ?_;refine dB 6 ?_;refine Lz (kt:=3) (et:=224) (kd:=.i64) (l:=qU s st) (v:=kE r ⟨left,true,true⟩) 0 aJ aJ rfl rfl rfl rfl ?_;rw[aEi p d];dsimp only[List.set];refine fY ?_;refine kV ?_;refine Wo 1 rfl ?_;refine aD ?_;exact cJ 1 hF
def aRp{α:Type}(f:α->α)(st:List α){i:Nat}{x:α}(hx:st[i]? =some x)(hs:f x=x):(st.map f).take i++st.drop i=(st.map f).take (i+1)++st.drop (i+1):=by
 have c:=aEj f st hx
 rw[hs,aHn (by rw[aEk f st (cE.1 hx).1];exact hx)] at c;exact c
def aOU(L:RL)(s:aI)(st:List lK)(V:s.dM)(j:Jb s st)(w:World)(F:Nat->Prop)(hp:(sU L s st).sat F w)(hF:∀b,F b->b < w.heap.size):
  Cz 148 #[.pointer (some ⟨L.t,0,none⟩)] w (fun y w'=>∃a:Option Addr×Nat×Nat,y=.returned (.slice a.1 a.2.1 a.2.2)/\True/\∃O,(sU L s (Jn st)).sat O w'/\jG w w' F O):=by
 have hl:=j.len
 have Y:=V.t.nr
 refine fS func148 ntmps148 hp hF ?_
 have T:Rd w [⟨w,fun b=>b < w.heap.size/\¬F b⟩] [sU L s st] L.t 0 (.map (some L.g)):=fun J t=>(t.Un 0 rfl).r0.2
 refine aD ?_;refine kd (aUr (kt:=3) (et:=224) (l:=qU s st) aJ rfl (fun J t=>(t.Un 0 rfl).m)) ?_;rw[show(qU s st).length=st.length by simp[qU]];refine aD ?_;refine oF 3 1 ?_;refine cF [(14,iv 0),(13,iv st.length),(3,sn),(0,.pointer (some ⟨L.t,0,none⟩))] ?_;refine gA (fun m e R H=>∃(i n:Nat) (A:Option Addr) (k:Nat) (C:List Value),i<=st.length/\n<=i/\m=st.length - i/\e=[(14,iv i),(13,iv st.length),(3,.slice A n k),(0,.pointer (some ⟨L.t,0,none⟩))]/\R=[⟨w,fun b=>b < w.heap.size/\¬F b⟩]/\H=[HP.own 3 1 (.slice A n k) n C,sU L s ((st.map pV).take i++st.drop i)]) st.length ⟨0,0,none,0,[],aA,aA,rfl,rfl,rfl,aB⟩ fun m e R H hI=>?_;obtain⟨i,n,A,k,C,hi,hni,rfl,rfl,rfl,rfl⟩:=hI;refine aD ?_;refine dD rfl (fun d=>?_) (fun X=>?_)
 .have d:i < st.length:=aA
  obtain⟨r,M⟩:=get_some (l:=s.bG) (i:=i) aA;obtain⟨x,E⟩:=get_some d
  have N:=j.left x (dJ E)
  have D:s.bG.getD i 0=r:=by rw[mZ,M];rfl
  have I:((st.map pV).take i++st.drop i).length=st.length:=by simp;omega
  have G:((st.map pV).take i++st.drop i)[i]? =some x:=by rw[aEk _ st d];exact E
  have K:bJ ((st.map pV).take i++st.drop i).length (i:Int)=true:=by rw[I];exact eM aA
  have o:pM (qU s ((st.map pV).take i++st.drop i)) (i:Int)=some (kE r x):=by
   rw[aIB,aH K,dL,D,mZ,G];rfl
  have jE:rH (qU s ((st.map pV).take i++st.drop i)) (i:Int) (kE r (pV x))=qU s ((st.map pV).take (i+1)++st.drop (i+1)):=by
   rw[aEi D aA,aEj pV st E]
  refine aFQ 1 rfl ?_;dsimp only[List.set];refine aD ?_;refine aAD (kt:=3) (et:=224) (kd:=.i64) (z:=kE 0 ⟨0,false,false⟩) (l:=qU s ((st.map pV).take i++st.drop i)) true aJ aJ aIK rfl rfl (fun J t=>t.map (i:=0) rfl) aE ?_;simp only[if_true,o,tV,Option.isSome_some];obtain⟨left,p,c⟩:=x;dsimp only at N;dsimp only[kE];refine aD ?_;refine eE fun g1=>?_;cases p
  .have h:pV ⟨left,false,c⟩=⟨left,false,c⟩:=rfl
   rw[aRp pV st E h];refine aD ?_;refine aZ [1,2,3,4] ?_;refine Wo 1 rfl ?_;exact fX (st.length - (i+1)) ⟨i+1,n,A,k,C,d,aA,rfl,rfl,rfl,rfl⟩
  .refine aD ?_;refine dD rfl (fun hp=>?_) (fun hp=>?_)
   .have f:pV ⟨left,true,c⟩=⟨left - 1,true,c⟩:=by simp[pV,hp]
    rw[f] at jE;refine aD ?_;refine vA 6 aJ aJ ?_;refine bE 0 ?_;refine bE 1 ?_;refine bE 2 ?_;refine bE 3 ?_;refine bE 4 ?_;refine bE 5 ?_;refine dB 6 ?_;refine Lz (kt:=3) (et:=224) (kd:=.i64) (l:=qU s ((st.map pV).take i++st.drop i)) (v:=kE r ⟨left - 1,true,c⟩) 1 aJ aJ rfl rfl rfl rfl ?_;rw[jE];dsimp only[List.set];refine fY ?_;refine kV ?_;refine aD ?_;refine aZ [1,2,3,4] ?_;refine Wo 1 rfl ?_;exact fX (st.length - (i+1)) ⟨i+1,n,A,k,C,d,aA,rfl,rfl,rfl,rfl⟩
   .cases c
    .have f:pV ⟨left,true,false⟩=⟨left,true,false⟩:=by simp[pV,hp]
     rw[f] at jE;refine aD ?_;refine vA 6 aJ aJ ?_;refine bE 0 ?_;refine bE 1 ?_;refine bE 2 ?_;refine bE 3 ?_;refine bE 4 ?_;refine bE 5 ?_;refine dB 6 ?_;refine Lz (kt:=3) (et:=224) (kd:=.i64) (l:=qU s ((st.map pV).take i++st.drop i)) (v:=kE r ⟨left,true,false⟩) 1 aJ aJ rfl rfl rfl rfl ?_;rw[jE];dsimp only[List.set];refine fY ?_;refine kV ?_;refine aD ?_;refine aZ [1,2,3,4] ?_;refine Wo 1 rfl ?_;exact fX (st.length - (i+1)) ⟨i+1,n,A,k,C,d,aA,rfl,rfl,rfl,rfl⟩
    .have f:pV ⟨left,true,true⟩=⟨left,false,false⟩:=by simp[pV,hp]
     rw[f] at jE;refine aD ?_;refine eX fun g2=>?_;refine jU 4 1 8 1 (el:=3) aJ aJ aE rfl rfl rfl (tU 0 rfl rfl) (by simp[Value.oneCell']) rfl aA aA aE fun U Z=>?_;dsimp only[List.set];refine aD ?_;refine vA 6 aJ aJ ?_;refine bE 0 ?_;refine bE 1 ?_;refine bE 2 ?_;refine bE 3 ?_;refine bE 4 ?_;refine bE 5 ?_;refine dB 6 ?_;refine Lz (kt:=3) (et:=224) (kd:=.i64) (l:=qU s ((st.map pV).take i++st.drop i)) (v:=kE r ⟨left,false,false⟩) 2 aJ aJ rfl rfl rfl rfl ?_;rw[jE];dsimp only[List.set];refine fY ?_;refine kV ?_;refine aD ?_;refine aZ [2,3,4,5] ?_;refine Wo 1 rfl ?_;exact fX (st.length - (i+1)) ⟨i+1,n+1,U,Z,_,d,aA,rfl,rfl,rfl,rfl⟩
 .obtain rfl:i=st.length:=by omega
  have B:(st.map pV).take st.length++st.drop st.length=Jn st:=by
   rw[Ti aA,nZ,yE aB];rfl
  rw[B];refine aD ?_;exact Ai fun J t=>⟨(A,n,k),rfl,trivial,t.turns hF aB (i:=1) rfl⟩
section
def tO(i:Nat){o:Nat}{v:Value}(hi:H[i]? =some (eH L s x))(d:(Zk L s.aG.length)[o]? =some v):Rd w0 R H L.h o v:=fun w t=>by
 obtain⟨F,⟨G,c,e,_⟩,f,_⟩:=t.chunk hi
 have:=(yR (c 0 _ rfl).2).at_ (j:=o) d
 rw[mA] at this;exact this.2
variable(L:HL)(s:aI)(x:aS)(w:World)
def aJo(j:s.dM)(d:iS L s)(c:dF s x)(i:Int)(on:Bool)(F:Nat->Prop)(hp:(eH L s x).sat F w)(hF:∀b,F b->b < w.heap.size):
  Cz 187 #[.pointer (some ⟨L.h,0,none⟩),iv i,.bool on] w (Wr (iv (lI s x.ck i on).1) (eH L s {x with ck:=(lI s x.ck i on).2}) w F):=by
 have l:=j.t.nd
 refine oQ func187 ntmps187 hp hF ?_;refine cR (fun e t=>Fp L s x e (t.pN 0 rfl d c)) ?_;refine cG (bT rfl (tO 0 rfl rfl)) ?_;refine bB 0 1 ?_;refine gH 0 (tJ L.T s (lI s x.ck i on).2) (fun e k t f m n=>aVj L.T s x.ck d.fa c.ck i on e k f m) ?_;refine aP 0 1 ?_;exact cJ 0 hF
def aJj(f:s.dM)(e:iS L s)(c:dF s x)(i:Int)(F:Nat->Prop)(hp:(eH L s x).sat F w)(hF:∀b,F b->b < w.heap.size):
  Cz 182 #[.pointer (some ⟨L.h,0,none⟩),iv i] w (Wr (iv (wM s x.dm i).1) (eH L s {x with dm:=(wM s x.dm i).2}) w F):=by
 have l:=f.t.nd
 refine oQ func182 ntmps182 hp hF ?_;refine cR (fun d t=>Fp L s x d (t.pN 0 rfl e c)) ?_;refine cG (bT rfl (tO 0 rfl rfl)) ?_;refine bB 0 2 ?_;refine gH 0 (yW L.G s (wM s x.dm i).2) (fun d k t j m n=>aPR L.G s x.dm f c.dm i d k j m) ?_;refine aP 0 2 ?_;exact cJ 0 hF
def aSo(j:s.dM)(e:iS L s)(c:dF s x)(i:Int)(keep:Bool)(F:Nat->Prop)(hp:(eH L s x).sat F w)(hF:∀b,F b->b < w.heap.size):
  Cz 186 #[.pointer (some ⟨L.h,0,none⟩),iv i,.bool keep] w (Wr (iv (yQ s x.dm i keep).1) (eH L s {x with dm:=(yQ s x.dm i keep).2}) w F):=by
 have l:=j.t.nd
 refine oQ func186 ntmps186 hp hF ?_;refine cR (fun d t=>Fp L s x d (t.pN 0 rfl e c)) ?_;refine cG (bT rfl (tO 0 rfl rfl)) ?_;refine bB 0 2 ?_;refine gH 0 (yW L.G s (yQ s x.dm i keep).2) (fun d k t f m n=>aPW L.G s x.dm c.dm aA i keep d k f m) ?_;refine aP 0 2 ?_;exact cJ 0 hF
def aSl(j:s.dM)(e:iS L s)(c:dF s x)(i:Int)(F:Nat->Prop)(hp:(eH L s x).sat F w)(hF:∀b,F b->b < w.heap.size):
  Cz 190 #[.pointer (some ⟨L.h,0,none⟩),iv i] w (Wr (iv (yB x.ln i).1) (eH L s {x with ln:=(yB x.ln i).2}) w F):=by
 have l:=j.t.nd
 refine oQ func190 ntmps190 hp hF ?_;refine cR (fun d t=>Fp L s x d (t.pN 0 rfl e c)) ?_;refine cG (bT rfl (tO 0 rfl rfl)) ?_;refine bB 0 3 ?_;refine gH 0 (sU L.R s (yB x.ln i).2) (fun d k t f m n=>aOV L.R s x.ln c.ln i d k f m) ?_;refine aP 0 3 ?_;exact cJ 0 hF
end
def aCx(a b:Int):Int:=IntKind.u32.wrap (BitVec.ofInt 32 a&&& BitVec.ofInt 32 b).toNat
def Ga(a b:Int):Int:=IntKind.u32.wrap (BitVec.ofInt 32 a&&& ~~~ BitVec.ofInt 32 b).toNat
def Fj(a b:Int):Int:=IntKind.u32.wrap (BitVec.ofInt 32 a||| BitVec.ofInt 32 b).toNat
def Sq(a:Int):0<=IntKind.u32.wrap a/\IntKind.u32.wrap a < 4294967296:=by
 unfold IntKind.wrap;simp only[IntKind.signed,IntKind.bits,Bool.false_and,Pt,if_false];exact⟨Int.emod_nonneg _ aE,Int.emod_lt_of_pos _ aE⟩
def zN(many c:Int):Int:=IntKind.u32.wrap (IntKind.u64.wrap (IntKind.u64.wrap (IntKind.u64.wrap (1*2 ^ min many.toNat 64) - 1)*2 ^ min c.toNat 64))
def cZ(w c many:Int):Int:=aCx (w.fdiv (2 ^ min c.toNat 32)) (zN many 0)
def Bs(w c many v:Int):Int×Int:=if Ga v (zN many 0)≠0 then(0,1) else(Fj (Ga w (zN many c)) (IntKind.u32.wrap (v*2 ^ min c.toNat 32)),0)
def iM(w c many v:Int):Int×Int:=if v < 0\/IntKind.i64.wrap (1*2 ^ min many.toNat 64)<=v then(0,1) else if(Bs w c many (IntKind.u32.wrap v)).2≠0 then(0,1) else((Bs w c many (IntKind.u32.wrap v)).1,0)
def okF(c many:Int):Prop:=1<=many/\many<=32/\0<=c/\c<=32 - many
def aGo(many:Int)(v:Value)(w w':World):Prop:=∃g,v=.tuple #[.func (.func 210) #[] #[pt g],.bool true]/\RP (fresh w w') g 0 (iv many)
def aFf(a many:Int)(g:Nat)(w:World)(h:iD w g 0 (iv many))(c:0<=a)(hm:0<=many):
  Cz 210 #[iv a,pt g] w (Rt (.int .u32 (zN many a)) w):=by
 refine bQ func210 ntmps210 ?_;refine Sh rfl rfl aA rfl aE ?_;refine aCW rfl rfl rfl aE ?_;refine jP rfl aE ?_;refine Sh rfl rfl aA rfl aE ?_;refine Gz (kd:=.u32) (ds:=.int .u64) aJ aJ rfl rfl aE ?_;refine aF ?_;exact bK (h:=fun _ _=>rfl)
def aJH(d many:Int)(w:World)(c:okF d many):Cz 170 #[iv d,iv many] w (fun y w'=>(∃x,y=.returned x/\aGo many x w w')/\Below w.heap.size w w'):=by
 refine fP func170 ntmps170 ?_;refine aD ?_;refine eI fun i=>?_;refine aD ?_;refine cH (t:=8) rfl (fun e=>?_) (fun e=>?_)
 .
  refine aD ?_;exact absurd c (by unfold okF;omega)
 .
  refine aD ?_;refine cH (t:=12) rfl (fun e=>?_) (fun e=>?_)
  .
   refine aD ?_;exact absurd c (by unfold okF;omega)
  .
   refine aD ?_;refine cH (t:=16) rfl (fun e=>?_) (fun e=>?_)
   .
    refine aD ?_;exact absurd c (by unfold okF;omega)
   .
    refine aD ?_;refine bP (fun h=>?_) (fun h=>?_)
    .
     refine aD ?_;exact absurd c (by unfold okF;omega)
    .
     refine aD ?_;refine lH (vf:=[]) (vc:=[pt i]) rfl rfl aE ?_;refine aD ?_;refine dX [] [0] [] fun q j _ f=>?_;refine kN fun k st=>⟨⟨_,rfl,i,rfl,(uI (o:=0) (v:=iv many) (j 0 _ aB rfl) rfl).le (st.oA aB (f aB aB))⟩,st.below aB⟩
def aJu(w0 d many:Int)(w:World)(e:okF d many):
  Cz 234 #[.int .u32 w0,iv d,iv many] w (Rt (.tuple #[.int .u32 (cZ w0 d many),iv 0]) w):=by
 refine bQ func234 ntmps234 ?_;refine jL [] (aGo many) (fun j st=>aJH d many j e) ?_;rintro _ j l ⟨g,rfl,i⟩ k _ _
 have i:=i.le k
 clear k;refine jP rfl aE ?_;refine aAF rfl rfl aE ?_;refine aAF rfl rfl aE ?_;refine kC rfl aE ?_;refine kC rfl aE ?_;refine iJ ?_;refine fO ?_;refine fO ?_;refine jS ?_;refine jP rfl aE ?_
 (first | refine aMG rfl aE ?_ | refine aG2 rfl aE ?_)
 refine iJ ?_;refine tI rfl (fun h=>?_) (fun h=>?_)
 .
  refine aF ?_;exact absurd h aB
 .
  refine sQ ?_;refine eR ?_;refine fO ?_;refine vA 5 aJ aJ ?_;refine iQ 0 rfl rfl rfl (rI rfl) ?_;refine iQ 1 rfl rfl rfl (rI rfl) ?_;refine iQ 2 rfl rfl rfl (aKb rfl rfl (by unfold okF at e;omega) rfl) ?_;refine iQ 3 rfl rfl rfl (rI rfl) ?_;refine dB 4 ?_;refine Ct (f:=210) (fi:=[]) (ca:=[pt g]) aJ rfl rfl aE (fun j st=>aFf 0 many g j (i.le (st.le aB)) (by unfold okF at e;omega) (by unfold okF at e;omega)) ?_;refine qH ?_;refine dB 5 ?_;refine Xn (c:=cZ w0 d many) rfl rfl (fun _=>rfl) aB aE ?_;refine fY ?_;refine dB 6 ?_;refine kC rfl aE ?_;refine fY ?_;refine dB 7 ?_;refine kC rfl aE ?_;refine fY ?_;refine kV ?_;refine eR ?_;refine Rl ?_;refine eR ?_;exact kN fun j st=>⟨rfl,st.below aB⟩
def aDN(w0 d many v:Int)(w:World)(e:okF d many):
  Cz 120 #[.int .u32 w0,iv d,iv many,.int .u32 v] w (Rt (.tuple #[.int .u32 (Bs w0 d many v).1,iv (Bs w0 d many v).2]) w):=by
 refine bQ func120 ntmps120 ?_;refine jL [] (aGo many) (fun j st=>aJH d many j e) ?_;rintro _ j l ⟨g,rfl,i⟩ k _ _
 have i:=i.le k
 clear k;refine jP rfl aE ?_;refine aAF rfl rfl aE ?_;refine aAF rfl rfl aE ?_;refine kC rfl aE ?_;refine kC rfl aE ?_;refine iJ ?_;refine fO ?_;refine fO ?_;refine jS ?_;refine jP rfl aE ?_
 (first | refine aMG rfl aE ?_ | refine aG2 rfl aE ?_)
 refine iJ ?_;refine tI rfl (fun h=>?_) (fun h=>?_)
 .
  refine aF ?_;exact absurd h aB
 .
  refine aF ?_;refine Ct (f:=210) (fi:=[]) (ca:=[pt g]) aJ rfl rfl aE (fun j st=>aFf 0 many g j (i.le (st.le aB)) (by unfold okF at e;omega) (by unfold okF at e;omega)) ?_;refine Xn (c:=Ga v (zN many 0)) rfl rfl (fun _=>rfl) aB aE ?_;refine aF ?_;refine bP (fun h=>?_) (fun h=>?_)
  .
   refine aF ?_;refine kN fun j st=>⟨by rw[Bs,aH h],st.below aB⟩
  .
   refine sQ ?_;refine eR ?_;refine fO ?_;refine vA 8 aJ aJ ?_;refine iQ 0 rfl rfl rfl (rI rfl) ?_;refine iQ 1 rfl rfl rfl (rI rfl) ?_;refine iQ 2 rfl rfl rfl (rI rfl) ?_;refine iQ 5 rfl rfl rfl (rI rfl) ?_;refine iQ 6 rfl rfl rfl (rI rfl) ?_;refine iQ 7 rfl rfl rfl (aUe rfl rfl (by unfold okF at e;omega) rfl) ?_;refine dB 3 ?_;refine Ct (f:=210) (fi:=[]) (ca:=[pt g]) aJ rfl rfl aE (fun j st=>aFf d many g j (i.le (st.le aB)) (by unfold okF at e;omega) (by unfold okF at e;omega)) ?_;refine qH ?_;refine iQ 4 rfl rfl rfl (aFq (c:=Ga w0 (zN many d)) rfl rfl (fun _=>rfl) aB) ?_;refine dB 8 ?_;refine Xn (c:=Fj (Ga w0 (zN many d)) (IntKind.u32.wrap (v*2 ^ min d.toNat 32))) rfl rfl (fun _=>rfl) aB aE ?_;refine fY ?_;refine dB 9 ?_;refine kC rfl aE ?_;refine fY ?_;refine dB 10 ?_;refine kC rfl aE ?_;refine fY ?_;refine kV ?_;refine eR ?_;refine Rl ?_;refine eR ?_;refine kN fun j st=>⟨by rw[Bs,aC h],st.below aB⟩
def Yn(w0 c many:Int)(w:World)(d:okF c many):
  Cz 223 #[.int .u32 w0,iv c,iv many] w (Rt (iv (cZ w0 c many)) w):=by
 refine fP func223 ntmps223 ?_;refine aD ?_;refine gZ (fun e st=>aJu w0 c many e d) ?_;refine aD ?_;refine Gz (ds:=.int .u32) aJ aJ rfl (qM (by have:=Sq (BitVec.ofInt 32 (w0.fdiv (2 ^ min c.toNat 32))&&& BitVec.ofInt 32 (zN many 0)).toNat;unfold cZ aCx;omega)) aE ?_;refine aD ?_;exact bK (h:=fun _ _=>rfl)
def aBp(w0 c many v:Int)(w:World)(e:okF c many):
  Cz 72 #[.int .u32 w0,iv c,iv many,iv v] w (Rt (.tuple #[.int .u32 (iM w0 c many v).1,iv (iM w0 c many v).2]) w):=by
 refine fP func72 ntmps72 ?_;refine aF ?_
 (first | refine cH (t:=13) rfl (fun i=>?_) (fun i=>?_) | refine Gx (t:=13) rfl (fun i=>?_) (fun i=>?_))
 .
  refine aF ?_;refine Gc rfl rfl rfl fun d st=>⟨by rw[iM,aH (.inl i)],st.below aB⟩
 .
  refine nK rfl rfl ?_;refine jP rfl aE ?_;refine nK rfl rfl ?_;refine jP rfl aE ?_;refine nK rfl rfl ?_;refine Sh rfl rfl (by unfold okF at e;omega) rfl aE ?_;refine aF ?_;refine dD rfl (fun h=>?_) (fun h=>?_)
  .
   refine aF ?_;refine Gc rfl rfl rfl fun d st=>⟨by rw[iM,aH (.inr h)],st.below aB⟩
  .
   refine sQ ?_
   have f:¬(v < 0\/IntKind.i64.wrap (1*2 ^ min many.toNat 64)<=v):=fun j=>j.elim i h
   refine eR ?_;refine fO ?_;refine jS ?_;refine jP rfl aE ?_;refine jP rfl aE ?_;refine jP rfl aE ?_;refine jP rfl aE ?_;refine Gz (kd:=.u32) (ds:=.int .i64) aJ aJ rfl rfl aE ?_;refine gZ (fun d st=>aDN w0 c many (IntKind.u32.wrap v) d e) ?_;refine aF ?_;refine dD rfl (fun j=>?_) (fun j=>?_)
   .
    refine aF ?_;refine Gc rfl rfl rfl fun d st=>⟨by rw[iM,aC f,aH j],st.below aB⟩
   .
    refine aF ?_;refine Gc rfl rfl rfl fun d st=>⟨by rw[iM,aC f,aC j];rfl,st.below aB⟩
def Rb(c:Int)(i:Nat):Bool:=decide (aCx (c.fdiv (2 ^ min i 32)) 1=1)
def Dk(x:aS)(c:Int)(n:Nat):List (dO×eK):=x.dv.mapIdx fun i p=>if i < n then(p.1,yA p.2 (decide (0 < pE x.wt i)) (Rb c i)) else p
def Ld(k:Int)(d:bR)(f:dO):dO:=if k=115 then zC d f else if k=114 then Mj d f else if k=108\/k=110 then Ir d f else f
def Io(s:aI)(e:Int×Nat)(i:Nat)(p:dO×eK):dO×eK:=match s.aG[i]? with
 | some d=>if d.domain=(e.2:Int) then(Ld e.1 d p.1,p.2) else p
 | none=>p
def Fk(s:aI)(dv:List (dO×eK))(e:Int×Nat)(n:Nat):List (dO×eK):=dv.mapIdx fun i p=>if i < n then Io s e i p else p
def uU(s:aI)(dv:List (dO×eK))(e:Int×Nat):List (dO×eK):=Fk s dv e s.aG.length
def uM(s:aI)(x:aS)(c:Int):aS:=⟨oJ s x.ck,sE x.dm,Jn x.ln,(nD x.dm s.domains.length).foldl (uU s) (Dk x c s.aG.length),x.wt,x.aV⟩
def Ug{α:Type}(l:List α)(f:Nat->α->α):(l.mapIdx fun i p=>if i < 0 then f i p else p)=l:=by
 refine qR fun i=>?_;simp
def Uh{α:Type}{l:List α}{f:Nat->α->α}{n:Nat}{p:α}(hp:l[n]? =some p):(l.mapIdx fun i p=>if i < n then f i p else p).set n (f n p)=l.mapIdx fun i p=>if i < n+1 then f i p else p:=by
 refine qR fun i=>?_
 have c:=(cE.1 hp).1
 rw[gX]
 by_cases d:n=i
 .subst d;rw[aH rfl,aH (by simpa using c),wU,hp];simp
 .rw[aC d,wU,wU];cases l[i]? with
  | none=>rfl
  | some q=>
   simp only[lO,tW]
   by_cases h:i < n
   .rw[aH h,aH aA]
   .rw[aC h,aC aA]
def Ui{α:Type}{l:List α}{f:Nat->α->α}{n:Nat}{p:α}(hp:l[n]? =some p):(l.mapIdx fun i p=>if i < n then f i p else p)[n]? =some p:=by
 rw[wU,hp];simp
def aCb{ds:List bR}{c:List (FL×Nat)}{xs:List (dO×eK)}{i:Nat}{d:bR}{l:FL×Nat}{p:dO×eK}(hd:ds[i]? =some d)(hl:c[i]? =some l)(hp:xs[i]? =some p):(Bz ds c xs)[i]? =some (Vq d (l,p)):=by
 have e:(c.zip xs)[i]? =some (l,p):=Tj.2 ⟨hl,hp⟩
 rw[Bz,lP,hd,e]
def aTN{ds:List bR}{e:List (FL×Nat)}{xs:List (dO×eK)}{i:Nat}{d:bR}{l:FL×Nat}{p:dO×eK}(hd:ds[i]? =some d)(hl:e[i]? =some l)(hp:xs[i]? =some p)(p':dO×eK):(Bz ds e xs).set i (Vq d (l,p'))=Bz ds e (xs.set i p'):=by
 refine qR fun j=>?_
 have c:=(cE.1 (aCb hd hl hp)).1
 rw[gX]
 by_cases f:i=j
 .subst f;rw[aH rfl,aH c];exact(aCb hd hl (kR (cE.1 hp).1)).symm
 .rw[aC f];simp only[Bz,lP,List.zip,pZ f]
def aFl{ds:List bR}{c:List (FL×Nat)}{i:Nat}{d:bR}{l:FL×Nat}(hd:ds[i]? =some d)(hl:c[i]? =some l):(zU ds c)[i]? =some (Nn d l):=by
 rw[zU,lP,hd,hl]
def aFk{ds:List bR}{d:List (FL×Nat)}:∀r∈zU ds d,r.length=6:=fun r e=>by
 obtain⟨i,c⟩:=lA e;rw[zU,lP] at c;split at c
 .cases c;rfl
 .cases c
def aNB{x:eK}(h:En x)(a b:Bool):En (yA x a b):=by
 unfold yA;unfold En at h|-;split
 .exact h
 .split
  .exact⟨(by show(0:Int)<=3;omega),(by show(3:Int)<=3;omega)⟩
  .split
   .exact h
   .exact⟨(by show(0:Int)<=2;omega),(by show(2:Int)<=3;omega)⟩
def aOB{r:Rg}{p:Int×Int}(c:0<=p.1/\p.1 < 4294967296)(d:0<=p.2/\p.2 < 4294967296):0<=Pb r p/\Pb r p < 4294967296:=by
 unfold Pb;split<;>assumption
def aKq{d:bR}{f:dO}(k:Int)(w:∀r∈d.aX,0<=r.reset/\r.reset<=6)(h:Co d f):Co d (Ld k d f):=by
 have l:∀v∈d.aX.map (·.reset),0<=v/\v < 4294967296:=fun v m=>by
  obtain⟨r,e,rfl⟩:=fR.1 m
  have:=w r e
  omega
 have x:=h.now
 have t:=h.saved
 unfold Ld;split
 .refine⟨x,by simp[zC];omega,h.u.1,fun v m=>?_⟩;obtain⟨i,c⟩:=lA m;simp only[zC,lP] at c;split at c
  .rename_i r p e j
   cases c;obtain⟨n,o⟩:=Tj.1 j;exact aOB (h.u.1 _ (dJ n)) (h.u.2 _ (dJ o))
  .cases c
 .split
  .refine⟨by simp[Mj];omega,t,fun v m=>?_,h.u.2⟩;obtain⟨i,c⟩:=lA m;simp only[Mj,lP] at c;split at c
   .rename_i r p e j
    cases c;unfold aBg;split
    .exact h.u.2 _ (dJ j)
    .have:=w r (dJ e)
     omega
   .cases c
  .split
   .exact⟨by simp[Ir],t,l,h.u.2⟩
   .exact h
def Yp{s:aI}{x:aS}(e:s.dM)(c:dF s x){dv:List (dO×eK)}(hl:dv.length=x.dv.length)(h:∀(i:Nat) (d:bR) (p:dO×eK),s.aG[i]? =some d->dv[i]? =some p->Co d p.1/\En p.2):dF s {x with dv:=dv}:=⟨c.ck,c.dm,c.ln,hl.trans c.dv,h,c.wt⟩
def aEl{s:aI}{x:aS}(l:s.dM)(f:dF s x)(e:Int)(n:Nat):dF s {x with dv:=Dk x e n}:=Yp l f (by simp[Dk]) fun i d p hd c=>by
 rw[Dk,wU] at c;cases h:x.dv[i]? with
 | none=>rw[h] at c;cases c
 | some q=>
  rw[h] at c;obtain⟨j,k⟩:=f.each i d q hd h;simp only[lO,tW] at c;subst c;split
  .exact⟨j,aNB k _ _⟩
  .exact⟨j,k⟩
def aI9{s:aI}{x:aS}(l:s.dM)(f:dF s x)(e:Int×Nat)(n:Nat):dF s {x with dv:=Fk s x.dv e n}:=Yp l f (by simp[Fk]) fun i d p hd c=>by
 rw[Fk,wU] at c;cases k:x.dv[i]? with
 | none=>rw[k] at c;cases c
 | some q =>
  rw[k] at c;obtain⟨j,h⟩:=f.each i d q hd k;simp only[lO,tW] at c;subst c;split
  .unfold Io;rw[hd];dsimp only;split
   .exact⟨aKq _ (l.t.aG i d hd).2.2.2.2.2.2.2.2.2.1 j,h⟩
   .exact⟨j,h⟩
  .exact⟨j,h⟩
def aEU{s:aI}(c:s.dM):∀(es:List (Int×Nat)) (x:aS),dF s x->dF s {x with dv:=es.foldl (uU s) x.dv}
 | [],x,h=>h
 | e::es,x,h=>aEU c es {x with dv:=uU s x.dv e} (aI9 c h e _)
def aQW{s:aI}{dv:List (dO×eK)}{e:Int×Nat}(h:¬(e.1=115\/e.1=114\/e.1=108\/e.1=110)):uU s dv e=dv:=by
 unfold uU Fk;refine qR fun i=>?_;rw[wU];cases dv[i]? with
 | none=>rfl
 | some p =>
  simp only[lO,tW];split
  .unfold Io;split
   .split
    .have:Ld e.1 (by assumption) p.1=p.1:=by
      unfold Ld;rw[aC aA,aC aA,aC aA]
     rw[this]
    .rfl
   .rfl
  .rfl
def aNC{s:aI}{st:List lK}(h:Jb s st):Jb s (Jn st):=by
 refine⟨by simp[Jn,h.len],fun x d=>?_⟩;obtain⟨y,c,rfl⟩:=fR.1 d
 have:=h.left y c
 unfold pV;split
 .exact this
 .split
  .dsimp only;omega
  .split
   .exact this
   .exact this
def aGU{s:aI}{x:aS}(e:s.dM)(c:dF s x)(d:Int):dF s (uM s x d):=by
 have f:=aEU e (nD x.dm s.domains.length) _ (aEl e c d s.aG.length)
 exact⟨aDy e c.ck,aDx c.dm,aNC c.ln,f.dv,f.each,c.wt⟩
def aJn(L:HL)(s:aI)(x:aS):HP:=HP.many [HP.aK L.h 175 (Zk L s.aG.length),tJ L.T s x.ck,yW L.G s x.dm,sU L.R s x.ln,Cr L.B (lR s) x.wt x.aV,HP.own 182 6 (.slice L.A s.aG.length L.c) s.aG.length (zU s.aG L.ds).flatten,cS]
def aJV(L:HL)(s:aI)(x:aS)(i:Nat):HP:=HP.many ((Bz s.aG L.ds x.dv).set i cS)
def Wj(j i:Nat){d:bR}{l:FL×Nat}{p:dO×eK}(hj:H[j]? =some (eH L s x))(hd:s.aG[i]? =some d)(hl:L.ds[i]? =some l)(hp:x.dv[i]? =some p)
  (k:XK N w0 K e R (HP.many [jB l.1 d p.1,xT l.2 p.2]::aJV L s x i::H.set j (aJn L s x))):XK N w0 K e R H:=by
 refine uX j 6 hj rfl ?_;refine uX 0 i rfl (aCb hd hl hp) ?_;exact k
def Wp(j i:Nat){d:bR}{l:FL×Nat}{p p':dO×eK}(hj:H[j]? =some (aJn L s x))(hd:s.aG[i]? =some d)(hl:L.ds[i]? =some l)(hp:x.dv[i]? =some p)
  (k:XK N w0 K e R (H.set j (eH L s {x with dv:=x.dv.set i p'}))):XK N w0 K e R (HP.many [jB l.1 d p'.1,xT l.2 p'.2]::aJV L s x i::H):=by
 have c:=(cE.1 (aCb hd hl hp)).1
 refine uZ 0 i rfl (by rw[kR (by simpa using c)]) ?_;dsimp only[List.set];refine uZ j 6 hj rfl ?_;rw[sX,show HP.many [jB l.1 d p'.1,xT l.2 p'.2]=Vq d (l,p') from rfl,aTN hd hl hp p'];exact k
def Rk(j:Nat)(hj:H[j]? =some (eH L s x))(d:iS L s)(c:dF s x)(f:0 < s.aG.length)(k:∀b off,L.A=some ⟨b,off,none⟩->XK N w0 K e R H):XK N w0 K e R H:=fun a w h st=>by
 obtain⟨b,off,i,_⟩:=(st.pN j hj d c).rows.2 f;exact k b off i a w h st
def cI.dev(j:Nat){i b off o:Nat}{d:bR}{l:FL×Nat}(hj:H[j]? =some (eH L s x))(f:iS L s)(e:dF s x)(n:L.A=some ⟨b,off,none⟩)(hd:s.aG[i]? =some d)(hl:L.ds[i]? =some l)(ho:o=off+i*6):cI w0 R H b o (Nn d l):=.of fun k v p w st=>by
 obtain⟨t,m,c,h⟩:=aO.row (st.pN j hj f e).rows (rows:=zU s.aG L.ds) (fun r h=>aFk r h) (aFl hd hl) (cE.1 hd).1;rw[n] at c;cases c;subst ho;exact(h.2 k v p)
section
variable{Q:Exit->Act->World->Prop}
def Bb{α:Type}(i:Nat){f:FuncId}{x:Operand}{args:List Operand}{fi ca vs:List Value}{tys:Array TypeId}{p:HP}(v:α->Value)(q:α->HP)(G:α->Prop)(hf:fW P f=true)(hx:e.ev x=some (.func (.func f) fi.toArray ca.toArray))(M:e.aM args=some vs)(hi:H[i]? =some p)(hd:d < N.n)
  (E:∀w F,St w0 R H w->p.sat F w->(∀b,F b->b < w.heap.size)->(∀q∈R,q.Le ⟨w,fun b=>b < w.heap.size/\¬F b⟩)->Calls P f (fi++vs++ca).toArray w fun y w'=>∃a,y=.returned (v a)/\G a/\∃j,(q a).sat j w'/\jG w w' F j)
  (k:∀a,G a->XK N w0 (wpList P ops Q rest) ((d,v a)::e) R (H.set i (q a))):XK N w0 (wpList P ops Q (⟨some d,.call {callee:=.value x,args:=args.toArray,argTypes:=tys},ty,pos,aN,none⟩::rest)) e R H:=fun a w t st=>wpList_plain rfl fun K D=>by
 unfold fW at hf;cases m:P.funcs[f]? with
 | none=>simp[m] at hf
 | some fn =>
  simp[m] at hf;obtain⟨z,A⟩:=hf
  have h:(execOp a.eval (⟨some d,.call {callee:=.value x,args:=args.toArray,argTypes:=tys},ty,pos,aN,none⟩:Oper)).run P w=.ok (.enter f (fi++vs++ca).toArray) w:=by
   cases B:fn.body with
   | none=>simp[B] at A
   | some c=>simp[execOp,resolve,t.ev hx,Deferred.ofValue,invoke,callFunc,m,z,B,t.aM M]
  obtain⟨F,I,l,r,jE⟩:=st.chunk hi;unfold Oper.wp;rw[h];refine(E w F st I l r).mono fun y w' C=>?_;obtain⟨o,rfl,hG,j,J,L⟩:=C;exact D _ _ (k o hG _ _ (t.put hd (v o)) (jE w' j (q o) J L))
end
def aJw(P:Program)(t:TypeId):Bool:=match P.underlying t with
 | some (.func ..)=>true
 | _=>false
def aOP(w:World)(n:Nat)(t:TypeId){d f:Array TypeId}{c:Bool}(e:P.underlying t=some (.func d f c)):(Op.equalIn (n+1) t .nilFunc .nilFunc).run P w=.ok true w:=by simp[Op.equalIn,run_underlying e]
def aOR(w:World)(n:Nat)(t:TypeId){e d:Array TypeId}{h:Bool}(f:Fn)(fi ca:Array Value)(c:P.underlying t=some (.func e d h)):(Op.equalIn (n+1) t (.func f fi ca) .nilFunc).run P w=.ok false w:=by simp[Op.equalIn,run_underlying c]
def aKk{x:Operand}{t u:TypeId}{v:Value}{b:Bool}(hx:e.ev x=some v)(n:(v=.nilFunc/\b=true)\/(∃f a c,v=.func f a c)/\b=false)(j:aJw P t=true:=by kernel_rfl):bY P N w0 e R H ⟨some d,.binOp .eql t x (.const .nilFunc) u,ty,pos,aN,none⟩ (.bool b):=jF fun a w h=>by
 have k:=h.ev (show e.ev (.const .nilFunc)=some .nilFunc from rfl)
 unfold aJw at j;split at j
 .rename_i r p o l
  rcases n with⟨rfl,rfl⟩ | ⟨⟨f,fi,m,rfl⟩,rfl⟩
  .have i:(Op.equal t .nilFunc .nilFunc).run P w=.ok true w:=aOP w 9999 t l
   simp[execOp,h.ev hx,k,eqGuard,binOp,i]
  .have i:(Op.equal t (.func f fi m) .nilFunc).run P w=.ok false w:=aOR w 9999 t f fi m l
   simp[execOp,h.ev hx,k,eqGuard,binOp,i]
 .cases j
def Lb(k:Int):Value:=if k=115 then .func (.func 205) #[] #[] else if k=114 then .func (.func 206) #[] #[] else if k=108\/k=110 then .func (.func 112) #[] #[] else .nilFunc
def aSp(k:Int)(w:World):Cz 147 #[.int .u8 k] w (Rt (Lb k) w):=by
 refine bQ func147 ntmps147 ?_;refine eG (fun c=>?_) (fun c=>?_)
 .exact dP (by rw[Lb,aH c])
 refine eG (fun d=>?_) (fun d=>?_)
 .exact dP (by rw[Lb,aC c,aH d])
 refine eG (fun e=>?_) (fun e=>?_)
 .refine bP (fun _=>?_) (fun h=>absurd e h);refine aD ?_;exact dP (by rw[Lb,aC c,aC d,aH (.inl e)])
 .refine eG (fun f=>?_) (fun f=>?_)
  .exact dP (by rw[Lb,aC c,aC d,aH (.inr f)])
  .exact dP (by rw[Lb,aC c,aC d,aC aA])
def aUM{k:Int}(hk:k=115\/k=114\/k=108\/k=110):∃f:FuncId,Lb k=.func (.func f) #[] #[]/\fW Tryz.prog f=true/\∀(L:FL) (d:bR) (x:dO) (e:d.aX.length<=100) (c:Co d x) (w:World) (F:Nat->Prop) (hp:(jB L d x).sat F w) (hF:∀b,F b->b < w.heap.size),
  Cz f #[.pointer (some ⟨L.f,0,none⟩)] w (Wr (.tuple #[]) (jB L d (Ld k d x)) w F):=by
 rcases hk with rfl | rfl | rfl | rfl
 .exact⟨_,rfl,aJ,aP1⟩
 .exact⟨_,rfl,aJ,aP2⟩
 .exact⟨_,rfl,aJ,aBj⟩
 .exact⟨_,rfl,aJ,aBj⟩
def aVE(L:BL)(ms:List Int)(ws:List (Option jN))(aV:Int)(i:Nat)(hi:i < ms.length)(k:pE ws i=0)(w:World)(e:Lw w L ms ws aV):
  Cz 200 #[.pointer (some ⟨L.b,0,none⟩),iv (i:Int)] w (Rt (.tuple #[.agg #[iv 0,.bool false,iv 0,.int .u32 0],.bool false]) w):=by
 have l:=e.r0.at_ (j:=1) rfl
 obtain⟨A,c,h⟩:=e.wt i hi;rw[k] at h
 have d:bJ ms.length (i:Int)=true:=eM aA
 refine bQ func200 ntmps200 ?_;refine kK fun m=>?_;refine cM (fun f t=>aCs L ms ws aV i f (e.below (t.below aB))) ?_;rw[d];refine aF ?_;exact Ef (vs:=[iv 0,.bool false,iv 0,.int .u32 0]) rfl aJ rfl rfl (cI.whole 0 rfl) rfl fun f t=>⟨rfl,t.below aB⟩
def aSs(L:HL)(s:aI)(x:aS)(i:Nat)(hi:i < s.aG.length)(e:pE x.wt i=0)(w:World)(d:xV w L s x):
  Cz 142 #[.pointer (some ⟨L.h,0,none⟩),iv (i:Int)] w (Rt (.tuple #[.agg #[iv 0,iv 0,.bool false,.int .u32 0],.bool false]) w):=by
 have k:=d.r0.at_ (j:=3) rfl
 refine bQ func142 ntmps142 ?_;refine kK fun l=>?_;refine cR (fun c t=>aVE L.B (lR s) x.wt x.aV i (by rw[Kg];exact hi) e c (d.bus.below (t.below aB))) ?_;refine kK fun f=>?_;exact Ef (vs:=[iv 0,iv 0,.bool false,.int .u32 0]) rfl aJ rfl rfl (cI.whole 1 rfl) rfl fun c t=>⟨rfl,t.below aB⟩
section
variable{Q:Exit->Act->World->Prop}{e':Env}{R':List Piece}
def isIface(P:Program)(t:TypeId):Bool:=match P.underlying t with
 | some (.interface _)=>true
 | _=>false
def aI0(P:Program)(t:TypeId):Bool:=match P.underlying t with
 | some (.interface _)=>false
 | some _=>true
 | none=>false
def Vs{x:Operand}{t:TypeId}{v:Value}(hx:e.ev x=some v)(c:aI0 P t=true:=by kernel_rfl):bY P N w0 e R H ⟨some d,.makeInterface t x,ty,pos,aN,none⟩ (.iface t v):=jF fun a w h=>by
 unfold aI0 at c;cases f:P.underlying t with
 | none=>rw[f] at c;cases c
 | some u=>cases u<;>first | (rw[f] at c;cases c;done) | simp[execOp,h.ev hx,Instr.makeInterface,run_underlying f]
def aOQ(w:World)(n:Nat)(t:TypeId){f:Array (String×TypeId)}(c:P.underlying t=some (.interface f)):(Op.equalIn (n+1) t .nilIface .nilIface).run P w=.ok true w:=by simp[Op.equalIn,run_underlying c]
def aON(w:World)(n:Nat)(t:TypeId){f:Array (String×TypeId)}(u:TypeId)(v:Value)(c:P.underlying t=some (.interface f)):(Op.equalIn (n+1) t (.iface u v) .nilIface).run P w=.ok false w:=by simp[Op.equalIn,run_underlying c]
def aKg{x:Operand}{t u:TypeId}{v:Value}{b:Bool}(hx:e.ev x=some v)(k:(v=.nilIface/\b=true)\/(∃u y,v=.iface u y)/\b=false)(h:isIface P t=true:=by kernel_rfl):bY P N w0 e R H ⟨some d,.binOp .eql t x (.const .nilIface) u,ty,pos,aN,none⟩ (.bool b):=jF fun a w c=>by
 have i:=c.ev (show e.ev (.const .nilIface)=some .nilIface from rfl)
 unfold isIface at h;split at h
 .rename_i l j
  rcases k with⟨rfl,rfl⟩ | ⟨⟨u,y,rfl⟩,rfl⟩
  .have f:(Op.equal t .nilIface .nilIface).run P w=.ok true w:=aOQ w 9999 t j
   simp[execOp,c.ev hx,i,eqGuard,binOp,f]
  .have f:(Op.equal t (.iface u y) .nilIface).run P w=.ok false w:=aON w 9999 t u y j
   simp[execOp,c.ev hx,i,eqGuard,binOp,f]
 .cases h
def aMP(i:Nat){dst:Option Nat}{e':Env}{f:FuncId}{x:Operand}{t:String}{args:List Operand}{vs:List Value}{tys:Array TypeId}{L:TypeId}{u u':Value}{p:HP}{v:Value}(q:HP)(hf:fW P f=true)(hx:e.ev x=some (.iface L u))(hm:∀w,(method (P.types.size+Made.depth) L u t).run P w=.ok (f,u') w)(ha:e.aM args=some vs)(hi:H[i]? =some p)
  (hd:match dst with | some d=>d < N.n/\e'=(d,v)::e | none=>e'=e)
  (hc:∀w F,St w0 R H w->p.sat F w->(∀b,F b->b < w.heap.size)->(∀q∈R,q.Le ⟨w,fun b=>b < w.heap.size/\¬F b⟩)->Calls P f (u'::vs).toArray w fun y w'=>y=.returned v/\∃M,q.sat M w'/\jG w w' F M)
  (k:XK N w0 (wpList P ops Q rest) e' R (H.set i q)):XK N w0 (wpList P ops Q (⟨dst,.call {callee:=.invoke x t,args:=args.toArray,argTypes:=tys},ty,pos,aN,none⟩::rest)) e R H:=fun a w U st=>wpList_plain rfl fun K hK=>by
 unfold fW at hf;cases D:P.funcs[f]? with
 | none=>simp[D] at hf
 | some fn =>
  simp[D] at hf;obtain⟨hf1,Ko⟩:=hf
  have I:(execOp a.eval (⟨dst,.call {callee:=.invoke x t,args:=args.toArray,argTypes:=tys},ty,pos,aN,none⟩:Oper)).run P w=.ok (.enter f (u'::vs).toArray) w:=by
   cases z:fn.body with
   | none=>simp[z] at Ko
   | some c=>
    have h0:(#[Value.iface L u]++(args.toArray.map a.eval))[0]? =some (.iface L u):=by simp[Array.getElem?_append]
    simp[execOp,resolve,U.ev hx,invoke,callMethod,hm,callFunc,D,hf1,z,U.aM ha]
  obtain⟨Z,F,O,m,hs,l,A⟩:=st.ex;unfold Oper.wp;rw[I];refine(hc w (F i) st (hs i p hi) (fun b z=>(l i b z).2) (fun q D b z=>⟨⟨O b (m q D b z).1,fun C=>(l i b C).1 (m q D b z).1⟩,(m q D b z).2⟩)).mono fun y w' ⟨hy,M,X,o⟩=>?_;subst hy
  have G:St w0 R (H.set i q) w':=by
   have Y:i < H.length:=by
    rcases dI i H.length with h | h
    .exact h
    .rw[eW h] at hi;cases hi
   refine⟨o.os.trans st.os,o.tape.trans st.tape,o.output.trans st.output,oL st.size o.size,Z,fun j=>if j=i then M else F j,fun b h=>jC (O b h) o.size,fun p T b h=>?_,fun j r E=>?_,fun j b h=>?_,fun j k b V h=>?_⟩
   .exact⟨(m p T b h).1,(o.old b (O b (m p T b h).1) (fun C=>(l i b C).1 (m p T b h).1)).trans (m p T b h).2⟩
   .rw[gX] at E;split at E
    .rename_i e;subst e
     first | (rw[aH Y] at E;cases E) | cases E
     simpa using X
    .rename_i e
     simp only[aC (fN e)];exact r.loc _ _ _ (hs j r E) (fun b z=>o.old b (l j b z).2 (A j i b (fN e) z))
   .dsimp only at h;split at h
    .refine⟨fun J=>?_,(o.new b h).2⟩;rcases(o.new b h).1 with h | h
     .exact(l i b h).1 J
     .have:=O b J;omega
    .exact⟨(l j b h).1,jC (l j b h).2 o.size⟩
   .dsimp only at h|-;split at h<;>split
    .rename_i h1 h2;omega
    .rename_i e1 e2
     intro B;rcases(o.new b h).1 with h | h
     .exact A i k b aA h B
     .have:=(l k b B).2;omega
    .rename_i e1 e2
     intro B;rcases(o.new b B).1 with B | B
     .exact A j i b aA h B
     .have:=(l j b h).2;omega
    .exact A j k b V h
  cases dst with
  | none=>dsimp only at hd;subst hd;exact hK _ _ (k _ _ U G)
  | some d=>dsimp only at hd;obtain⟨hd,rfl⟩:=hd;exact hK _ _ (k _ _ (U.put hd v) G)
end
structure Cn where
 l:List (Int×Int)
 lU:Bool
def lC(d:Nat)(c:Cn)(dev:Int):Int×Cn:=if c.lU then(6,c) else if ¬(0<=dev/\dev < d) then(4,c) else if 7<=gO c.l dev then(8,c) else(0,⟨Db c.l dev (IntKind.i64.wrap (gO c.l dev+1)),c.lU⟩)
def mS(d:Nat)(c:Cn)(dev:Int):Int×Cn:=if c.lU then(6,c) else if ¬(0<=dev/\dev < d) then(4,c) else if gO c.l dev<=0 then(6,c) else(0,⟨Db c.l dev (IntKind.i64.wrap (gO c.l dev - 1)),c.lU⟩)
def qF(c:Cn):Int×Cn:=if c.lU then(6,c) else(0,⟨c.l,true⟩)
def qG(c:Cn):Int×Cn:=if c.lU then(0,⟨c.l,false⟩) else(6,c)
def pR(gc gm:Nat)(v:Value)(c:Cn):HP:=HP.many [HP.aK gc 159 [v,.map (some gm),.bool c.lU],HP.map gm (zW c.l)]
section
variable{Q:Exit->Act->World->Prop}
def Yz{x y:Operand}(i:Nat){r:Nat}{l:List (Int×Int)}{k:Int}(hi:H[i]? =some (HP.map r (zW l)))(c:XK N w0 (wpList Tryz.prog ops Q rest) ((d,iv (gO l k))::e) R H)(hx:e.ev x=some (.map (some r)):=by rfl)(hy:e.ev y=some (iv k):=by rfl)(hd:d < N.n:=by decide):
  XK N w0 (wpList Tryz.prog ops Q (⟨some d,.lookup 157 x y false,ty,pos,aN,none⟩::rest)) e R H:=by
 refine aAD (kt:=3) (et:=3) (kd:=.i64) (z:=iv 0) (l:=zW l) false aJ aJ aJ hx hy (fun f st=>st.map hi) hd ?_;simp only[Pt,if_false,aIC];exact c
def aIM{x y u:Operand}(i:Nat){r:Nat}{l:List (Int×Int)}{k v:Int}(hi:H[i]? =some (HP.map r (zW l)))(c:XK N w0 (wpList Tryz.prog ops Q rest) e R (H.set i (HP.map r (zW (Db l k v)))))(hx:e.ev x=some (.map (some r)):=by rfl)(hy:e.ev y=some (iv k):=by rfl)(d:e.ev u=some (iv v):=by rfl):
  XK N w0 (wpList Tryz.prog ops Q (⟨none,.mapUpdate 157 x y u,ty,pos,aN,none⟩::rest)) e R H:=by
 refine Lz (kt:=3) (et:=3) (kd:=.i64) (l:=zW l) i aJ aJ hi hx hy d ?_;rw[aI5];exact c
end
def aK0(gc n k:Nat)(A:Option Addr)(dev:Int)(w:World)(c:iD w gc 0 (.slice A n k)):
  Cz 110 #[pt gc,iv dev] w (Rt (.bool (bJ n dev)) w):=by
 refine bQ func110 ntmps110 ?_;refine cH (t:=7) rfl (fun h=>?_) (fun h=>?_)
 .refine aD ?_;refine lD aB ?_;unfold bJ
  congr 1
  simp;omega
 .refine aD ?_;refine lD aB ?_
  have:bJ n dev=false:=gW aA
  rw[this]
section
variable(gc gm n k:Nat)(A:Option Addr)(c:Cn)(w:World)(F:Nat->Prop)
def aK1(dev:Int)(hp:(pR gc gm (.slice A n k) c).sat F w)(hF:∀b,F b->b < w.heap.size):
  Cz 57 #[pt gc,iv dev] w (Wr (iv (lC n c dev).1) (pR gc gm (.slice A n k) (lC n c dev).2) w F):=by
 refine fS func57 ntmps57 hp hF ?_;obtain⟨l,e⟩:=c;unfold pR lC;dsimp only;refine bB 0 0 ?_;refine bB 1 1 ?_;cases e
 .refine aD ?_;refine cM (fun f t=>aK0 gc n k A dev f ((yR (t.aK (i:=1) rfl)).at_ (j:=0) rfl)) ?_
  by_cases d:0<=dev/\dev < (n:Int)
  .rw[show bJ n dev=true from eM d,aC aB,aC (by simpa using d)];refine aD ?_;refine Yz 0 rfl ?_;refine eR ?_;refine aD ?_;refine bP (fun h7=>?_) (fun h7=>?_)
   .rw[aH aA];refine aD ?_;refine aP 1 1 ?_;refine aP 0 0 ?_;exact cJ 0 hF
   .rw[aC aA];refine aD ?_;refine Yz 0 rfl ?_;refine kd (aCg rfl rfl rfl) ?_;refine aIM 0 rfl ?_;dsimp only[List.set];refine aD ?_;refine aP 1 1 ?_;refine aP 0 0 ?_;exact cJ 0 hF
  .rw[show bJ n dev=false from gW d,aC aB,aH (by simpa using d)];refine aD ?_;refine aP 1 1 ?_;refine aP 0 0 ?_;exact cJ 0 hF
 .rw[aH rfl];refine aD ?_;refine aP 1 1 ?_;refine aP 0 0 ?_;exact cJ 0 hF
def aKz(dev:Int)(hp:(pR gc gm (.slice A n k) c).sat F w)(hF:∀b,F b->b < w.heap.size):
  Cz 58 #[pt gc,iv dev] w (Wr (iv (mS n c dev).1) (pR gc gm (.slice A n k) (mS n c dev).2) w F):=by
 refine fS func58 ntmps58 hp hF ?_;obtain⟨l,e⟩:=c;unfold pR mS;dsimp only;refine bB 0 0 ?_;refine bB 1 1 ?_;cases e
 .refine aD ?_;refine cM (fun f t=>aK0 gc n k A dev f ((yR (t.aK (i:=1) rfl)).at_ (j:=0) rfl)) ?_
  by_cases d:0<=dev/\dev < (n:Int)
  .rw[show bJ n dev=true from eM d,aC aB,aC (by simpa using d)];refine aD ?_;refine Yz 0 rfl ?_;refine eR ?_;refine aD ?_;refine bP (fun h7=>?_) (fun h7=>?_)
   .rw[aH aA];refine aD ?_;refine aP 1 1 ?_;refine aP 0 0 ?_;exact cJ 0 hF
   .rw[aC aA];refine aD ?_;refine Yz 0 rfl ?_;refine kd (aCf rfl rfl rfl) ?_;refine aIM 0 rfl ?_;dsimp only[List.set];refine aD ?_;refine aP 1 1 ?_;refine aP 0 0 ?_;exact cJ 0 hF
  .rw[show bJ n dev=false from gW d,aC aB,aH (by simpa using d)];refine aD ?_;refine aP 1 1 ?_;refine aP 0 0 ?_;exact cJ 0 hF
 .rw[aH rfl];refine aD ?_;refine aP 1 1 ?_;refine aP 0 0 ?_;exact cJ 0 hF
def aKx(hp:(pR gc gm (.slice A n k) c).sat F w)(hF:∀b,F b->b < w.heap.size):
  Cz 59 #[pt gc] w (Wr (iv (qF c).1) (pR gc gm (.slice A n k) (qF c).2) w F):=by
 refine fS func59 ntmps59 hp hF ?_;obtain⟨l,d⟩:=c;unfold pR qF;dsimp only;refine bB 0 0 ?_;cases d
 .refine aD ?_;refine aP 0 0 ?_;exact cJ 0 hF
 .refine aD ?_;refine aP 0 0 ?_;exact cJ 0 hF
def aKy(hp:(pR gc gm (.slice A n k) c).sat F w)(hF:∀b,F b->b < w.heap.size):
  Cz 60 #[pt gc] w (Wr (iv (qG c).1) (pR gc gm (.slice A n k) (qG c).2) w F):=by
 refine fS func60 ntmps60 hp hF ?_;obtain⟨l,d⟩:=c;unfold pR qG;dsimp only;refine bB 0 0 ?_;cases d
 .refine aD ?_;refine aP 0 0 ?_;exact cJ 0 hF
 .refine aD ?_;refine aP 0 0 ?_;exact cJ 0 hF
end
def aK2(gc:Nat)(b:Bool)(w:World)(c:iD w gc 2 (.bool b)):Cz 61 #[pt gc] w (Rt (.bool b) w):=by
 refine fP func61 ntmps61 ?_;refine aD ?_;exact dP
end Go.Proofs.YtmpkkaknjkffpaaGreatDoor
