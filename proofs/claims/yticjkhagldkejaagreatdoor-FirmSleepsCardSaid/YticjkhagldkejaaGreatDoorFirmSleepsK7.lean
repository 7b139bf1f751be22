/- package hard: a tick while nothing is on its way, walked. -/
import Derived.Test.YticjkhagldkejaaGreatDoorFirmSleepsK6
namespace Go.Proofs.YticjkhagldkejaaGreatDoor
set_option linter.all false
open Go.RowKit
section
set_option maxHeartbeats 4000000
set_option maxRecDepth 20000
theorem aD.ev {w0 : World} {R : List Piece} {H : List HP} {q : Piece} {A : Option Addr} {es : List (Int × Nat)} {j : Nat} {p : Int × Nat} (hq : q ∈ R) (hs : aH q 2 A es.length (es.flatMap wO)) (hj : es[j]? = some p) : ∃ b off, A = some ⟨b, off, none⟩ ∧ aD w0 R H b (off + j * 2) (wO p) := by
 have hlt := (List.getElem?_eq_some_iff.1 hj).1
 obtain ⟨b, off, hA, hz, hc⟩ := aH.xC (rows := es.map wO) (sz := 2) (k := j) (r := wO p) (n := es.length) (by rw [← List.flatMap_def]; exact hs) (fun r hr => by
  obtain ⟨x, _, rfl⟩ := List.mem_map.1 hr
  rfl) (by rw [List.getElem?_map, hj]; rfl) hlt
 exact ⟨b, off, hA, .of fun k v hv => Rd.ro hq hz (hc k v hv)⟩
theorem aFK (L : HL) (s : aC) (x : aT) (w : World) (hH : s.bO) (aV : fB L s) (hok : bQ s x) (dP : Int) (hd : 0 ≤ dP ∧ dP < 4294967296) (uK : ∀ i, iA x.wt i = 0) (F : Nat → Prop) (hp : (cK L s x).sat F w) (hF : ∀ b, F b → b < w.heap.size) :
  Calls Tryz.prog 25 #[.pointer (some ⟨L.h, 0, none⟩), .int .u32 dP] w (fun y w' => y = .returned (.slice none 0 0) ∧ ∃ F', (cK L s (gN s x dP)).sat F' w' ∧ bI w w' F F') := by
 have zI := hH.t.nv
 have hnd := hH.t.nd
 have jX := hok.dv
 have hls := aV.ds
 refine XK.dD (p := cK L s x) (F := F) (vs := [.pointer (some ⟨L.h, 0, none⟩), .int .u32 dP]) Tryz.func25 rfl Tryz.ntmps25 (by simp) hp hF ?_
 generalize eV : (⟨w, fun b => b < w.heap.size ∧ ¬ F b⟩ : Piece) = R0
 refine XK.go ?_
 refine aZ (fun w1 t => uR L s x w1 (t.iW 0 rfl aV hok)) ?_
 refine XK.go ?_
 refine kd (bR rfl (Rd.hard 0 rfl rfl)) ?_
 refine XK.go ?_
 refine XK.aK [(24, .int .i64 0), (23, .int .i64 s.aA.length), (5, .slice none 0 0), (0, .pointer (some ⟨L.h, 0, none⟩)), (1, .int .u32 dP)] ?_
 refine XK.loop (fun m e R H => ∃ i : Nat, i ≤ s.aA.length ∧ m = s.aA.length - i ∧ e = [(24, .int .i64 i), (23, .int .i64 s.aA.length), (5, .slice none 0 0), (0, .pointer (some ⟨L.h, 0, none⟩)), (1, .int .u32 dP)] ∧ R = [R0] ∧ H = [cK L s x]) s.aA.length ⟨0, by omega, rfl, rfl, rfl, rfl⟩ fun m e R H hI => ?_
 obtain ⟨i, hi, rfl, rfl, rfl, rfl⟩ := hI
 refine XK.go ?_
 refine XK.if_ rfl (fun hlt => ?_) (fun hge => ?_)
 ·have hlt : i < s.aA.length := by omega
  refine XK.go ?_
  refine aZ (fun w1 t => aFR L s x i hlt (uK i) w1 (t.iW 0 rfl aV hok)) ?_
  refine XK.go ?_
  refine bZ (cs := [.int .i64 0, .int .i64 0, .bool false, .int .u32 0]) (aM (by kernel_rfl)) (by decide) fun g1 => ?_
  refine XK.go ?_
  refine XK.weak [1] rfl (by decide) (fun _ h => h) ?_
  refine XK.aK [(24, .int .i64 (i + 1 : Nat)), (23, .int .i64 s.aA.length), (5, .slice none 0 0), (0, .pointer (some ⟨L.h, 0, none⟩)), (1, .int .u32 dP)] ?_
  exact XK.round (s.aA.length - (i + 1)) (by omega) ⟨i + 1, hlt, rfl, rfl, rfl, rfl⟩
 obtain rfl : i = s.aA.length := by omega
 refine XK.go ?_
 refine kd (bR rfl (Rd.hard 0 rfl rfl)) ?_
 refine XK.go ?_
 have hq0 : sP x dP 0 = x.dv := Io _ _
 refine XK.aK [(44, .int .i64 0), (43, .int .i64 s.aA.length), (42, .slice L.A s.aA.length L.c), (5, .slice none 0 0), (0, .pointer (some ⟨L.h, 0, none⟩)), (1, .int .u32 dP)] ?_
 refine XK.loop (fun m e R H => ∃ i : Nat, i ≤ s.aA.length ∧ m = s.aA.length - i ∧ e = [(44, .int .i64 i), (43, .int .i64 s.aA.length), (42, .slice L.A s.aA.length L.c), (5, .slice none 0 0), (0, .pointer (some ⟨L.h, 0, none⟩)), (1, .int .u32 dP)] ∧ R = [R0] ∧ H = [cK L s { x with dv := sP x dP i }]) s.aA.length ⟨0, by omega, rfl, rfl, rfl, by rw [hq0]⟩ fun m e R H hI => ?_
 obtain ⟨i, hi, rfl, rfl, rfl, rfl⟩ := hI
 have jN := Ss hH hok dP i
 refine XK.go ?_
 refine XK.if_ rfl (fun hlt => ?_) (fun hge => ?_)
 ·have hlt : i < s.aA.length := by omega
  obtain ⟨d, dR⟩ := get_some hlt
  obtain ⟨l, gB⟩ := get_some (l := L.ds) (i := i) (by omega)
  obtain ⟨p, fT⟩ := get_some (l := x.dv) (i := i) (by omega)
  have gX : (sP x dP i)[i]? = some p := Iq fT
  have hstep : (sP x dP i).set i (p.1, nR p.2 (decide (0 < iA x.wt i)) (yG dP i)) = sP x dP (i + 1) := Ip (f := fun i p => (p.1, nR p.2 (decide (0 < iA x.wt i)) (yG dP i))) fT
  have hw0 : decide (0 < iA x.wt i) = false := by rw [uK i]; rfl
  rw [hw0] at hstep
  refine XK.rows 0 rfl aV jN (by omega) fun b off hA => ?_
  refine XK.go ?_
  refine kd (dat i (off + i * 6) (hx := by rw [← hA]; rfl)) ?_
  refine kd (pR rfl (aD.dev 0 rfl aV jN hA dR gB rfl)) ?_
  refine bZ (cs := [.int .i64 0, .int .i64 0, .int .i64 0, .int .u32 0, .pointer none, .pointer none]) (aM (by kernel_rfl)) (by decide) fun g1 => ?_
  refine XK.go ?_
  refine XK.eR [0, 1, 3, 4, 5, 11, 12, 13] ?_
  refine XB.mv 2 ?_
  refine XB.mv 6 ?_
  refine XB.mv 9 ?_
  refine XB.mv 10 ?_
  refine XB.q 0 ?_
  refine XB.q 1 ?_
  refine XB.q 3 ?_
  refine XB.q 4 ?_
  refine XB.q 5 ?_ (dN := bR rfl (Rd.hard 1 rfl rfl))
  refine XB.q 11 ?_ (dN := aB8 rfl rfl (c := dP.fdiv (2 ^ min i 32)) (by omega) rfl)
  refine XB.q 12 ?_ (dN := aBB (c := Qh (dP.fdiv (2 ^ min i 32)) 1) rfl rfl (fun _ => rfl) (by simp))
  refine XB.q 13 ?_
  refine XB.next 7 rfl (by kernel_rfl) ?_
  refine aZ (fun w1 t => aBQ L.B (iP s) x.wt x.jB i (by rw [Nu]; exact hlt) w1 (t.iW 1 rfl aV jN).Qd) ?_
  refine XB.bk ?_
  refine XB.next 8 rfl (by kernel_rfl) ?_
  refine bJ ?_
  refine XB.bk ?_
  refine XB.next 14 rfl (by kernel_rfl) ?_
  refine XK.Ic 1 i rfl dR gB gX ?_
  dsimp only [List.set]
  refine XK.take 0 1 rfl rfl ?_
  dsimp only [List.set]
  refine fE 0 (mM l.2 (nR p.2 (decide ((iA x.wt i : Int) > 0)) (yG dP i))) (fun w1 F1 t h1 h2 h3 => aDN _ _ h1 h2) ?_
  dsimp only [List.set]
  refine XK.aX 0 1 rfl rfl ?_
  dsimp only [List.set]
  refine XK.Ln 1 i rfl dR gB gX (p' := (p.1, nR p.2 (decide ((iA x.wt i : Int) > 0)) (yG dP i))) ?_
  dsimp only [List.set]
  have hw1 : decide ((iA x.wt i : Int) > 0) = false := by rw [uK i]; rfl
  rw [hw1, hstep]
  refine XB.bt ?_
  refine XB.done (by kernel_rfl) ?_
  refine XK.go ?_
  refine XK.weak [1] rfl (by decide) (fun _ h => h) ?_
  refine XK.aK [(44, .int .i64 (i + 1 : Nat)), (43, .int .i64 s.aA.length), (42, .slice L.A s.aA.length L.c), (5, .slice none 0 0), (0, .pointer (some ⟨L.h, 0, none⟩)), (1, .int .u32 dP)] ?_
  exact XK.round (s.aA.length - (i + 1)) (by omega) ⟨i + 1, hlt, rfl, rfl, rfl, rfl⟩
 obtain rfl : i = s.aA.length := by omega
 have Ui := Ss hH hok dP s.aA.length
 generalize Cd : sP x dP s.aA.length = vG at Ui ⊢
 refine XK.go ?_
 refine kd (bR rfl (Rd.hard 0 rfl rfl)) ?_
 refine XK.go ?_
 refine XK.take 0 1 rfl rfl ?_
 dsimp only [List.set]
 refine fE 0 (jF L.T s (gP s x.ck)) (fun w1 F1 t h1 h2 h3 => aH9 L.T s x.ck hH aV.fa hok.ck w1 F1 h1 h2) ?_
 dsimp only [List.set]
 refine XK.aX 0 1 rfl rfl ?_
 dsimp only [List.set]
 change XK _ _ _ _ _ [cK L s { x with ck := gP s x.ck, dv := vG }]
 refine XK.go ?_
 refine kd (bR rfl (Rd.hard 0 rfl rfl)) ?_
 refine XK.go ?_
 refine XK.take 0 2 rfl rfl ?_
 dsimp only [List.set]
 refine sK (α := Option Addr × Nat) 0 (f := 84) (fi := []) (ca := []) (fun a => .slice a.1 (gZ x.dm s.domains.length).length a.2) (fun a => HP.many [lR L.G s (kE x.dm), HP.own 166 2 (.slice a.1 (gZ x.dm s.domains.length).length a.2) (gZ x.dm s.domains.length).length ((gZ x.dm s.domains.length).flatMap wO)]) (fun _ => True) (by kernel_rfl) rfl rfl rfl (by decide) (fun w1 F1 t h1 h2 h3 => aDW L.G s x.dm hok.dm (by omega) w1 F1 h1 h2) ?_
 rintro ⟨Ae, ce⟩ _
 dsimp only [List.set]
 refine XK.take 0 0 rfl rfl ?_
 dsimp only [List.set]
 refine XK.aX 1 2 rfl rfl ?_
 dsimp only [List.set]
 refine XK.take 0 1 rfl rfl ?_
 dsimp only [List.set]
 refine XK.still [] [0] [2] (by simp) rfl (by decide) (by decide) fun q hq _ hfr => ?_
 obtain ⟨F2, kF, kB⟩ := hq 0 _ (by simp) rfl
 have hev : aH q 2 Ae (gZ x.dm s.domains.length).length ((gZ x.dm s.domains.length).flatMap wO) := aH.own ⟨F2, kF, kB⟩
 have mR : bQ s { x with ck := gP s x.ck, dm := kE x.dm, dv := vG } := ⟨Rh hH hok.ck, Rf hok.dm, hok.ln, Ui.dv, Ui.each, hok.wt⟩
 have hel : (gZ x.dm s.domains.length).length ≤ 1000 := Nat.le_trans (aB0 x.dm s.domains.length) (by omega)
 generalize hes : gZ x.dm s.domains.length = es at hev hel ⊢
 change XK _ _ _ _ _ [cK L s { x with ck := gP s x.ck, dm := kE x.dm, dv := vG }]
 refine XK.go ?_
 refine XK.aK [(76, .int .i64 0), (75, .int .i64 es.length), (74, .slice Ae es.length ce), (5, .slice none 0 0), (0, .pointer (some ⟨L.h, 0, none⟩))] ?_
 refine XK.loop (fun m e R H => ∃ j : Nat, j ≤ es.length ∧ m = es.length - j ∧ e = [(76, .int .i64 j), (75, .int .i64 es.length), (74, .slice Ae es.length ce), (5, .slice none 0 0), (0, .pointer (some ⟨L.h, 0, none⟩))] ∧ R = [q, R0] ∧ H = [cK L s { x with ck := gP s x.ck, dm := kE x.dm, dv := (es.take j).foldl (mV s) vG }]) es.length ⟨0, by omega, rfl, rfl, rfl, rfl⟩ fun m e R H hI => ?_
 obtain ⟨j, hj, rfl, rfl, rfl, rfl⟩ := hI
 have Jk : bQ s { x with ck := gP s x.ck, dm := kE x.dm, dv := (es.take j).foldl (mV s) vG } := Vt hH (es.take j) _ mR
 refine XK.go ?_
 refine XK.if_ rfl (fun hlt => ?_) (fun hge => ?_)
 ·have hlt : j < es.length := by omega
  obtain ⟨p, fT⟩ := get_some hlt
  have iF : (es.take (j + 1)).foldl (mV s) vG = mV s ((es.take j).foldl (mV s) vG) p := by
   rw [List.take_add_one, fT, List.foldl_append]
   rfl
  generalize hx3 : ({ x with ck := gP s x.ck, dm := kE x.dm, dv := (es.take j).foldl (mV s) vG } : aT) = x3 at Jk
  have Tk : ({ x with ck := gP s x.ck, dm := kE x.dm, dv := (es.take (j + 1)).foldl (mV s) vG } : aT) = { x3 with dv := mV s x3.dv p } := by rw [iF, ← hx3]
  have aI1 := Jk.dv
  obtain ⟨be, aEv, hAe, hrd⟩ := aD.ev (w0 := w) (R := [q, R0]) (H := [cK L s x3]) (by simp) hev fT
  obtain ⟨kn, dm⟩ := p
  refine XK.go ?_
  refine kd (dat j (aEv + j * 2) (hx := by rw [← hAe]; rfl)) ?_
  refine kd (pR rfl hrd) ?_
  refine bZ (cs := [.int .u8 0, .int .i64 0]) (aM (by kernel_rfl)) (by decide) fun g1 => ?_
  refine XK.go ?_
  refine aZ (fun w1 t => aFP kn w1) ?_
  by_cases hk : kn = 115 ∨ kn = 114 ∨ kn = 108 ∨ kn = 110
  ·obtain ⟨f, Jz, hcb, wI⟩ := aHy hk
   rw [Jz]
   refine XK.go ?_
   refine kd (aBA rfl (.inr ⟨⟨_, _, _, rfl⟩, rfl⟩)) ?_
   refine XK.go ?_
   refine kd (bR rfl (Rd.hard 1 rfl rfl)) ?_
   refine XK.go ?_
   have hm0 : uH s x3.dv (kn, dm) 0 = x3.dv := Io _ _
   refine XK.aK [(90, .int .i64 0), (89, .int .i64 s.aA.length), (88, .slice L.A s.aA.length L.c), (13, .func (.func f) #[] #[]), (12, .pointer (some ⟨g1, 0, none⟩)), (76, .int .i64 j), (75, .int .i64 es.length), (74, .slice Ae es.length ce), (5, .slice none 0 0), (0, .pointer (some ⟨L.h, 0, none⟩))] ?_
   refine XK.loop (fun m e R H => ∃ i : Nat, i ≤ s.aA.length ∧ m = s.aA.length - i ∧ e = [(90, .int .i64 i), (89, .int .i64 s.aA.length), (88, .slice L.A s.aA.length L.c), (13, .func (.func f) #[] #[]), (12, .pointer (some ⟨g1, 0, none⟩)), (76, .int .i64 j), (75, .int .i64 es.length), (74, .slice Ae es.length ce), (5, .slice none 0 0), (0, .pointer (some ⟨L.h, 0, none⟩))] ∧ R = [q, R0] ∧ H = [HP.aF g1 166 [.int .u8 kn, .int .i64 (dm : Int)], cK L s { x3 with dv := uH s x3.dv (kn, dm) i }]) s.aA.length ⟨0, by omega, rfl, rfl, rfl, by rw [hm0]; rfl⟩ fun m e R H hI => ?_
   obtain ⟨i, hi, rfl, rfl, rfl, rfl⟩ := hI
   have jN := aAx hH Jk (kn, dm) i
   refine XK.go ?_
   refine XK.if_ rfl (fun hlt => ?_) (fun hge => ?_)
   ·have hlt : i < s.aA.length := by omega
    obtain ⟨d, dR⟩ := get_some hlt
    obtain ⟨l, gB⟩ := get_some (l := L.ds) (i := i) (by omega)
    obtain ⟨p, fT⟩ := get_some (l := x3.dv) (i := i) (by omega)
    have gX : (uH s x3.dv (kn, dm) i)[i]? = some p := Iq fT
    have hstep : (uH s x3.dv (kn, dm) i).set i (wP s (kn, dm) i p) = uH s x3.dv (kn, dm) (i + 1) := Ip (f := wP s (kn, dm)) fT
    have hfo := (jN.each i d p dR gX).1
    refine XK.rows 1 rfl aV jN (by omega) fun b off hA => ?_
    refine XK.go ?_
    refine kd (dat i (off + i * 6) (hx := by rw [← hA]; rfl)) ?_
    refine kd (pR rfl (aD.dev 1 rfl aV jN hA dR gB rfl)) ?_
    refine bZ (cs := [.int .i64 0, .int .i64 0, .int .i64 0, .int .u32 0, .pointer none, .pointer none]) (aM (by kernel_rfl)) (by decide) fun g2 => ?_
    refine XK.go ?_
    refine XK.if_ rfl (fun he => ?_) (fun he => ?_)
    ·have jY : wP s (kn, dm) i p = (yI kn d p.1, p.2) := by
      unfold wP
      rw [dR]
      exact if_pos he
     refine XK.go ?_
     refine XK.Ic 2 i rfl dR gB gX ?_
     dsimp only [List.set]
     refine XK.take 0 0 rfl rfl ?_
     dsimp only [List.set]
     refine Ob 0 (fi := []) (ca := []) (dM l.1 d (yI kn d p.1)) (fun w1 F1 t h1 h2 h3 => by simpa using wI l.1 d p.1 (by have := (hH.t.aA i d dR).2.2.2.2.2.2.2.2.1; omega) hfo w1 F1 h1 h2) ?_ (hf := hcb)
     dsimp only [List.set]
     refine XK.aX 0 0 rfl rfl ?_
     dsimp only [List.set]
     refine XK.Ln 2 i rfl dR gB gX (p' := (yI kn d p.1, p.2)) ?_
     dsimp only [List.set]
     rw [← jY, hstep]
     refine XK.go ?_
     refine XK.weak [1, 2] rfl (by decide) (fun _ h => h) ?_
     refine XK.aK [(90, .int .i64 (i + 1 : Nat)), (89, .int .i64 s.aA.length), (88, .slice L.A s.aA.length L.c), (13, .func (.func f) #[] #[]), (12, .pointer (some ⟨g1, 0, none⟩)), (76, .int .i64 j), (75, .int .i64 es.length), (74, .slice Ae es.length ce), (5, .slice none 0 0), (0, .pointer (some ⟨L.h, 0, none⟩))] ?_
     exact XK.round (s.aA.length - (i + 1)) (by omega) ⟨i + 1, hlt, rfl, rfl, rfl, rfl⟩
    ·have jY : wP s (kn, dm) i p = p := by
      unfold wP
      rw [dR]
      exact if_neg he
     rw [jY, sM gX] at hstep
     rw [hstep]
     refine XK.go ?_
     refine XK.weak [1, 2] rfl (by decide) (fun _ h => h) ?_
     refine XK.aK [(90, .int .i64 (i + 1 : Nat)), (89, .int .i64 s.aA.length), (88, .slice L.A s.aA.length L.c), (13, .func (.func f) #[] #[]), (12, .pointer (some ⟨g1, 0, none⟩)), (76, .int .i64 j), (75, .int .i64 es.length), (74, .slice Ae es.length ce), (5, .slice none 0 0), (0, .pointer (some ⟨L.h, 0, none⟩))] ?_
     exact XK.round (s.aA.length - (i + 1)) (by omega) ⟨i + 1, hlt, rfl, rfl, rfl, rfl⟩
   obtain rfl : i = s.aA.length := by omega
   refine XK.go ?_
   refine XK.weak [1] rfl (by decide) (fun _ h => h) ?_
   refine XK.aK [(76, .int .i64 (j + 1 : Nat)), (75, .int .i64 es.length), (74, .slice Ae es.length ce), (5, .slice none 0 0), (0, .pointer (some ⟨L.h, 0, none⟩))] ?_
   exact XK.round (es.length - (j + 1)) (by omega) ⟨j + 1, by omega, rfl, rfl, rfl, by rw [Tk]; rfl⟩
  ·have Jz : yH kn = .nilFunc := by
    rw [yH, if_neg (by omega), if_neg (by omega), if_neg (by omega)]
   rw [Jz]
   refine XK.go ?_
   refine kd (aBA rfl (.inl ⟨rfl, rfl⟩)) ?_
   refine XK.go ?_
   refine XK.weak [1] rfl (by decide) (fun _ h => h) ?_
   refine XK.aK [(76, .int .i64 (j + 1 : Nat)), (75, .int .i64 es.length), (74, .slice Ae es.length ce), (5, .slice none 0 0), (0, .pointer (some ⟨L.h, 0, none⟩))] ?_
   exact XK.round (es.length - (j + 1)) (by omega) ⟨j + 1, by omega, rfl, rfl, rfl, by rw [Tk, aEI hk, ← hx3]⟩
 obtain rfl : j = es.length := by omega
 rw [List.take_length]
 refine XK.go ?_
 refine kd (bR rfl (Rd.hard 0 rfl rfl)) ?_
 refine XK.go ?_
 refine XK.take 0 3 rfl rfl ?_
 dsimp only [List.set]
 refine sK (α := Option Addr × Nat × Nat) 0 (f := 86) (fi := []) (ca := []) (fun a => .slice a.1 a.2.1 a.2.2) (fun _ => iH L.R s (vT x.ln)) (fun _ => True) (by kernel_rfl) rfl rfl rfl (by decide) (fun w1 F1 t h1 h2 h3 => aDy L.R s x.ln hH hok.ln w1 F1 h1 h2) ?_
 rintro _ _
 dsimp only [List.set]
 refine XK.aX 0 3 rfl rfl ?_
 dsimp only [List.set]
 change XK _ _ _ _ _ [cK L s { x with ck := gP s x.ck, dm := kE x.dm, ln := vT x.ln, dv := es.foldl (mV s) vG }]
 have uO : ({ x with ck := gP s x.ck, dm := kE x.dm, ln := vT x.ln, dv := es.foldl (mV s) vG } : aT) = gN s x dP := by rw [gN, Cd, hes]
 rw [uO]
 refine XK.go ?_
 subst eV
 exact XK.aI rfl rfl fun w1 t => ⟨rfl, t.turns hF (by simp) (i := 0) rfl⟩
end
section
set_option maxHeartbeats 4000000
set_option maxRecDepth 20000
def yQ (s : aC) : Nat → bN → aT → List Int → bN → aT → Prop
 | 0, _, _, _, _, _ => False
 | n + 1, z, x, a, z', x' => Xg s x z ∧ ((oY (lV s x z).1 0 = some a ∧ z' = nT (lV s x z).1 0 ∧ x' = (lV s x z).2) ∨
   (oY (lV s x z).1 0 = none ∧ bQ s (lV s x z).2 ∧ (∀ i, iA (lV s x z).2.wt i = 0) ∧ yQ s n (nT (lV s x z).1 0) (gN s (lV s x z).2 0) a z' x'))
theorem aDa (A : Option Addr) (n c : Nat) (l : List Int) (st : Int) (w : World) (hs : aH (all w) 1 A n (kK l)) (hn : n = l.length) (h2 : 2 ≤ n) (h1 : l[1]? = some st) :
  Calls Tryz.prog 101 #[.slice A n c] w (Rt (.tuple #[.int .i32 (IntKind.i32.wrap st), .int .i64 0]) w) := by
 subst hn
 obtain ⟨b, off, rfl, hr⟩ := aH.u32 hs (by omega)
 have k1 := hr 1 st h1
 refine XK.enter (vs := [.slice (some ⟨b, off, none⟩) l.length c]) Tryz.func101 rfl Tryz.ntmps101 (by simp) ?_
 refine XK.go ?_
 refine XK.if_ rfl (fun h => absurd h (by omega)) (fun _ => ?_)
 refine XK.go ?_
 refine kd (dat 1 (off + 1)) ?_
 refine XK.go ?_
 refine kd (yD (ds := .int .u32) (kd := .i32) (c := IntKind.i32.wrap st) (by kernel_rfl) (by kernel_rfl) rfl rfl) ?_
 refine XK.go ?_
 exact XK.fQ rfl rfl rfl fun w1 t => ⟨rfl, t.below (by simp)⟩
theorem Mu (f : Nat) (hL : HL) (s : aC) (z : bN) (x : aT) (w : World) (hH : s.bO) (aV : fB hL s) (A : Option Addr) (c : Nat) (l : List Int) (oF : l.length ≤ 1000000) (N : Nat) (hN : N ≤ 200) (a : List Int) (st : Int) (z1 z' : bN) (x' : aT) (hsend : mZ z 0 l = (0, z1)) (hrun : yQ s N z1 x a z' x') (ha : a[1]? = some st)
  (F : Nat → Prop) (hp : (bG f hL s z x).sat F w) (hF : ∀ b, F b → b < w.heap.size) (hs : aH ⟨w, fun b => b < w.heap.size ∧ ¬ F b⟩ 1 A l.length (kK l)) (eG : jG ⟨w, fun b => b < w.heap.size ∧ ¬ F b⟩) :
  Calls Tryz.prog 35 #[.pointer (some ⟨f, 0, none⟩), .pointer (some ⟨hL.h, 0, none⟩), .int .i64 0, .slice A l.length c] w (fun y w' => y = .returned (.tuple #[.int .i32 (IntKind.i32.wrap st), .bool true]) ∧ ∃ F', (bG f hL s z' x').sat F' w' ∧ bI w w' F F') := by
 have uY : 2 ≤ a.length := by have := (List.getElem?_eq_some_iff.1 ha).1; omega
 refine XK.dD (p := bG f hL s z x) (F := F) (vs := [.pointer (some ⟨f, 0, none⟩), .pointer (some ⟨hL.h, 0, none⟩), .int .i64 0, .slice A l.length c]) Tryz.func35 rfl Tryz.ntmps35 (by simp) hp hF ?_
 generalize eV : (⟨w, fun b => b < w.heap.size ∧ ¬ F b⟩ : Piece) = R0 at eG hs ⊢
 refine XK.take 0 0 rfl rfl ?_
 dsimp only [List.set]
 refine XK.go ?_
 refine fE 0 (oM f hL.h s z1) (fun w1 F1 t h1 h2 h3 => by
  have := aBn f hL.h s z 0 A _ c l w1 F1 h1 h2 (hs.le (h3 _ (by simp))) rfl oF
  rw [hsend] at this
  exact this) ?_
 dsimp only [List.set]
 refine XK.go ?_
 refine XK.aX 0 0 rfl rfl ?_
 dsimp only [List.set]
 refine XK.aK [(10, .int .i64 0), (0, .pointer (some ⟨f, 0, none⟩)), (1, .pointer (some ⟨hL.h, 0, none⟩)), (2, .int .i64 0)] ?_
 refine XK.loop (fun m e R H => ∃ (k : Nat) (z : bN) (x : aT), k + m ≤ 200 ∧ yQ s m z x a z' x' ∧ e = [(10, .int .i64 (k : Int)), (0, .pointer (some ⟨f, 0, none⟩)), (1, .pointer (some ⟨hL.h, 0, none⟩)), (2, .int .i64 0)] ∧ R = [R0] ∧ H = [bG f hL s z x]) N ⟨0, z1, x, by omega, hrun, rfl, rfl, rfl⟩ fun m e R H hI => ?_
 obtain ⟨k, z2, x2, hk, eB, rfl, rfl, rfl⟩ := hI
 cases m with
 | zero => exact absurd eB (fun h => h)
 | succ m =>
  obtain ⟨Br, Cg⟩ := eB
  generalize hst : lV s x2 z2 = r at Cg
  obtain ⟨z3, x3⟩ := r
  dsimp only at Cg
  refine XK.go ?_
  refine XK.if_ rfl (fun hlt => ?_) (fun hge => absurd (by omega) hge)
  refine XK.go ?_
  refine fE 0 (bG f hL s z3 x3) (fun w1 F1 t h1 h2 h3 => by
   have := aGz f hL s z2 x2 w1 hH aV Br F1 h1 h2 (jG.le eG (h3 _ (by simp)))
   rw [hst] at this
   exact this) ?_
  dsimp only [List.set]
  refine XK.go ?_
  refine XK.take 0 0 rfl rfl ?_
  dsimp only [List.set]
  rcases Cg with ⟨hr, rfl, rfl⟩ | ⟨hr, Jk, aFu, eB⟩
  ·refine sK (α := AC) 0 (f := 21) (fi := []) (ca := []) (fun c => .tuple #[.slice c.1 a.length c.2, .bool true]) (fun c => xD f hL.h s (nT z3 0) a c) (fun _ => True) (by kernel_rfl) rfl rfl rfl (by decide) (fun w1 F1 t h1 h2 h3 => by
    have := Vv f hL.h s z3 0 w1 F1 h1 h2
    rw [hr] at this
    exact this) ?_
   rintro ⟨Ar, cr⟩ _
   dsimp only [List.set]
   refine XK.take 0 1 rfl rfl ?_
   dsimp only [List.set]
   refine XK.take 1 0 rfl rfl ?_
   dsimp only [List.set]
   refine XK.aX 2 0 rfl rfl ?_
   dsimp only [List.set]
   refine XK.still [] [0] [2] (by simp) rfl (by decide) (by decide) fun q hq _ hfr => ?_
   obtain ⟨F2, kF, kB⟩ := hq 0 _ (by simp) rfl
   have hra : cB (Ar, cr) a q := cB.le ⟨q.w, F2⟩ q (fun b hb => ⟨kB b hb, rfl⟩) kF
   refine XK.go ?_
   refine aZ (fun w1 t => aDa Ar _ cr a st w1 (aH.le hra (t.le (by simp))) rfl uY ha) ?_
   refine XK.go ?_
   subst eV
   exact XK.fQ rfl rfl rfl fun w1 t => ⟨rfl, t.turns hF (by simp) (i := 0) rfl⟩
  ·have hz : nT z3 0 = z3 := by
    unfold oY at hr
    unfold nT
    rw [if_pos rfl] at hr ⊢
    split at hr
    ·cases hr
    ·rename_i hn
     rw [if_neg hn]
   rw [hz] at eB
   refine sK (α := AC) 0 (f := 21) (fi := []) (ca := []) (fun c => .tuple #[.slice none 0 0, .bool false]) (fun c => xD f hL.h s z3 [] c) (fun _ => True) (by kernel_rfl) rfl rfl rfl (by decide) (fun w1 F1 t h1 h2 h3 => by
    have := Vv f hL.h s z3 0 w1 F1 h1 h2
    rw [hr, hz] at this
    exact this) ?_
   rintro ⟨Ar, cr⟩ _
   dsimp only [List.set]
   refine XK.take 0 0 rfl rfl ?_
   dsimp only [List.set]
   refine XK.aX 1 0 rfl rfl ?_
   dsimp only [List.set]
   refine XK.weak [1] rfl (by decide) (fun _ h => h) ?_
   refine XK.take 0 1 rfl rfl ?_
   dsimp only [List.set]
   refine XK.go ?_
   refine fE 0 (cK hL s (gN s x3 0)) (fun w1 F1 t h1 h2 h3 => aFK hL s x3 w1 hH aV Jk 0 (by decide) aFu F1 h1 h2) ?_
   dsimp only [List.set]
   refine XK.go ?_
   refine XK.aX 0 1 rfl rfl ?_
   dsimp only [List.set]
   refine XK.aK [(10, .int .i64 (k + 1 : Nat)), (0, .pointer (some ⟨f, 0, none⟩)), (1, .pointer (some ⟨hL.h, 0, none⟩)), (2, .int .i64 0)] ?_
   exact XK.round m (by omega) ⟨k + 1, z3, gN s x3 0, by omega, eB, rfl, rfl, rfl⟩
end
section
structure Inv (s : aC) (X : bE) (bd bc bl : Option Nat) (x : aT) : Prop where
 ok : bQ s x
 wt : ∀ i, iA x.wt i = 0
 of : X.of s
 dom : ∀ i m, x.dm[i]? = some m → bd ≠ some i → (hasB X.d i = true → m.phase = 49) ∧ (hasB X.d i = false → m.phase = 48 ∨ m.phase = 116)
 fH : ∀ i c y, s.aB[i]? = some c → x.ck[i]? = some y → hasB X.c i = true → bc ≠ some i → y.on = true ∧ (c.kind = 112 → y.left = 0)
 nJ : ∀ i, hasB X.c i = true → ∀ j ∈ eI s i, fC s j → hasB X.c j = true
 uG : ∀ c, bc = some c → ∀ i, hasB X.c i = true → i ≠ c → c ∉ eI s i
 pG : ∀ i y, x.ln[i]? = some y → hasB X.l i = true → bl ≠ some i → y.held = false
 nB : ∀ (i : Nat) (p : bK × cG) (d : bB), x.dv[i]? = some p → s.aA[i]? = some d → (p.2.at_ = 0 ∨ p.2.at_ = 2 ∨ p.2.at_ = 1 ∧ bd = some d.domain.toNat) ∧ (hasB X.d d.domain.toNat = true → bd ≠ some d.domain.toNat → p.2.at_ = 0)
theorem Yy {m : dL} (h : m.phase = 49 ∨ m.phase = 48 ∨ m.phase = 116) : (eA m).2 = m := by
 unfold eA
 rw [if_neg (by omega), if_neg (by omega), if_neg (by omega)]
theorem aBM (s : aC) : ∀ (k c : Nat), ∀ j ∈ kZ s k c, j < s.aB.length
 | 0, c, j, h => by simp [kZ] at h
 | k + 1, c, j, h => by
  unfold kZ at h
  cases hc : s.aB[c]? with
  | none => rw [hc] at h; simp at h
  | some x =>
   rw [hc] at h
   dsimp only at h
   rcases List.mem_cons.1 h with rfl | h
   ·exact (List.getElem?_eq_some_iff.1 hc).1
   ·cases hs : x.src with
    | nil => rw [hs] at h; simp at h
    | cons f fs => rw [hs] at h; exact aBM s k _ j h
theorem Wu {s : aC} {i j : Nat} (h : j ∈ eI s i) : j < s.aB.length := aBM s _ _ j h
theorem wB {s : aC} {i : Nat} {c : dG} (h : s.aB[i]? = some c) : kindOf s i = c.kind := by
 unfold kindOf
 rw [h]
 rfl
section
variable {s : aC} {X : bE} {bd bc bl : Option Nat} {x : aT}
theorem Inv.up (h : Inv s X bd bc bl x) {i j : Nat} (hi : hasB X.c i = true) (hj : j ∈ eI s i) (hb : bc ≠ some j) : Dn s x.ck j = true := by
 have hlt := Wu hj
 obtain ⟨c, hc⟩ := get_some hlt
 obtain ⟨y, hy⟩ := get_some (l := x.ck) (i := j) (by have := h.ok.ck.len; omega)
 unfold Dn
 rw [hc, hy]
 dsimp only
 unfold lU
 by_cases h1 : c.kind = 112
 ·rw [if_pos h1]
  obtain ⟨h2, h3⟩ := h.fH j c y hc hy (h.nJ i hi j hj (.inl (by rw [wB hc]; exact h1))) hb
  rw [h2, h3 h1]
  rfl
 ·rw [if_neg h1]
  by_cases h4 : c.kind = 103
  ·rw [if_pos h4]
   exact (h.fH j c y hc hy (h.nJ i hi j hj (.inr (by rw [wB hc]; exact h4))) hb).1
  ·rw [if_neg h4]
theorem Inv.src (hm : s.made) (h : Inv s X bd bc bl x) {i f : Nat} {c : dG} {fs : List Int} (hc : s.aB[i]? = some c) (hs : c.src = (f : Int) :: fs) (hi : hasB X.c i = true) (hb : ∀ j, bc = some j → j ∉ eI s f) : runs s x.ck f = true := by
 have eK := Cy hm.aB hc
 rw [hs] at eK
 dsimp only at eK
 unfold runs
 rw [List.all_eq_true]
 intro j hj
 refine h.up hi (j := j) (by rw [eK]; exact List.mem_cons_of_mem _ (by simpa using hj)) fun hbj => hb j hbj hj
theorem Zf (hm : s.made) {i : Nat} {c : dG} (hc : s.aB[i]? = some c) (kO : fC s i) : ∃ (f : Nat) (fs : List Int), c.src = (f : Int) :: fs ∧ f < i := by
 have hfit := hm.aB i c hc
 have hk := wB hc
 unfold fC at kO
 rw [hk] at kO
 obtain ⟨h1, h2⟩ := hfit
 cases hs : c.src with
 | nil =>
  exfalso
  rw [hs] at h2
  simp at h2
  omega
 | cons f fs =>
  have := h1 f (by rw [hs]; simp)
  exact ⟨f.toNat, fs, by rw [Int.toNat_of_nonneg this.1], by omega⟩
theorem Inv.aE2 (hm : s.made) (h : Inv s X bd bc bl x) {i f : Nat} {c : dG} {fs : List Int} (hc : s.aB[i]? = some c) (hs : c.src = (f : Int) :: fs) (hf : f < i) (hi : hasB X.c i = true) : ∀ j, bc = some j → j ∉ eI s f := fun j hj hmem => by
 have hle := aBO hm hmem
 have eK := Cy hm.aB hc
 rw [hs] at eK
 dsimp only at eK
 refine h.uG j hj i hi (by omega) ?_
 rw [eK]
 exact List.mem_cons_of_mem _ (by simpa using hmem)
theorem aEG {dP : Int} {n i : Nat} {p' : bK × cG} (h : (sP x dP n)[i]? = some p') : ∃ p, x.dv[i]? = some p ∧ (p.2.at_ ≠ 1 → p'.2 = p.2) ∧ (i < n → p'.2 = nR p.2 (decide (0 < iA x.wt i)) (yG dP i)) := by
 rw [sP, List.getElem?_mapIdx] at h
 cases hq : x.dv[i]? with
 | none => rw [hq] at h; cases h
 | some q =>
  rw [hq] at h
  simp only [Option.map_some, Option.some.injEq] at h
  refine ⟨q, rfl, fun h0 => ?_, fun h0 => ?_⟩
  ·subst h
   split
   ·unfold nR
    rw [if_pos h0]
   ·rfl
  ·subst h
   rw [if_pos h0]
theorem aGZ {dv : List (bK × cG)} {e : Int × Nat} {i : Nat} {p' : bK × cG} (h : (mV s dv e)[i]? = some p') : ∃ p, dv[i]? = some p ∧ p'.2 = p.2 := by
 rw [mV, uH, List.getElem?_mapIdx] at h
 cases hq : dv[i]? with
 | none => rw [hq] at h; cases h
 | some q =>
  rw [hq] at h
  simp only [Option.map_some, Option.some.injEq] at h
  refine ⟨q, rfl, ?_⟩
  subst h
  split
  ·unfold wP
   split
   ·split <;> rfl
   ·rfl
  ·rfl
theorem aBj : ∀ (es : List (Int × Nat)) (dv : List (bK × cG)) (i : Nat) (p' : bK × cG), (es.foldl (mV s) dv)[i]? = some p' → ∃ p, dv[i]? = some p ∧ p'.2 = p.2
 | [], _, _, p', h => ⟨p', h, rfl⟩
 | e :: es, dv, i, p', h => by
  obtain ⟨p1, h1, h2⟩ := aBj es _ i p' h
  obtain ⟨p, h3, h4⟩ := aGZ h1
  exact ⟨p, h3, h2.trans h4⟩
theorem Mq {dP : Int} {i : Nat} {p' : bK × cG} (h : (gN s x dP).dv[i]? = some p') : ∃ p, x.dv[i]? = some p ∧ (p.2.at_ ≠ 1 → p'.2 = p.2) ∧ (i < s.aA.length → p'.2 = nR p.2 (decide (0 < iA x.wt i)) (yG dP i)) := by
 obtain ⟨p1, h1, h2⟩ := aBj _ _ i p' h
 obtain ⟨p, h3, h4, h5⟩ := aEG h1
 exact ⟨p, h3, fun h0 => h2.trans (h4 h0), fun h0 => h2.trans (h5 h0)⟩
theorem aHw (i : Nat) : yG 0 i = false := by
 unfold yG
 simp
 decide +kernel
theorem Yx (uK : ∀ i, iA x.wt i = 0) {i : Nat} {p' : bK × cG} (hi : i < s.aA.length) (h : (gN s x 0).dv[i]? = some p') : ∃ p, x.dv[i]? = some p ∧ (p.2.at_ ≠ 1 → p'.2 = p.2) ∧ (p.2.at_ = 1 → p'.2.at_ = 2) := by
 obtain ⟨p, h1, h2, h3⟩ := Mq h
 refine ⟨p, h1, h2, fun h0 => ?_⟩
 rw [h3 hi, uK, aHw]
 unfold nR
 rw [if_neg (by omega), if_neg (by simp), if_neg (by simp)]
theorem aCW {st : List cT} {i : Nat} {c : dG} {y : cT} (hc : s.aB[i]? = some c) (hy : st[i]? = some y) : (gP s st)[i]? = some (oU s st c y) := by
 rw [gP, List.getElem?_zipWith, hc, hy]
theorem aCV {st : List cT} {i : Nat} {c : dG} {y' : cT} (hc : s.aB[i]? = some c) (hy : (gP s st)[i]? = some y') : ∃ y, st[i]? = some y ∧ y' = oU s st c y := by
 rw [gP, List.getElem?_zipWith, hc] at hy
 cases hq : st[i]? with
 | none => rw [hq] at hy; cases hy
 | some y => rw [hq] at hy; cases hy; exact ⟨y, rfl, rfl⟩
theorem Inv.tick (hm : s.made) (h : Inv s X bd bc bl x) : Inv s X bd bc bl (gN s x 0) := by
 refine ⟨aCR hm.bO h.ok 0, h.wt, h.of, fun i m hi hb => ?_, fun i c y hc hy hi hb => ?_, h.nJ, h.uG, fun i y hy hi hb => ?_, fun i p d hp hd => ?_⟩
 ·simp only [gN, kE, List.getElem?_map] at hi
  cases hq : x.dm[i]? with
  | none => rw [hq] at hi; cases hi
  | some m0 =>
   rw [hq] at hi
   simp only [Option.map_some, Option.some.injEq] at hi
   obtain ⟨h1, h2⟩ := h.dom i m0 hq hb
   have hr : m0.phase = 49 ∨ m0.phase = 48 ∨ m0.phase = 116 := by
    cases hX : hasB X.d i
    ·exact .inr (h2 hX)
    ·exact .inl (h1 hX)
   rw [Yy hr] at hi
   subst hi
   exact ⟨h1, h2⟩
 ·obtain ⟨y0, hy0, rfl⟩ := aCV hc hy
  obtain ⟨h1, h2⟩ := h.fH i c y0 hc hy0 hi hb
  unfold oU
  by_cases hk : c.kind = 112
  ·obtain ⟨f, fs, hs, hf⟩ := Zf hm hc (.inl (by rw [wB hc]; exact hk))
   have hr := h.src hm hc hs hi (h.aE2 hm hc hs hf hi)
   have sX : Dq c = f := by
    unfold Dq
    rw [hs]
    simp
   rw [if_pos ⟨hk, h1⟩, sX, hr, if_neg (by simp), if_neg (by have := h2 hk; omega)]
   exact ⟨h1, h2⟩
  ·rw [if_neg (by simp [hk])]
   exact ⟨h1, h2⟩
 ·simp only [gN, vT, List.getElem?_map] at hy
  cases hq : x.ln[i]? with
  | none => rw [hq] at hy; cases hy
  | some y0 =>
   rw [hq] at hy
   simp only [Option.map_some, Option.some.injEq] at hy
   have h1 := h.pG i y0 hq hi hb
   subst hy
   unfold gO
   rw [if_pos h1]
   exact h1
 ·obtain ⟨p0, h0, h1, h1'⟩ := Yx h.wt (List.getElem?_eq_some_iff.1 hd).1 hp
  obtain ⟨h2, h3⟩ := h.nB i p0 d h0 hd
  by_cases h4 : p0.2.at_ = 1
  ·refine ⟨.inr (.inl (h1' h4)), fun h5 h6 => ?_⟩
   have := h3 h5 h6
   omega
  ·rw [h1 h4]
   exact ⟨h2, h3⟩
end
end
section
def oO (s : aC) (X : bE) (m : List Int) (k id : Int) : bN := ⟨X, dY s, 1, 0, m, [], 0, 0, k, id⟩
def kJ (s : aC) (X : bE) (l k id : Int) : bN := ⟨X, dY s, 0, 0, [], [], l, -1, k, id⟩
structure Plain (m : List Int) : Prop where
 u : nM m
 n : m.length ≤ 1000000
 rep : tP m
 more : ∀ (s : aC) (x : aT), tM s x m 0 = [m.headD 0, IntKind.u32.wrap 0]
section
variable {s : aC} {X : bE} {x : aT} {m : List Int} {k id : Int}
theorem Yb (hm : s.made) (hX : X.of s) (hp : Plain m) : vO s (oO s X m k id) := by
 have h1 := hm.nc
 have h2 := hm.nd
 have h3 := hm.nr
 refine ⟨.inl rfl, hp.u, by simp [oO, nM], hp.n, by simp [oO], ⟨?_, ?_, ?_⟩, Mj hm.rM⟩
 ·show X.d.length ≤ _
  rw [hX.d]; omega
 ·show X.c.length ≤ _
  rw [hX.c]; omega
 ·show X.l.length ≤ _
  rw [hX.l]; omega
theorem Ya (hm : s.made) (hX : X.of s) (hp : Plain m) (hok : bQ s x) (hk : Df s k id) : Xg s x (oO s X m k id) :=
 ⟨hok, Yb hm hX hp, .inr ⟨0, rfl, by omega, hk, hp.rep⟩, fun h => absurd h (by show ¬ (0 : Int) < 0; decide), fun h => absurd h (by show ¬ (0 : Int) < 0; decide)⟩
theorem Rj : lV s x (oO s X m k id) = (tE s (oO s X m k id) (lO s x k id), (lO s x k id).1) := by
 unfold lV
 dsimp only
 rw [if_neg (by rintro ⟨h, _⟩; exact absurd h (by show ¬ (0 : Int) < 0; decide)), if_neg (by show ¬ (0 : Int) < 0; decide)]
 rfl
end
def vK (s : aC) (k id : Int) : Nat → aT → aT → Prop
 | 0, _, _ => False
 | n + 1, x, x' => bQ s x ∧ (lO s x k id = (x', true) ∨ ∃ x1, lO s x k id = (x1, false) ∧ bQ s x1 ∧ (∀ i, iA x1.wt i = 0) ∧ vK s k id n (gN s x1 0) x')
theorem Rw {s : aC} {x x' : aT} {k id : Int} {n : Nat} (hok : bQ s x) (hr : lO s x k id = (x', true)) : vK s k id (n + 1) x x' := ⟨hok, .inl hr⟩
theorem My {s : aC} {x x1 x' : aT} {k id : Int} {n : Nat} (hok : bQ s x) (hr : lO s x k id = (x1, false)) (Jl : bQ s x1) (uK : ∀ i, iA x1.wt i = 0) (h : vK s k id n (gN s x1 0) x') : vK s k id (n + 1) x x' := ⟨hok, .inr ⟨x1, hr, Jl, uK, h⟩⟩
theorem Hr {s : aC} {X : bE} {m : List Int} {k id : Int} (hm : s.made) (hX : X.of s) (hp : Plain m) (hk : Df s k id) : ∀ (n : Nat) {x x' : aT}, vK s k id n x x' → yQ s n (oO s X m k id) x [m.headD 0, IntKind.u32.wrap 0] (kJ s X 0 k id) x'
 | 0, _, _, h => h.elim
 | n + 1, x, x', ⟨hok, .inl hr⟩ => by
  refine ⟨Ya hm hX hp hok hk, .inl ?_⟩
  rw [Rj, hr]
  have he : tE s (oO s X m k id) (x', true) = { oO s X m k id with at_ := -1, h0 := 2, w0 := [m.headD 0, IntKind.u32.wrap 0] } := by
   unfold tE
   rw [if_pos rfl]
   show gR s x' { oO s X m k id with at_ := -1 } 0 0 = _
   unfold gR
   show vX _ 0 2 (tM s x' m 0) = _
   rw [hp.more]
   rfl
  rw [he]
  exact ⟨rfl, rfl, rfl⟩
 | n + 1, x, x', ⟨hok, .inr ⟨x1, hr, Jl, uK, h⟩⟩ => by
  refine ⟨Ya hm hX hp hok hk, .inr ?_⟩
  rw [Rj, hr]
  have he : tE s (oO s X m k id) (x1, false) = oO s X m k id := by
   unfold tE
   rw [if_neg (by simp)]
  rw [he]
  exact ⟨rfl, Jl, uK, Hr hm hX hp hk n h⟩
theorem Hz {st : List dL} {d : Nat} {y : dL} (hy : st[d]? = some y) : kW st (d : Int) = y.phase := by
 have hlt := (List.getElem?_eq_some_iff.1 hy).1
 unfold kW
 rw [if_pos (show cF st.length (d : Int) = true from decide_eq_true (by omega)), Int.toNat_natCast, hy]
 rfl
def sO (y : dL) : Nat := if y.phase = 49 then 0 else if y.phase = 104 then 1 else if y.phase = 114 then 2 + y.left.toNat else 7
theorem aAu (l : Int) (a b : Bool) : sO ⟨114, l, a, b⟩ = 2 + l.toNat := rfl
theorem aAv (l : Int) (a b : Bool) : sO ⟨104, l, a, b⟩ = 1 := rfl
theorem aE9 (l : Int) (a b : Bool) : sO ⟨49, l, a, b⟩ = 0 := rfl
section
variable {s : aC} {X : bE}
theorem aFe {x : aT} {D : Int} {n i : Nat} {p' : bK × cG} {d : bB} (hd : s.aA[i]? = some d) (h : (nZ s x D n)[i]? = some p') : ∃ p, x.dv[i]? = some p ∧ p'.2 = if i < n ∧ d.domain = D then (jM p.2).2 else p.2 := by
 rw [nZ, List.getElem?_mapIdx] at h
 cases hq : x.dv[i]? with
 | none => rw [hq] at h; cases h
 | some q =>
  rw [hq] at h
  simp only [Option.map_some, Option.some.injEq] at h
  refine ⟨q, rfl, ?_⟩
  subst h
  by_cases h1 : i < n
  ·rw [if_pos h1]
   unfold xJ
   rw [hd]
   dsimp only
   by_cases h2 : d.domain = D
   ·rw [if_pos h2, if_pos ⟨h1, h2⟩]
   ·rw [if_neg h2, if_neg fun h => h2 h.2]
  ·rw [if_neg h1, if_neg fun h => h1 h.1]
theorem Rv (hm : s.made) {d : Nat} {c : Dom} (hc : s.domains[d]? = some c) (hX : hasB X.d d = true) (hab : c.above = -1 ∨ (0 ≤ c.above ∧ hasB X.d c.above.toNat = true)) :
  ∀ (n : Nat) (x : aT) (y : dL), Inv s X (some d) none none x → (∀ (i : Nat) (p : bK × cG), x.dv[i]? = some p → p.2.at_ ≠ 1) → x.dm[d]? = some y → (y.phase = 49 ∨ y.phase = 104 ∨ y.phase = 114 ∨ y.phase = 48 ∨ y.phase = 116) → sO y < n →
   ∃ x', vK s 117 d n x x' ∧ Inv s X none none none x'
 | 0, _, _, _, _, _, _, h => absurd h (by omega)
 | n + 1, x, y, hi, hno, hy, gJ, En => by
  have aAR : ∀ x1 : aT, x1.dv = x.dv → ∀ (i : Nat) (p : bK × cG), (gN s x1 0).dv[i]? = some p → p.2.at_ ≠ 1 := fun x1 he i p hp => by
   obtain ⟨p0, h0, h1, _⟩ := Mq hp
   have h2 := hno i p0 (by rw [← he]; exact h0)
   rw [h1 h2]
   exact h2
  have hlt := (List.getElem?_eq_some_iff.1 hy).1
  have hl := hi.ok.dm.left y (List.mem_of_getElem? hy)
  have hact : lO s x 117 d = xE s x d := rfl
  have Jh := Hz hy
  have aAE : ∀ x1 : aT, ∀ y1 : dL, x1.dm[d]? = some y1 → (gN s x1 0).dm[d]? = some (eA y1).2 := fun x1 y1 h1 => by
   simp only [gN, kE, List.getElem?_map, h1, Option.map_some]
  by_cases qX : y.phase = 49
  ·refine ⟨{ x with dv := nZ s x d s.aA.length }, Rw hi.ok ?_, ?_⟩
   ·rw [hact, xE, Jh, if_neg (by omega), if_pos qX]
   ·refine ⟨Td hm.bO hi.ok _ _, hi.wt, hi.of, fun i m' hi' _ => ?_, hi.fH, hi.nJ, hi.uG, hi.pG, fun i p' dd hp' cW => ?_⟩
    by_cases hid : i = d
    ·subst hid
     cases hy.symm.trans hi'
     exact ⟨fun _ => qX, fun h => by rw [hX] at h; cases h⟩
    ·exact hi.dom i m' hi' (by simp [Ne.symm hid])
    ·have Uk := (List.getElem?_eq_some_iff.1 cW).1
     obtain ⟨p0, h0, h1⟩ := aFe cW hp'
     obtain ⟨h2, h3⟩ := hi.nB i p0 dd h0 cW
     rw [h1]
     by_cases hD : dd.domain = (d : Int)
     ·rw [if_pos ⟨Uk, hD⟩]
      have h4 : (jM p0.2).2.at_ = 0 := by
       unfold jM
       rcases h2 with h | h | h
       ·rw [if_pos (by omega)]
        exact h
       ·rw [if_neg (by omega)]
       ·exact absurd h.1 (hno i p0 h0)
      exact ⟨.inl h4, fun _ _ => h4⟩
     ·rw [if_neg fun h => hD h.2]
      have qW := (hm.aA i dd cW).2.2.1
      refine ⟨by have := hno i p0 h0; omega, fun h4 _ => h3 h4 fun h5 => hD ?_⟩
      have h5 := Option.some.inj h5
      omega
  ·by_cases hdn : y.phase = 48 ∨ y.phase = 116
   ·have mQ : (nQ s x.dm d).2 = x.dm.set d ⟨114, c.delay, decide (y.phase = 116), y.keep⟩ := by
     unfold nQ
     rw [show cF x.dm.length (d : Int) = true from decide_eq_true (by omega)]
     simp only [Bool.true_eq_false, if_false, Int.toNat_natCast, hc, hy]
     have h1 : zV y = true := decide_eq_true hdn
     have h2 : Da x.dm c.above = true := by
      unfold Da
      rcases hab with h | ⟨h0, h1⟩
      ·rw [h]; rfl
      ·have hfit := (hm.domains d c hc).1
       have hal : c.above.toNat < x.dm.length := by omega
       obtain ⟨ya, hya⟩ := get_some hal
       have := (hi.dom _ ya hya (by simp; omega)).1 h1
       rw [hya]
       simp [this]
     rw [h1, h2]
     simp
    have Ci : lO s x 117 d = ({ x with dm := x.dm.set d ⟨114, c.delay, decide (y.phase = 116), y.keep⟩ }, false) := by
     rw [hact, xE, Jh, if_pos hdn, mQ]
    have aI2 := (hm.domains d c hc).2
    have hinv : Inv s X (some d) none none { x with dm := x.dm.set d ⟨114, c.delay, decide (y.phase = 116), y.keep⟩ } := by
     refine ⟨?_, hi.wt, hi.of, fun i m' hi' hb => ?_, hi.fH, hi.nJ, hi.uG, hi.pG, hi.nB⟩
     ·have := Yr hm.bO hi.ok.dm d
      rw [mQ] at this
      exact ⟨hi.ok.ck, this, hi.ok.ln, hi.ok.dv, hi.ok.each, hi.ok.wt⟩
     ·have hid : d ≠ i := fun h => hb (by rw [h])
      rw [List.getElem?_set_ne hid] at hi'
      exact hi.dom i m' hi' hb
    have hy1 : ({ x with dm := x.dm.set d ⟨114, c.delay, decide (y.phase = 116), y.keep⟩ } : aT).dm[d]? = some ⟨114, c.delay, decide (y.phase = 116), y.keep⟩ := List.getElem?_set_self hlt
    have hmy : sO y = 7 := by
     unfold sO
     rw [if_neg qX, if_neg (by omega), if_neg (by omega)]
    obtain ⟨x', h1, h2⟩ := Rv hm hc hX hab n _ _ (hinv.tick hm) (aAR _ rfl) (aAE _ _ hy1) (by
     unfold eA
     rw [if_pos rfl]
     split
     ·right; right; left; rfl
     ·right; left; rfl) (by
     unfold eA
     rw [if_pos rfl]
     split
     ·rw [aAu]
      dsimp only
      omega
     ·rw [aAv]
      omega)
    exact ⟨x', My hi.ok Ci hinv.ok hinv.wt h1, h2⟩
   ·have Ci : lO s x 117 d = (x, false) := by
     rw [hact, xE, Jh, if_neg hdn, if_neg qX]
    have El : y.phase = 104 ∨ y.phase = 114 := by omega
    obtain ⟨x', h1, h2⟩ := Rv hm hc hX hab n _ _ (hi.tick hm) (aAR _ rfl) (aAE _ _ hy) (by
     unfold eA
     rcases El with h | h
     ·rw [if_neg (by omega), if_pos h]; left; rfl
     ·rw [if_pos h]
      split
      ·right; right; left; rfl
      ·right; left; rfl) (by
     unfold eA
     rcases El with h | h
     ·rw [if_neg (by omega), if_pos h]
      have : sO y = 1 := by
       unfold sO
       rw [if_neg qX, if_pos h]
      rw [aE9]
      omega
     ·have hmy : sO y = 2 + y.left.toNat := by
       unfold sO
       rw [if_neg qX, if_neg (by omega), if_pos h]
      rw [if_pos h]
      split
      ·rw [aAu]
       omega
      ·rw [aAv]
       omega)
    exact ⟨x', My hi.ok Ci hi.ok hi.wt h1, h2⟩
theorem Zp (hm : s.made) {r : Nat} (hr : r < s.aW.length) :
  ∀ (n : Nat) (x : aT) (y : fV), Inv s X none none (some r) x → x.ln[r]? = some y → (if y.held then y.left.toNat + 1 else 0) < n →
   ∃ x', vK s 114 r n x x' ∧ Inv s X none none none x'
 | 0, _, _, _, _, h => absurd h (by omega)
 | n + 1, x, y, hi, hy, En => by
  have hlt := (List.getElem?_eq_some_iff.1 hy).1
  have hl := hi.ok.ln.left y (List.mem_of_getElem? hy)
  have hact : lO s x 114 r = zB x r := rfl
  have hin : cF x.ln.length (r : Int) = true := decide_eq_true (by omega)
  have Oz : tB x.ln r = y.held := by
   unfold tB
   rw [hin, Int.toNat_natCast, hy]
   rfl
  cases hh : y.held
  ·refine ⟨x, Rw hi.ok ?_, ?_⟩
   ·rw [hact, zB, Oz, hh]
    rfl
   ·refine ⟨hi.ok, hi.wt, hi.of, hi.dom, hi.fH, hi.nJ, hi.uG, fun i y' hi' hx _ => ?_, hi.nB⟩
    by_cases hid : i = r
    ·subst hid
     cases hy.symm.trans hi'
     exact hh
    ·exact hi.pG i y' hi' hx (by simp [Ne.symm hid])
  ·rw [hh] at En
   simp only [if_true] at En
   have aAN : (oX x.ln r).2 = x.ln.set r ⟨y.left, true, true⟩ := by
    unfold oX
    rw [hin]
    simp only [Bool.true_eq_false, if_false, Int.toNat_natCast, hy, hh]
   have Ci : lO s x 114 r = ({ x with ln := x.ln.set r ⟨y.left, true, true⟩ }, false) := by
    rw [hact, zB, Oz, hh, if_pos rfl, aAN]
   have hinv : Inv s X none none (some r) { x with ln := x.ln.set r ⟨y.left, true, true⟩ } := by
    refine ⟨?_, hi.wt, hi.of, hi.dom, hi.fH, hi.nJ, hi.uG, fun i y' hi' hx hb => ?_, hi.nB⟩
    ·have := aAa hi.ok.ln r
     rw [aAN] at this
     exact ⟨hi.ok.ck, hi.ok.dm, this, hi.ok.dv, hi.ok.each, hi.ok.wt⟩
    ·have hid : r ≠ i := fun h => hb (by rw [h])
     rw [List.getElem?_set_ne hid] at hi'
     exact hi.pG i y' hi' hx hb
   have hy1 : (gN s { x with ln := x.ln.set r ⟨y.left, true, true⟩ } 0).ln[r]? = some (gO ⟨y.left, true, true⟩) := by
    simp only [gN, vT, List.getElem?_map, List.getElem?_set_self hlt, Option.map_some]
   obtain ⟨x', h1, h2⟩ := Zp hm hr n _ _ (hinv.tick hm) hy1 (by
    by_cases h0 : 0 < y.left
    ·have ht : gO ⟨y.left, true, true⟩ = ⟨y.left - 1, true, true⟩ := by
      unfold gO
      rw [if_neg (by simp), if_pos h0]
     rw [ht]
     show (y.left - 1).toNat + 1 < n
     omega
    ·have ht : gO ⟨y.left, true, true⟩ = ⟨y.left, false, false⟩ := by
      unfold gO
      rw [if_neg (by simp), if_neg h0, if_pos rfl]
     rw [ht]
     show 0 < n
     omega)
   exact ⟨x', My hi.ok Ci hinv.ok hinv.wt h1, h2⟩
end
end
section
section
variable {s : aC} {X : bE}
theorem Zt (hm : s.made) {c : Nat} {ck : dG} (hc : s.aB[c]? = some ck) (kO : fC s c) (hX : hasB X.c c = true) :
  ∀ (n : Nat) (x : aT) (y : cT), Inv s X none (some c) none x → x.ck[c]? = some y → y.left.toNat < n →
   ∃ x', vK s 99 c n x x' ∧ Inv s X none none none x'
 | 0, _, _, _, _, h => absurd h (by omega)
 | n + 1, x, y, hi, hy, En => by
  have hlt := (List.getElem?_eq_some_iff.1 hc).1
  have Jq := (List.getElem?_eq_some_iff.1 hy).1
  have hl := hi.ok.ck.left y (List.mem_of_getElem? hy)
  have Um : ck.kind = 112 ∨ ck.kind = 103 := by rw [← wB hc]; exact kO
  obtain ⟨f, fs, hs, hf⟩ := Zf hm hc kO
  have eK := Cy hm.aB hc
  rw [hs] at eK
  dsimp only at eK
  rw [Int.toNat_natCast] at eK
  have aF6 : c ∉ eI s f := fun h => by have := aBO hm h; omega
  have qR : (iC s x.ck c true).2 = x.ck.set c ⟨true, y.left⟩ := by
   unfold iC
   rw [show cF s.aB.length (c : Int) = true from decide_eq_true (by omega)]
   simp only [Bool.true_eq_false, if_false, Int.toNat_natCast, hc, hy]
   rw [if_neg (by omega)]
   simp [Ea]
  have hinv : Inv s X none (some c) none { x with ck := x.ck.set c ⟨true, y.left⟩ } := by
   refine ⟨?_, hi.wt, hi.of, hi.dom, fun i ci yi uV Iy hx hb => ?_, hi.nJ, hi.uG, hi.pG, hi.nB⟩
   ·have := Ns hm.bO hi.ok.ck (c : Int) true
    rw [qR] at this
    exact ⟨this, hi.ok.dm, hi.ok.ln, hi.ok.dv, hi.ok.each, hi.ok.wt⟩
   ·have hid : c ≠ i := fun h => hb (by rw [h])
    rw [List.getElem?_set_ne hid] at Iy
    exact hi.fH i ci yi uV Iy hx hb
  have rP : (x.ck.set c ⟨true, y.left⟩)[c]? = some ⟨true, y.left⟩ := List.getElem?_set_self Jq
  have rQ : runs s (x.ck.set c ⟨true, y.left⟩) f = true := hinv.src hm hc hs hX (fun j hj => by cases hj; exact aF6)
  have hrc : kU s (x.ck.set c ⟨true, y.left⟩) c = lU ck ⟨true, y.left⟩ := by
   unfold kU
   rw [show cF s.aB.length (c : Int) = true from decide_eq_true (by omega), Int.toNat_natCast, Zm hm.aB hc rP, hs]
   dsimp only
   rw [Int.toNat_natCast, rQ]
   simp
  have hact : lO s x 99 c = Cx s x c := rfl
  by_cases mQ : lU ck ⟨true, y.left⟩ = true
  ·refine ⟨{ x with ck := x.ck.set c ⟨true, y.left⟩ }, Rw hi.ok ?_, ?_⟩
   ·rw [hact, Cx, qR, hrc, mQ]
    rfl
   ·refine ⟨hinv.ok, hi.wt, hi.of, hi.dom, fun i ci yi uV Iy hx _ => ?_, hi.nJ, (fun _ h => by cases h), hi.pG, hi.nB⟩
    by_cases hid : i = c
    ·subst hid
     cases hc.symm.trans uV
     cases rP.symm.trans Iy
     refine ⟨rfl, fun Vp => ?_⟩
     unfold lU at mQ
     rw [if_pos Vp] at mQ
     simpa using mQ
    ·exact hinv.fH i ci yi uV Iy hx (by simp [Ne.symm hid])
  ·have Vp : ck.kind = 112 ∧ y.left ≠ 0 := by
    unfold lU at mQ
    rcases Um with h | h
    ·rw [if_pos h] at mQ
     exact ⟨h, by simpa using mQ⟩
    ·rw [if_neg (by omega), if_pos h] at mQ
     exact absurd rfl mQ
   have aFx : lU ck ⟨true, y.left⟩ = false := by simpa using mQ
   obtain ⟨cf, Et⟩ := get_some (l := s.aB) (i := f) (by omega)
   have aFX := Cy hm.aB Et
   have Ci : lO s x 99 c = ({ x with ck := x.ck.set c ⟨true, y.left⟩ }, false) := by
    rw [hact, Cx, qR, hrc, aFx, eK, aFX]
    have h1 : kU s (x.ck.set c ⟨true, y.left⟩) (f : Int) = true := by
     unfold kU
     rw [show cF s.aB.length (f : Int) = true from decide_eq_true (by omega), Int.toNat_natCast, rQ]
     rfl
    simp [h1]
   have sX : Dq ck = f := by
    unfold Dq
    rw [hs]
    simp
   have Oh : (gN s { x with ck := x.ck.set c ⟨true, y.left⟩ } 0).ck[c]? = some ⟨true, y.left - 1⟩ := by
    show (gP s (x.ck.set c ⟨true, y.left⟩))[c]? = _
    rw [aCW hc rP]
    unfold oU
    rw [if_pos ⟨Vp.1, rfl⟩, sX, rQ, if_neg (by simp), if_pos (by show 0 < y.left; omega)]
   obtain ⟨x', h1, h2⟩ := Zt hm hc kO hX n _ _ (hinv.tick hm) Oh (by dsimp only; omega)
   exact ⟨x', My hi.ok Ci hinv.ok hinv.wt h1, h2⟩
end
section
variable {s : aC} {X : bE} {m : List Int}
def mY (s : aC) (X : bE) (l k id : Int) (m : List Int) : bN := ⟨X, dY s, 1, 0, m, [], l, -1, k, id⟩
theorem Mi {l k id : Int} : mZ (kJ s X l k id) 0 m = (0, mY s X l k id m) := by simp [mZ, cF, kJ, mY]
theorem Dh {l k id : Int} (hl : l = 0 ∨ l = 1) : nY (mY s X l k id m) = some 0 := by
 rcases hl with rfl | rfl <;> rfl
theorem Xz {l k id : Int} (hm : s.made) (hX : X.of s) (hp : Plain m) (hl : l = 0 ∨ l = 1) : vO s (mY s X l k id m) := by
 obtain ⟨h1, h2, h3, h4, h5, h6, h7⟩ := Yb (k := k) (id := id) hm hX hp
 exact ⟨hl, h2, h3, h4, h5, h6, h7⟩
theorem Mv {n : Nat} {x x' : aT} {l k0 i0 k id : Int} {a : List Int} {z' : bN} (hm : s.made) (hX : X.of s) (hp : Plain m) (hl : l = 0 ∨ l = 1) (hok : bQ s x) (rX : jZ s X (dY s) (iT s x) 0 m = (0, k, id)) (zJ : k ≠ 0) (hk : Df s k id)
  (h : yQ s (n + 1) (oO s (cE X 0 k id) m k id) x a z' x') : yQ s (n + 1) (mY s X l k0 i0 m) x a z' x' := by
 have hd : iR s x (mY s X l k0 i0 m) 0 = (0, k, id) := rX
 have kG : iZ s x (mY s X l k0 i0 m) = (oO s (cE X 0 k id) m k id, true) := by
  unfold iZ
  rw [Dh hl]
  dsimp only
  unfold uC
  dsimp only
  rw [hd, if_neg zJ]
  rfl
 have hst : lV s x (mY s X l k0 i0 m) = lV s x (oO s (cE X 0 k id) m k id) := by
  rw [Rj]
  unfold lV
  dsimp only
  rw [kG, if_neg (by simp), if_pos (show (mY s X l k0 i0 m).at_ < 0 from (by show (-1 : Int) < 0; decide))]
  rfl
 obtain ⟨_, h2⟩ := h
 refine ⟨⟨hok, Xz hm hX hp hl, .inl (by show (-1 : Int) < 0; decide), fun _ a ha h0 => ?_, fun _ a ha h0 => ?_⟩, ?_⟩
 ·rw [Dh hl] at ha
  cases ha
  rw [hd] at h0
  exact absurd h0 zJ
 ·rw [Dh hl] at ha
  cases ha
  rw [hd]
  exact ⟨hk, hp.rep⟩
 ·rw [hst]
  exact h2
theorem aDe {x : aT} {l k0 i0 : Int} (hm : s.made) (hX : X.of s) (hp : Plain m) (hl : l = 0 ∨ l = 1) (hok : bQ s x) (rX : ∀ wt, jZ s X (dY s) wt 0 m = (0, 0, 0)) :
  yQ s 1 (mY s X l k0 i0 m) x [m.headD 0, IntKind.u32.wrap 0] (kJ s X 0 k0 i0) x := by
 have hd : iR s x (mY s X l k0 i0 m) 0 = (0, 0, 0) := rX _
 have kG : iZ s x (mY s X l k0 i0 m) = ({ mY s X 0 k0 i0 m with h0 := 2, w0 := [m.headD 0, IntKind.u32.wrap 0] }, false) := by
  unfold iZ
  rw [Dh hl]
  dsimp only
  unfold uC
  dsimp only
  rw [hd, if_pos rfl]
  unfold gR
  show (vX _ 0 2 (tM s x m 0), false) = _
  rw [hp.more]
  rfl
 have hst : lV s x (mY s X l k0 i0 m) = ({ mY s X 0 k0 i0 m with h0 := 2, w0 := [m.headD 0, IntKind.u32.wrap 0] }, x) := by
  unfold lV
  dsimp only
  rw [kG, if_pos ⟨by show (-1 : Int) < 0; decide, rfl⟩]
 refine ⟨⟨hok, Xz hm hX hp hl, .inl (by show (-1 : Int) < 0; decide), fun _ a ha _ _ => ?_, fun _ a ha h0 => ?_⟩, .inl ?_⟩
 ·rw [Dh hl] at ha
  cases ha
  exact hp.rep
 ·rw [Dh hl] at ha
  cases ha
  rw [hd] at h0
  exact absurd rfl h0
 ·rw [hst]
  exact ⟨rfl, rfl, rfl⟩
structure Me (m p tk : Int) : Prop where
 pk : (eF m 0 p tk).2 = 0
 un : rJ (eF m 0 p tk).1 = 0
 ty : Cj (eF m 0 p tk).1 = 0
 pr : cH (eF m 0 p tk).1 = p
 ms : cR (eF m 0 p tk).1 = m
 z4 : bX (eF m 0 p tk).1 28 4 = 0
 zp : bX (eF m 0 p tk).1 10 8 = p
 zm : bX (eF m 0 p tk).1 0 8 = m
theorem Bk : Me 4 17 0 := ⟨by decide +kernel, by decide +kernel, by decide +kernel, by decide +kernel, by decide +kernel, by decide +kernel, by decide +kernel, by decide +kernel⟩
theorem Dz : Me 7 20 0 := ⟨by decide +kernel, by decide +kernel, by decide +kernel, by decide +kernel, by decide +kernel, by decide +kernel, by decide +kernel, by decide +kernel⟩
theorem Dy : Me 4 22 0 := ⟨by decide +kernel, by decide +kernel, by decide +kernel, by decide +kernel, by decide +kernel, by decide +kernel, by decide +kernel, by decide +kernel⟩
theorem Nr {m p tk i v : Int} (h : Me m p tk) (hmp : m = 4 ∨ m = 7) (hi : 0 ≤ i ∧ i < 4294967296) (hv : 0 ≤ v ∧ v < 4294967296) : Plain [(eF m 0 p tk).1, i, v] := by
 refine ⟨fun y hy => ?_, by simp, ⟨⟨_, _, rfl, h.z4, fun hh => ?_⟩⟩, fun s x => ?_⟩
 ·simp at hy
  rcases hy with rfl | rfl | rfl
  ·exact aEc _ _ _ _
  ·exact hi
  ·exact hv
 ·rw [h.zp, h.zm] at hh
  omega
 ·unfold tM iD
  simp only [List.headD_cons, h.zp, h.zm]
  rw [if_pos trivial, if_neg (by omega), if_neg (by omega), if_neg (by omega), if_neg (by omega)]
theorem wJ {l : List Bool} {i : Nat} (hi : i < l.length) (j : Nat) : hasB (dI l i true) j = if j = i then true else hasB l j := by
 rw [dI, if_pos ⟨by omega, by omega⟩, Int.toNat_natCast, xT, xT, List.getElem?_set]
 by_cases h : i = j
 ·subst h
  rw [if_pos rfl, if_pos hi, if_pos rfl]
  rfl
 ·rw [if_neg h, if_neg (Ne.symm h)]
theorem Rq {l : List Bool} {i : Nat} (hi : hasB l i = true) : dI l i true = l := by
 have hlt := aFZ hi
 rw [dI, if_pos ⟨by omega, by omega⟩, Int.toNat_natCast]
 refine sM ?_
 rw [xT] at hi
 rw [List.getElem?_eq_getElem hlt] at hi ⊢
 simpa using hi
end
end
section
def Ms (s : aC) (X : bE) (x : aT) (l k i : Int) (m : List Int) (X' : bE) : Prop :=
 ∃ (N : Nat) (l' k' i' : Int) (x' : aT), N ≤ 200 ∧ yQ s N (mY s X l k i m) x [m.headD 0, IntKind.u32.wrap 0] (kJ s X' l' k' i') x' ∧ (l' = 0 ∨ l' = 1) ∧ Inv s X' none none none x'
section
variable {s : aC} {X : bE} {x : aT} {l k0 i0 : Int}
theorem Inv.same (hm : s.made) (hl : l = 0 ∨ l = 1) (hi : Inv s X none none none x) {m : List Int} (hp : Plain m) (rX : ∀ wt, jZ s X (dY s) wt 0 m = (0, 0, 0)) : Ms s X x l k0 i0 m X :=
 ⟨1, 0, k0, i0, x, by omega, aDe hm hi.of hp hl hi.ok rX, .inl rfl, hi⟩
def mP (d : Nat) : List Int := [(eF 4 0 17 0).1, d, 1]
def mC (c : Nat) : List Int := [(eF 7 0 20 0).1, c, 1]
def mL (r : Nat) : List Int := [(eF 4 0 22 0).1, r, 0]
def uA (X : bE) (d : Nat) : bE := ⟨dI X.d d true, X.c, X.l⟩
def vS (X : bE) (c : Nat) : bE := ⟨X.d, dI X.c c true, X.l⟩
def vR (X : bE) (r : Nat) : bE := ⟨X.d, X.c, dI X.l r true⟩
theorem Inv.rest (hi : Inv s X none none none x) : ∀ (i : Nat) (p : bK × cG), x.dv[i]? = some p → p.2.at_ ≠ 1 := fun i p hp => by
 obtain ⟨d, hd⟩ := get_some (l := s.aA) (i := i) (by have := (List.getElem?_eq_some_iff.1 hp).1; have := hi.ok.dv; omega)
 have := (hi.nB i p d hp hd).1
 simp at this
 omega
theorem aGl (hm : s.made) (hi : Inv s X none none none x) {d : Nat} {c : Dom} (hc : s.domains[d]? = some c) (hab : c.above = -1 ∨ (0 ≤ c.above ∧ hasB X.d c.above.toNat = true)) (hh : hasB X.d d = false) : ∃ x', vK s 117 d (8 + 1) x x' ∧ Inv s (uA X d) none none none x' := by
 have hlt := (List.getElem?_eq_some_iff.1 hc).1
 have hX := hi.of
 have jX : d < X.d.length := by rw [hX.d]; exact hlt
 have nF : hasB (uA X d).d d = true := by
  show hasB (dI X.d d true) d = true
  rw [wJ jX, if_pos rfl]
 have hfit := (hm.domains d c hc).1
 have aGj : c.above = -1 ∨ (0 ≤ c.above ∧ hasB (uA X d).d c.above.toNat = true) := by
  rcases hab with h | ⟨h0, h3⟩
  ·exact .inl h
  ·refine .inr ⟨h0, ?_⟩
   show hasB (dI X.d d true) _ = true
   rw [wJ jX, if_neg (by omega)]
   exact h3
 have hinv : Inv s (uA X d) (some d) none none x := by
  refine ⟨hi.ok, hi.wt, ⟨by show (dI _ _ _).length = _; rw [vU]; exact hX.d, hX.c, hX.l⟩, fun i m' hi' hb => ?_, hi.fH, hi.nJ, (fun _ h => by cases h), hi.pG, fun i p dd hp' cW => ?_⟩
  have hid : i ≠ d := fun h => hb (by rw [h])
  have : hasB (uA X d).d i = hasB X.d i := by
   show hasB (dI X.d d true) i = _
   rw [wJ jX, if_neg hid]
  rw [this]
  exact hi.dom i m' hi' (by simp)
  ·obtain ⟨h2, h3⟩ := hi.nB i p dd hp' cW
   refine ⟨by simp at h2; omega, fun h4 h5 => h3 ?_ (by simp)⟩
   have h6 : dd.domain.toNat ≠ d := fun h => h5 (by rw [h])
   have h7 : hasB (dI X.d d true) dd.domain.toNat = true := h4
   rw [wJ jX, if_neg h6] at h7
   exact h7
 obtain ⟨y, hy⟩ := get_some (l := x.dm) (i := d) (by have := hi.ok.dm.len; omega)
 have gJ := (hi.dom d y hy (by simp)).2 hh
 have En : sO y < 8 + 1 := by
  unfold sO
  rw [if_neg (by omega), if_neg (by omega), if_neg (by omega)]
  omega
 exact Rv hm hc nF aGj (8 + 1) x y hinv (hi.rest) hy (by omega) En
theorem aEA (hm : s.made) (hl : l = 0 ∨ l = 1) (hi : Inv s X none none none x) {d : Nat} {c : Dom} (hc : s.domains[d]? = some c) (hab : c.above = -1 ∨ (0 ≤ c.above ∧ hasB X.d c.above.toNat = true)) : Ms s X x l k0 i0 (mP d) (uA X d) := by
 have hlt := (List.getElem?_eq_some_iff.1 hc).1
 have hnd := hm.nd
 have hp : Plain (mP d) := Nr Bk (.inl rfl) ⟨by omega, by omega⟩ ⟨by decide, by decide⟩
 have hX := hi.of
 have hr : dX s (mP d) = (0, 117, (d : Int)) := by
  unfold dX mP
  dsimp only
  rw [Bk.un, Bk.ty, Bk.pr, Bk.ms, if_neg (by simp), show kI 17 4 = some ⟨2, 3, 100, 117, 107⟩ from rfl, show cO 17 4 = ⟨2, 3, 100, 117, 107⟩ from rfl]
  simp [tL, nX, iI.act, iN, hlt]
 cases hh : hasB X.d d
 ·have rX : ∀ wt, jZ s X (dY s) wt 0 (mP d) = (0, 117, (d : Int)) := fun wt => by
   rw [Wn hr (.inl rfl) (by decide) (by rw [if_pos rfl, xA]; exact hh), if_neg]
   rintro ⟨_, h2⟩
   rw [Int.toNat_natCast, hc] at h2
   simp only [Option.any_some, Bool.and_eq_true, decide_eq_true_eq, Bool.not_eq_true'] at h2
   rcases hab with h | ⟨h0, h3⟩
   ·exact h2.1 h
   ·rw [Yn, show c.above = ((c.above.toNat : Nat) : Int) by omega, xA] at h2
    rw [show sV 117 X = X.d from rfl, h3] at h2
    cases h2.2
  have hdone : cE X 0 117 d = uA X d := rfl
  obtain ⟨x', h1, h2⟩ := aGl hm hi hc hab hh
  rw [← hdone] at h2
  exact ⟨8 + 1, 0, 117, d, x', by omega, Mv hm hX hp hl hi.ok (rX _) (by decide) ⟨.inl rfl, fun h => absurd h (by decide)⟩ (Hr hm h2.of hp ⟨.inl rfl, fun h => absurd h (by decide)⟩ _ h1), .inl rfl, h2⟩
 ·have hs : uA X d = X := by
   unfold uA
   rw [Rq hh]
  rw [hs]
  exact hi.same hm hl hp fun wt => Wm hr (by rw [if_pos rfl, xA]; exact hh)
theorem aED (hm : s.made) (hl : l = 0 ∨ l = 1) (hi : Inv s X none none none x) {c : Nat} {ck : dG} (hc : s.aB[c]? = some ck) (kO : fC s c) (hsrc : ∀ j ∈ eI s c, j ≠ c → fC s j → hasB X.c j = true) : Ms s X x l k0 i0 (mC c) (vS X c) := by
 have hlt := (List.getElem?_eq_some_iff.1 hc).1
 have hnc := hm.nc
 have hp : Plain (mC c) := Nr Dz (.inr rfl) ⟨by omega, by omega⟩ ⟨by decide, by decide⟩
 have hX := hi.of
 have hr : dX s (mC c) = (0, 99, (c : Int)) := by
  unfold dX mC
  dsimp only
  rw [Dz.un, Dz.ty, Dz.pr, Dz.ms, if_neg (by simp), show kI 20 7 = some ⟨2, 2, 111, 99, 0⟩ from rfl, show cO 20 7 = ⟨2, 2, 111, 99, 0⟩ from rfl]
  simp [tL, nX, iI.act, iN, hlt, kO]
 cases hh : hasB X.c c
 ·have rX : ∀ wt, jZ s X (dY s) wt 0 (mC c) = (0, 99, (c : Int)) := fun wt => by
   rw [Wn hr (.inr (.inl rfl)) (by decide) (by rw [if_pos rfl, xA]; exact hh), if_neg]
   rintro ⟨h2, _⟩
   cases h2
  have hdone : cE X 0 99 c = vS X c := rfl
  have eN : c < X.c.length := by rw [hX.c]; exact hlt
  have eB : ∀ j, hasB (vS X c).c j = if j = c then true else hasB X.c j := fun j => wJ eN j
  have zN : hasB (vS X c).c c = true := by rw [eB, if_pos rfl]
  have hinv : Inv s (vS X c) none (some c) none x := by
   refine ⟨hi.ok, hi.wt, ⟨hX.d, by show (dI _ _ _).length = _; rw [vU]; exact hX.c, hX.l⟩, hi.dom, fun i ci y uV hy hx hb => ?_, fun i hx j hj hsj => ?_, fun c' xR i hx hne hmem => ?_, hi.pG, hi.nB⟩
   ·have hid : i ≠ c := fun h => hb (by rw [h])
    rw [eB, if_neg hid] at hx
    exact hi.fH i ci y uV hy hx (by simp)
   ·rw [eB]
    by_cases Uq : j = c
    ·rw [if_pos Uq]
    ·rw [if_neg Uq]
     rw [eB] at hx
     by_cases hic : i = c
     ·subst hic
      exact hsrc j hj Uq hsj
     ·rw [if_neg hic] at hx
      exact hi.nJ i hx j hj hsj
   ·cases xR
    rw [eB, if_neg hne] at hx
    have := hi.nJ i hx c hmem kO
    rw [hh] at this
    cases this
  obtain ⟨y, hy⟩ := get_some (l := x.ck) (i := c) (by have := hi.ok.ck.len; omega)
  have hyl := hi.ok.ck.left y (List.mem_of_getElem? hy)
  obtain ⟨x', h1, h2⟩ := Zt hm hc kO zN (8 + 1) x y hinv hy (by omega)
  rw [← hdone] at h2
  exact ⟨8 + 1, 0, 99, c, x', by omega, Mv hm hX hp hl hi.ok (rX _) (by decide) ⟨.inr (.inl rfl), fun _ => ⟨by omega, by omega⟩⟩ (Hr hm h2.of hp ⟨.inr (.inl rfl), fun _ => ⟨by omega, by omega⟩⟩ _ h1), .inl rfl, h2⟩
 ·have hs : vS X c = X := by
   unfold vS
   rw [Rq hh]
  rw [hs]
  exact hi.same hm hl hp fun wt => Wm hr (by rw [if_pos rfl, xA]; exact hh)
theorem aGm (hm : s.made) (hi : Inv s X none none none x) {r : Nat} (hlt : r < s.aW.length) (hh : hasB X.l r = false) : ∃ x', vK s 114 r (8 + 1) x x' ∧ Inv s (vR X r) none none none x' := by
 have hX := hi.of
 have eN : r < X.l.length := by rw [hX.l]; exact hlt
 have eB : ∀ j, hasB (vR X r).l j = if j = r then true else hasB X.l j := fun j => wJ eN j
 have hinv : Inv s (vR X r) none none (some r) x := by
  refine ⟨hi.ok, hi.wt, ⟨hX.d, hX.c, by show (dI _ _ _).length = _; rw [vU]; exact hX.l⟩, hi.dom, hi.fH, hi.nJ, (fun _ h => by cases h), fun i y hy hx hb => ?_, hi.nB⟩
  have hid : i ≠ r := fun h => hb (by rw [h])
  rw [eB, if_neg hid] at hx
  exact hi.pG i y hy hx (by simp)
 obtain ⟨y, hy⟩ := get_some (l := x.ln) (i := r) (by have := hi.ok.ln.len; omega)
 have hyl := hi.ok.ln.left y (List.mem_of_getElem? hy)
 exact Zp hm hlt (8 + 1) x y hinv hy (by split <;> omega)
theorem aEB (hm : s.made) (hl : l = 0 ∨ l = 1) (hi : Inv s X none none none x) {r : Nat} (hlt : r < s.aW.length) : Ms s X x l k0 i0 (mL r) (vR X r) := by
 have fM := hm.nr
 have hp : Plain (mL r) := Nr Dy (.inl rfl) ⟨by omega, by omega⟩ ⟨by decide, by decide⟩
 have hX := hi.of
 have hr : dX s (mL r) = (0, 114, (r : Int)) := by
  unfold dX mL
  dsimp only
  rw [Dy.un, Dy.ty, Dy.pr, Dy.ms, if_neg (by simp), show kI 22 4 = some ⟨2, 2, 114, 97, 0⟩ from rfl, show cO 22 4 = ⟨2, 2, 114, 97, 0⟩ from rfl]
  simp [tL, nX, iI.act, iN, hlt]
 cases hh : hasB X.l r
 ·have rX : ∀ wt, jZ s X (dY s) wt 0 (mL r) = (0, 114, (r : Int)) := fun wt => by
   rw [Wn hr (.inr (.inr rfl)) (by decide) (by rw [if_pos rfl, xA]; exact hh), if_neg]
   rintro ⟨h2, _⟩
   cases h2
  have hdone : cE X 0 114 r = vR X r := rfl
  obtain ⟨x', h1, h2⟩ := aGm hm hi hlt hh
  rw [← hdone] at h2
  exact ⟨8 + 1, 0, 114, r, x', by omega, Mv hm hX hp hl hi.ok (rX _) (by decide) ⟨.inr (.inr (.inl rfl)), fun h => absurd h (by decide)⟩ (Hr hm h2.of hp ⟨.inr (.inr (.inl rfl)), fun h => absurd h (by decide)⟩ _ h1), .inl rfl, h2⟩
 ·have hs : vR X r = X := by
   unfold vR
   rw [Rq hh]
  rw [hs]
  exact hi.same hm hl hp fun wt => Wm hr (by rw [if_pos rfl, xA]; exact hh)
theorem aCv (i : Nat) : hasB (dY s).d i = false := by
 show hasB (List.replicate _ false) i = false
 rw [xT, List.getElem?_replicate]
 split <;> rfl
theorem aFl (hm : s.made) : Inv s (dY s) none none none (hw0 s) := by
 have h0 : ∀ (n i : Nat), hasB (List.replicate n false) i = false := fun n i => by
  rw [xT, List.getElem?_replicate]
  split <;> rfl
 refine ⟨Tl hm.bO, fun i => ?_, ⟨by simp [dY], by simp [dY], by simp [dY]⟩, fun i m hi' _ => ⟨fun h => ?_, fun _ => ?_⟩, fun i c y _ _ h _ => ?_, fun i h => ?_, (fun _ h => by cases h), fun i y _ h _ => ?_, fun i p d hp _ => ?_⟩
 ·unfold iA hw0
  simp only [List.getElem?_map]
  cases s.aA[i]? <;> rfl
 ·rw [show hasB (dY s).d i = false from h0 _ _] at h
  cases h
 ·simp only [hw0, List.getElem?_map] at hi'
  cases hq : s.domains[i]? with
  | none => rw [hq] at hi'; cases hi'
  | some q => rw [hq] at hi'; cases hi'; exact .inl rfl
 ·rw [show hasB (dY s).c i = false from h0 _ _] at h
  cases h
 ·rw [show hasB (dY s).c i = false from h0 _ _] at h
  cases h
 ·rw [show hasB (dY s).l i = false from h0 _ _] at h
  cases h
 ·have h1 : p.2.at_ = 0 := by
   simp only [hw0, List.getElem?_map] at hp
   cases hq : s.aA[i]? with
   | none => rw [hq] at hp; cases hp
   | some q => rw [hq] at hp; cases hp; rfl
  exact ⟨.inl h1, fun _ _ => h1⟩
end
end
section
def Path (s : aC) : Int → List Nat → Nat → Prop
 | v, [], t => v = t
 | v, d :: r, t => (∃ c, s.domains[d]? = some c ∧ c.above = v) ∧ Path s d r t
theorem Path.at_ {s : aC} {t : Nat} : ∀ (l : List Nat) (v : Int) (i d : Nat), Path s v l t → l[i]? = some d → ∃ c, s.domains[d]? = some c ∧ ((i = 0 ∧ c.above = v) ∨ ∃ j e, i = j + 1 ∧ l[j]? = some e ∧ c.above = (e : Int))
 | [], _, i, _, _, h => by simp at h
 | d0 :: r, v, 0, d, hp, h => by
  simp at h
  subst h
  obtain ⟨c, h1, h2⟩ := hp.1
  exact ⟨c, h1, .inl ⟨rfl, h2⟩⟩
 | d0 :: r, v, i + 1, d, hp, h => by
  obtain ⟨c, h1, h2⟩ := Path.at_ r d0 i d hp.2 (by simpa using h)
  refine ⟨c, h1, .inr ?_⟩
  rcases h2 with ⟨rfl, h3⟩ | ⟨j, e, rfl, h3, h4⟩
  ·exact ⟨0, d0, rfl, rfl, h3⟩
  ·exact ⟨j + 1, e, rfl, by simpa using h3, h4⟩
theorem Path.mem {s : aC} {t : Nat} : ∀ (l : List Nat) (v : Int), Path s v l t → v ≠ t → t ∈ l
 | [], v, hp, h => absurd hp h
 | d :: r, v, hp, _ => by
  by_cases h : (d : Int) = t
  ·have : d = t := by omega
   rw [this]; simp
  ·exact List.mem_cons_of_mem _ (Path.mem r d hp.2 h)
theorem Path.lt {s : aC} {t : Nat} (ht : t < s.domains.length) : ∀ (l : List Nat) (v : Int), Path s v l t → ∀ d ∈ l, d < s.domains.length
 | [], _, _, d, h => by simp at h
 | d0 :: r, v, hp, d, h => by
  rcases List.mem_cons.1 h with rfl | h
  ·obtain ⟨c, h1, _⟩ := hp.1
   exact (List.getElem?_eq_some_iff.1 h1).1
  ·exact Path.lt ht r _ hp.2 d h
theorem Path.le {s : aC} (hm : s.made) {t : Nat} : ∀ (l : List Nat) (v : Int), Path s v l t → v ≤ t ∧ ∀ d ∈ l, d ≤ t
 | [], v, hp => ⟨by have : v = t := hp; omega, fun d h => by simp at h⟩
 | d0 :: r, v, hp => by
  obtain ⟨h1, h2⟩ := Path.le hm r _ hp.2
  obtain ⟨c, h3, h4⟩ := hp.1
  have h5 := (hm.domains d0 c h3).1
  refine ⟨by omega, fun d h => ?_⟩
  rcases List.mem_cons.1 h with rfl | h
  ·omega
  ·exact h2 d h
theorem aBL {s : aC} (hm : s.made) : ∀ (i c e : Nat), (eI s c)[i]? = some e → eI s e = (eI s c).drop i
 | 0, c, e, h => by
  have hlt : c < s.aB.length := by
   rcases Nat.lt_or_ge c s.aB.length with h' | h'
   ·exact h'
   ·exfalso
    have hn : s.aB[c]? = none := List.getElem?_eq_none h'
    have : eI s c = [] := by
     unfold eI
     cases hk : s.aB.length with
     | zero => rfl
     | succ k => unfold kZ; rw [hn]
    rw [this] at h
    simp at h
  obtain ⟨ck, hc⟩ := get_some hlt
  have eK := Cy hm.aB hc
  rw [eK] at h
  simp at h
  rw [← h, List.drop_zero]
 | i + 1, c, e, h => by
  have hlt : c < s.aB.length := by
   rcases Nat.lt_or_ge c s.aB.length with h' | h'
   ·exact h'
   ·exfalso
    have hn : s.aB[c]? = none := List.getElem?_eq_none h'
    have : eI s c = [] := by
     unfold eI
     cases hk : s.aB.length with
     | zero => rfl
     | succ k => unfold kZ; rw [hn]
    rw [this] at h
    simp at h
  obtain ⟨ck, hc⟩ := get_some hlt
  have eK := Cy hm.aB hc
  cases hs : ck.src with
  | nil =>
   rw [hs] at eK
   dsimp only at eK
   rw [eK] at h
   simp at h
  | cons f fs =>
   rw [hs] at eK
   dsimp only at eK
   rw [eK] at h ⊢
   rw [List.getElem?_cons_succ] at h
   rw [List.drop_succ_cons]
   exact aBL hm i _ e h
theorem Inv.alive {s : aC} {X : bE} {x : aT} (hm : s.made) (hi : Inv s X none none none x) {i : Nat} {d : bB} (hd : s.aA[i]? = some d) (h1 : hasB X.d d.domain.toNat = true) (h2 : ∀ j ∈ eI s d.clock.toNat, fC s j → hasB X.c j = true) (h3 : hasB X.l d.reset.toNat = true) : Ah s x i = true := by
 have hf := hm.aA i d hd
 obtain ⟨f1, f2, f3, f4, f5, f6, _⟩ := hf
 have hrun : kU s x.ck d.clock = true := by
  unfold kU
  rw [show cF s.aB.length d.clock = true from decide_eq_true (by omega)]
  unfold runs
  rw [Bool.true_and, List.all_eq_true]
  intro j hj
  have hlt := Wu hj
  obtain ⟨c, hc⟩ := get_some hlt
  obtain ⟨y, hy⟩ := get_some (l := x.ck) (i := j) (by have := hi.ok.ck.len; omega)
  unfold Dn
  rw [hc, hy]
  dsimp only
  unfold lU
  by_cases k1 : c.kind = 112
  ·rw [if_pos k1]
   obtain ⟨k2, k3⟩ := hi.fH j c y hc hy (h2 j hj (.inl (by rw [wB hc]; exact k1))) (by simp)
   rw [k2, k3 k1]
   rfl
  ·rw [if_neg k1]
   by_cases k4 : c.kind = 103
   ·rw [if_pos k4]
    exact (hi.fH j c y hc hy (h2 j hj (.inr (by rw [wB hc]; exact k4))) (by simp)).1
   ·rw [if_neg k4]
 obtain ⟨m, Jo⟩ := get_some (l := x.dm) (i := d.domain.toNat) (by have := hi.ok.dm.len; omega)
 have gJ : kW x.dm d.domain = 49 := by
  have := Hz Jo
  rw [show ((d.domain.toNat : Nat) : Int) = d.domain by omega] at this
  rw [this]
  exact (hi.dom _ m Jo (by simp)).1 h1
 obtain ⟨y, hy⟩ := get_some (l := x.ln) (i := d.reset.toNat) (by have := hi.ok.ln.len; omega)
 have Oz : tB x.ln d.reset = false := by
  unfold tB
  rw [show cF x.ln.length d.reset = true from decide_eq_true (by have := hi.ok.ln.len; omega), hy]
  exact hi.pG _ y hy h3 (by simp)
 unfold Ah
 rw [hd]
 dsimp only
 rw [hrun, gJ, Oz]
 rfl
theorem Inv.state {s : aC} {X : bE} {x : aT} (hi : Inv s X none none none x) {i : Nat} {d : bB} (hd : s.aA[i]? = some d) (h1 : hasB X.d d.domain.toNat = true) : uD x i = 114 := by
 have hlt := (List.getElem?_eq_some_iff.1 hd).1
 obtain ⟨p, hp⟩ := get_some (l := x.dv) (i := i) (by have := hi.ok.dv; omega)
 unfold uD
 rw [hp]
 show lF p.2.at_ = 114
 rw [(hi.nB i p d hp hd).2 h1 (by simp)]
 rfl
end
section
set_option maxHeartbeats 4000000
set_option maxRecDepth 20000
def Fw : Type := bE × Int × Int × Int × aT
def Qj (s : aC) (d : bB) (a : Fw) : Prop := (a.2.1 = 0 ∨ a.2.1 = 1) ∧ Inv s a.1 none none none a.2.2.2.2 ∧ (hasB a.1.d d.domain.toNat = true ∧ ∀ i, hasB a.1.d i = true → i ≤ d.domain.toNat) ∧ (∀ j ∈ eI s d.clock.toNat, fC s j → hasB a.1.c j = true) ∧ hasB a.1.l d.reset.toNat = true
def Lx (f : Nat) (hL : HL) (s : aC) (a : Fw) : HP := bG f hL s (kJ s a.1 a.2.1 a.2.2.1 a.2.2.2.1) a.2.2.2.2
theorem Og : IntKind.i32.wrap (IntKind.u32.wrap 0) = 0 := by decide +kernel
theorem aFm {l : List Int} : ∀ u ∈ aO l, u.oneCell' = true := fun u hu => by
 obtain ⟨i, _, rfl⟩ := List.mem_map.1 hu
 rfl
theorem Yp (f : Nat) (hL : HL) (s : aC) (hm : s.made) (aV : fB hL s) (X : bE) (l0 k0 i0 : Int) (x : aT) (pM : l0 = 0 ∨ l0 = 1) (hinv : Inv s X none none none x) (A1 A2 A3 A4 : Option Addr) (n1 k1 n2 k2 n3 k3 n4 k4 : Nat) (dv : Nat) (d : bB) (Cd : s.aA[dv]? = some d) (pI : ∀ i, hasB X.d i = true → i ≤ d.domain.toNat) (w : World) (F : Nat → Prop) (hp : (bG f hL s (kJ s X l0 k0 i0) x).sat F w) (hF : ∀ b, F b → b < w.heap.size)
  (mF : yP ⟨w, fun b => b < w.heap.size ∧ ¬ F b⟩ s A1 n1 A2 n2 A3 n3 A4 n4) (eG : jG ⟨w, fun b => b < w.heap.size ∧ ¬ F b⟩) :
  Calls Tryz.prog 29 #[.pointer (some ⟨f, 0, none⟩), .pointer (some ⟨hL.h, 0, none⟩), .agg #[.slice A1 n1 k1, .slice A2 n2 k2, .slice A3 n3 k3, .slice A4 n4 k4], .int .i64 (dv : Int)] w (fun y w' => ∃ a : Fw, y = .returned (.bool true) ∧ Qj s d a ∧ ∃ F', (Lx f hL s a).sat F' w' ∧ bI w w' F F') := by
 have hH := hm.bO
 have hnd := hm.nd
 have hnc := hm.nc
 have fM := hm.nr
 have zI := hm.nv
 have aI0 := (List.getElem?_eq_some_iff.1 Cd).1
 obtain ⟨rfl, rfl, rfl, rfl⟩ := mF.len
 obtain ⟨f1, f2, f3, f4, f5, f6, _⟩ := hm.aA dv d Cd
 obtain ⟨dc, Wd⟩ : ∃ n : Nat, d.clock = (n : Int) := ⟨d.clock.toNat, by omega⟩
 obtain ⟨dd, Ct⟩ : ∃ n : Nat, d.domain = (n : Int) := ⟨d.domain.toNat, by omega⟩
 obtain ⟨dr, Wb⟩ : ∃ n : Nat, d.reset = (n : Int) := ⟨d.reset.toNat, by omega⟩
 have aFV : (eI s dc).length ≤ 9 := Nat.le_trans (Qa s _ _) hnc.2
 obtain ⟨db, Ks, dr0, Ki, zL, jX, ⟨RA, Rn, Rk, NA, Nn, Nk, rfl, _⟩, hdc⟩ := eO.Hv mF.dev Cd
 rw [Wd, Ct, Wb] at hdc
 rw [Wd] at f1 f2
 rw [Ct] at f3 f4
 rw [Wb] at f5 f6
 unfold Qj
 rw [Wd, Ct, Wb]
 rw [Ct] at pI
 simp only [Int.toNat_natCast] at pI ⊢
 refine XK.dD (p := bG f hL s (kJ s X l0 k0 i0) x) (F := F) (vs := [.pointer (some ⟨f, 0, none⟩), .pointer (some ⟨hL.h, 0, none⟩), .agg #[.slice A1 s.aB.length k1, .slice A2 s.domains.length k2, .slice A3 s.aW.length k3, .slice A4 s.aA.length k4], .int .i64 (dv : Int)]) Tryz.func29 rfl Tryz.ntmps29 (by simp) hp hF ?_
 generalize eV : (⟨w, fun b => b < w.heap.size ∧ ¬ F b⟩ : Piece) = R0 at mF eG zL hdc ⊢
 refine XK.go ?_
 refine bY rfl (by decide) fun g6 => ?_
 dsimp only [Value.cells]
 refine XK.go ?_
 refine kd (dat dv (Ks + dv * 6) (hx := by rw [← Ki]; rfl)) ?_
 refine kd (pR (vs := [.int .i64 (dc : Int), .int .i64 (dd : Int), .int .i64 (dr : Int), .int .u32 d.eS, .slice RA Rn Rk, .slice NA Nn Nk]) rfl (.of fun k v hv => Rd.ro (p := R0) (by simp) zL (hdc k v hv))) ?_
 refine bZ (cs := [.int .i64 0, .int .i64 0, .int .i64 0, .int .u32 0, .slice none 0 0, .slice none 0 0]) (aM (by kernel_rfl)) (by decide) fun g9 => ?_
 refine XK.go ?_
 refine XK.weak [0, 1, 2] rfl (by decide) (R' := [R0, R0]) (by simp) ?_
 refine XK.aK [(11, .int .i64 (dd : Int)), (10, .slice none 0 0), (9, .pointer (some ⟨g9, 0, none⟩)), (6, .pointer (some ⟨g6, 0, none⟩)), (0, .pointer (some ⟨f, 0, none⟩)), (1, .pointer (some ⟨hL.h, 0, none⟩))] ?_
 refine XK.loop (fun m e R H => ∃ (v : Int) (l : List Nat) (A : Option Addr) (cc : Nat) (q : Piece), -1 ≤ v ∧ v < s.domains.length ∧ m = (v + 1).toNat ∧ l.length + (v + 1).toNat ≤ s.domains.length ∧ Path s v l dd ∧ aH q 1 A l.length (aO (fR l)) ∧ e = [(11, .int .i64 v), (10, .slice A l.length cc), (9, .pointer (some ⟨g9, 0, none⟩)), (6, .pointer (some ⟨g6, 0, none⟩)), (0, .pointer (some ⟨f, 0, none⟩)), (1, .pointer (some ⟨hL.h, 0, none⟩))] ∧ R = [q, R0] ∧ H = [HP.aF g9 78 [.int .i64 (dc : Int), .int .i64 (dd : Int), .int .i64 (dr : Int), .int .u32 d.eS, .slice RA Rn Rk, .slice NA Nn Nk], HP.aF g6 29 [.slice A1 s.aB.length k1, .slice A2 s.domains.length k2, .slice A3 s.aW.length k3, .slice A4 s.aA.length k4], bG f hL s (kJ s X l0 k0 i0) x]) (dd + 1) ⟨dd, [], none, 0, R0, by omega, by omega, by omega, by simp; omega, rfl, aH.nil _ _, rfl, rfl, rfl⟩ fun m e R H hI => ?_
 obtain ⟨v, l, A, cc, q, Ek, hv2, rfl, hlen, Ji, hq, rfl, rfl, rfl⟩ := hI
 refine XK.go ?_
 refine XK.if_ rfl (fun Jb => ?_) (fun Jb => ?_)
 ·have Jb : 0 ≤ v := Jb
  obtain ⟨vn, rfl⟩ : ∃ n : Nat, v = (n : Int) := ⟨v.toNat, by omega⟩
  obtain ⟨c, hc⟩ := get_some (l := s.domains) (i := vn) (by omega)
  have hfit := (hm.domains vn c hc).1
  obtain ⟨ab, Wz, ar, Kj, Vc, hal, rfl, hac⟩ := eO.Hv mF.dom hc
  refine XK.go ?_
  refine eP (el := 3) (sz := 1) (zs := [.int .i64 0]) (by kernel_rfl) (aM (by kernel_rfl)) (by kernel_rfl) rfl (by decide) (by decide) rfl (by simp [aR, aU, Value.cells, List.range_succ, List.set]; rfl) (by decide) fun gs => ?_
  refine XK.vJ 0 (n := 1) (c := 1) (sz := 1) rfl rfl rfl (by omega) (by decide) ?_
  dsimp only [List.set]
  refine XK.go ?_
  refine fI 0 1 8 l.length (n' := l.length + 1) (el := 3) (by kernel_rfl) (by kernel_rfl) (by decide) rfl rfl rfl (qI (p := q) (by simp) hq) aFm (by omega) (by omega) (by omega) (by decide) fun Aq cq => ?_
  dsimp only [List.set]
  refine XK.go ?_
  refine kd (dat vn (Wz + vn * 3) (hx := by rw [← Kj]; rfl)) ?_
  refine XK.go ?_
  refine kd (bR rfl (Rd.ro (p := R0) (by simp) Vc (hac 0 _ rfl))) ?_
  refine XK.go ?_
  refine XK.still [] [0] [1, 2, 3] (by simp) rfl (by decide) (by decide) fun q2 jW _ hfr => ?_
  obtain ⟨F2, kF, kB⟩ := jW 0 _ (by simp) rfl
  have fF : aH q2 1 Aq (l.length + 1) (aO (fR (vn :: l))) := aH.own ⟨F2, kF, kB⟩
  refine XK.weak [0, 1, 2] rfl (by decide) (R' := [q2, R0]) (by simp) ?_
  refine XK.aK [(11, .int .i64 c.above), (10, .slice Aq (vn :: l).length cq), (9, .pointer (some ⟨g9, 0, none⟩)), (6, .pointer (some ⟨g6, 0, none⟩)), (0, .pointer (some ⟨f, 0, none⟩)), (1, .pointer (some ⟨hL.h, 0, none⟩))] ?_
  exact XK.round (c.above + 1).toNat (by omega) ⟨c.above, vn :: l, Aq, cq, q2, by omega, by omega, rfl, by simp; omega, ⟨⟨c, hc, rfl⟩, Ji⟩, fF, rfl, rfl, rfl⟩
 have Jb : ¬ 0 ≤ v := Jb
 obtain rfl : v = -1 := by omega
 have hmem := Path.mem l (-1) Ji (by omega)
 have aF1 := Path.lt (by omega) l (-1) Ji
 have aF2 := (Path.le hm l (-1) Ji).2
 have hl4 : l.length ≤ 1000000 := by omega
 clear hlen
 refine XK.go ?_
 refine XK.aK [(12, .int .i64 0), (10, .slice A l.length cc), (9, .pointer (some ⟨g9, 0, none⟩)), (6, .pointer (some ⟨g6, 0, none⟩)), (0, .pointer (some ⟨f, 0, none⟩)), (1, .pointer (some ⟨hL.h, 0, none⟩))] ?_
 refine XK.loop (fun m e R H => ∃ (i : Nat) (X : bE) (l0 k0 i0 : Int) (x : aT), i ≤ l.length ∧ m = l.length - i ∧ (l0 = 0 ∨ l0 = 1) ∧ Inv s X none none none x ∧ ((∀ j e, j < i → l[j]? = some e → hasB X.d e = true) ∧ ∀ i, hasB X.d i = true → i ≤ dd) ∧ e = [(12, .int .i64 (i : Int)), (10, .slice A l.length cc), (9, .pointer (some ⟨g9, 0, none⟩)), (6, .pointer (some ⟨g6, 0, none⟩)), (0, .pointer (some ⟨f, 0, none⟩)), (1, .pointer (some ⟨hL.h, 0, none⟩))] ∧ R = [q, R0] ∧ H = [HP.aF g9 78 [.int .i64 (dc : Int), .int .i64 (dd : Int), .int .i64 (dr : Int), .int .u32 d.eS, .slice RA Rn Rk, .slice NA Nn Nk], HP.aF g6 29 [.slice A1 s.aB.length k1, .slice A2 s.domains.length k2, .slice A3 s.aW.length k3, .slice A4 s.aA.length k4], bG f hL s (kJ s X l0 k0 i0) x]) l.length ⟨0, X, l0, k0, i0, x, by omega, rfl, pM, hinv, ⟨(fun j e h => absurd h (by omega)), pI⟩, rfl, rfl, rfl⟩ fun m e R H hI => ?_
 clear pM hinv pI
 obtain ⟨i, X, l0, k0, i0, x, hil, rfl, pM, hinv, ⟨hdone, pI⟩, rfl, rfl, rfl⟩ := hI
 refine XK.go ?_
 refine XK.if_ rfl (fun hlt => ?_) (fun hge => ?_)
 ·have hlt : i < l.length := by omega
  obtain ⟨e0, tC⟩ := get_some hlt
  have he4 := aF1 e0 (List.mem_of_getElem? tC)
  obtain ⟨c, hc, Cg⟩ := Path.at_ l (-1) i e0 Ji tC
  have hab : c.above = -1 ∨ (0 ≤ c.above ∧ hasB X.d c.above.toNat = true) := by
   rcases Cg with ⟨_, h⟩ | ⟨j, e1, rfl, h1, h2⟩
   ·exact .inl h
   ·refine .inr ⟨by omega, ?_⟩
    rw [h2, Int.toNat_natCast]
    exact hdone j e1 (by omega) h1
  obtain ⟨N, l2, k2, i2, x2, hN, eB, oF, qV⟩ := aEA (k0 := k0) (i0 := i0) hm pM hinv hc hab
  obtain ⟨qb, Nf, Ou, Em, Uf⟩ := hq.2 (by omega)
  have Ot := Uf i (.int .i64 (e0 : Int)) (by simp only [aO, fR, List.getElem?_map, tC, Option.map_some]; rfl)
  refine XK.go ?_
  refine dB (zs := [.int .i64 0, .int .i64 0, .int .i64 0, .int .i64 0]) (L := [(0, 1), (1, 1), (2, 1), (3, 1)]) (aM (by kernel_rfl)) (by kernel_rfl) rfl (by simp [aR, aU, Value.cells]; rfl) (by decide) ?_
  refine XK.go ?_
  refine kd (dat i (Nf + i) (hx := by rw [← Ou]; rfl)) ?_
  refine kd (bR rfl (Rd.ro (p := q) (by simp) Em Ot)) ?_
  refine kd (yD (ds := .int .i64) (kd := .u32) (c := (e0 : Int)) (by kernel_rfl) (by kernel_rfl) rfl (wrap_u32 (by omega))) ?_
  refine eP (el := 44) (sz := 1) (zs := [.int .u32 0]) (by kernel_rfl) (aM (by kernel_rfl)) (by kernel_rfl) rfl (by decide) (by decide) rfl (by simp [aR, aU, Value.cells, List.range_succ, List.set]; rfl) (by decide) fun g3 => ?_
  refine iY [] (f := 18) (fi := []) (ca := []) (by kernel_rfl) rfl rfl (by decide) (by simp) (Gc ((eF 4 0 17 0).1 :: [(e0 : Int), 1])) (fun w1 t => Ll 4 0 17 0 (some ⟨g3, 0, none⟩) 2 2 [(e0 : Int), 1] w1 (t.uF (i := 0) rfl rfl) rfl (by omega) Bk.pk) ?_
  rintro _ w1 qm ⟨Al, cl, rfl, pL⟩ hf _ _
  have pL := pL.le hf
  clear hf
  refine XK.weak [1, 2, 3] rfl (by decide) (fun _ h => h) ?_
  refine XK.go ?_
  refine fE 2 (bG f hL s (kJ s (uA X e0) l2 k2 i2) x2) (fun w1 F1 t h1 h2 h3 => Mu f hL s (kJ s X l0 k0 i0) x w1 hH aV Al cl (mP e0) (by simp [mP]) N hN _ (IntKind.u32.wrap 0) _ _ _ Mi eB rfl F1 h1 h2 (pL.le (h3 _ (by simp))) (jG.le eG (h3 _ (by simp)))) ?_
  dsimp only [List.set]
  rw [Og]
  refine XK.go ?_
  refine XK.weak [0, 1, 2] rfl (by decide) (R' := [q, R0]) (by simp) ?_
  refine XK.aK [(12, .int .i64 (i + 1 : Nat)), (10, .slice A l.length cc), (9, .pointer (some ⟨g9, 0, none⟩)), (6, .pointer (some ⟨g6, 0, none⟩)), (0, .pointer (some ⟨f, 0, none⟩)), (1, .pointer (some ⟨hL.h, 0, none⟩))] ?_
  refine XK.round (l.length - (i + 1)) (by omega) ⟨i + 1, uA X e0, l2, k2, i2, x2, hlt, rfl, oF, qV, ⟨fun j e1 hj h1 => ?_, fun i1 h1 => ?_⟩, rfl, rfl, rfl⟩
  ·show hasB (dI X.d e0 true) e1 = true
   rw [wJ (by rw [hinv.of.d]; exact he4)]
   split
   ·rfl
   ·rename_i hne
    refine hdone j e1 ?_ h1
    rcases Nat.lt_or_ge j i with h | h
    ·exact h
    ·exfalso
     have : j = i := by omega
     subst this
     rw [tC] at h1
     cases h1
     exact hne rfl
  ·have h1 : hasB (dI X.d e0 true) i1 = true := h1
   rw [wJ (by rw [hinv.of.d]; exact he4)] at h1
   by_cases h2 : i1 = e0
   ·rw [h2]
    exact aF2 e0 (List.mem_of_getElem? tC)
   ·rw [if_neg h2] at h1
    exact pI i1 h1
 obtain rfl : i = l.length := by omega
 have nF : hasB X.d dd = true ∧ ∀ i, hasB X.d i = true → i ≤ dd := by
  obtain ⟨j, hj⟩ := List.getElem?_of_mem hmem
  exact ⟨hdone j dd (List.getElem?_eq_some_iff.1 hj).1 hj, pI⟩
 refine XK.go ?_
 refine iY [] (f := 89) (fi := []) (ca := []) (by kernel_rfl) rfl rfl (by decide) (by simp) (Dg (eI s dc)) (fun w1 t => Pz R0 s A1 A2 A3 A4 _ k1 _ k2 _ k3 _ k4 dc w1 ⟨mF.fH, mF.dom, mF.rL, mF.dev⟩ hH.t (t.le (by simp)) (by omega)) ?_
 rintro _ w1 qc ⟨Ac, Qc, rfl, eN⟩ hf _ _
 have eN := eN.le hf
 clear hf
 have Ux := aBL hm
 have aBa : ∀ j ∈ eI s dc, j < s.aB.length := fun j hj => Wu hj
 generalize eK : eI s dc = ch at eN aFV aBa ⊢
 refine XK.go ?_
 refine XK.weak [0, 1, 2] rfl (by decide) (R' := [qc, R0]) (by simp) ?_
 refine XK.aK [(18, .int .i64 ((ch.length : Int) - 1)), (17, .slice Ac ch.length Qc), (9, .pointer (some ⟨g9, 0, none⟩)), (6, .pointer (some ⟨g6, 0, none⟩)), (0, .pointer (some ⟨f, 0, none⟩)), (1, .pointer (some ⟨hL.h, 0, none⟩))] ?_
 refine XK.loop (fun m e R H => ∃ (j : Int) (X : bE) (l0 k0 i0 : Int) (x : aT), m ≤ ch.length ∧ j = (m : Int) - 1 ∧ (l0 = 0 ∨ l0 = 1) ∧ Inv s X none none none x ∧ (hasB X.d dd = true ∧ ∀ i, hasB X.d i = true → i ≤ dd) ∧ (∀ j e, m ≤ j → ch[j]? = some e → fC s e → hasB X.c e = true) ∧ e = [(18, .int .i64 j), (17, .slice Ac ch.length Qc), (9, .pointer (some ⟨g9, 0, none⟩)), (6, .pointer (some ⟨g6, 0, none⟩)), (0, .pointer (some ⟨f, 0, none⟩)), (1, .pointer (some ⟨hL.h, 0, none⟩))] ∧ R = [qc, R0] ∧ H = [HP.aF g9 78 [.int .i64 (dc : Int), .int .i64 (dd : Int), .int .i64 (dr : Int), .int .u32 d.eS, .slice RA Rn Rk, .slice NA Nn Nk], HP.aF g6 29 [.slice A1 s.aB.length k1, .slice A2 s.domains.length k2, .slice A3 s.aW.length k3, .slice A4 s.aA.length k4], bG f hL s (kJ s X l0 k0 i0) x]) ch.length ⟨_, X, l0, k0, i0, x, by omega, rfl, pM, hinv, nF, (fun j e h he => by
  have := (List.getElem?_eq_some_iff.1 he).1
  omega), rfl, rfl, rfl⟩ fun m e R H hI => ?_
 clear pM hinv nF hdone pI
 obtain ⟨j, X, l0, k0, i0, x, hml, Oy, pM, hinv, nF, hdone, rfl, rfl, rfl⟩ := hI
 refine XK.go ?_
 refine XK.if_ rfl (fun hj0 => ?_) (fun hj0 => ?_)
 ·have hj0 : 0 ≤ j := hj0
  obtain ⟨i, rfl⟩ : ∃ i : Nat, m = i + 1 := ⟨m - 1, by omega⟩
  obtain ⟨e0, tC⟩ := get_some (l := ch) (i := i) (by omega)
  have he9 := aBa e0 (List.mem_of_getElem? tC)
  obtain ⟨ck, pN⟩ := get_some he9
  obtain ⟨cb, aH2, cr, Vn, hcz, aI3, ⟨SA, Sn, Sk, rfl, _⟩, hcc⟩ := eO.Hv mF.fH pN
  obtain ⟨qb, Nf, Ou, Em, Uf⟩ := eN.2 (by omega)
  have Ot := Uf i (.int .i64 (e0 : Int)) (by simp only [aO, fR, List.getElem?_map, tC, Option.map_some]; rfl)
  have hrk := hcc 0 (.int .u8 ck.kind) rfl
  refine XK.go ?_
  refine XK.jD ?_
  refine XQ.go ?_
  refine XQ.kd (dat i (Nf + i) (hx := by rw [← Ou]; rfl)) ?_
  refine XQ.kd (bR rfl (Rd.ro (p := qc) (by simp) Em Ot)) ?_
  refine XQ.kd (dat e0 (aH2 + e0 * 6) (hx := by rw [← Vn]; rfl)) ?_
  refine XQ.go ?_
  refine XQ.kd (bR rfl (Rd.ro (p := R0) (by simp) hcz hrk)) ?_
  refine XQ.end_ ?_
  by_cases kO : fC s e0
  ·have Ox : ck.kind = 112 ∨ ck.kind = 103 := by
    have := wB pN
    unfold fC at kO
    rwa [this] at kO
   have aAF := Ux i dc e0 (by rw [eK]; exact tC)
   rw [eK] at aAF
   obtain ⟨N, l2, k2, i2, x2, hN, eB, oF, qV⟩ := aED (k0 := k0) (i0 := i0) hm pM hinv pN kO (fun j1 Er hne hs1 => by
    rw [aAF] at Er
    obtain ⟨t, ht⟩ := List.getElem?_of_mem Er
    rw [List.getElem?_drop] at ht
    refine hdone (i + t) j1 ?_ ht hs1
    rcases Nat.eq_zero_or_pos t with h | h
    ·exfalso
     subst h
     rw [Nat.add_zero, tC] at ht
     cases ht
     exact hne rfl
    ·omega)
   have hnew : ∀ j1 e1, i ≤ j1 → ch[j1]? = some e1 → fC s e1 → hasB (vS X e0).c e1 = true := fun j1 e1 Er h1 hs1 => by
    show hasB (dI X.c e0 true) e1 = true
    rw [wJ (by rw [hinv.of.c]; exact he9)]
    split
    ·rfl
    ·rename_i hne
     refine hdone j1 e1 ?_ h1 hs1
     rcases Nat.lt_or_ge i j1 with h | h
     ·exact h
     ·exfalso
      have : j1 = i := by omega
      subst this
      rw [tC] at h1
      cases h1
      exact hne rfl
   rcases Ox with Ox | Ox <;> rw [Ox]
   all_goals
    refine XK.go ?_
    refine dB (zs := [.int .i64 0, .int .i64 0, .int .i64 0, .int .i64 0]) (L := [(0, 1), (1, 1), (2, 1), (3, 1)]) (aM (by kernel_rfl)) (by kernel_rfl) rfl (by simp [aR, aU, Value.cells]; rfl) (by decide) ?_
    refine XK.go ?_
    refine kd (dat i (Nf + i) (hx := by rw [← Ou]; rfl)) ?_
    refine kd (bR rfl (Rd.ro (p := qc) (by simp) Em Ot)) ?_
    refine kd (yD (ds := .int .i64) (kd := .u32) (c := (e0 : Int)) (by kernel_rfl) (by kernel_rfl) rfl (wrap_u32 (by omega))) ?_
    refine eP (el := 44) (sz := 1) (zs := [.int .u32 0]) (by kernel_rfl) (aM (by kernel_rfl)) (by kernel_rfl) rfl (by decide) (by decide) rfl (by simp [aR, aU, Value.cells, List.range_succ, List.set]; rfl) (by decide) fun g3 => ?_
    refine iY [] (f := 18) (fi := []) (ca := []) (by kernel_rfl) rfl rfl (by decide) (by simp) (Gc ((eF 7 0 20 0).1 :: [(e0 : Int), 1])) (fun w1 t => Ll 7 0 20 0 (some ⟨g3, 0, none⟩) 2 2 [(e0 : Int), 1] w1 (t.uF (i := 0) rfl rfl) rfl (by omega) Dz.pk) ?_
    rintro _ w1 qm ⟨Al, cl, rfl, pL⟩ hf _ _
    have pL := pL.le hf
    clear hf
    refine XK.weak [1, 2, 3] rfl (by decide) (fun _ h => h) ?_
    refine XK.go ?_
    refine fE 2 (bG f hL s (kJ s (vS X e0) l2 k2 i2) x2) (fun w1 F1 t h1 h2 h3 => Mu f hL s (kJ s X l0 k0 i0) x w1 hH aV Al cl (mC e0) (by simp [mC]) N hN _ (IntKind.u32.wrap 0) _ _ _ Mi eB rfl F1 h1 h2 (pL.le (h3 _ (by simp))) (jG.le eG (h3 _ (by simp)))) ?_
    dsimp only [List.set]
    rw [Og]
    refine XK.go ?_
    refine XK.weak [0, 1, 2] rfl (by decide) (R' := [qc, R0]) (by simp) ?_
    refine XK.aK [(18, .int .i64 (j - 1)), (17, .slice Ac ch.length Qc), (9, .pointer (some ⟨g9, 0, none⟩)), (6, .pointer (some ⟨g6, 0, none⟩)), (0, .pointer (some ⟨f, 0, none⟩)), (1, .pointer (some ⟨hL.h, 0, none⟩))] ?_
    exact XK.round i (by omega) ⟨j - 1, vS X e0, l2, k2, i2, x2, by omega, by omega, oF, qV, nF, hnew, rfl, rfl, rfl⟩
  ·have hk1 : ¬ ck.kind = 112 := fun h => kO (.inl (by rw [wB pN]; exact h))
   have hk2 : ¬ ck.kind = 103 := fun h => kO (.inr (by rw [wB pN]; exact h))
   refine XK.go ?_
   refine bT (t := 99) rfl (fun _ => ?_) (fun h => absurd hk1 h)
   refine XK.go ?_
   refine XK.if_ rfl (fun _ => ?_) (fun h => absurd hk2 h)
   refine XK.go ?_
   refine XK.aK [(18, .int .i64 (j - 1)), (17, .slice Ac ch.length Qc), (9, .pointer (some ⟨g9, 0, none⟩)), (6, .pointer (some ⟨g6, 0, none⟩)), (0, .pointer (some ⟨f, 0, none⟩)), (1, .pointer (some ⟨hL.h, 0, none⟩))] ?_
   refine XK.round i (by omega) ⟨j - 1, X, l0, k0, i0, x, by omega, by omega, pM, hinv, nF, fun j1 e1 Er h1 hs1 => ?_, rfl, rfl, rfl⟩
   refine hdone j1 e1 ?_ h1 hs1
   rcases Nat.lt_or_ge i j1 with h | h
   ·exact h
   ·exfalso
    have : j1 = i := by omega
    subst this
    rw [tC] at h1
    cases h1
    exact kO hs1
 have hj0 : ¬ 0 ≤ j := hj0
 have zN : ∀ j1 ∈ ch, fC s j1 → hasB X.c j1 = true := fun j1 Er hs1 => by
  obtain ⟨t, ht⟩ := List.getElem?_of_mem Er
  exact hdone t j1 (by omega) ht hs1
 obtain ⟨N, l2, k2, i2, x2, hN, eB, oF, qV⟩ := aEB (k0 := k0) (i0 := i0) hm pM hinv (r := dr) (by omega)
 have Ex : hasB (vR X dr).l dr = true := by
  show hasB (dI X.l dr true) dr = true
  rw [wJ (by rw [hinv.of.l]; omega), if_pos rfl]
 refine XK.go ?_
 refine dB (zs := [.int .i64 0, .int .i64 0, .int .i64 0, .int .i64 0]) (L := [(0, 1), (1, 1), (2, 1), (3, 1)]) (aM (by kernel_rfl)) (by kernel_rfl) rfl (by simp [aR, aU, Value.cells]; rfl) (by decide) ?_
 refine XK.go ?_
 refine kd (yD (ds := .int .i64) (kd := .u32) (c := (dr : Int)) (by kernel_rfl) (by kernel_rfl) rfl (wrap_u32 (by omega))) ?_
 refine eP (el := 44) (sz := 1) (zs := [.int .u32 0]) (by kernel_rfl) (aM (by kernel_rfl)) (by kernel_rfl) rfl (by decide) (by decide) rfl (by simp [aR, aU, Value.cells, List.range_succ, List.set]; rfl) (by decide) fun g3 => ?_
 refine iY [] (f := 18) (fi := []) (ca := []) (by kernel_rfl) rfl rfl (by decide) (by simp) (Gc ((eF 4 0 22 0).1 :: [(dr : Int), 0])) (fun w1 t => Ll 4 0 22 0 (some ⟨g3, 0, none⟩) 2 2 [(dr : Int), 0] w1 (t.uF (i := 0) rfl rfl) rfl (by omega) Dy.pk) ?_
 rintro _ w1 qm ⟨Al, cl, rfl, pL⟩ hf _ _
 have pL := pL.le hf
 clear hf
 refine XK.weak [1, 2, 3] rfl (by decide) (fun _ h => h) ?_
 refine XK.go ?_
 refine fE 2 (bG f hL s (kJ s (vR X dr) l2 k2 i2) x2) (fun w1 F1 t h1 h2 h3 => Mu f hL s (kJ s X l0 k0 i0) x w1 hH aV Al cl (mL dr) (by simp [mL]) N hN _ (IntKind.u32.wrap 0) _ _ _ Mi eB rfl F1 h1 h2 (pL.le (h3 _ (by simp))) (jG.le eG (h3 _ (by simp)))) ?_
 dsimp only [List.set]
 rw [Og]
 refine XK.go ?_
 subst eV
 exact XK.aI rfl rfl fun w1 t => ⟨(vR X dr, l2, k2, i2, x2), rfl, ⟨oF, qV, nF, zN, Ex⟩, t.turns hF (by simp) (i := 2) rfl⟩
end
section
def Qk (s : aC) (A : aT → aT × Bool) : Nat → aT → aT → Prop
 | 0, _, _ => False
 | n + 1, x, x' => bQ s x ∧ (A x = (x', true) ∨ ∃ x1, A x = (x1, false) ∧ bQ s x1 ∧ (∀ i, iA x1.wt i = 0) ∧ Qk s A n (gN s x1 0) x')
def lB (X : bE) (d : Nat) : bE := ⟨dI X.d d false, X.c, X.l⟩
section
variable {s : aC} {X : bE} {x : aT} {D : Nat}
theorem Ve {l : List Bool} {i : Nat} (hi : i < l.length) (j : Nat) : hasB (dI l i false) j = if j = i then false else hasB l j := by
 rw [dI, if_pos ⟨by omega, by omega⟩, Int.toNat_natCast, xT, xT, List.getElem?_set]
 by_cases h : i = j
 ·subst h
  rw [if_pos rfl, if_pos hi, if_pos rfl]
  rfl
 ·rw [if_neg h, if_neg (Ne.symm h)]
theorem Tn {x : aT} {D : Int} {n i : Nat} {p' : bK × cG} {d : bB} (hd : s.aA[i]? = some d) (h : (eZ s x D n)[i]? = some p') : ∃ p, x.dv[i]? = some p ∧ p'.2 = if i < n ∧ d.domain = D then (if p.2.at_ = 3 then (jM p.2).2 else if p.2.at_ = 0 then (mJ p.2).2 else p.2) else p.2 := by
 rw [eZ, List.getElem?_mapIdx] at h
 cases hq : x.dv[i]? with
 | none => rw [hq] at h; cases h
 | some q =>
  rw [hq] at h
  simp only [Option.map_some, Option.some.injEq] at h
  refine ⟨q, rfl, ?_⟩
  subst h
  by_cases h1 : i < n
  ·rw [if_pos h1]
   unfold xL
   rw [hd]
   dsimp only
   by_cases h2 : d.domain = D
   ·rw [if_pos h2, if_pos (show i < n ∧ d.domain = D from ⟨h1, h2⟩)]
   ·rw [if_neg h2, if_neg fun h => h2 h.2]
  ·rw [if_neg h1, if_neg fun h => h1 h.1]
theorem Inv.aAD (hm : s.made) (hi : Inv s X (some D) none none x) : Inv s X (some D) none none { x with dv := eZ s x D s.aA.length } := by
 refine ⟨Om hm.bO hi.ok _ _, hi.wt, hi.of, hi.dom, hi.fH, hi.nJ, hi.uG, hi.pG, fun i p' dd hp' cW => ?_⟩
 have Uk := (List.getElem?_eq_some_iff.1 cW).1
 obtain ⟨p0, h0, h1⟩ := Tn cW hp'
 obtain ⟨h2, h3⟩ := hi.nB i p0 dd h0 cW
 rw [h1]
 by_cases hD : dd.domain = (D : Int)
 ·rw [if_pos ⟨Uk, hD⟩]
  have Pm : dd.domain.toNat = D := by omega
  refine ⟨?_, fun _ h => absurd (by rw [Pm]) h⟩
  rw [if_neg (by omega)]
  split
  ·rename_i h4
   refine .inr (.inr ⟨?_, by rw [Pm]⟩)
   unfold mJ
   rw [if_neg (by omega)]
  ·exact h2
 ·rw [if_neg fun h => hD h.2]
  exact ⟨h2, h3⟩
theorem Inv.begin (hi : Inv s X none none none x) (D : Nat) : Inv s X (some D) none none x :=
 ⟨hi.ok, hi.wt, hi.of, fun i m h _ => hi.dom i m h (by simp), hi.fH, hi.nJ, hi.uG, hi.pG, fun i p d hp hd => by
  obtain ⟨h1, h2⟩ := hi.nB i p d hp hd
  refine ⟨?_, fun h3 _ => h2 h3 (by simp)⟩
  simp at h1
  omega⟩
theorem Inv.off (hi : Inv s X (some D) none none x) (hD : D < s.domains.length) (gJ : ∀ y, x.dm[D]? = some y → y.phase = 48 ∨ y.phase = 116) (hno : ∀ (i : Nat) (p : bK × cG), x.dv[i]? = some p → p.2.at_ ≠ 1) : Inv s (lB X D) none none none x := by
 have hX := hi.of
 have jX : D < X.d.length := by rw [hX.d]; exact hD
 have eB : ∀ j, hasB (lB X D).d j = if j = D then false else hasB X.d j := fun j => Ve jX j
 refine ⟨hi.ok, hi.wt, ⟨by show (dI _ _ _).length = _; rw [vU]; exact hX.d, hX.c, hX.l⟩, fun i m hm' _ => ?_, hi.fH, hi.nJ, hi.uG, hi.pG, fun i p d hp hd => ?_⟩
 ·rw [eB]
  by_cases h : i = D
  ·subst h
   rw [if_pos rfl]
   exact ⟨(fun h => by cases h), fun _ => gJ m hm'⟩
  ·rw [if_neg h]
   exact hi.dom i m hm' fun h' => h (Option.some.inj h').symm
 ·obtain ⟨h1, h2⟩ := hi.nB i p d hp hd
  have h3 := hno i p hp
  refine ⟨by omega, fun h4 _ => ?_⟩
  rw [eB] at h4
  by_cases h : d.domain.toNat = D
  ·rw [if_pos h] at h4
   cases h4
  ·rw [if_neg h] at h4
   exact h2 h4 fun h' => h (Option.some.inj h').symm
theorem Inv.down (hm : s.made) (hi : Inv s X (some D) none none x) {y : dL} (hy : x.dm[D]? = some y) (keep : Bool) : Inv s X (some D) none none { x with dm := x.dm.set D ⟨99, y.left, y.kept, keep⟩ } := by
 have hlt := (List.getElem?_eq_some_iff.1 hy).1
 refine ⟨⟨hi.ok.ck, ⟨by simp [hi.ok.dm.len], fun z hz => ?_, fun z hz => ?_⟩, hi.ok.ln, hi.ok.dv, hi.ok.each, hi.ok.wt⟩, hi.wt, hi.of, fun i m' hi' hb => ?_, hi.fH, hi.nJ, hi.uG, hi.pG, hi.nB⟩
 ·rcases List.mem_or_eq_of_mem_set hz with hz | rfl
  ·exact hi.ok.dm.left z hz
  ·exact hi.ok.dm.left y (List.mem_of_getElem? hy)
 ·rcases List.mem_or_eq_of_mem_set hz with hz | rfl
  ·exact hi.ok.dm.phase z hz
  ·exact ⟨by show (0 : Int) ≤ 99; omega, by show (99 : Int) < 256; omega⟩
 ·have hid : D ≠ i := fun h => hb (by rw [h])
  rw [List.getElem?_set_ne hid] at hi'
  exact hi.dom i m' hi' hb
theorem aAe {n : Nat} : uL s x (D : Int) n = true ↔ ∀ (i : Nat) (p : bK × cG) (d : bB), i < n → x.dv[i]? = some p → s.aA[i]? = some d → d.domain = (D : Int) → p.2.at_ = 2 := by
 unfold uL
 rw [List.all_eq_true]
 constructor
 ·intro h i p d hi hp hd hD
  have := h i (List.mem_range.2 hi)
  unfold Dv at this
  rw [hd, hp] at this
  simpa [hD] using this
 ·intro h i hi
  have hi := List.mem_range.1 hi
  unfold Dv
  split
  ·rename_i d p hd hp
   by_cases hD : d.domain = (D : Int)
   ·rw [h i p d hi hp hd hD]
    simp
   ·simp [hD]
  ·rfl
theorem aE3 (hm : s.made) (hi : Inv s X (some D) none none x) (hno : ∀ (j : Nat) (cj : Dom), s.domains[j]? = some cj → cj.above = (D : Int) → hasB X.d j = false) : wK s x.dm (D : Int) = false := by
 unfold wK
 rw [Bool.eq_false_iff]
 intro h
 rw [List.any_eq_true] at h
 obtain ⟨b, hb, h1⟩ := h
 obtain ⟨j, hj⟩ := List.getElem?_of_mem hb
 rw [List.getElem?_zipWith] at hj
 cases hc : s.domains[j]? with
 | none => rw [hc] at hj; simp at hj
 | some cj =>
  cases hy : x.dm[j]? with
  | none => rw [hc, hy] at hj; simp at hj
  | some yj =>
   rw [hc, hy] at hj
   simp only [Option.some.injEq] at hj
   subst hj
   unfold xV at h1
   simp only [id_eq, Bool.and_eq_true, decide_eq_true_eq, Bool.not_eq_true'] at h1
   have hlt := (hm.domains j cj hc).1
   have h2 := (hi.dom j yj hy (by simp; omega)).2 (hno j cj hc h1.1)
   have h3 := h1.2
   unfold zV at h3
   simp at h3
   omega
theorem Zq (hm : s.made) {c : Dom} (hc : s.domains[D]? = some c) (keep : Bool) (hkeep : keep = true → c.ret = true) (hi : Inv s X (some D) none none x) (hno : ∀ (j : Nat) (cj : Dom), s.domains[j]? = some cj → cj.above = (D : Int) → hasB X.d j = false) {y : dL} (hy : x.dm[D]? = some y) (gJ : y.phase = 49) (hq : uL s x (D : Int) s.aA.length = true) (h1 : ∀ (i : Nat) (p : bK × cG), x.dv[i]? = some p → p.2.at_ ≠ 1) :
  ∃ x', Qk s (fun x => nC s x (D : Int) keep) 2 x x' ∧ Inv s (lB X D) none none none x' ∧ ∀ (i : Nat) (p : bK × cG) (d : bB), x'.dv[i]? = some p → s.aA[i]? = some d → d.domain = (D : Int) → p.2.at_ = 2 := by
 have hlt := (List.getElem?_eq_some_iff.1 hy).1
 have Ep := (List.getElem?_eq_some_iff.1 hc).1
 have Jh := Hz hy
 have aFG : (pP s x.dm (D : Int) keep).2 = x.dm.set D ⟨99, y.left, y.kept, keep⟩ := by
  unfold pP
  rw [show cF x.dm.length (D : Int) = true from decide_eq_true (by omega)]
  simp only [Bool.true_eq_false, if_false, Int.toNat_natCast, hc, hy]
  rw [if_neg (by omega), if_neg (fun h => by rw [hkeep h.1] at h; simp at h), aE3 hm hi hno]
  simp
 have hA : nC s x (D : Int) keep = ({ x with dv := eZ s x (D : Int) s.aA.length, dm := x.dm.set D ⟨99, y.left, y.kept, keep⟩ }, false) := by
  unfold nC
  rw [Jh, if_pos gJ, hq, aFG]
  simp
 have hi1 := hi.aAD hm
 have hi2 : Inv s X (some D) none none { x with dv := eZ s x (D : Int) s.aA.length, dm := x.dm.set D ⟨99, y.left, y.kept, keep⟩ } := hi1.down hm hy keep
 have Ut := hi2.tick hm
 have jW : ∀ (i : Nat) (p : bK × cG) (d : bB), (eZ s x (D : Int) s.aA.length)[i]? = some p → s.aA[i]? = some d → p.2.at_ ≠ 1 ∧ (d.domain = (D : Int) → p.2.at_ = 2) := fun i p d hp hd => by
  have Eo := (List.getElem?_eq_some_iff.1 hd).1
  obtain ⟨p0, h0, h2⟩ := Tn hd hp
  by_cases hD : d.domain = (D : Int)
  ·have h3 := aAe.1 hq i p0 d Eo h0 hd hD
   rw [h2, if_pos (show i < s.aA.length ∧ d.domain = (D : Int) from ⟨Eo, hD⟩), if_neg (by omega), if_neg (by omega)]
   exact ⟨by omega, fun _ => h3⟩
  ·rw [h2, if_neg fun h => hD h.2]
   exact ⟨h1 i p0 h0, fun h => absurd h hD⟩
 generalize uJ : ({ x with dv := eZ s x (D : Int) s.aA.length, dm := x.dm.set D ⟨99, y.left, y.kept, keep⟩ } : aT) = x2 at hA hi2 Ut
 have Jz : x2.dv = eZ s x (D : Int) s.aA.length := by rw [← uJ]
 have rP : x2.dm[D]? = some ⟨99, y.left, y.kept, keep⟩ := by
  rw [← uJ]
  exact List.getElem?_set_self hlt
 have Oh : (gN s x2 0).dm[D]? = some (eA ⟨99, y.left, y.kept, keep⟩).2 := by simp only [gN, kE, List.getElem?_map, rP, Option.map_some]
 have aAO : (eA ⟨99, y.left, y.kept, keep⟩).2.phase = 48 ∨ (eA ⟨99, y.left, y.kept, keep⟩).2.phase = 116 := by
  unfold eA
  cases keep
  ·exact .inl rfl
  ·exact .inr rfl
 have wD : ∀ (i : Nat) (p : bK × cG), (gN s x2 0).dv[i]? = some p → p.2.at_ ≠ 1 ∧ ∀ d : bB, s.aA[i]? = some d → d.domain = (D : Int) → p.2.at_ = 2 := fun i p hp => by
  obtain ⟨p0, h0, h2, _⟩ := Mq hp
  rw [Jz] at h0
  obtain ⟨d, hd⟩ := get_some (l := s.aA) (i := i) (by
   have := (List.getElem?_eq_some_iff.1 h0).1
   have := hi.ok.dv
   simp [eZ] at *
   omega)
  obtain ⟨h3, h4⟩ := jW i p0 d h0 hd
  rw [h2 h3]
  exact ⟨h3, fun d' hd' hD => by
   cases hd.symm.trans hd'
   exact h4 hD⟩
 have hA3 : nC s (gN s x2 0) (D : Int) keep = (gN s x2 0, true) := by
  unfold nC
  rw [Hz Oh, if_neg (by omega), if_pos aAO]
 refine ⟨gN s x2 0, ⟨hi.ok, .inr ⟨x2, hA, hi2.ok, hi2.wt, Ut.ok, .inl hA3⟩⟩, Ut.off Ep (fun z hz => ?_) (fun i p hp => (wD i p hp).1), fun i p d hp hd hD => (wD i p hp).2 d hd hD⟩
 cases Oh.symm.trans hz
 exact aAO
theorem aDv (hm : s.made) {c : Dom} (hc : s.domains[D]? = some c) (keep : Bool) (hkeep : keep = true → c.ret = true) (hi : Inv s X none none none x) (hX : hasB X.d D = true) (hno : ∀ (j : Nat) (cj : Dom), s.domains[j]? = some cj → cj.above = (D : Int) → hasB X.d j = false) :
  ∃ (N : Nat) (x' : aT), N ≤ 3 ∧ Qk s (fun x => nC s x (D : Int) keep) N x x' ∧ Inv s (lB X D) none none none x' ∧ ∀ (i : Nat) (p : bK × cG) (d : bB), x'.dv[i]? = some p → s.aA[i]? = some d → d.domain = (D : Int) → p.2.at_ = 2 := by
 have Ep := (List.getElem?_eq_some_iff.1 hc).1
 obtain ⟨y, hy⟩ := get_some (l := x.dm) (i := D) (by have := hi.ok.dm.len; omega)
 have gJ := (hi.dom D y hy (by simp)).1 hX
 have hb := hi.begin D
 cases hq : uL s x (D : Int) s.aA.length
 ·have hA : nC s x (D : Int) keep = ({ x with dv := eZ s x (D : Int) s.aA.length }, false) := by
   unfold nC
   rw [Hz hy, if_pos gJ, hq]
   simp
  have hi1 := hb.aAD hm
  have hi2 := hi1.tick hm
  have rP : (gN s { x with dv := eZ s x (D : Int) s.aA.length } 0).dm[D]? = some y := by
   simp only [gN, kE, List.getElem?_map, hy, Option.map_some]
   rw [Yy (.inl gJ)]
  have wD : ∀ (i : Nat) (p : bK × cG), (gN s { x with dv := eZ s x (D : Int) s.aA.length } 0).dv[i]? = some p → p.2.at_ ≠ 1 ∧ ∀ d : bB, s.aA[i]? = some d → d.domain = (D : Int) → p.2.at_ = 2 := fun i p hp => by
   have Eo : i < s.aA.length := by
    obtain ⟨p0, h0, _⟩ := Mq hp
    have := (List.getElem?_eq_some_iff.1 h0).1
    have := hi1.ok.dv
    dsimp only at *
    omega
   obtain ⟨p0, h0, h2, h3⟩ := Yx hi1.wt Eo hp
   obtain ⟨d, hd⟩ := get_some Eo
   obtain ⟨p1, h4, h5⟩ := Tn hd h0
   obtain ⟨h6, h7⟩ := hi.nB i p1 d h4 hd
   have h8 := hi.rest i p1 h4
   by_cases hD : d.domain = (D : Int)
   ·have Pm : d.domain.toNat = D := by omega
    have h9 := h7 (by rw [Pm]; exact hX) (by simp)
    rw [if_pos (show i < s.aA.length ∧ d.domain = (D : Int) from ⟨Eo, hD⟩), if_neg (by omega), if_pos h9] at h5
    have h10 : p0.2.at_ = 1 := by
     rw [h5]
     unfold mJ
     rw [if_neg (by omega)]
    have h11 := h3 h10
    exact ⟨by omega, fun _ _ _ => h11⟩
   ·rw [if_neg fun h => hD h.2] at h5
    have h10 : p0.2.at_ ≠ 1 := by rw [h5]; exact h8
    rw [h2 h10]
    exact ⟨h10, fun d' hd' Kh => by
     cases hd.symm.trans hd'
     exact absurd Kh hD⟩
  obtain ⟨x', h1, h2, h3⟩ := Zq hm hc keep hkeep hi2 hno rP gJ (aAe.2 fun i p d _ hp hd hD => (wD i p hp).2 d hd hD) (fun i p hp => (wD i p hp).1)
  exact ⟨3, x', by omega, ⟨hi.ok, .inr ⟨_, hA, hi1.ok, hi1.wt, h1⟩⟩, h2, h3⟩
 ·obtain ⟨x', h1, h2, h3⟩ := Zq hm hc keep hkeep hb hno hy gJ hq hi.rest
  exact ⟨2, x', by omega, h1, h2, h3⟩
end
end
section
theorem aAo {k : Int} (hk : k = 0 ∨ k = 1) : Me 4 17 k := by
 rcases hk with rfl | rfl
 ·exact Bk
 ·exact ⟨by decide +kernel, by decide +kernel, by decide +kernel, by decide +kernel, by decide +kernel, by decide +kernel, by decide +kernel, by decide +kernel⟩
def mD (tk : Int) (d : Nat) (v : Int) : List Int := [(eF 4 0 17 tk).1, d, v]
def qO (c : Dom) : Int := if c.ret then 2 else 0
def oA (c : Dom) : Int := if c.ret then 107 else 100
section
variable {s : aC} {X : bE} {x : aT}
theorem Zu {k D : Int} {keep : Bool} (hA : ∀ y, lO s y k D = nC s y D keep) : ∀ (n : Nat) {x x' : aT}, Qk s (fun y => nC s y D keep) n x x' → vK s k D n x x'
 | 0, _, _, h => h.elim
 | n + 1, x, x', ⟨hok, .inl hr⟩ => ⟨hok, .inl (by rw [hA]; exact hr)⟩
 | n + 1, x, x', ⟨hok, .inr ⟨x1, hr, Jl, uK, h⟩⟩ => ⟨hok, .inr ⟨x1, by rw [hA]; exact hr, Jl, uK, Zu hA n h⟩⟩
theorem aIa (hw : ∀ i, iA x.wt i = 0) (k id : Int) : Ad s (iT s x) k id = false := aBP fun i _ => by
 unfold nK iT
 rw [List.getElem?_map]
 cases (List.range s.aA.length)[i]? with
 | none => rfl
 | some j => simp [hw]
theorem aEC (hm : s.made) {l k0 i0 : Int} (hl : l = 0 ∨ l = 1) (hi : Inv s X none none none x) {D : Nat} {c : Dom} (hc : s.domains[D]? = some c) (hX : hasB X.d D = true) (pI : ∀ i, hasB X.d i = true → i ≤ D) {tk : Int} (kG : tk = 0 ∨ tk = 1) :
  ∃ (N : Nat) (l' k' i' : Int) (x' : aT), N ≤ 200 ∧ yQ s N (mY s X l k0 i0 (mD tk D (qO c))) x [(mD tk D (qO c)).headD 0, IntKind.u32.wrap 0] (kJ s (lB X D) l' k' i') x' ∧ (l' = 0 ∨ l' = 1) ∧ Inv s (lB X D) none none none x' ∧ ∀ (i : Nat) (p : bK × cG) (d : bB), x'.dv[i]? = some p → s.aA[i]? = some d → d.domain = (D : Int) → p.2.at_ = 2 := by
 have hlt := (List.getElem?_eq_some_iff.1 hc).1
 have hnd := hm.nd
 have hO := aAo kG
 have hv : 0 ≤ qO c ∧ qO c < 4294967296 := by unfold qO; split <;> decide
 have hp : Plain (mD tk D (qO c)) := Nr hO (.inl rfl) ⟨by omega, by omega⟩ hv
 have hr : dX s (mD tk D (qO c)) = (0, oA c, (D : Int)) := by
  unfold dX mD
  dsimp only
  rw [hO.un, hO.ty, hO.pr, hO.ms, if_neg (by simp), show kI 17 4 = some ⟨2, 3, 100, 117, 107⟩ from rfl, show cO 17 4 = ⟨2, 3, 100, 117, 107⟩ from rfl]
  have hg : s.domains[D] = c := by
   rw [List.getElem?_eq_getElem hlt] at hc
   exact Option.some.inj hc
  have hge : ¬ s.domains.length ≤ D := by omega
  unfold qO oA
  cases h : c.ret <;> simp [tL, nX, iI.act, iN, hlt, hge, Ds, hg, h]
 have hk : oA c = 100 ∨ oA c = 107 := by unfold oA; split <;> simp
 have Bw : sV (oA c) X = X.d := by
  rcases hk with h | h <;> rw [h] <;> rfl
 have aAQ : ¬ fL (oA c) := by
  rcases hk with h | h <;> rw [h] <;> decide
 have hno : ∀ (j : Nat) (cj : Dom), s.domains[j]? = some cj → cj.above = (D : Int) → hasB X.d j = false := fun j cj hj hab => by
  rw [Bool.eq_false_iff]
  intro h
  have := pI j h
  have := (hm.domains j cj hj).1
  omega
 have Ce : zZ s X (dY s) 0 (oA c) D = false := by
  unfold zZ
  rw [if_pos rfl, Yo, Bool.false_or]
  refine Pj fun i _ => ?_
  unfold lJ
  rw [if_pos hk, Yn, xA, Bw]
  cases hj : s.domains[i]? with
  | none => rfl
  | some cj =>
   simp only [Option.any_some]
   by_cases h : cj.above = (D : Int)
   ·rw [hno i cj hj h, Bool.and_false]
   ·simp [h]
 have rX : jZ s X (dY s) (iT s x) 0 (mD tk D (qO c)) = (0, oA c, (D : Int)) := by
  rw [aH0 hr aAQ (by omega) (by rw [if_pos rfl, xA, Bw]; exact hX), Ce, aIa hi.wt]
  simp
 have hdone : cE X 0 (oA c) D = lB X D := by
  unfold cE dW lB
  rw [if_pos rfl, if_pos (.inr hk), show decide (fL (oA c)) = false from decide_eq_false aAQ]
 have hkeep : decide (oA c = 107) = c.ret := by unfold oA; cases c.ret <;> rfl
 have hA : ∀ y, lO s y (oA c) D = nC s y D c.ret := fun y => by
  rw [← hkeep]
  rcases hk with h | h <;> rw [h] <;> rfl
 have hK : Df s (oA c) D := ⟨by rcases hk with h | h <;> simp [h], fun h => by omega⟩
 obtain ⟨N, x', hN, h1, h2, h3⟩ := aDv hm hc c.ret (fun h => h) hi hX hno
 cases N with
 | zero => exact h1.elim
 | succ N =>
  refine ⟨N + 1, 0, oA c, D, x', by omega, Mv hm hi.of hp hl hi.ok rX (by omega) hK ?_, .inl rfl, h2, h3⟩
  rw [hdone]
  exact Hr hm h2.of hp hK (N + 1) (Zu hA (N + 1) h1)
theorem Inv.dead (hi : Inv s X none none none x) {i : Nat} {d : bB} (hd : s.aA[i]? = some d) (h1 : hasB X.d d.domain.toNat = false) (h0 : 0 ≤ d.domain) : Ah s x i = false := by
 unfold Ah
 rw [hd]
 dsimp only
 have gJ : decide (kW x.dm d.domain = 49) = false := decide_eq_false fun h => by
  unfold kW at h
  split at h
  ·rename_i hin
   obtain ⟨m, Jo⟩ := get_some (l := x.dm) (i := d.domain.toNat) (by have := of_decide_eq_true hin; omega)
   rw [Jo] at h
   have h : m.phase = 49 := h
   have := (hi.dom _ m Jo (by simp)).2 h1
   omega
  ·omega
 simp [gJ]
end
end
section
set_option maxHeartbeats 4000000
set_option maxRecDepth 20000
theorem aG1 (f h : Nat) (L : eC) (s : aC) (z : bN) (hx : z.x.sm) (hy : z.y.sm) (w : World) (kf : rF w f h L s z) :
  Calls Tryz.prog 33 #[.pointer (some ⟨f, 0, none⟩)] w (Ql (fun v w w' => jP (fresh w w') z.x z.y v) w) := by
 obtain ⟨h0, h1, h2⟩ := hx
 obtain ⟨h3, h4, h5⟩ := hy
 obtain ⟨s0, s1, s2, s3, s4, s5⟩ := kf.st
 have k6 : cZ w f 5 [.slice L.x1.1 z.x.d.length L.x1.2, .slice L.x2.1 z.x.c.length L.x2.2, .slice L.x3.1 z.x.l.length L.x3.2, .slice L.y1.1 z.y.d.length L.y1.2, .slice L.y2.1 z.y.c.length L.y2.2, .slice L.y3.1 z.y.l.length L.y3.2] := ⟨kf.r0.1, fun j v hj => by
  have := kf.r0.2 (5 + j) v (Wv rfl hj)
  rwa [Nat.zero_add] at this⟩
 refine XK.enter (vs := [.pointer (some ⟨f, 0, none⟩)]) Tryz.func33 rfl Tryz.ntmps33 (by simp) ?_
 refine XK.go ?_
 refine bZ (cs := [.slice none 0 0, .slice none 0 0, .slice none 0 0, .slice none 0 0, .slice none 0 0, .slice none 0 0]) (aM (by kernel_rfl)) (by decide) fun g1 => ?_
 refine XK.go ?_
 refine bZ (cs := [.slice none 0 0, .slice none 0 0, .slice none 0 0, .slice none 0 0, .slice none 0 0, .slice none 0 0]) (aM (by kernel_rfl)) (by decide) fun g2 => ?_
 refine XK.go ?_
 refine XK.rounds 3 ?_
 refine XK.Dr ?_
 refine XK.go ?_
 refine Mm 0 (len := 2) (n := 3) (by kernel_rfl) rfl rfl rfl (by decide) rfl (by decide) ?_
 refine bZ (cs := [.slice none 0 0, .slice none 0 0, .slice none 0 0]) (aM (by kernel_rfl)) (by decide) fun g5 => ?_
 refine XK.go ?_
 refine XK.eR [1, 2, 4, 5, 7, 8, 11] ?_
 refine XB.mv 0 ?_
 refine XB.q 1 ?_
 refine XB.q 2 ?_
 refine XB.q 4 ?_
 refine XB.q 5 ?_
 refine XB.q 7 ?_
 refine XB.q 8 ?_
 refine XB.q 11 ?_
 refine XB.next 3 rfl (by kernel_rfl) ?_
 refine dZ (f := 100) (fi := []) (ca := []) (by kernel_rfl) rfl rfl (by decide) (sH z.x.d.length (bP z.x.d)) (fun w1 st => tI _ _ _ _ w1 (s0.le (st.le (by simp))) (tK _) (by have := h0; omega)) ?_
 rintro _ _ q0 ⟨B0, c0, rfl, rfl⟩ _
 dsimp only [List.cons_append, List.nil_append]
 refine XB.bk ?_ (hS := fun _ h => h.aN.tail)
 refine XB.next 6 rfl (by kernel_rfl) ?_
 refine dZ (f := 100) (fi := []) (ca := []) (by kernel_rfl) rfl rfl (by decide) (sH z.x.c.length (bP z.x.c)) (fun w1 st => tI _ _ _ _ w1 (s1.le (st.le (by simp))) (tK _) (by have := h1; omega)) ?_
 rintro _ _ q1 ⟨B1, c1, rfl, rfl⟩ _
 dsimp only [List.cons_append, List.nil_append]
 refine XB.bk ?_ (hS := fun _ h => h.aN.aN.tail.tail)
 refine XB.next 9 rfl (by kernel_rfl) ?_
 refine dZ (f := 100) (fi := []) (ca := []) (by kernel_rfl) rfl rfl (by decide) (sH z.x.l.length (bP z.x.l)) (fun w1 st => tI _ _ _ _ w1 (s2.le (st.le (by simp))) (tK _) (by have := h2; omega)) ?_
 rintro _ _ q2 ⟨B2, c2, rfl, rfl⟩ _
 dsimp only [List.cons_append, List.nil_append]
 refine XB.bk ?_ (hS := fun _ h => h.aN.aN.aN.tail.tail.tail)
 refine XB.next 10 rfl (by kernel_rfl) ?_
 refine dB (zs := [.slice none 0 0, .slice none 0 0, .slice none 0 0]) (L := [(0, 1), (1, 1), (2, 1)]) (aM (by kernel_rfl)) (by kernel_rfl) rfl (by simp [aR, aU, Value.cells]; rfl) (by decide) ?_
 refine XB.bk ?_ (hS := fun _ h => h.aN.aN.aN.tail.tail.tail)
 refine XB.next 12 rfl (by kernel_rfl) ?_
 refine kd (fJ (sz := 3) 0 0) ?_
 refine XB.bt ?_
 refine XB.next 13 rfl (by kernel_rfl) ?_
 refine eJ rfl rfl ?_; simp only [cC, Value.cells, List.set, List.take, List.drop, List.nil_append, List.append_nil, List.length_cons, List.length_nil, List.cons_append, Nat.reduceAdd]
 refine XB.bt ?_
 refine XB.done (by kernel_rfl) ?_
 refine XK.go ?_
 refine XK.weak [2, 1, 0, 4, 5] rfl (by decide) (R' := [all w]) (by simp) ?_
 refine XK.Dr ?_
 refine XK.go ?_
 refine Mm 1 (len := 2) (n := 3) (by kernel_rfl) rfl rfl rfl (by decide) rfl (by decide) ?_
 refine bZ (cs := [.slice none 0 0, .slice none 0 0, .slice none 0 0]) (aM (by kernel_rfl)) (by decide) fun g6 => ?_
 refine XK.go ?_
 refine XK.eR [1, 2, 4, 5, 7, 8, 11] ?_
 refine XB.mv 0 ?_
 refine XB.q 1 ?_
 refine XB.q 2 ?_
 refine XB.q 4 ?_
 refine XB.q 5 ?_
 refine XB.q 7 ?_
 refine XB.q 8 ?_
 refine XB.q 11 ?_
 refine XB.next 3 rfl (by kernel_rfl) ?_
 refine dZ (f := 100) (fi := []) (ca := []) (by kernel_rfl) rfl rfl (by decide) (sH z.y.d.length (bP z.y.d)) (fun w1 st => tI _ _ _ _ w1 (s3.le (st.le (by simp))) (tK _) (by have := h3; omega)) ?_
 rintro _ _ q3 ⟨B3, c3, rfl, rfl⟩ _
 dsimp only [List.cons_append, List.nil_append]
 refine XB.bk ?_ (hS := fun _ h => h.aN.tail)
 refine XB.next 6 rfl (by kernel_rfl) ?_
 refine dZ (f := 100) (fi := []) (ca := []) (by kernel_rfl) rfl rfl (by decide) (sH z.y.c.length (bP z.y.c)) (fun w1 st => tI _ _ _ _ w1 (s4.le (st.le (by simp))) (tK _) (by have := h4; omega)) ?_
 rintro _ _ q4 ⟨B4, c4, rfl, rfl⟩ _
 dsimp only [List.cons_append, List.nil_append]
 refine XB.bk ?_ (hS := fun _ h => h.aN.aN.tail.tail)
 refine XB.next 9 rfl (by kernel_rfl) ?_
 refine dZ (f := 100) (fi := []) (ca := []) (by kernel_rfl) rfl rfl (by decide) (sH z.y.l.length (bP z.y.l)) (fun w1 st => tI _ _ _ _ w1 (s5.le (st.le (by simp))) (tK _) (by have := h5; omega)) ?_
 rintro _ _ q5 ⟨B5, c5, rfl, rfl⟩ _
 dsimp only [List.cons_append, List.nil_append]
 refine XB.bk ?_ (hS := fun _ h => h.aN.aN.aN.tail.tail.tail)
 refine XB.next 10 rfl (by kernel_rfl) ?_
 refine dB (zs := [.slice none 0 0, .slice none 0 0, .slice none 0 0]) (L := [(0, 1), (1, 1), (2, 1)]) (aM (by kernel_rfl)) (by kernel_rfl) rfl (by simp [aR, aU, Value.cells]; rfl) (by decide) ?_
 refine XB.bk ?_ (hS := fun _ h => h.aN.aN.aN.tail.tail.tail)
 refine XB.next 12 rfl (by kernel_rfl) ?_
 refine kd (fJ (sz := 3) 1 3) ?_
 refine XB.bt ?_
 refine XB.next 13 rfl (by kernel_rfl) ?_
 refine eJ rfl rfl ?_; simp only [cC, Value.cells, List.set, List.take, List.drop, List.nil_append, List.append_nil, List.length_cons, List.length_nil, List.cons_append, Nat.reduceAdd]
 refine XB.bt ?_
 refine XB.done (by kernel_rfl) ?_
 refine XK.go ?_
 refine XK.weak [4, 5, 6, 2, 1, 0, 7, 8] rfl (by decide) (R' := [all w]) (by simp) ?_
 refine XK.Dr ?_
 refine XK.weak [6, 7, 0, 1, 2, 3, 4, 5] rfl (by decide) (fun _ h => h) ?_
 refine XK.go ?_
 refine XK.still [] [2, 3, 4, 5, 6, 7] [0, 1] (by simp) rfl (by decide) (by decide) fun q hq _ hfr => ?_
 obtain ⟨F0, Hq, Gl⟩ := hq 2 _ (by simp) rfl
 have hs0 := aH.own (q := q) ⟨F0, Hq, Gl⟩
 obtain ⟨F1, Hp, Gk⟩ := hq 3 _ (by simp) rfl
 have hs1 := aH.own (q := q) ⟨F1, Hp, Gk⟩
 obtain ⟨F2, kF, kB⟩ := hq 4 _ (by simp) rfl
 have fF := aH.own (q := q) ⟨F2, kF, kB⟩
 obtain ⟨F3, Ho, Gj⟩ := hq 5 _ (by simp) rfl
 have kY := aH.own (q := q) ⟨F3, Ho, Gj⟩
 obtain ⟨F4, Hl, Gi⟩ := hq 6 _ (by simp) rfl
 have mB := aH.own (q := q) ⟨F4, Hl, Gi⟩
 obtain ⟨F5, Hj, Gh⟩ := hq 7 _ (by simp) rfl
 have lI := aH.own (q := q) ⟨F5, Hj, Gh⟩
 refine XK.Dt rfl (n := 6) (vs := [.slice B0 z.x.d.length c0, .slice B1 z.x.c.length c1, .slice B2 z.x.l.length c2, .slice B3 z.y.d.length c3, .slice B4 z.y.c.length c4, .slice B5 z.y.l.length c5]) (by kernel_rfl) rfl rfl (aD.whole 1 rfl) fun w1 st => ⟨⟨_, rfl, ?_⟩, st.below (by simp)⟩
 have hle := st.lK (by simp) (hfr (by simp) (by simp))
 exact ⟨B0, c0, B1, c1, B2, c2, B3, c3, B4, c4, B5, c5, rfl, hs0.le hle, hs1.le hle, fF.le hle, kY.le hle, mB.le hle, lI.le hle⟩
end
section
section
variable {P : Program} {N : cN} {w0 : World} {e : Env} {R R0 : List Piece} {H H0 : List HP} {Q : Exit → Act → World → Prop} {ops : Array Oper} {Z : List Nat} {fuel : Nat} {listed : Array Bool}
variable {d t j : Nat} {want : Bool} {op : Op} {ty : TypeId} {pos : String} {aJ : Array Edge}
theorem XB.Wk (i : Nat) {v : Value} (hi : ops[i]? = some ⟨some d, op, ty, pos, aJ, some (j, want)⟩) (hj : (ops[j]?).bind (·.dst) = some t) (ht : e.get t = some (.bool want)) (hd : d < N.n) (dN : bH P N w0 e R0 H0 ⟨some d, op, ty, pos, aJ, none⟩ v)
  (hc : (Region.free .any ops listed i && (Region.ready .any ops listed).contains i && Z.contains i) = true) (hQ : ∀ c a w, Q (.panic c) (a.put (some d) v) w → Q (.panic c) a w)
  (hsub : ∀ w, St w0 R H w → St w0 R0 H0 w)
  (k : XB P N w0 ops Q R0 H0 Z fuel (listed.setIfInBounds i true) ((d, v) :: e) R H) : XB P N w0 ops Q R0 H0 Z (fuel + 1) listed e R H := by
 simp only [Bool.and_eq_true] at hc
 obtain ⟨⟨h2, h3⟩, h5⟩ := hc
 intro up a w hr st
 have hp := k (up.gH (by simpa using h3)) (a.put (some d) v) w (hr.put hd v) st
 refine Ym hi (Region.noSelect_spec up.xB) hQ (by simpa using h5) fuel listed a w up.down (Region.free_spec hi h2) (by simpa using h3) (.inl ⟨?_, fun w' hw' => ?_⟩) (hsub w st) hp
 ·simp only [Region.wanted, yielded, hj, Option.bind_some, hr.get t _ ht]
  simp
 ·exact dN a w' hr hw'
end
section
variable {N : cN} {w0 : World} {e : Env} {R R0 : List Piece} {H H0 : List HP} {Q : Exit → Act → World → Prop} {ops : Array Oper} {Z : List Nat} {fuel : Nat} {listed : Array Bool}
variable {d t j : Nat} {want : Bool} {ty : TypeId} {pos : String} {aJ : Array Edge} {op : Op} {v : Value}
theorem XB.qT (i : Nat) (k : XB Tryz.prog N w0 ops Q R0 H0 Z fuel (listed.setIfInBounds i true) ((d, v) :: e) R H) (hi : ops[i]? = some ⟨some d, op, ty, pos, aJ, some (j, want)⟩ := by rfl) (hj : (ops[j]?).bind (·.dst) = some t := by rfl) (ht : e.get t = some (.bool want) := by rfl) (dN : bH Tryz.prog N w0 e R0 H0 ⟨some d, op, ty, pos, aJ, none⟩ v := by
  first
  | ((with_reducible apply Gx); exact cI rfl)
  | ((with_reducible apply Hi); exact yE rfl)
  | ((with_reducible apply Gy); (first | exact bR rfl | exact pR rfl | exact Ld rfl))
  | ((with_reducible apply He); exact Lh rfl)
  | ((with_reducible apply Gw); exact Kz rfl)
  | ((with_reducible apply Gv); (first | exact yB rfl rfl | exact yC rfl rfl))
  | ((with_reducible apply Hh); (first | exact La rfl rfl | exact Lc rfl rfl | exact Lf rfl rfl | exact Lg rfl rfl | exact zX rfl rfl | exact Cv rfl rfl | exact lN rfl rfl (bA (by omega)) | exact Fi rfl rfl (bA (by omega)) | exact Kw rfl | exact Kv rfl | exact Fj rfl))
  | ((with_reducible apply Gu); (first | exact Kx rfl | exact Ky rfl))
  | ((with_reducible apply Gz); exact Lb rfl)
  | ((with_reducible apply Hg); exact vI rfl rfl)
  | ((with_reducible apply Hf); exact Li rfl rfl)) (hd : d < N.n := by decide)
  (hc : (Region.free .any ops listed i && (Region.ready .any ops listed).contains i && Z.contains i) = true := by kernel_rfl) (hQ : ∀ c a w, Q (.panic c) (a.put (some d) v) w → Q (.panic c) a w := by exact fun _ _ _ h => h)
  (hsub : ∀ w, St w0 R H w → St w0 R0 H0 w := by first | exact fun _ h => h | exact fun _ h => h.tail | exact fun _ h => h.aN | exact fun _ h => h.tail.tail | exact fun _ h => h.aN.tail | exact fun _ h => h.aN.aN) : XB Tryz.prog N w0 ops Q R0 H0 Z (fuel + 1) listed e R H := XB.Wk i hi hj ht hd dN hc hQ hsub k
end
end
section
set_option maxHeartbeats 4000000
set_option maxRecDepth 20000
theorem aGt (A : Option Addr) (n c : Nat) (zs : List Int) (pk : Int) (w : World) (h0 : aH (all w) 1 A n (aO zs)) (hz : Xk zs) (hn : n = zs.length) (hn2 : n ≤ 9223372036854775807) (hpk : -9223372036854775808 ≤ pk ∧ pk ≤ 9223372036854775807) (eG : jG (all w)) :
  Calls Tryz.prog 7 #[.slice A n c, .int .i64 pk] w (Rt (.bool true) w) := by
 refine XK.enter (vs := [.slice A n c, .int .i64 pk]) Tryz.func7 rfl Tryz.ntmps7 (by simp) ?_
 refine XK.go ?_
 refine aZ (fun w1 t => aDc w1) ?_
 refine XK.go ?_
 refine iY [] (f := 14) (fi := []) (ca := []) (by kernel_rfl) rfl rfl (by decide) (by simp) (fun v w w' => ∃ cs s, v = .agg cs ∧ mW (dU (fresh w w')) s cs ∧ s.made) (fun w1 st => aHI A n c zs w1 (h0.le (st.le (by simp))) hz hn hn2) ?_
 rintro _ w1 q1 ⟨cs, s, rfl, hS, hm⟩ hf _ _
 obtain ⟨A1, n1, k1, A2, n2, k2, A3, n3, k3, A4, n4, k4, rfl, mF⟩ := (hS.mono (gE hf)).Q
 clear hf hS
 have hH := hm.bO
 have cU := aA3 hm
 refine bZ (cs := [.slice none 0 0, .slice none 0 0, .slice none 0 0, .slice none 0 0]) (aM (by kernel_rfl)) (by decide) fun g1 => ?_
 refine XK.go ?_
 refine dZ (f := 15) (fi := []) (ca := []) (by kernel_rfl) rfl rfl (by decide) (Xl s) (fun w1 t => aBd s hH A1 A2 A3 A4 n1 k1 n2 k2 n3 k3 n4 k4 w1 (mF.W (t.le (by simp)) cU)) ?_
 rintro _ _ q2 ⟨hL, rfl, rfl, gB, oF⟩ _
 dsimp only [List.cons_append, List.nil_append]
 refine XK.go ?_
 refine dZ (f := 16) (fi := []) (ca := []) (by kernel_rfl) rfl rfl (by decide) (Xn hL.h s) (fun w1 t => aBt hL.h s hH A1 A2 A3 A4 n1 k1 n2 k2 n3 k3 n4 k4 w1 (mF.W (t.le (by simp)) cU)) ?_
 rintro _ _ q3 ⟨f, rfl, rfl⟩ _
 dsimp only [List.cons_append, List.nil_append]
 have aV : fB hL s := ⟨gB, oF⟩
 have aIv := Tl hH
 obtain ⟨rfl, rfl, rfl, rfl⟩ := mF.len
 have hc9 := hm.nc
 have hd4 := hm.nd
 have sY := hm.nr
 have hv4 := hm.nv
 have aIq : ∀ i, iA (hw0 s).wt i = 0 := fun i => by
  unfold iA hw0
  simp only [List.getElem?_map]
  cases s.aA[i]? <;> rfl
 refine XK.go ?_
 refine Mn (f := 17) (fi := []) (ca := []) (by kernel_rfl) rfl rfl (by decide) (fun v => ∃ r : Int, v = .int .i64 r ∧ 0 ≤ r ∧ r < s.aA.length) (fun w1 st => aAi pk s.aA.length w1 hpk (by omega)) ?_
 rintro _ ⟨r, rfl, Oq, hr9⟩
 obtain ⟨dn, rfl⟩ : ∃ n : Nat, r = (n : Int) := ⟨r.toNat, by omega⟩
 obtain ⟨d, hd⟩ := get_some (l := s.aA) (i := dn) (by omega)
 refine XK.go ?_
 refine XK.weak [0, 1, 2] rfl (by decide) (R' := [q1, all w]) (by simp) ?_
 refine XK.pair ?_
 obtain ⟨f1, f2, f3, f4, f5, f6, _⟩ := hm.aA dn d hd
 obtain ⟨dd, Ct⟩ : ∃ n : Nat, d.domain = (n : Int) := ⟨d.domain.toNat, by omega⟩
 obtain ⟨c, hc⟩ := get_some (l := s.domains) (i := dd) (by omega)
 obtain ⟨db, Ks, dr0, Ki, zL, jX, ⟨RA, Rn, Rk, NA, Nn, Nk, rfl, _⟩, hdc⟩ := eO.Hv mF.dev hd
 obtain ⟨ab, Wz, ar, Kj, Vc, hal, rfl, hac⟩ := eO.Hv mF.dom hc
 rw [Ct] at hdc
 have Wc : d.domain.toNat = dd := by omega
 refine XK.aK [(12, .int .i64 0), (11, .int .i64 (dn : Int)), (9, .pointer (some ⟨f, 0, none⟩)), (7, .pointer (some ⟨hL.h, 0, none⟩)), (6, .pointer (some ⟨g1, 0, none⟩))] ?_
 refine XK.loop (fun m e R H => ∃ (k : Nat) (a : Fw), k ≤ 2 ∧ m = 2 - k ∧ (a.2.1 = 0 ∨ a.2.1 = 1) ∧ Inv s a.1 none none none a.2.2.2.2 ∧ (∀ i, hasB a.1.d i = true → i ≤ d.domain.toNat) ∧ e = [(12, .int .i64 (k : Int)), (11, .int .i64 (dn : Int)), (9, .pointer (some ⟨f, 0, none⟩)), (7, .pointer (some ⟨hL.h, 0, none⟩)), (6, .pointer (some ⟨g1, 0, none⟩))] ∧ R = [q1, all w] ∧ H = [Lx f hL s a, HP.aF g1 29 [.slice A1 s.aB.length k1, .slice A2 s.domains.length k2, .slice A3 s.aW.length k3, .slice A4 s.aA.length k4]]) 2 ⟨0, (dY s, 1, 0, 0, hw0 s), by omega, rfl, .inr rfl, aFl hm, (fun i h => absurd h (by rw [aCv]; simp)), rfl, rfl, rfl⟩ fun m e R H hI => ?_
 obtain ⟨k, ⟨X0, l0, k0, i0, x0⟩, hk, rfl, pM, Ur, Tp, rfl, rfl, rfl⟩ := hI
 dsimp only at pM Ur Tp ⊢
 refine XK.go ?_
 refine XK.if_ rfl (fun hlt => ?_) (fun hge => ?_)
 ·have hlt : k < 2 := by omega
  refine XK.go ?_
  refine sK (α := Fw) 0 (f := 29) (fi := []) (ca := []) (fun _ => .bool true) (fun a => Lx f hL s a) (Qj s d) (by kernel_rfl) rfl rfl rfl (by decide) (fun w1 F1 t h1 h2 h3 => Yp f hL s hm aV X0 l0 k0 i0 x0 pM Ur A1 A2 A3 A4 _ k1 _ k2 _ k3 _ k4 dn d hd Tp w1 F1 h1 h2 (mF.le (h3 _ (by simp))) (jG.le eG (h3 _ (by simp)))) ?_
  rintro ⟨X, l, k9, i9, x⟩ ⟨hl, hinv, ⟨nF, pI⟩, zN, Ex⟩
  dsimp only [List.set] at hl hinv nF pI zN Ex ⊢
  refine XK.take 0 1 rfl rfl ?_
  dsimp only [List.set]
  have hal := hinv.alive hm hd nF zN Ex
  refine XK.go ?_
  refine aZ (fun w1 t => Va hL s x w1 hH aV hinv.ok dn (by omega) (t.iW 0 rfl aV hinv.ok)) ?_
  rw [hal]
  refine XK.go ?_
  refine XK.aX 0 1 rfl rfl ?_
  dsimp only [List.set]
  rw [Wc] at nF pI
  have kG : (k : Int) = 0 ∨ (k : Int) = 1 := by omega
  have hO := aAo kG
  obtain ⟨N, l2, Od, i2, x2, hN, eB, oF, qV, jW⟩ := aEC (k0 := k9) (i0 := i9) hm hl hinv hc nF pI kG
  refine XK.jD ?_
  refine XQ.go ?_
  refine XQ.kd (dat dn (Ks + dn * 6) (hx := by rw [← Ki]; rfl)) ?_
  refine XQ.go ?_
  refine XQ.kd (bR rfl (Rd.ro (p := q1) (by simp) zL (hdc 1 _ rfl))) ?_
  refine XQ.kd (dat dd (Wz + dd * 3) (hx := by rw [← Kj]; rfl)) ?_
  refine XQ.go ?_
  refine XQ.kd (bR rfl (Rd.ro (p := q1) (by simp) Vc (hac 2 _ rfl))) ?_
  refine XQ.end_ ?_
  refine XK.Lj (fun e R H => e = (13, .int .u32 (qO c)) :: [(12, .int .i64 (k : Int)), (11, .int .i64 (dn : Int)), (9, .pointer (some ⟨f, 0, none⟩)), (7, .pointer (some ⟨hL.h, 0, none⟩)), (6, .pointer (some ⟨g1, 0, none⟩))] ∧ R = [q1, all w] ∧ H = [Lx f hL s (X, l, k9, i9, x), HP.aF g1 29 [.slice A1 s.aB.length k1, .slice A2 s.domains.length k2, .slice A3 s.aW.length k3, .slice A4 s.aA.length k4]]) ?_ ?_
  ·unfold qO
   cases c.ret
   ·refine XK.go ?_
    exact XK.aK ((13, .int .u32 0) :: [(12, .int .i64 (k : Int)), (11, .int .i64 (dn : Int)), (9, .pointer (some ⟨f, 0, none⟩)), (7, .pointer (some ⟨hL.h, 0, none⟩)), (6, .pointer (some ⟨g1, 0, none⟩))]) (XK.meet ⟨rfl, rfl, rfl⟩)
   ·refine XK.go ?_
    exact XK.aK ((13, .int .u32 2) :: [(12, .int .i64 (k : Int)), (11, .int .i64 (dn : Int)), (9, .pointer (some ⟨f, 0, none⟩)), (7, .pointer (some ⟨hL.h, 0, none⟩)), (6, .pointer (some ⟨g1, 0, none⟩))]) (XK.meet ⟨rfl, rfl, rfl⟩)
  rintro _ _ _ ⟨rfl, rfl, rfl⟩
  refine XK.go ?_
  refine dB (zs := [.int .i64 0, .int .i64 0, .int .i64 0, .int .i64 0]) (L := [(0, 1), (1, 1), (2, 1), (3, 1)]) (aM (by kernel_rfl)) (by kernel_rfl) rfl (by simp [aR, aU, Value.cells]; rfl) (by decide) ?_
  refine XK.go ?_
  refine kd (dat dn (Ks + dn * 6) (hx := by rw [← Ki]; rfl)) ?_
  refine XK.go ?_
  refine kd (bR rfl (Rd.ro (p := q1) (by simp) zL (hdc 1 _ rfl))) ?_
  refine kd (yD (ds := .int .i64) (kd := .u32) (c := (dd : Int)) (by kernel_rfl) (by kernel_rfl) rfl (wrap_u32 (by omega))) ?_
  refine XK.go ?_
  refine eP (el := 44) (sz := 1) (zs := [.int .u32 0]) (by kernel_rfl) (aM (by kernel_rfl)) (by kernel_rfl) rfl (by decide) (by decide) rfl (by simp [aR, aU, Value.cells, List.range_succ, List.set]; rfl) (by decide) fun g3 => ?_
  refine iY [] (f := 18) (fi := []) (ca := []) (by kernel_rfl) rfl rfl (by decide) (by simp) (Gc (mD k dd (qO c))) (fun w1 t => Ll 4 0 17 k (some ⟨g3, 0, none⟩) 2 2 [(dd : Int), qO c] w1 (t.uF (i := 0) rfl rfl) rfl (by omega) hO.pk) ?_
  rintro _ w1 qm ⟨Al, cl, rfl, pL⟩ hf _ _
  have pL := pL.le hf
  clear hf
  refine XK.weak [1, 2] rfl (by decide) (fun _ h => h) ?_
  refine XK.go ?_
  refine fE 0 (bG f hL s (kJ s (lB X dd) l2 Od i2) x2) (fun w1 F1 t h1 h2 h3 => Mu f hL s (kJ s X l k9 i9) x w1 hH aV Al cl (mD k dd (qO c)) (by simp [mD]) N hN _ (IntKind.u32.wrap 0) _ _ _ Mi eB rfl F1 h1 h2 (pL.le (h3 _ (by simp))) (jG.le eG (h3 _ (by simp)))) ?_
  dsimp only [List.set]
  rw [Og]
  have Ep : dd < X.d.length := by rw [hinv.of.d]; omega
  have hXo : hasB (lB X dd).d dd = false := by
   show hasB (dI X.d dd false) dd = false
   rw [Ve Ep, if_pos rfl]
  have aGi : Ah s x2 dn = false := qV.dead hd (by rw [Wc]; exact hXo) f3
  have Tt : uD x2 dn = 115 := by
   obtain ⟨p, hp⟩ := get_some (l := x2.dv) (i := dn) (by have := qV.ok.dv; omega)
   unfold uD
   rw [hp]
   show lF p.2.at_ = 115
   rw [jW dn p d hp hd Ct]
   rfl
  refine XK.take 0 0 rfl rfl ?_
  dsimp only [List.set]
  refine XK.lY 0 rfl fun L => ?_
  dsimp only [List.set]
  refine XK.take 1 1 rfl rfl ?_
  dsimp only [List.set]
  refine XK.go ?_
  refine XK.eR [1, 3, 4, 5, 7, 8, 10, 12, 13, 15, 16, 18, 20, 21, 22, 23, 24, 25, 26, 27, 28, 29] ?_
  refine XB.mv 0 ?_
  refine XB.q 1 ?_
  refine XB.mv 2 ?_
  refine XB.qT 3 ?_
  refine XB.qT 4 ?_
  refine XB.q 5 ?_
  refine XB.mv 6 ?_
  refine XB.qT 7 ?_
  refine XB.qT 8 ?_
  refine XB.next 9 rfl (by kernel_rfl) ?_
  refine XK.go ?_
  refine aZ (fun w1 t => Va hL s x2 w1 hH aV qV.ok dn (by omega) (t.iW 0 rfl aV qV.ok)) ?_
  rw [aGi]
  refine XB.bk ?_
  refine XB.q 10 ?_
  refine XB.mv 11 ?_
  refine XB.qT 12 ?_
  refine XB.qT 13 ?_
  refine XB.next 14 rfl (by kernel_rfl) ?_
  refine XK.go ?_
  refine aZ (fun w1 t => Pe hL s x2 w1 aV qV.ok dn (by omega) (eG.at_ (t.le (by simp))) (t.iW 0 rfl aV qV.ok)) ?_
  rw [Tt]
  refine XB.bk ?_
  refine XB.qT 15 ?_
  refine XB.q 16 ?_
  refine XB.mv 17 ?_
  refine XB.qT 18 ?_
  refine XB.qT 23 ?_
  refine XB.qT 24 ?_
  refine XB.qT 25 ?_
  refine XB.qT 26 ?_ (hi := rfl) (dN := dat dn (Ks + dn * 6) (hx := by rw [← Ki]; rfl))
  refine XB.qT 27 ?_
  refine XB.qT 28 ?_ (hi := rfl) (dN := bR rfl (Rd.ro (p := q1) (by simp) zL (hdc 1 _ rfl)))
  refine XB.next 19 rfl (by kernel_rfl) ?_
  refine XK.go ?_
  refine iY [] (f := 33) (fi := []) (ca := []) (by kernel_rfl) rfl rfl (by decide) (by simp) (fun v w w' => jP (fresh w w') (lB X dd) (dY s) v) (fun w1 t => aG1 f hL.h L s (kJ s (lB X dd) l2 Od i2) (qV.of.sm hm) (Mj hm.rM) w1 (t.qY 1 rfl)) ?_
  rintro _ w4 q4 hS4 hf4 _ _
  obtain ⟨X1, j1, X2, j2, X3, j3, Y1, u1, Y2, u2, Y3, u3, rfl, c1, c2, c3, c4, c5, c6⟩ := jP.le hS4 hf4
  refine XB.bk ?_ (hS := fun _ h => h.aN)
  refine XB.qT 20 ?_ (hi := rfl) (dN := aHm (off := 0) (n := 6) (vs := [.slice X1 (lB X dd).d.length j1, .slice X2 (lB X dd).c.length j2, .slice X3 (lB X dd).l.length j3, .slice Y1 (dY s).d.length u1, .slice Y2 (dY s).c.length u2, .slice Y3 (dY s).l.length u3]) (by kernel_rfl) rfl rfl)
  refine XB.qT 21 ?_ (hi := rfl) (dN := aHl 0 (len := 2) (n := 3) (vs := [.slice X1 (lB X dd).d.length j1, .slice X2 (lB X dd).c.length j2, .slice X3 (lB X dd).l.length j3]) (by kernel_rfl) rfl rfl rfl (by decide) rfl)
  refine XB.qT 22 ?_
  obtain ⟨xb, aC0, hX1, hxz, Tj⟩ := c1.2 (by show 0 < (dI X.d dd false).length; rw [vU]; omega)
  refine XB.qT 29 ?_ (hi := rfl) (dN := dat dd (aC0 + dd) (hx := by rw [← hX1]; rfl) (hlt := by show dd < (dI X.d dd false).length; rw [vU]; omega))
  refine XB.next 30 rfl (by kernel_rfl) ?_
  refine XK.go ?_
  refine kd (bR rfl (Rd.ro (p := q4) (by simp) hxz (Tj dd (.bool false) ?_))) ?_
  ·have h7 : hasB (dI X.d dd false) dd = false := hXo
   rw [xT] at h7
   show (bP (dI X.d dd false))[dd]? = some (.bool false)
   have h8 : dd < (dI X.d dd false).length := by rw [vU]; omega
   rw [List.getElem?_eq_getElem h8] at h7
   simp only [bP, List.getElem?_map, List.getElem?_eq_getElem h8, Option.map_some, Option.some.injEq, Value.bool.injEq]
   simpa using h7
  refine XB.bk ?_ (hS := fun _ h => h.aN)
  refine XB.next 31 rfl (by kernel_rfl) ?_
  refine XK.go ?_
  refine XB.bk ?_ (hS := fun _ h => h.aN)
  refine XB.done (by kernel_rfl) ?_
  refine XK.go ?_
  refine XK.aX 1 1 rfl rfl ?_
  dsimp only [List.set]
  refine XK.jJ 0 (f := fun L : eC => eE f hL.h L s (kJ s (lB X dd) l2 Od i2)) L rfl ?_
  dsimp only [List.set]
  refine XK.aX 0 0 rfl rfl ?_
  dsimp only [List.set]
  refine XK.weak [0, 1] rfl (by decide) (R' := [q1, all w]) (by simp) ?_
  refine XK.aK [(12, .int .i64 ((k + 1 : Nat) : Int)), (11, .int .i64 (dn : Int)), (9, .pointer (some ⟨f, 0, none⟩)), (7, .pointer (some ⟨hL.h, 0, none⟩)), (6, .pointer (some ⟨g1, 0, none⟩))] ?_
  exact XK.round (2 - (k + 1)) (by omega) ⟨k + 1, (lB X dd, l2, Od, i2, x2), hlt, rfl, oF, qV, fun i h => (by
   rw [Wc]
   have h : hasB (dI X.d dd false) i = true := h
   rw [Ve Ep] at h
   by_cases h9 : i = dd
   ·omega
   ·rw [if_neg h9] at h
    exact pI i h), rfl, rfl, rfl⟩
 ·refine XK.go ?_
  refine sK (α := Fw) 0 (f := 29) (fi := []) (ca := []) (fun _ => .bool true) (fun a => Lx f hL s a) (Qj s d) (by kernel_rfl) rfl rfl rfl (by decide) (fun w1 F1 t h1 h2 h3 => Yp f hL s hm aV X0 l0 k0 i0 x0 pM Ur A1 A2 A3 A4 _ k1 _ k2 _ k3 _ k4 dn d hd Tp w1 F1 h1 h2 (mF.le (h3 _ (by simp))) (jG.le eG (h3 _ (by simp)))) ?_
  rintro ⟨X, l, k9, i9, x⟩ ⟨hl, hinv, ⟨nF, _⟩, zN, Ex⟩
  dsimp only [List.set] at hinv nF ⊢
  refine XK.take 0 1 rfl rfl ?_
  dsimp only [List.set]
  have hal := hinv.alive hm hd nF zN Ex
  have hst := hinv.state hd nF
  refine XK.go ?_
  refine aZ (fun w1 t => Va hL s x w1 hH aV hinv.ok dn (by omega) (t.iW 0 rfl aV hinv.ok)) ?_
  rw [hal]
  refine XK.go ?_
  refine aZ (fun w1 t => Pe hL s x w1 aV hinv.ok dn (by omega) (eG.at_ (t.le (by simp))) (t.iW 0 rfl aV hinv.ok)) ?_
  rw [hst]
  refine XK.go ?_
  exact XK.bU (by simp) rfl
end
end Go.Proofs.YticjkhagldkejaaGreatDoor
