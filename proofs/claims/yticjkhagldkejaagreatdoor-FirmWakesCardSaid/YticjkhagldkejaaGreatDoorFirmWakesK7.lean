/- package hard: a tick while nothing is on its way, walked. -/
import Derived.Test.YticjkhagldkejaaGreatDoorFirmWakesK6
namespace Go.Proofs.YticjkhagldkejaaGreatDoor
set_option linter.all false
open Go.RowKit
section
set_option maxHeartbeats 4000000
set_option maxRecDepth 20000
theorem RdN.ev {w0 : World} {R : List Piece} {H : List HP} {q : Piece} {A : Option Addr} {es : List (Int × Nat)} {j : Nat} {p : Int × Nat} (hq : q ∈ R) (hs : SlS q 2 A es.length (es.flatMap evC)) (hj : es[j]? = some p) : ∃ b off, A = some ⟨b, off, none⟩ ∧ RdN w0 R H b (off + j * 2) (evC p) := by
 have hlt := (List.getElem?_eq_some_iff.1 hj).1
 obtain ⟨b, off, hA, hz, hc⟩ := SlS.rowP (rows := es.map evC) (sz := 2) (k := j) (r := evC p) (n := es.length) (by rw [← List.flatMap_def]; exact hs) (fun r hr => by
  obtain ⟨x, _, rfl⟩ := List.mem_map.1 hr
  rfl) (by rw [List.getElem?_map, hj]; rfl) hlt
 exact ⟨b, off, hA, .of fun k v hv => Rd.ro hq hz (hc k v hv)⟩
theorem hdTick_m (L : HL) (s : Soc) (x : HwS) (w : World) (hH : s.okH) (hLo : HLOk L s) (hok : HwOk s x) (deny : Int) (hd : 0 ≤ deny ∧ deny < 4294967296) (hwt : ∀ i, wtN x.wt i = 0) (F : Nat → Prop) (hp : (HardH L s x).sat F w) (hF : ∀ b, F b → b < w.heap.size) :
  Calls Tryz.prog 25 #[.pointer (some ⟨L.h, 0, none⟩), .int .u32 deny] w (fun y w' => y = .returned (.slice none 0 0) ∧ ∃ F', (HardH L s (tickX s x deny)).sat F' w' ∧ Turns w w' F F') := by
 have hnv := hH.t.nv
 have hnd := hH.t.nd
 have hdl := hok.dv
 have hls := hLo.ds
 refine XK.enterM (p := HardH L s x) (F := F) (vs := [.pointer (some ⟨L.h, 0, none⟩), .int .u32 deny]) Tryz.func25 rfl Tryz.ntmps25 (by simp) hp hF ?_
 generalize hR0 : (⟨w, fun b => b < w.heap.size ∧ ¬ F b⟩ : Piece) = R0
 refine XK.go ?_
 refine kcall (fun w1 t => hdMade_any L s x w1 (t.hardR 0 rfl hLo hok)) ?_
 refine XK.go ?_
 refine kd (does_ld1 rfl (Rd.hard 0 rfl rfl)) ?_
 refine XK.go ?_
 refine XK.envS [(24, .int .i64 0), (23, .int .i64 s.devs.length), (5, .slice none 0 0), (0, .pointer (some ⟨L.h, 0, none⟩)), (1, .int .u32 deny)] ?_
 refine XK.loop (fun m e R H => ∃ i : Nat, i ≤ s.devs.length ∧ m = s.devs.length - i ∧ e = [(24, .int .i64 i), (23, .int .i64 s.devs.length), (5, .slice none 0 0), (0, .pointer (some ⟨L.h, 0, none⟩)), (1, .int .u32 deny)] ∧ R = [R0] ∧ H = [HardH L s x]) s.devs.length ⟨0, by omega, rfl, rfl, rfl, rfl⟩ fun m e R H hI => ?_
 obtain ⟨i, hi, rfl, rfl, rfl, rfl⟩ := hI
 refine XK.go ?_
 refine XK.if_ rfl (fun hlt => ?_) (fun hge => ?_)
 ·have hlt : i < s.devs.length := by omega
  refine XK.go ?_
  refine kcall (fun w1 t => hdAnswer0_any L s x i hlt (hwt i) w1 (t.hardR 0 rfl hLo hok)) ?_
  refine XK.go ?_
  refine xk_alloc (cs := [.int .i64 0, .int .i64 0, .bool false, .int .u32 0]) (zeroB_of (by kernel_rfl)) (by decide) fun g1 => ?_
  refine XK.go ?_
  refine XK.weak [1] rfl (by decide) (fun _ h => h) ?_
  refine XK.envS [(24, .int .i64 (i + 1 : Nat)), (23, .int .i64 s.devs.length), (5, .slice none 0 0), (0, .pointer (some ⟨L.h, 0, none⟩)), (1, .int .u32 deny)] ?_
  exact XK.round (s.devs.length - (i + 1)) (by omega) ⟨i + 1, hlt, rfl, rfl, rfl, rfl⟩
 obtain rfl : i = s.devs.length := by omega
 refine XK.go ?_
 refine kd (does_ld1 rfl (Rd.hard 0 rfl rfl)) ?_
 refine XK.go ?_
 have hq0 : midQ x deny 0 = x.dv := mapIdx_zero _ _
 refine XK.envS [(44, .int .i64 0), (43, .int .i64 s.devs.length), (42, .slice L.A s.devs.length L.c), (5, .slice none 0 0), (0, .pointer (some ⟨L.h, 0, none⟩)), (1, .int .u32 deny)] ?_
 refine XK.loop (fun m e R H => ∃ i : Nat, i ≤ s.devs.length ∧ m = s.devs.length - i ∧ e = [(44, .int .i64 i), (43, .int .i64 s.devs.length), (42, .slice L.A s.devs.length L.c), (5, .slice none 0 0), (0, .pointer (some ⟨L.h, 0, none⟩)), (1, .int .u32 deny)] ∧ R = [R0] ∧ H = [HardH L s { x with dv := midQ x deny i }]) s.devs.length ⟨0, by omega, rfl, rfl, rfl, by rw [hq0]⟩ fun m e R H hI => ?_
 obtain ⟨i, hi, rfl, rfl, rfl, rfl⟩ := hI
 have hokm := midQ_ok hH hok deny i
 refine XK.go ?_
 refine XK.if_ rfl (fun hlt => ?_) (fun hge => ?_)
 ·have hlt : i < s.devs.length := by omega
  obtain ⟨d, hd1⟩ := get_some hlt
  obtain ⟨l, hl1⟩ := get_some (l := L.ds) (i := i) (by omega)
  obtain ⟨p, hp1⟩ := get_some (l := x.dv) (i := i) (by omega)
  have hpm : (midQ x deny i)[i]? = some p := mapIdx_at hp1
  have hstep : (midQ x deny i).set i (p.1, tickQ p.2 (decide (0 < wtN x.wt i)) (denyB deny i)) = midQ x deny (i + 1) := mapIdx_step (f := fun i p => (p.1, tickQ p.2 (decide (0 < wtN x.wt i)) (denyB deny i))) hp1
  have hw0 : decide (0 < wtN x.wt i) = false := by rw [hwt i]; rfl
  rw [hw0] at hstep
  refine XK.rows 0 rfl hLo hokm (by omega) fun b off hA => ?_
  refine XK.go ?_
  refine kd (dat i (off + i * 6) (hx := by rw [← hA]; rfl)) ?_
  refine kd (does_ldA rfl (RdN.dev 0 rfl hLo hokm hA hd1 hl1 rfl)) ?_
  refine xk_alloc (cs := [.int .i64 0, .int .i64 0, .int .i64 0, .int .u32 0, .pointer none, .pointer none]) (zeroB_of (by kernel_rfl)) (by decide) fun g1 => ?_
  refine XK.go ?_
  refine XK.drawB [0, 1, 3, 4, 5, 11, 12, 13] ?_
  refine XB.mv 2 ?_
  refine XB.mv 6 ?_
  refine XB.mv 9 ?_
  refine XB.mv 10 ?_
  refine XB.q 0 ?_
  refine XB.q 1 ?_
  refine XB.q 3 ?_
  refine XB.q 4 ?_
  refine XB.q 5 ?_ (hdo := does_ld1 rfl (Rd.hard 1 rfl rfl))
  refine XB.q 11 ?_ (hdo := does_shr rfl rfl (c := deny.fdiv (2 ^ min i 32)) (by omega) rfl)
  refine XB.q 12 ?_ (hdo := does_bits (c := and32 (deny.fdiv (2 ^ min i 32)) 1) rfl rfl (fun _ => rfl) (by simp))
  refine XB.q 13 ?_
  refine XB.next 7 rfl (by kernel_rfl) ?_
  refine kcall (fun w1 t => busWaiting_any L.B (msF s) x.wt x.posted i (by rw [msF_len]; exact hlt) w1 (t.hardR 1 rfl hLo hokm).bus) ?_
  refine XB.bk ?_
  refine XB.next 8 rfl (by kernel_rfl) ?_
  refine kdo ?_
  refine XB.bk ?_
  refine XB.next 14 rfl (by kernel_rfl) ?_
  refine XK.openDv 1 i rfl hd1 hl1 hpm ?_
  dsimp only [List.set]
  refine XK.take 0 1 rfl rfl ?_
  dsimp only [List.set]
  refine kcallW 0 (QtH l.2 (tickQ p.2 (decide ((wtN x.wt i : Int) > 0)) (denyB deny i))) (fun w1 F1 t h1 h2 h3 => qtTick_m _ _ h1 h2) ?_
  dsimp only [List.set]
  refine XK.give 0 1 rfl rfl ?_
  dsimp only [List.set]
  refine XK.closeDv 1 i rfl hd1 hl1 hpm (p' := (p.1, tickQ p.2 (decide ((wtN x.wt i : Int) > 0)) (denyB deny i))) ?_
  dsimp only [List.set]
  have hw1 : decide ((wtN x.wt i : Int) > 0) = false := by rw [hwt i]; rfl
  rw [hw1, hstep]
  refine XB.bt ?_
  refine XB.done (by kernel_rfl) ?_
  refine XK.go ?_
  refine XK.weak [1] rfl (by decide) (fun _ h => h) ?_
  refine XK.envS [(44, .int .i64 (i + 1 : Nat)), (43, .int .i64 s.devs.length), (42, .slice L.A s.devs.length L.c), (5, .slice none 0 0), (0, .pointer (some ⟨L.h, 0, none⟩)), (1, .int .u32 deny)] ?_
  exact XK.round (s.devs.length - (i + 1)) (by omega) ⟨i + 1, hlt, rfl, rfl, rfl, rfl⟩
 obtain rfl : i = s.devs.length := by omega
 have hokq := midQ_ok hH hok deny s.devs.length
 generalize hdv : midQ x deny s.devs.length = dv1 at hokq ⊢
 refine XK.go ?_
 refine kd (does_ld1 rfl (Rd.hard 0 rfl rfl)) ?_
 refine XK.go ?_
 refine XK.take 0 1 rfl rfl ?_
 dsimp only [List.set]
 refine kcallW 0 (TreeH L.T s (tickC s x.ck)) (fun w1 F1 t h1 h2 h3 => clkTick_m L.T s x.ck hH hLo.fa hok.ck w1 F1 h1 h2) ?_
 dsimp only [List.set]
 refine XK.give 0 1 rfl rfl ?_
 dsimp only [List.set]
 change XK _ _ _ _ _ [HardH L s { x with ck := tickC s x.ck, dv := dv1 }]
 refine XK.go ?_
 refine kd (does_ld1 rfl (Rd.hard 0 rfl rfl)) ?_
 refine XK.go ?_
 refine XK.take 0 2 rfl rfl ?_
 dsimp only [List.set]
 refine xk_callMV (α := Option Addr × Nat) 0 (f := 84) (fi := []) (ca := []) (fun a => .slice a.1 (evsD x.dm s.domains.length).length a.2) (fun a => HP.many [GridH L.G s (tickG x.dm), HP.own 166 2 (.slice a.1 (evsD x.dm s.domains.length).length a.2) (evsD x.dm s.domains.length).length ((evsD x.dm s.domains.length).flatMap evC)]) (fun _ => True) (by kernel_rfl) rfl rfl rfl (by decide) (fun w1 F1 t h1 h2 h3 => powTick_m L.G s x.dm hok.dm (by omega) w1 F1 h1 h2) ?_
 rintro ⟨Ae, ce⟩ _
 dsimp only [List.set]
 refine XK.take 0 0 rfl rfl ?_
 dsimp only [List.set]
 refine XK.give 1 2 rfl rfl ?_
 dsimp only [List.set]
 refine XK.take 0 1 rfl rfl ?_
 dsimp only [List.set]
 refine XK.still [] [0] [2] (by simp) rfl (by decide) (by decide) fun q hq _ hfr => ?_
 obtain ⟨F2, sf2, zf2⟩ := hq 0 _ (by simp) rfl
 have hev : SlS q 2 Ae (evsD x.dm s.domains.length).length ((evsD x.dm s.domains.length).flatMap evC) := SlS.own ⟨F2, sf2, zf2⟩
 have hok2 : HwOk s { x with ck := tickC s x.ck, dm := tickG x.dm, dv := dv1 } := ⟨tickC_ok hH hok.ck, tickG_ok hok.dm, hok.ln, hokq.dv, hokq.each, hok.wt⟩
 have hel : (evsD x.dm s.domains.length).length ≤ 1000 := Nat.le_trans (evsD_len x.dm s.domains.length) (by omega)
 generalize hes : evsD x.dm s.domains.length = es at hev hel ⊢
 change XK _ _ _ _ _ [HardH L s { x with ck := tickC s x.ck, dm := tickG x.dm, dv := dv1 }]
 refine XK.go ?_
 refine XK.envS [(76, .int .i64 0), (75, .int .i64 es.length), (74, .slice Ae es.length ce), (5, .slice none 0 0), (0, .pointer (some ⟨L.h, 0, none⟩))] ?_
 refine XK.loop (fun m e R H => ∃ j : Nat, j ≤ es.length ∧ m = es.length - j ∧ e = [(76, .int .i64 j), (75, .int .i64 es.length), (74, .slice Ae es.length ce), (5, .slice none 0 0), (0, .pointer (some ⟨L.h, 0, none⟩))] ∧ R = [q, R0] ∧ H = [HardH L s { x with ck := tickC s x.ck, dm := tickG x.dm, dv := (es.take j).foldl (dvE s) dv1 }]) es.length ⟨0, by omega, rfl, rfl, rfl, rfl⟩ fun m e R H hI => ?_
 obtain ⟨j, hj, rfl, rfl, rfl, rfl⟩ := hI
 have hok3 : HwOk s { x with ck := tickC s x.ck, dm := tickG x.dm, dv := (es.take j).foldl (dvE s) dv1 } := foldE_ok hH (es.take j) _ hok2
 refine XK.go ?_
 refine XK.if_ rfl (fun hlt => ?_) (fun hge => ?_)
 ·have hlt : j < es.length := by omega
  obtain ⟨p, hp1⟩ := get_some hlt
  have hsucc : (es.take (j + 1)).foldl (dvE s) dv1 = dvE s ((es.take j).foldl (dvE s) dv1) p := by
   rw [List.take_add_one, hp1, List.foldl_append]
   rfl
  generalize hx3 : ({ x with ck := tickC s x.ck, dm := tickG x.dm, dv := (es.take j).foldl (dvE s) dv1 } : HwS) = x3 at hok3
  have hx4 : ({ x with ck := tickC s x.ck, dm := tickG x.dm, dv := (es.take (j + 1)).foldl (dvE s) dv1 } : HwS) = { x3 with dv := dvE s x3.dv p } := by rw [hsucc, ← hx3]
  have hdl3 := hok3.dv
  obtain ⟨be, offe, hAe, hrd⟩ := RdN.ev (w0 := w) (R := [q, R0]) (H := [HardH L s x3]) (by simp) hev hp1
  obtain ⟨kn, dm⟩ := p
  refine XK.go ?_
  refine kd (dat j (offe + j * 2) (hx := by rw [← hAe]; rfl)) ?_
  refine kd (does_ldA rfl hrd) ?_
  refine xk_alloc (cs := [.int .u8 0, .int .i64 0]) (zeroB_of (by kernel_rfl)) (by decide) fun g1 => ?_
  refine XK.go ?_
  refine kcall (fun w1 t => hdDeed_any kn w1) ?_
  by_cases hk : kn = 115 ∨ kn = 114 ∨ kn = 108 ∨ kn = 110
  ·obtain ⟨f, hdv2, hcb, hcall⟩ := deed_ok hk
   rw [hdv2]
   refine XK.go ?_
   refine kd (does_fN rfl (.inr ⟨⟨_, _, _, rfl⟩, rfl⟩)) ?_
   refine XK.go ?_
   refine kd (does_ld1 rfl (Rd.hard 1 rfl rfl)) ?_
   refine XK.go ?_
   have hm0 : midE s x3.dv (kn, dm) 0 = x3.dv := mapIdx_zero _ _
   refine XK.envS [(90, .int .i64 0), (89, .int .i64 s.devs.length), (88, .slice L.A s.devs.length L.c), (13, .func (.func f) #[] #[]), (12, .pointer (some ⟨g1, 0, none⟩)), (76, .int .i64 j), (75, .int .i64 es.length), (74, .slice Ae es.length ce), (5, .slice none 0 0), (0, .pointer (some ⟨L.h, 0, none⟩))] ?_
   refine XK.loop (fun m e R H => ∃ i : Nat, i ≤ s.devs.length ∧ m = s.devs.length - i ∧ e = [(90, .int .i64 i), (89, .int .i64 s.devs.length), (88, .slice L.A s.devs.length L.c), (13, .func (.func f) #[] #[]), (12, .pointer (some ⟨g1, 0, none⟩)), (76, .int .i64 j), (75, .int .i64 es.length), (74, .slice Ae es.length ce), (5, .slice none 0 0), (0, .pointer (some ⟨L.h, 0, none⟩))] ∧ R = [q, R0] ∧ H = [HP.blk g1 166 [.int .u8 kn, .int .i64 (dm : Int)], HardH L s { x3 with dv := midE s x3.dv (kn, dm) i }]) s.devs.length ⟨0, by omega, rfl, rfl, rfl, by rw [hm0]; rfl⟩ fun m e R H hI => ?_
   obtain ⟨i, hi, rfl, rfl, rfl, rfl⟩ := hI
   have hokm := midE_ok hH hok3 (kn, dm) i
   refine XK.go ?_
   refine XK.if_ rfl (fun hlt => ?_) (fun hge => ?_)
   ·have hlt : i < s.devs.length := by omega
    obtain ⟨d, hd1⟩ := get_some hlt
    obtain ⟨l, hl1⟩ := get_some (l := L.ds) (i := i) (by omega)
    obtain ⟨p, hp1⟩ := get_some (l := x3.dv) (i := i) (by omega)
    have hpm : (midE s x3.dv (kn, dm) i)[i]? = some p := mapIdx_at hp1
    have hstep : (midE s x3.dv (kn, dm) i).set i (deed1 s (kn, dm) i p) = midE s x3.dv (kn, dm) (i + 1) := mapIdx_step (f := deed1 s (kn, dm)) hp1
    have hfo := (hokm.each i d p hd1 hpm).1
    refine XK.rows 1 rfl hLo hokm (by omega) fun b off hA => ?_
    refine XK.go ?_
    refine kd (dat i (off + i * 6) (hx := by rw [← hA]; rfl)) ?_
    refine kd (does_ldA rfl (RdN.dev 1 rfl hLo hokm hA hd1 hl1 rfl)) ?_
    refine xk_alloc (cs := [.int .i64 0, .int .i64 0, .int .i64 0, .int .u32 0, .pointer none, .pointer none]) (zeroB_of (by kernel_rfl)) (by decide) fun g2 => ?_
    refine XK.go ?_
    refine XK.if_ rfl (fun he => ?_) (fun he => ?_)
    ·have hd3 : deed1 s (kn, dm) i p = (deedF kn d p.1, p.2) := by
      unfold deed1
      rw [hd1]
      exact if_pos he
     refine XK.go ?_
     refine XK.openDv 2 i rfl hd1 hl1 hpm ?_
     dsimp only [List.set]
     refine XK.take 0 0 rfl rfl ?_
     dsimp only [List.set]
     refine kcallWC 0 (fi := []) (ca := []) (FileH l.1 d (deedF kn d p.1)) (fun w1 F1 t h1 h2 h3 => by simpa using hcall l.1 d p.1 (by have := (hH.t.devs i d hd1).2.2.2.2.2.2.2.2.1; omega) hfo w1 F1 h1 h2) ?_ (hf := hcb)
     dsimp only [List.set]
     refine XK.give 0 0 rfl rfl ?_
     dsimp only [List.set]
     refine XK.closeDv 2 i rfl hd1 hl1 hpm (p' := (deedF kn d p.1, p.2)) ?_
     dsimp only [List.set]
     rw [← hd3, hstep]
     refine XK.go ?_
     refine XK.weak [1, 2] rfl (by decide) (fun _ h => h) ?_
     refine XK.envS [(90, .int .i64 (i + 1 : Nat)), (89, .int .i64 s.devs.length), (88, .slice L.A s.devs.length L.c), (13, .func (.func f) #[] #[]), (12, .pointer (some ⟨g1, 0, none⟩)), (76, .int .i64 j), (75, .int .i64 es.length), (74, .slice Ae es.length ce), (5, .slice none 0 0), (0, .pointer (some ⟨L.h, 0, none⟩))] ?_
     exact XK.round (s.devs.length - (i + 1)) (by omega) ⟨i + 1, hlt, rfl, rfl, rfl, rfl⟩
    ·have hd3 : deed1 s (kn, dm) i p = p := by
      unfold deed1
      rw [hd1]
      exact if_neg he
     rw [hd3, set_same hpm] at hstep
     rw [hstep]
     refine XK.go ?_
     refine XK.weak [1, 2] rfl (by decide) (fun _ h => h) ?_
     refine XK.envS [(90, .int .i64 (i + 1 : Nat)), (89, .int .i64 s.devs.length), (88, .slice L.A s.devs.length L.c), (13, .func (.func f) #[] #[]), (12, .pointer (some ⟨g1, 0, none⟩)), (76, .int .i64 j), (75, .int .i64 es.length), (74, .slice Ae es.length ce), (5, .slice none 0 0), (0, .pointer (some ⟨L.h, 0, none⟩))] ?_
     exact XK.round (s.devs.length - (i + 1)) (by omega) ⟨i + 1, hlt, rfl, rfl, rfl, rfl⟩
   obtain rfl : i = s.devs.length := by omega
   refine XK.go ?_
   refine XK.weak [1] rfl (by decide) (fun _ h => h) ?_
   refine XK.envS [(76, .int .i64 (j + 1 : Nat)), (75, .int .i64 es.length), (74, .slice Ae es.length ce), (5, .slice none 0 0), (0, .pointer (some ⟨L.h, 0, none⟩))] ?_
   exact XK.round (es.length - (j + 1)) (by omega) ⟨j + 1, by omega, rfl, rfl, rfl, by rw [hx4]; rfl⟩
  ·have hdv2 : deedV kn = .nilFunc := by
    rw [deedV, if_neg (by omega), if_neg (by omega), if_neg (by omega)]
   rw [hdv2]
   refine XK.go ?_
   refine kd (does_fN rfl (.inl ⟨rfl, rfl⟩)) ?_
   refine XK.go ?_
   refine XK.weak [1] rfl (by decide) (fun _ h => h) ?_
   refine XK.envS [(76, .int .i64 (j + 1 : Nat)), (75, .int .i64 es.length), (74, .slice Ae es.length ce), (5, .slice none 0 0), (0, .pointer (some ⟨L.h, 0, none⟩))] ?_
   exact XK.round (es.length - (j + 1)) (by omega) ⟨j + 1, by omega, rfl, rfl, rfl, by rw [hx4, midE_none hk, ← hx3]⟩
 obtain rfl : j = es.length := by omega
 rw [List.take_length]
 refine XK.go ?_
 refine kd (does_ld1 rfl (Rd.hard 0 rfl rfl)) ?_
 refine XK.go ?_
 refine XK.take 0 3 rfl rfl ?_
 dsimp only [List.set]
 refine xk_callMV (α := Option Addr × Nat × Nat) 0 (f := 86) (fi := []) (ca := []) (fun a => .slice a.1 a.2.1 a.2.2) (fun _ => LinesH L.R s (tickL x.ln)) (fun _ => True) (by kernel_rfl) rfl rfl rfl (by decide) (fun w1 F1 t h1 h2 h3 => rstTick_m L.R s x.ln hH hok.ln w1 F1 h1 h2) ?_
 rintro _ _
 dsimp only [List.set]
 refine XK.give 0 3 rfl rfl ?_
 dsimp only [List.set]
 change XK _ _ _ _ _ [HardH L s { x with ck := tickC s x.ck, dm := tickG x.dm, ln := tickL x.ln, dv := es.foldl (dvE s) dv1 }]
 have hfin : ({ x with ck := tickC s x.ck, dm := tickG x.dm, ln := tickL x.ln, dv := es.foldl (dvE s) dv1 } : HwS) = tickX s x deny := by rw [tickX, hdv, hes]
 rw [hfin]
 refine XK.go ?_
 subst hR0
 exact XK.ret1 rfl rfl fun w1 t => ⟨rfl, t.turns hF (by simp) (i := 0) rfl⟩
end
section
set_option maxHeartbeats 4000000
set_option maxRecDepth 20000
def Settles (s : Soc) : Nat → FmS → HwS → List Int → FmS → HwS → Prop
 | 0, _, _, _, _, _ => False
 | n + 1, z, x, a, z', x' => StepOk s x z ∧ ((readW (stepF s x z).1 0 = some a ∧ z' = readZ (stepF s x z).1 0 ∧ x' = (stepF s x z).2) ∨
   (readW (stepF s x z).1 0 = none ∧ HwOk s (stepF s x z).2 ∧ (∀ i, wtN (stepF s x z).2.wt i = 0) ∧ Settles s n (readZ (stepF s x z).1 0) (tickX s (stepF s x z).2 0) a z' x'))
theorem status_any (A : Option Addr) (n c : Nat) (l : List Int) (st : Int) (w : World) (hs : SlS (all w) 1 A n (u32Cells l)) (hn : n = l.length) (h2 : 2 ≤ n) (h1 : l[1]? = some st) :
  Calls Tryz.prog 101 #[.slice A n c] w (Rt (.tuple #[.int .i32 (IntKind.i32.wrap st), .int .i64 0]) w) := by
 subst hn
 obtain ⟨b, off, rfl, hr⟩ := SlS.u32 hs (by omega)
 have k1 := hr 1 st h1
 refine XK.enter (vs := [.slice (some ⟨b, off, none⟩) l.length c]) Tryz.func101 rfl Tryz.ntmps101 (by simp) ?_
 refine XK.go ?_
 refine XK.if_ rfl (fun h => absurd h (by omega)) (fun _ => ?_)
 refine XK.go ?_
 refine kd (dat 1 (off + 1)) ?_
 refine XK.go ?_
 refine kd (does_conv (ds := .int .u32) (kd := .i32) (c := IntKind.i32.wrap st) (by kernel_rfl) (by kernel_rfl) rfl rfl) ?_
 refine XK.go ?_
 exact XK.ret2 rfl rfl rfl fun w1 t => ⟨rfl, t.below (by simp)⟩
theorem settles_m (f : Nat) (hL : HL) (s : Soc) (z : FmS) (x : HwS) (w : World) (hH : s.okH) (hLo : HLOk hL s) (A : Option Addr) (c : Nat) (l : List Int) (hl2 : l.length ≤ 1000000) (N : Nat) (hN : N ≤ 200) (a : List Int) (st : Int) (z1 z' : FmS) (x' : HwS) (hsend : sendF z 0 l = (0, z1)) (hrun : Settles s N z1 x a z' x') (ha : a[1]? = some st)
  (F : Nat → Prop) (hp : (MachH f hL s z x).sat F w) (hF : ∀ b, F b → b < w.heap.size) (hs : SlS ⟨w, fun b => b < w.heap.size ∧ ¬ F b⟩ 1 A l.length (u32Cells l)) (hLt : LetP ⟨w, fun b => b < w.heap.size ∧ ¬ F b⟩) :
  Calls Tryz.prog 35 #[.pointer (some ⟨f, 0, none⟩), .pointer (some ⟨hL.h, 0, none⟩), .int .i64 0, .slice A l.length c] w (fun y w' => y = .returned (.tuple #[.int .i32 (IntKind.i32.wrap st), .bool true]) ∧ ∃ F', (MachH f hL s z' x').sat F' w' ∧ Turns w w' F F') := by
 have ha2 : 2 ≤ a.length := by have := (List.getElem?_eq_some_iff.1 ha).1; omega
 refine XK.enterM (p := MachH f hL s z x) (F := F) (vs := [.pointer (some ⟨f, 0, none⟩), .pointer (some ⟨hL.h, 0, none⟩), .int .i64 0, .slice A l.length c]) Tryz.func35 rfl Tryz.ntmps35 (by simp) hp hF ?_
 generalize hR0 : (⟨w, fun b => b < w.heap.size ∧ ¬ F b⟩ : Piece) = R0 at hLt hs ⊢
 refine XK.take 0 0 rfl rfl ?_
 dsimp only [List.set]
 refine XK.go ?_
 refine kcallW 0 (FirmX f hL.h s z1) (fun w1 F1 t h1 h2 h3 => by
  have := fmSend_m f hL.h s z 0 A _ c l w1 F1 h1 h2 (hs.le (h3 _ (by simp))) rfl hl2
  rw [hsend] at this
  exact this) ?_
 dsimp only [List.set]
 refine XK.go ?_
 refine XK.give 0 0 rfl rfl ?_
 dsimp only [List.set]
 refine XK.envS [(10, .int .i64 0), (0, .pointer (some ⟨f, 0, none⟩)), (1, .pointer (some ⟨hL.h, 0, none⟩)), (2, .int .i64 0)] ?_
 refine XK.loop (fun m e R H => ∃ (k : Nat) (z : FmS) (x : HwS), k + m ≤ 200 ∧ Settles s m z x a z' x' ∧ e = [(10, .int .i64 (k : Int)), (0, .pointer (some ⟨f, 0, none⟩)), (1, .pointer (some ⟨hL.h, 0, none⟩)), (2, .int .i64 0)] ∧ R = [R0] ∧ H = [MachH f hL s z x]) N ⟨0, z1, x, by omega, hrun, rfl, rfl, rfl⟩ fun m e R H hI => ?_
 obtain ⟨k, z2, x2, hk, hset, rfl, rfl, rfl⟩ := hI
 cases m with
 | zero => exact absurd hset (fun h => h)
 | succ m =>
  obtain ⟨hso, hcase⟩ := hset
  generalize hst : stepF s x2 z2 = r at hcase
  obtain ⟨z3, x3⟩ := r
  dsimp only at hcase
  refine XK.go ?_
  refine XK.if_ rfl (fun hlt => ?_) (fun hge => absurd (by omega) hge)
  refine XK.go ?_
  refine kcallW 0 (MachH f hL s z3 x3) (fun w1 F1 t h1 h2 h3 => by
   have := fmStep_m f hL s z2 x2 w1 hH hLo hso F1 h1 h2 (LetP.le hLt (h3 _ (by simp)))
   rw [hst] at this
   exact this) ?_
  dsimp only [List.set]
  refine XK.go ?_
  refine XK.take 0 0 rfl rfl ?_
  dsimp only [List.set]
  rcases hcase with ⟨hr, rfl, rfl⟩ | ⟨hr, hok3, hwt3, hset⟩
  ·refine xk_callMV (α := AC) 0 (f := 21) (fi := []) (ca := []) (fun c => .tuple #[.slice c.1 a.length c.2, .bool true]) (fun c => readH f hL.h s (readZ z3 0) a c) (fun _ => True) (by kernel_rfl) rfl rfl rfl (by decide) (fun w1 F1 t h1 h2 h3 => by
    have := fmRead_m f hL.h s z3 0 w1 F1 h1 h2
    rw [hr] at this
    exact this) ?_
   rintro ⟨Ar, cr⟩ _
   dsimp only [List.set]
   refine XK.take 0 1 rfl rfl ?_
   dsimp only [List.set]
   refine XK.take 1 0 rfl rfl ?_
   dsimp only [List.set]
   refine XK.give 2 0 rfl rfl ?_
   dsimp only [List.set]
   refine XK.still [] [0] [2] (by simp) rfl (by decide) (by decide) fun q hq _ hfr => ?_
   obtain ⟨F2, sf2, zf2⟩ := hq 0 _ (by simp) rfl
   have hra : BxP (Ar, cr) a q := BxP.le ⟨q.w, F2⟩ q (fun b hb => ⟨zf2 b hb, rfl⟩) sf2
   refine XK.go ?_
   refine kcall (fun w1 t => status_any Ar _ cr a st w1 (SlS.le hra (t.le (by simp))) rfl ha2 ha) ?_
   refine XK.go ?_
   subst hR0
   exact XK.ret2 rfl rfl rfl fun w1 t => ⟨rfl, t.turns hF (by simp) (i := 0) rfl⟩
  ·have hz : readZ z3 0 = z3 := by
    unfold readW at hr
    unfold readZ
    rw [if_pos rfl] at hr ⊢
    split at hr
    ·cases hr
    ·rename_i hn
     rw [if_neg hn]
   rw [hz] at hset
   refine xk_callMV (α := AC) 0 (f := 21) (fi := []) (ca := []) (fun c => .tuple #[.slice none 0 0, .bool false]) (fun c => readH f hL.h s z3 [] c) (fun _ => True) (by kernel_rfl) rfl rfl rfl (by decide) (fun w1 F1 t h1 h2 h3 => by
    have := fmRead_m f hL.h s z3 0 w1 F1 h1 h2
    rw [hr, hz] at this
    exact this) ?_
   rintro ⟨Ar, cr⟩ _
   dsimp only [List.set]
   refine XK.take 0 0 rfl rfl ?_
   dsimp only [List.set]
   refine XK.give 1 0 rfl rfl ?_
   dsimp only [List.set]
   refine XK.weak [1] rfl (by decide) (fun _ h => h) ?_
   refine XK.take 0 1 rfl rfl ?_
   dsimp only [List.set]
   refine XK.go ?_
   refine kcallW 0 (HardH hL s (tickX s x3 0)) (fun w1 F1 t h1 h2 h3 => hdTick_m hL s x3 w1 hH hLo hok3 0 (by decide) hwt3 F1 h1 h2) ?_
   dsimp only [List.set]
   refine XK.go ?_
   refine XK.give 0 1 rfl rfl ?_
   dsimp only [List.set]
   refine XK.envS [(10, .int .i64 (k + 1 : Nat)), (0, .pointer (some ⟨f, 0, none⟩)), (1, .pointer (some ⟨hL.h, 0, none⟩)), (2, .int .i64 0)] ?_
   exact XK.round m (by omega) ⟨k + 1, z3, tickX s x3 0, by omega, hset, rfl, rfl, rfl⟩
end
section
structure Inv (s : Soc) (X : Wsh) (bd bc bl : Option Nat) (x : HwS) : Prop where
 ok : HwOk s x
 wt : ∀ i, wtN x.wt i = 0
 of : X.of s
 dom : ∀ i m, x.dm[i]? = some m → bd ≠ some i → (hasB X.d i = true → m.phase = 49) ∧ (hasB X.d i = false → m.phase = 48 ∨ m.phase = 116)
 clk : ∀ i c y, s.clocks[i]? = some c → x.ck[i]? = some y → hasB X.c i = true → bc ≠ some i → y.on = true ∧ (c.kind = 112 → y.left = 0)
 clo : ∀ i, hasB X.c i = true → ∀ j ∈ chainL s i, swit s j → hasB X.c j = true
 nob : ∀ c, bc = some c → ∀ i, hasB X.c i = true → i ≠ c → c ∉ chainL s i
 lin : ∀ i y, x.ln[i]? = some y → hasB X.l i = true → bl ≠ some i → y.held = false
 prt : ∀ p ∈ x.dv, p.2.at_ = 0
theorem tickD_rest {m : DmS} (h : m.phase = 49 ∨ m.phase = 48 ∨ m.phase = 116) : (tickD m).2 = m := by
 unfold tickD
 rw [if_neg (by omega), if_neg (by omega), if_neg (by omega)]
theorem chainN_lt (s : Soc) : ∀ (k c : Nat), ∀ j ∈ chainN s k c, j < s.clocks.length
 | 0, c, j, h => by simp [chainN] at h
 | k + 1, c, j, h => by
  unfold chainN at h
  cases hc : s.clocks[c]? with
  | none => rw [hc] at h; simp at h
  | some x =>
   rw [hc] at h
   dsimp only at h
   rcases List.mem_cons.1 h with rfl | h
   ·exact (List.getElem?_eq_some_iff.1 hc).1
   ·cases hs : x.src with
    | nil => rw [hs] at h; simp at h
    | cons f fs => rw [hs] at h; exact chainN_lt s k _ j h
theorem chainL_lt {s : Soc} {i j : Nat} (h : j ∈ chainL s i) : j < s.clocks.length := chainN_lt s _ _ j h
theorem kindOf_at {s : Soc} {i : Nat} {c : Clk} (h : s.clocks[i]? = some c) : kindOf s i = c.kind := by
 unfold kindOf
 rw [h]
 rfl
section
variable {s : Soc} {X : Wsh} {bd bc bl : Option Nat} {x : HwS}
theorem Inv.up (h : Inv s X bd bc bl x) {i j : Nat} (hi : hasB X.c i = true) (hj : j ∈ chainL s i) (hb : bc ≠ some j) : upK s x.ck j = true := by
 have hlt := chainL_lt hj
 obtain ⟨c, hc⟩ := get_some hlt
 obtain ⟨y, hy⟩ := get_some (l := x.ck) (i := j) (by have := h.ok.ck.len; omega)
 unfold upK
 rw [hc, hy]
 dsimp only
 unfold upC
 by_cases h1 : c.kind = 112
 ·rw [if_pos h1]
  obtain ⟨h2, h3⟩ := h.clk j c y hc hy (h.clo i hi j hj (.inl (by rw [kindOf_at hc]; exact h1))) hb
  rw [h2, h3 h1]
  rfl
 ·rw [if_neg h1]
  by_cases h4 : c.kind = 103
  ·rw [if_pos h4]
   exact (h.clk j c y hc hy (h.clo i hi j hj (.inr (by rw [kindOf_at hc]; exact h4))) hb).1
  ·rw [if_neg h4]
theorem Inv.src (hm : s.made) (h : Inv s X bd bc bl x) {i f : Nat} {c : Clk} {fs : List Int} (hc : s.clocks[i]? = some c) (hs : c.src = (f : Int) :: fs) (hi : hasB X.c i = true) (hb : ∀ j, bc = some j → j ∉ chainL s f) : runs s x.ck f = true := by
 have hch := chainL_cons hm.clocks hc
 rw [hs] at hch
 dsimp only at hch
 unfold runs
 rw [List.all_eq_true]
 intro j hj
 refine h.up hi (j := j) (by rw [hch]; exact List.mem_cons_of_mem _ (by simpa using hj)) fun hbj => hb j hbj hj
theorem src_nat (hm : s.made) {i : Nat} {c : Clk} (hc : s.clocks[i]? = some c) (hsw : swit s i) : ∃ (f : Nat) (fs : List Int), c.src = (f : Int) :: fs ∧ f < i := by
 have hfit := hm.clocks i c hc
 have hk := kindOf_at hc
 unfold swit at hsw
 rw [hk] at hsw
 obtain ⟨h1, h2⟩ := hfit
 cases hs : c.src with
 | nil =>
  exfalso
  rw [hs] at h2
  simp at h2
  omega
 | cons f fs =>
  have := h1 f (by rw [hs]; simp)
  exact ⟨f.toNat, fs, by rw [Int.toNat_of_nonneg this.1], by omega⟩
theorem Inv.notin (hm : s.made) (h : Inv s X bd bc bl x) {i f : Nat} {c : Clk} {fs : List Int} (hc : s.clocks[i]? = some c) (hs : c.src = (f : Int) :: fs) (hf : f < i) (hi : hasB X.c i = true) : ∀ j, bc = some j → j ∉ chainL s f := fun j hj hmem => by
 have hle := chainL_le hm hmem
 have hch := chainL_cons hm.clocks hc
 rw [hs] at hch
 dsimp only at hch
 refine h.nob j hj i hi (by omega) ?_
 rw [hch]
 exact List.mem_cons_of_mem _ (by simpa using hmem)
theorem prt_midQ {deny : Int} {n : Nat} (h : ∀ p ∈ x.dv, p.2.at_ = 0) : ∀ p ∈ midQ x deny n, p.2.at_ = 0 := fun p hp => by
 obtain ⟨i, hi⟩ := List.getElem?_of_mem hp
 rw [midQ, List.getElem?_mapIdx] at hi
 cases hq : x.dv[i]? with
 | none => rw [hq] at hi; cases hi
 | some q =>
  rw [hq] at hi
  have h0 := h q (List.mem_of_getElem? hq)
  simp only [Option.map_some, Option.some.injEq] at hi
  subst hi
  split
  ·unfold tickQ
   rw [if_pos (by omega)]
   exact h0
  ·exact h0
theorem prt_dvE {dv : List (FlS × QtS)} {e : Int × Nat} (h : ∀ p ∈ dv, p.2.at_ = 0) : ∀ p ∈ dvE s dv e, p.2.at_ = 0 := fun p hp => by
 obtain ⟨i, hi⟩ := List.getElem?_of_mem hp
 rw [dvE, midE, List.getElem?_mapIdx] at hi
 cases hq : dv[i]? with
 | none => rw [hq] at hi; cases hi
 | some q =>
  rw [hq] at hi
  have h0 := h q (List.mem_of_getElem? hq)
  simp only [Option.map_some, Option.some.injEq] at hi
  subst hi
  split
  ·unfold deed1
   split
   ·split
    ·exact h0
    ·exact h0
   ·exact h0
  ·exact h0
theorem prt_fold : ∀ (es : List (Int × Nat)) (dv : List (FlS × QtS)), (∀ p ∈ dv, p.2.at_ = 0) → ∀ p ∈ es.foldl (dvE s) dv, p.2.at_ = 0
 | [], _, h => h
 | e :: es, dv, h => prt_fold es _ (prt_dvE h)
theorem tickC_at {st : List CkS} {i : Nat} {c : Clk} {y : CkS} (hc : s.clocks[i]? = some c) (hy : st[i]? = some y) : (tickC s st)[i]? = some (tickC1 s st c y) := by
 rw [tickC, List.getElem?_zipWith, hc, hy]
theorem tickC_of {st : List CkS} {i : Nat} {c : Clk} {y' : CkS} (hc : s.clocks[i]? = some c) (hy : (tickC s st)[i]? = some y') : ∃ y, st[i]? = some y ∧ y' = tickC1 s st c y := by
 rw [tickC, List.getElem?_zipWith, hc] at hy
 cases hq : st[i]? with
 | none => rw [hq] at hy; cases hy
 | some y => rw [hq] at hy; cases hy; exact ⟨y, rfl, rfl⟩
theorem Inv.tick (hm : s.made) (h : Inv s X bd bc bl x) : Inv s X bd bc bl (tickX s x 0) := by
 refine ⟨tickX_ok hm.okH h.ok 0, h.wt, h.of, fun i m hi hb => ?_, fun i c y hc hy hi hb => ?_, h.clo, h.nob, fun i y hy hi hb => ?_, prt_fold _ _ (prt_midQ h.prt)⟩
 ·simp only [tickX, tickG, List.getElem?_map] at hi
  cases hq : x.dm[i]? with
  | none => rw [hq] at hi; cases hi
  | some m0 =>
   rw [hq] at hi
   simp only [Option.map_some, Option.some.injEq] at hi
   obtain ⟨h1, h2⟩ := h.dom i m0 hq hb
   have hr : m0.phase = 49 ∨ m0.phase = 48 ∨ m0.phase = 116 := by
    cases hX : hasB X.d i
    ·exact .inr (h2 hX)
    ·exact .inl (h1 hX)
   rw [tickD_rest hr] at hi
   subst hi
   exact ⟨h1, h2⟩
 ·obtain ⟨y0, hy0, rfl⟩ := tickC_of hc hy
  obtain ⟨h1, h2⟩ := h.clk i c y0 hc hy0 hi hb
  unfold tickC1
  by_cases hk : c.kind = 112
  ·obtain ⟨f, fs, hs, hf⟩ := src_nat hm hc (.inl (by rw [kindOf_at hc]; exact hk))
   have hr := h.src hm hc hs hi (h.notin hm hc hs hf hi)
   have hsf : srcF c = f := by
    unfold srcF
    rw [hs]
    simp
   rw [if_pos ⟨hk, h1⟩, hsf, hr, if_neg (by simp), if_neg (by have := h2 hk; omega)]
   exact ⟨h1, h2⟩
  ·rw [if_neg (by simp [hk])]
   exact ⟨h1, h2⟩
 ·simp only [tickX, tickL, List.getElem?_map] at hy
  cases hq : x.ln[i]? with
  | none => rw [hq] at hy; cases hy
  | some y0 =>
   rw [hq] at hy
   simp only [Option.map_some, Option.some.injEq] at hy
   have h1 := h.lin i y0 hq hi hb
   subst hy
   unfold tickL1
   rw [if_pos h1]
   exact h1
end
end
section
def zact (s : Soc) (X : Wsh) (m : List Int) (k id : Int) : FmS := ⟨X, zeroW s, 1, 0, m, [], 0, 0, k, id⟩
def zrest (s : Soc) (X : Wsh) (l k id : Int) : FmS := ⟨X, zeroW s, 0, 0, [], [], l, -1, k, id⟩
structure Plain (m : List Int) : Prop where
 u : U32s m
 n : m.length ≤ 1000000
 rep : ReplyOk m
 more : ∀ (s : Soc) (x : HwS), answF s x m 0 = [m.headD 0, IntKind.u32.wrap 0]
section
variable {s : Soc} {X : Wsh} {x : HwS} {m : List Int} {k id : Int}
theorem zact_ok (hm : s.made) (hX : X.of s) (hp : Plain m) : FmOk s (zact s X m k id) := by
 have h1 := hm.nc
 have h2 := hm.nd
 have h3 := hm.nr
 refine ⟨.inl rfl, hp.u, by simp [zact, U32s], hp.n, by simp [zact], ⟨?_, ?_, ?_⟩, zero_sm hm.okT⟩
 ·show X.d.length ≤ _
  rw [hX.d]; omega
 ·show X.c.length ≤ _
  rw [hX.c]; omega
 ·show X.l.length ≤ _
  rw [hX.l]; omega
theorem zact_step (hm : s.made) (hX : X.of s) (hp : Plain m) (hok : HwOk s x) (hk : KindOk s k id) : StepOk s x (zact s X m k id) :=
 ⟨hok, zact_ok hm hX hp, .inr ⟨0, rfl, by omega, hk, hp.rep⟩, fun h => absurd h (by show ¬ (0 : Int) < 0; decide), fun h => absurd h (by show ¬ (0 : Int) < 0; decide)⟩
theorem stepF_act : stepF s x (zact s X m k id) = (endF s (zact s X m k id) (actF s x k id), (actF s x k id).1) := by
 unfold stepF
 dsimp only
 rw [if_neg (by rintro ⟨h, _⟩; exact absurd h (by show ¬ (0 : Int) < 0; decide)), if_neg (by show ¬ (0 : Int) < 0; decide)]
 rfl
theorem run_end {n : Nat} {x' : HwS} (hm : s.made) (hX : X.of s) (hp : Plain m) (hok : HwOk s x) (hk : KindOk s k id) (hr : actF s x k id = (x', true)) : Settles s (n + 1) (zact s X m k id) x [m.headD 0, IntKind.u32.wrap 0] (zrest s X 0 k id) x' := by
 refine ⟨zact_step hm hX hp hok hk, .inl ?_⟩
 rw [stepF_act, hr]
 have he : endF s (zact s X m k id) (x', true) = { zact s X m k id with at_ := -1, h0 := 2, w0 := [m.headD 0, IntKind.u32.wrap 0] } := by
  unfold endF
  rw [if_pos rfl]
  show replyF s x' { zact s X m k id with at_ := -1 } 0 0 = _
  unfold replyF
  show putBox _ 0 2 (answF s x' m 0) = _
  rw [hp.more]
  rfl
 rw [he]
 exact ⟨rfl, rfl, rfl⟩
theorem run_on {n : Nat} {x1 x' : HwS} {a : List Int} {z' : FmS} (hm : s.made) (hX : X.of s) (hp : Plain m) (hok : HwOk s x) (hk : KindOk s k id) (hr : actF s x k id = (x1, false)) (hok1 : HwOk s x1) (hwt : ∀ i, wtN x1.wt i = 0) (h : Settles s n (zact s X m k id) (tickX s x1 0) a z' x') : Settles s (n + 1) (zact s X m k id) x a z' x' := by
 refine ⟨zact_step hm hX hp hok hk, .inr ?_⟩
 rw [stepF_act, hr]
 have he : endF s (zact s X m k id) (x1, false) = zact s X m k id := by
  unfold endF
  rw [if_neg (by simp)]
 rw [he]
 exact ⟨rfl, hok1, hwt, h⟩
end
theorem phase_at {st : List DmS} {d : Nat} {y : DmS} (hy : st[d]? = some y) : phaseF st (d : Int) = y.phase := by
 have hlt := (List.getElem?_eq_some_iff.1 hy).1
 unfold phaseF
 rw [if_pos (show inB st.length (d : Int) = true from decide_eq_true (by omega)), Int.toNat_natCast, hy]
 rfl
def muD (y : DmS) : Nat := if y.phase = 49 then 0 else if y.phase = 104 then 1 else if y.phase = 114 then 2 + y.left.toNat else 7
theorem muD_114 (l : Int) (a b : Bool) : muD ⟨114, l, a, b⟩ = 2 + l.toNat := rfl
theorem muD_104 (l : Int) (a b : Bool) : muD ⟨104, l, a, b⟩ = 1 := rfl
theorem muD_49 (l : Int) (a b : Bool) : muD ⟨49, l, a, b⟩ = 0 := rfl
section
variable {s : Soc} {X : Wsh} {m : List Int}
theorem prt_leave {x : HwS} {d : Int} {n : Nat} (h : ∀ p ∈ x.dv, p.2.at_ = 0) : ∀ p ∈ leaveN s x d n, p.2.at_ = 0 := fun p hp => by
 obtain ⟨i, hi⟩ := List.getElem?_of_mem hp
 rw [leaveN, List.getElem?_mapIdx] at hi
 cases hq : x.dv[i]? with
 | none => rw [hq] at hi; cases hi
 | some q =>
  rw [hq] at hi
  have h0 := h q (List.mem_of_getElem? hq)
  simp only [Option.map_some, Option.some.injEq] at hi
  subst hi
  split
  ·unfold leave1
   split
   ·split
    ·unfold leaveQ
     rw [if_pos (by omega)]
     exact h0
    ·exact h0
   ·exact h0
  ·exact h0
theorem run_power (hm : s.made) (hp : Plain m) {d : Nat} {c : Dom} (hc : s.domains[d]? = some c) (hX : hasB X.d d = true) (hab : c.above = -1 ∨ (0 ≤ c.above ∧ hasB X.d c.above.toNat = true)) :
  ∀ (n : Nat) (x : HwS) (y : DmS), Inv s X (some d) none none x → x.dm[d]? = some y → (y.phase = 49 ∨ y.phase = 104 ∨ y.phase = 114 ∨ y.phase = 48 ∨ y.phase = 116) → muD y < n →
   ∃ x', Settles s n (zact s X m 117 d) x [m.headD 0, IntKind.u32.wrap 0] (zrest s X 0 117 d) x' ∧ Inv s X none none none x'
 | 0, _, _, _, _, _, h => absurd h (by omega)
 | n + 1, x, y, hi, hy, hph, hmu => by
  have hk : KindOk s 117 d := ⟨.inl rfl, fun h => absurd h (by decide)⟩
  have hlt := (List.getElem?_eq_some_iff.1 hy).1
  have hl := hi.ok.dm.left y (List.mem_of_getElem? hy)
  have hact : actF s x 117 d = powOnF s x d := rfl
  have hphF := phase_at hy
  have htick : ∀ x1 : HwS, ∀ y1 : DmS, x1.dm[d]? = some y1 → (tickX s x1 0).dm[d]? = some (tickD y1).2 := fun x1 y1 h1 => by
   simp only [tickX, tickG, List.getElem?_map, h1, Option.map_some]
  by_cases h49 : y.phase = 49
  ·refine ⟨{ x with dv := leaveN s x d s.devs.length }, run_end hm hi.of hp hi.ok hk ?_, ?_⟩
   ·rw [hact, powOnF, hphF, if_neg (by omega), if_pos h49]
   ·refine ⟨leaveN_ok hm.okH hi.ok _ _, hi.wt, hi.of, fun i m' hi' _ => ?_, hi.clk, hi.clo, hi.nob, hi.lin, prt_leave hi.prt⟩
    by_cases hid : i = d
    ·subst hid
     cases hy.symm.trans hi'
     exact ⟨fun _ => h49, fun h => by rw [hX] at h; cases h⟩
    ·exact hi.dom i m' hi' (by simp [Ne.symm hid])
  ·by_cases hdn : y.phase = 48 ∨ y.phase = 116
   ·have hup : (upF s x.dm d).2 = x.dm.set d ⟨114, c.delay, decide (y.phase = 116), y.keep⟩ := by
     unfold upF
     rw [show inB x.dm.length (d : Int) = true from decide_eq_true (by omega)]
     simp only [Bool.true_eq_false, if_false, Int.toNat_natCast, hc, hy]
     have h1 : downP y = true := decide_eq_true hdn
     have h2 : aboveLive x.dm c.above = true := by
      unfold aboveLive
      rcases hab with h | ⟨h0, h1⟩
      ·rw [h]; rfl
      ·have hfit := (hm.domains d c hc).1
       have hal : c.above.toNat < x.dm.length := by omega
       obtain ⟨ya, hya⟩ := get_some hal
       have := (hi.dom _ ya hya (by simp; omega)).1 h1
       rw [hya]
       simp [this]
     rw [h1, h2]
     simp
    have hact2 : actF s x 117 d = ({ x with dm := x.dm.set d ⟨114, c.delay, decide (y.phase = 116), y.keep⟩ }, false) := by
     rw [hact, powOnF, hphF, if_pos hdn, hup]
    have hdel := (hm.domains d c hc).2
    have hinv : Inv s X (some d) none none { x with dm := x.dm.set d ⟨114, c.delay, decide (y.phase = 116), y.keep⟩ } := by
     refine ⟨?_, hi.wt, hi.of, fun i m' hi' hb => ?_, hi.clk, hi.clo, hi.nob, hi.lin, hi.prt⟩
     ·have := upF_ok hm.okH hi.ok.dm d
      rw [hup] at this
      exact ⟨hi.ok.ck, this, hi.ok.ln, hi.ok.dv, hi.ok.each, hi.ok.wt⟩
     ·have hid : d ≠ i := fun h => hb (by rw [h])
      rw [List.getElem?_set_ne hid] at hi'
      exact hi.dom i m' hi' hb
    have hy1 : ({ x with dm := x.dm.set d ⟨114, c.delay, decide (y.phase = 116), y.keep⟩ } : HwS).dm[d]? = some ⟨114, c.delay, decide (y.phase = 116), y.keep⟩ := List.getElem?_set_self hlt
    have hmy : muD y = 7 := by
     unfold muD
     rw [if_neg h49, if_neg (by omega), if_neg (by omega)]
    obtain ⟨x', h1, h2⟩ := run_power hm hp hc hX hab n _ _ (hinv.tick hm) (htick _ _ hy1) (by
     unfold tickD
     rw [if_pos rfl]
     split
     ·right; right; left; rfl
     ·right; left; rfl) (by
     unfold tickD
     rw [if_pos rfl]
     split
     ·rw [muD_114]
      dsimp only
      omega
     ·rw [muD_104]
      omega)
    exact ⟨x', run_on hm hi.of hp hi.ok hk hact2 hinv.ok hinv.wt h1, h2⟩
   ·have hact2 : actF s x 117 d = (x, false) := by
     rw [hact, powOnF, hphF, if_neg hdn, if_neg h49]
    have hrest : y.phase = 104 ∨ y.phase = 114 := by omega
    obtain ⟨x', h1, h2⟩ := run_power hm hp hc hX hab n _ _ (hi.tick hm) (htick _ _ hy) (by
     unfold tickD
     rcases hrest with h | h
     ·rw [if_neg (by omega), if_pos h]; left; rfl
     ·rw [if_pos h]
      split
      ·right; right; left; rfl
      ·right; left; rfl) (by
     unfold tickD
     rcases hrest with h | h
     ·rw [if_neg (by omega), if_pos h]
      have : muD y = 1 := by
       unfold muD
       rw [if_neg h49, if_pos h]
      rw [muD_49]
      omega
     ·have hmy : muD y = 2 + y.left.toNat := by
       unfold muD
       rw [if_neg h49, if_neg (by omega), if_pos h]
      rw [if_pos h]
      split
      ·rw [muD_114]
       omega
      ·rw [muD_104]
       omega)
    exact ⟨x', run_on hm hi.of hp hi.ok hk hact2 hi.ok hi.wt h1, h2⟩
theorem run_line (hm : s.made) (hp : Plain m) {r : Nat} (hr : r < s.resets.length) :
  ∀ (n : Nat) (x : HwS) (y : LnS), Inv s X none none (some r) x → x.ln[r]? = some y → (if y.held then y.left.toNat + 1 else 0) < n →
   ∃ x', Settles s n (zact s X m 114 r) x [m.headD 0, IntKind.u32.wrap 0] (zrest s X 0 114 r) x' ∧ Inv s X none none none x'
 | 0, _, _, _, _, h => absurd h (by omega)
 | n + 1, x, y, hi, hy, hmu => by
  have hk : KindOk s 114 r := ⟨.inr (.inr rfl), fun h => absurd h (by decide)⟩
  have hlt := (List.getElem?_eq_some_iff.1 hy).1
  have hl := hi.ok.ln.left y (List.mem_of_getElem? hy)
  have hact : actF s x 114 r = relF x r := rfl
  have hin : inB x.ln.length (r : Int) = true := decide_eq_true (by omega)
  have hheld : heldF x.ln r = y.held := by
   unfold heldF
   rw [hin, Int.toNat_natCast, hy]
   rfl
  cases hh : y.held
  ·refine ⟨x, run_end hm hi.of hp hi.ok hk ?_, ?_⟩
   ·rw [hact, relF, hheld, hh]
    rfl
   ·refine ⟨hi.ok, hi.wt, hi.of, hi.dom, hi.clk, hi.clo, hi.nob, fun i y' hi' hx _ => ?_, hi.prt⟩
    by_cases hid : i = r
    ·subst hid
     cases hy.symm.trans hi'
     exact hh
    ·exact hi.lin i y' hi' hx (by simp [Ne.symm hid])
  ·rw [hh] at hmu
   simp only [if_true] at hmu
   have hrel : (releaseF x.ln r).2 = x.ln.set r ⟨y.left, true, true⟩ := by
    unfold releaseF
    rw [hin]
    simp only [Bool.true_eq_false, if_false, Int.toNat_natCast, hy, hh]
   have hact2 : actF s x 114 r = ({ x with ln := x.ln.set r ⟨y.left, true, true⟩ }, false) := by
    rw [hact, relF, hheld, hh, if_pos rfl, hrel]
   have hinv : Inv s X none none (some r) { x with ln := x.ln.set r ⟨y.left, true, true⟩ } := by
    refine ⟨?_, hi.wt, hi.of, hi.dom, hi.clk, hi.clo, hi.nob, fun i y' hi' hx hb => ?_, hi.prt⟩
    ·have := releaseF_ok hi.ok.ln r
     rw [hrel] at this
     exact ⟨hi.ok.ck, hi.ok.dm, this, hi.ok.dv, hi.ok.each, hi.ok.wt⟩
    ·have hid : r ≠ i := fun h => hb (by rw [h])
     rw [List.getElem?_set_ne hid] at hi'
     exact hi.lin i y' hi' hx hb
   have hy1 : (tickX s { x with ln := x.ln.set r ⟨y.left, true, true⟩ } 0).ln[r]? = some (tickL1 ⟨y.left, true, true⟩) := by
    simp only [tickX, tickL, List.getElem?_map, List.getElem?_set_self hlt, Option.map_some]
   obtain ⟨x', h1, h2⟩ := run_line hm hp hr n _ _ (hinv.tick hm) hy1 (by
    by_cases h0 : 0 < y.left
    ·have ht : tickL1 ⟨y.left, true, true⟩ = ⟨y.left - 1, true, true⟩ := by
      unfold tickL1
      rw [if_neg (by simp), if_pos h0]
     rw [ht]
     show (y.left - 1).toNat + 1 < n
     omega
    ·have ht : tickL1 ⟨y.left, true, true⟩ = ⟨y.left, false, false⟩ := by
      unfold tickL1
      rw [if_neg (by simp), if_neg h0, if_pos rfl]
     rw [ht]
     show 0 < n
     omega)
   exact ⟨x', run_on hm hi.of hp hi.ok hk hact2 hinv.ok hinv.wt h1, h2⟩
end
end
section
section
variable {s : Soc} {X : Wsh} {m : List Int}
theorem run_clock (hm : s.made) (hp : Plain m) {c : Nat} {ck : Clk} (hc : s.clocks[c]? = some ck) (hsw : swit s c) (hX : hasB X.c c = true) :
  ∀ (n : Nat) (x : HwS) (y : CkS), Inv s X none (some c) none x → x.ck[c]? = some y → y.left.toNat < n →
   ∃ x', Settles s n (zact s X m 99 c) x [m.headD 0, IntKind.u32.wrap 0] (zrest s X 0 99 c) x' ∧ Inv s X none none none x'
 | 0, _, _, _, _, h => absurd h (by omega)
 | n + 1, x, y, hi, hy, hmu => by
  have hlt := (List.getElem?_eq_some_iff.1 hc).1
  have hlx := (List.getElem?_eq_some_iff.1 hy).1
  have hk : KindOk s 99 c := ⟨.inr (.inl rfl), fun _ => ⟨by omega, by omega⟩⟩
  have hl := hi.ok.ck.left y (List.mem_of_getElem? hy)
  have hkind : ck.kind = 112 ∨ ck.kind = 103 := by rw [← kindOf_at hc]; exact hsw
  obtain ⟨f, fs, hs, hf⟩ := src_nat hm hc hsw
  have hch := chainL_cons hm.clocks hc
  rw [hs] at hch
  dsimp only at hch
  rw [Int.toNat_natCast] at hch
  have hnin : c ∉ chainL s f := fun h => by have := chainL_le hm h; omega
  have hon : (onF s x.ck c true).2 = x.ck.set c ⟨true, y.left⟩ := by
   unfold onF
   rw [show inB s.clocks.length (c : Int) = true from decide_eq_true (by omega)]
   simp only [Bool.true_eq_false, if_false, Int.toNat_natCast, hc, hy]
   rw [if_neg (by omega)]
   simp [onC]
  have hinv : Inv s X none (some c) none { x with ck := x.ck.set c ⟨true, y.left⟩ } := by
   refine ⟨?_, hi.wt, hi.of, hi.dom, fun i ci yi hci hyi hx hb => ?_, hi.clo, hi.nob, hi.lin, hi.prt⟩
   ·have := onF_ok hm.okH hi.ok.ck (c : Int) true
    rw [hon] at this
    exact ⟨this, hi.ok.dm, hi.ok.ln, hi.ok.dv, hi.ok.each, hi.ok.wt⟩
   ·have hid : c ≠ i := fun h => hb (by rw [h])
    rw [List.getElem?_set_ne hid] at hyi
    exact hi.clk i ci yi hci hyi hx hb
  have hy2 : (x.ck.set c ⟨true, y.left⟩)[c]? = some ⟨true, y.left⟩ := List.getElem?_set_self hlx
  have hrf : runs s (x.ck.set c ⟨true, y.left⟩) f = true := hinv.src hm hc hs hX (fun j hj => by cases hj; exact hnin)
  have hrc : runI s (x.ck.set c ⟨true, y.left⟩) c = upC ck ⟨true, y.left⟩ := by
   unfold runI
   rw [show inB s.clocks.length (c : Int) = true from decide_eq_true (by omega), Int.toNat_natCast, runs_eq hm.clocks hc hy2, hs]
   dsimp only
   rw [Int.toNat_natCast, hrf]
   simp
  have hact : actF s x 99 c = clkOnF s x c := rfl
  by_cases hup : upC ck ⟨true, y.left⟩ = true
  ·refine ⟨{ x with ck := x.ck.set c ⟨true, y.left⟩ }, run_end hm hi.of hp hi.ok hk ?_, ?_⟩
   ·rw [hact, clkOnF, hon, hrc, hup]
    rfl
   ·refine ⟨hinv.ok, hi.wt, hi.of, hi.dom, fun i ci yi hci hyi hx _ => ?_, hi.clo, (fun _ h => by cases h), hi.lin, hi.prt⟩
    by_cases hid : i = c
    ·subst hid
     cases hc.symm.trans hci
     cases hy2.symm.trans hyi
     refine ⟨rfl, fun h112 => ?_⟩
     unfold upC at hup
     rw [if_pos h112] at hup
     simpa using hup
    ·exact hinv.clk i ci yi hci hyi hx (by simp [Ne.symm hid])
  ·have h112 : ck.kind = 112 ∧ y.left ≠ 0 := by
    unfold upC at hup
    rcases hkind with h | h
    ·rw [if_pos h] at hup
     exact ⟨h, by simpa using hup⟩
    ·rw [if_neg (by omega), if_pos h] at hup
     exact absurd rfl hup
   have hupf : upC ck ⟨true, y.left⟩ = false := by simpa using hup
   obtain ⟨cf, hcf⟩ := get_some (l := s.clocks) (i := f) (by omega)
   have hchf := chainL_cons hm.clocks hcf
   have hact2 : actF s x 99 c = ({ x with ck := x.ck.set c ⟨true, y.left⟩ }, false) := by
    rw [hact, clkOnF, hon, hrc, hupf, hch, hchf]
    have h1 : runI s (x.ck.set c ⟨true, y.left⟩) (f : Int) = true := by
     unfold runI
     rw [show inB s.clocks.length (f : Int) = true from decide_eq_true (by omega), Int.toNat_natCast, hrf]
     rfl
    simp [h1]
   have hsf : srcF ck = f := by
    unfold srcF
    rw [hs]
    simp
   have hy3 : (tickX s { x with ck := x.ck.set c ⟨true, y.left⟩ } 0).ck[c]? = some ⟨true, y.left - 1⟩ := by
    show (tickC s (x.ck.set c ⟨true, y.left⟩))[c]? = _
    rw [tickC_at hc hy2]
    unfold tickC1
    rw [if_pos ⟨h112.1, rfl⟩, hsf, hrf, if_neg (by simp), if_pos (by show 0 < y.left; omega)]
   obtain ⟨x', h1, h2⟩ := run_clock hm hp hc hsw hX n _ _ (hinv.tick hm) hy3 (by dsimp only; omega)
   exact ⟨x', run_on hm hi.of hp hi.ok hk hact2 hinv.ok hinv.wt h1, h2⟩
def zsent (s : Soc) (X : Wsh) (l k id : Int) (m : List Int) : FmS := ⟨X, zeroW s, 1, 0, m, [], l, -1, k, id⟩
theorem zsent_send {l k id : Int} : sendF (zrest s X l k id) 0 m = (0, zsent s X l k id m) := by simp [sendF, inB, zrest, zsent]
theorem zsent_next {l k id : Int} (hl : l = 0 ∨ l = 1) : nextF (zsent s X l k id m) = some 0 := by
 rcases hl with rfl | rfl <;> rfl
theorem zsent_ok {l k id : Int} (hm : s.made) (hX : X.of s) (hp : Plain m) (hl : l = 0 ∨ l = 1) : FmOk s (zsent s X l k id m) := by
 obtain ⟨h1, h2, h3, h4, h5, h6, h7⟩ := zact_ok (k := k) (id := id) hm hX hp
 exact ⟨hl, h2, h3, h4, h5, h6, h7⟩
theorem settle_new {n : Nat} {x x' : HwS} {l k0 i0 k id : Int} {a : List Int} {z' : FmS} (hm : s.made) (hX : X.of s) (hp : Plain m) (hl : l = 0 ∨ l = 1) (hok : HwOk s x) (hdec : ∀ wt, decF s X (zeroW s) wt 0 m = (0, k, id)) (hk0 : k ≠ 0) (hk : KindOk s k id)
  (h : Settles s (n + 1) (zact s (doneX X 0 k id) m k id) x a z' x') : Settles s (n + 1) (zsent s X l k0 i0 m) x a z' x' := by
 have hd : decZ s x (zsent s X l k0 i0 m) 0 = (0, k, id) := hdec _
 have htk : takeF s x (zsent s X l k0 i0 m) = (zact s (doneX X 0 k id) m k id, true) := by
  unfold takeF
  rw [zsent_next hl]
  dsimp only
  unfold takeA
  dsimp only
  rw [hd, if_neg hk0]
  rfl
 have hst : stepF s x (zsent s X l k0 i0 m) = stepF s x (zact s (doneX X 0 k id) m k id) := by
  rw [stepF_act]
  unfold stepF
  dsimp only
  rw [htk, if_neg (by simp), if_pos (show (zsent s X l k0 i0 m).at_ < 0 from (by show (-1 : Int) < 0; decide))]
  rfl
 obtain ⟨_, h2⟩ := h
 refine ⟨⟨hok, zsent_ok hm hX hp hl, .inl (by show (-1 : Int) < 0; decide), fun _ a ha h0 => ?_, fun _ a ha h0 => ?_⟩, ?_⟩
 ·rw [zsent_next hl] at ha
  cases ha
  rw [hd] at h0
  exact absurd h0 hk0
 ·rw [zsent_next hl] at ha
  cases ha
  rw [hd]
  exact ⟨hk, hp.rep⟩
 ·rw [hst]
  exact h2
theorem settle_same {x : HwS} {l k0 i0 : Int} (hm : s.made) (hX : X.of s) (hp : Plain m) (hl : l = 0 ∨ l = 1) (hok : HwOk s x) (hdec : ∀ wt, decF s X (zeroW s) wt 0 m = (0, 0, 0)) :
  Settles s 1 (zsent s X l k0 i0 m) x [m.headD 0, IntKind.u32.wrap 0] (zrest s X 0 k0 i0) x := by
 have hd : decZ s x (zsent s X l k0 i0 m) 0 = (0, 0, 0) := hdec _
 have htk : takeF s x (zsent s X l k0 i0 m) = ({ zsent s X 0 k0 i0 m with h0 := 2, w0 := [m.headD 0, IntKind.u32.wrap 0] }, false) := by
  unfold takeF
  rw [zsent_next hl]
  dsimp only
  unfold takeA
  dsimp only
  rw [hd, if_pos rfl]
  unfold replyF
  show (putBox _ 0 2 (answF s x m 0), false) = _
  rw [hp.more]
  rfl
 have hst : stepF s x (zsent s X l k0 i0 m) = ({ zsent s X 0 k0 i0 m with h0 := 2, w0 := [m.headD 0, IntKind.u32.wrap 0] }, x) := by
  unfold stepF
  dsimp only
  rw [htk, if_pos ⟨by show (-1 : Int) < 0; decide, rfl⟩]
 refine ⟨⟨hok, zsent_ok hm hX hp hl, .inl (by show (-1 : Int) < 0; decide), fun _ a ha _ _ => ?_, fun _ a ha h0 => ?_⟩, .inl ?_⟩
 ·rw [zsent_next hl] at ha
  cases ha
  exact hp.rep
 ·rw [zsent_next hl] at ha
  cases ha
  rw [hd] at h0
  exact absurd rfl h0
 ·rw [hst]
  exact ⟨rfl, rfl, rfl⟩
structure OnHd (m p : Int) : Prop where
 pk : (packZ m 0 p 0).2 = 0
 un : unpackE (packZ m 0 p 0).1 = 0
 ty : hTyp (packZ m 0 p 0).1 = 0
 pr : hPro (packZ m 0 p 0).1 = p
 ms : hMsg (packZ m 0 p 0).1 = m
 z4 : getZ (packZ m 0 p 0).1 28 4 = 0
 zp : getZ (packZ m 0 p 0).1 10 8 = p
 zm : getZ (packZ m 0 p 0).1 0 8 = m
theorem on_17 : OnHd 4 17 := ⟨by decide +kernel, by decide +kernel, by decide +kernel, by decide +kernel, by decide +kernel, by decide +kernel, by decide +kernel, by decide +kernel⟩
theorem on_20 : OnHd 7 20 := ⟨by decide +kernel, by decide +kernel, by decide +kernel, by decide +kernel, by decide +kernel, by decide +kernel, by decide +kernel, by decide +kernel⟩
theorem on_22 : OnHd 4 22 := ⟨by decide +kernel, by decide +kernel, by decide +kernel, by decide +kernel, by decide +kernel, by decide +kernel, by decide +kernel, by decide +kernel⟩
theorem on_plain {m p i v : Int} (h : OnHd m p) (hmp : m = 4 ∨ m = 7) (hi : 0 ≤ i ∧ i < 4294967296) (hv : 0 ≤ v ∧ v < 4294967296) : Plain [(packZ m 0 p 0).1, i, v] := by
 refine ⟨fun y hy => ?_, by simp, ⟨⟨_, _, rfl, h.z4, fun hh => ?_⟩⟩, fun s x => ?_⟩
 ·simp at hy
  rcases hy with rfl | rfl | rfl
  ·exact pack_bd _ _ _ _
  ·exact hi
  ·exact hv
 ·rw [h.zp, h.zm] at hh
  omega
 ·unfold answF moreF
  simp only [List.headD_cons, h.zp, h.zm]
  rw [if_pos trivial, if_neg (by omega), if_neg (by omega), if_neg (by omega), if_neg (by omega)]
theorem has_setB {l : List Bool} {i : Nat} (hi : i < l.length) (j : Nat) : hasB (setBL l i true) j = if j = i then true else hasB l j := by
 rw [setBL, if_pos ⟨by omega, by omega⟩, Int.toNat_natCast, hasB_eq, hasB_eq, List.getElem?_set]
 by_cases h : i = j
 ·subst h
  rw [if_pos rfl, if_pos hi, if_pos rfl]
  rfl
 ·rw [if_neg h, if_neg (Ne.symm h)]
theorem set_has {l : List Bool} {i : Nat} (hi : hasB l i = true) : setBL l i true = l := by
 have hlt := hasB_lt hi
 rw [setBL, if_pos ⟨by omega, by omega⟩, Int.toNat_natCast]
 refine set_same ?_
 rw [hasB_eq] at hi
 rw [List.getElem?_eq_getElem hlt] at hi ⊢
 simpa using hi
end
end
section
def stF (s : Soc) (X : Wsh) (x : HwS) (l k i : Int) (m : List Int) (X' : Wsh) : Prop :=
 ∃ (N : Nat) (l' k' i' : Int) (x' : HwS), N ≤ 200 ∧ Settles s N (zsent s X l k i m) x [m.headD 0, IntKind.u32.wrap 0] (zrest s X' l' k' i') x' ∧ (l' = 0 ∨ l' = 1) ∧ Inv s X' none none none x'
section
variable {s : Soc} {X : Wsh} {x : HwS} {l k0 i0 : Int}
theorem Inv.same (hm : s.made) (hl : l = 0 ∨ l = 1) (hi : Inv s X none none none x) {m : List Int} (hp : Plain m) (hdec : ∀ wt, decF s X (zeroW s) wt 0 m = (0, 0, 0)) : stF s X x l k0 i0 m X :=
 ⟨1, 0, k0, i0, x, by omega, settle_same hm hi.of hp hl hi.ok hdec, .inl rfl, hi⟩
def mP (d : Nat) : List Int := [(packZ 4 0 17 0).1, d, 1]
def mC (c : Nat) : List Int := [(packZ 7 0 20 0).1, c, 1]
def mL (r : Nat) : List Int := [(packZ 4 0 22 0).1, r, 0]
def wsD (X : Wsh) (d : Nat) : Wsh := ⟨setBL X.d d true, X.c, X.l⟩
def wsC (X : Wsh) (c : Nat) : Wsh := ⟨X.d, setBL X.c c true, X.l⟩
def wsL (X : Wsh) (r : Nat) : Wsh := ⟨X.d, X.c, setBL X.l r true⟩
theorem msg_power (hm : s.made) (hl : l = 0 ∨ l = 1) (hi : Inv s X none none none x) {d : Nat} {c : Dom} (hc : s.domains[d]? = some c) (hab : c.above = -1 ∨ (0 ≤ c.above ∧ hasB X.d c.above.toNat = true)) : stF s X x l k0 i0 (mP d) (wsD X d) := by
 have hlt := (List.getElem?_eq_some_iff.1 hc).1
 have hnd := hm.nd
 have hp : Plain (mP d) := on_plain on_17 (.inl rfl) ⟨by omega, by omega⟩ ⟨by decide, by decide⟩
 have hX := hi.of
 have hr : readF s (mP d) = (0, 117, (d : Int)) := by
  unfold readF mP
  dsimp only
  rw [on_17.un, on_17.ty, on_17.pr, on_17.ms, if_neg (by simp), show frmOf 17 4 = some ⟨2, 3, 100, 117, 107⟩ from rfl, show frmD 17 4 = ⟨2, 3, 100, 117, 107⟩ from rfl]
  simp [askF, numF, FrmT.act, notF, hlt]
 cases hh : hasB X.d d
 ·have hdec : ∀ wt, decF s X (zeroW s) wt 0 (mP d) = (0, 117, (d : Int)) := fun wt => by
   rw [dec_on hr (.inl rfl) (by decide) (by rw [if_pos rfl, wish_has]; exact hh), if_neg]
   rintro ⟨_, h2⟩
   rw [Int.toNat_natCast, hc] at h2
   simp only [Option.any_some, Bool.and_eq_true, decide_eq_true_eq, Bool.not_eq_true'] at h2
   rcases hab with h | ⟨h0, h3⟩
   ·exact h2.1 h
   ·rw [wished_z, show c.above = ((c.above.toNat : Nat) : Int) by omega, wish_has] at h2
    rw [show kindL 117 X = X.d from rfl, h3] at h2
    cases h2.2
  have hdone : doneX X 0 117 d = wsD X d := rfl
  have hdl : d < X.d.length := by rw [hX.d]; exact hlt
  have hXd : hasB (wsD X d).d d = true := by
   show hasB (setBL X.d d true) d = true
   rw [has_setB hdl, if_pos rfl]
  have hfit := (hm.domains d c hc).1
  have hab2 : c.above = -1 ∨ (0 ≤ c.above ∧ hasB (wsD X d).d c.above.toNat = true) := by
   rcases hab with h | ⟨h0, h3⟩
   ·exact .inl h
   ·refine .inr ⟨h0, ?_⟩
    show hasB (setBL X.d d true) _ = true
    rw [has_setB hdl, if_neg (by omega)]
    exact h3
  have hinv : Inv s (wsD X d) (some d) none none x := by
   refine ⟨hi.ok, hi.wt, ⟨by show (setBL _ _ _).length = _; rw [setBL_len]; exact hX.d, hX.c, hX.l⟩, fun i m' hi' hb => ?_, hi.clk, hi.clo, (fun _ h => by cases h), hi.lin, hi.prt⟩
   have hid : i ≠ d := fun h => hb (by rw [h])
   have : hasB (wsD X d).d i = hasB X.d i := by
    show hasB (setBL X.d d true) i = _
    rw [has_setB hdl, if_neg hid]
   rw [this]
   exact hi.dom i m' hi' (by simp)
  obtain ⟨y, hy⟩ := get_some (l := x.dm) (i := d) (by have := hi.ok.dm.len; omega)
  have hph := (hi.dom d y hy (by simp)).2 hh
  have hmu : muD y < 8 + 1 := by
   unfold muD
   rw [if_neg (by omega), if_neg (by omega), if_neg (by omega)]
   omega
  obtain ⟨x', h1, h2⟩ := run_power hm hp hc hXd hab2 (8 + 1) x y hinv hy (by omega) hmu
  rw [← hdone] at h1 h2
  exact ⟨8 + 1, 0, 117, d, x', by omega, settle_new hm hX hp hl hi.ok hdec (by decide) ⟨.inl rfl, fun h => absurd h (by decide)⟩ h1, .inl rfl, h2⟩
 ·have hs : wsD X d = X := by
   unfold wsD
   rw [set_has hh]
  rw [hs]
  exact hi.same hm hl hp fun wt => dec_same hr (by rw [if_pos rfl, wish_has]; exact hh)
theorem msg_clock (hm : s.made) (hl : l = 0 ∨ l = 1) (hi : Inv s X none none none x) {c : Nat} {ck : Clk} (hc : s.clocks[c]? = some ck) (hsw : swit s c) (hsrc : ∀ j ∈ chainL s c, j ≠ c → swit s j → hasB X.c j = true) : stF s X x l k0 i0 (mC c) (wsC X c) := by
 have hlt := (List.getElem?_eq_some_iff.1 hc).1
 have hnc := hm.nc
 have hp : Plain (mC c) := on_plain on_20 (.inr rfl) ⟨by omega, by omega⟩ ⟨by decide, by decide⟩
 have hX := hi.of
 have hr : readF s (mC c) = (0, 99, (c : Int)) := by
  unfold readF mC
  dsimp only
  rw [on_20.un, on_20.ty, on_20.pr, on_20.ms, if_neg (by simp), show frmOf 20 7 = some ⟨2, 2, 111, 99, 0⟩ from rfl, show frmD 20 7 = ⟨2, 2, 111, 99, 0⟩ from rfl]
  simp [askF, numF, FrmT.act, notF, hlt, hsw]
 cases hh : hasB X.c c
 ·have hdec : ∀ wt, decF s X (zeroW s) wt 0 (mC c) = (0, 99, (c : Int)) := fun wt => by
   rw [dec_on hr (.inr (.inl rfl)) (by decide) (by rw [if_pos rfl, wish_has]; exact hh), if_neg]
   rintro ⟨h2, _⟩
   cases h2
  have hdone : doneX X 0 99 c = wsC X c := rfl
  have hcl : c < X.c.length := by rw [hX.c]; exact hlt
  have hset : ∀ j, hasB (wsC X c).c j = if j = c then true else hasB X.c j := fun j => has_setB hcl j
  have hXc : hasB (wsC X c).c c = true := by rw [hset, if_pos rfl]
  have hinv : Inv s (wsC X c) none (some c) none x := by
   refine ⟨hi.ok, hi.wt, ⟨hX.d, by show (setBL _ _ _).length = _; rw [setBL_len]; exact hX.c, hX.l⟩, hi.dom, fun i ci y hci hy hx hb => ?_, fun i hx j hj hsj => ?_, fun c' hc' i hx hne hmem => ?_, hi.lin, hi.prt⟩
   ·have hid : i ≠ c := fun h => hb (by rw [h])
    rw [hset, if_neg hid] at hx
    exact hi.clk i ci y hci hy hx (by simp)
   ·rw [hset]
    by_cases hjc : j = c
    ·rw [if_pos hjc]
    ·rw [if_neg hjc]
     rw [hset] at hx
     by_cases hic : i = c
     ·subst hic
      exact hsrc j hj hjc hsj
     ·rw [if_neg hic] at hx
      exact hi.clo i hx j hj hsj
   ·cases hc'
    rw [hset, if_neg hne] at hx
    have := hi.clo i hx c hmem hsw
    rw [hh] at this
    cases this
  obtain ⟨y, hy⟩ := get_some (l := x.ck) (i := c) (by have := hi.ok.ck.len; omega)
  have hyl := hi.ok.ck.left y (List.mem_of_getElem? hy)
  obtain ⟨x', h1, h2⟩ := run_clock hm hp hc hsw hXc (8 + 1) x y hinv hy (by omega)
  rw [← hdone] at h1 h2
  exact ⟨8 + 1, 0, 99, c, x', by omega, settle_new hm hX hp hl hi.ok hdec (by decide) ⟨.inr (.inl rfl), fun _ => ⟨by omega, by omega⟩⟩ h1, .inl rfl, h2⟩
 ·have hs : wsC X c = X := by
   unfold wsC
   rw [set_has hh]
  rw [hs]
  exact hi.same hm hl hp fun wt => dec_same hr (by rw [if_pos rfl, wish_has]; exact hh)
theorem msg_line (hm : s.made) (hl : l = 0 ∨ l = 1) (hi : Inv s X none none none x) {r : Nat} (hlt : r < s.resets.length) : stF s X x l k0 i0 (mL r) (wsL X r) := by
 have hnr := hm.nr
 have hp : Plain (mL r) := on_plain on_22 (.inl rfl) ⟨by omega, by omega⟩ ⟨by decide, by decide⟩
 have hX := hi.of
 have hr : readF s (mL r) = (0, 114, (r : Int)) := by
  unfold readF mL
  dsimp only
  rw [on_22.un, on_22.ty, on_22.pr, on_22.ms, if_neg (by simp), show frmOf 22 4 = some ⟨2, 2, 114, 97, 0⟩ from rfl, show frmD 22 4 = ⟨2, 2, 114, 97, 0⟩ from rfl]
  simp [askF, numF, FrmT.act, notF, hlt]
 cases hh : hasB X.l r
 ·have hdec : ∀ wt, decF s X (zeroW s) wt 0 (mL r) = (0, 114, (r : Int)) := fun wt => by
   rw [dec_on hr (.inr (.inr rfl)) (by decide) (by rw [if_pos rfl, wish_has]; exact hh), if_neg]
   rintro ⟨h2, _⟩
   cases h2
  have hdone : doneX X 0 114 r = wsL X r := rfl
  have hcl : r < X.l.length := by rw [hX.l]; exact hlt
  have hset : ∀ j, hasB (wsL X r).l j = if j = r then true else hasB X.l j := fun j => has_setB hcl j
  have hinv : Inv s (wsL X r) none none (some r) x := by
   refine ⟨hi.ok, hi.wt, ⟨hX.d, hX.c, by show (setBL _ _ _).length = _; rw [setBL_len]; exact hX.l⟩, hi.dom, hi.clk, hi.clo, (fun _ h => by cases h), fun i y hy hx hb => ?_, hi.prt⟩
   have hid : i ≠ r := fun h => hb (by rw [h])
   rw [hset, if_neg hid] at hx
   exact hi.lin i y hy hx (by simp)
  obtain ⟨y, hy⟩ := get_some (l := x.ln) (i := r) (by have := hi.ok.ln.len; omega)
  have hyl := hi.ok.ln.left y (List.mem_of_getElem? hy)
  obtain ⟨x', h1, h2⟩ := run_line hm hp hlt (8 + 1) x y hinv hy (by split <;> omega)
  rw [← hdone] at h1 h2
  exact ⟨8 + 1, 0, 114, r, x', by omega, settle_new hm hX hp hl hi.ok hdec (by decide) ⟨.inr (.inr rfl), fun h => absurd h (by decide)⟩ h1, .inl rfl, h2⟩
 ·have hs : wsL X r = X := by
   unfold wsL
   rw [set_has hh]
  rw [hs]
  exact hi.same hm hl hp fun wt => dec_same hr (by rw [if_pos rfl, wish_has]; exact hh)
theorem inv0 (hm : s.made) : Inv s (zeroW s) none none none (hw0 s) := by
 have h0 : ∀ (n i : Nat), hasB (List.replicate n false) i = false := fun n i => by
  rw [hasB_eq, List.getElem?_replicate]
  split <;> rfl
 refine ⟨hw0_ok hm.okH, fun i => ?_, ⟨by simp [zeroW], by simp [zeroW], by simp [zeroW]⟩, fun i m hi' _ => ⟨fun h => ?_, fun _ => ?_⟩, fun i c y _ _ h _ => ?_, fun i h => ?_, (fun _ h => by cases h), fun i y _ h _ => ?_, fun p hp => ?_⟩
 ·unfold wtN hw0
  simp only [List.getElem?_map]
  cases s.devs[i]? <;> rfl
 ·rw [show hasB (zeroW s).d i = false from h0 _ _] at h
  cases h
 ·simp only [hw0, List.getElem?_map] at hi'
  cases hq : s.domains[i]? with
  | none => rw [hq] at hi'; cases hi'
  | some q => rw [hq] at hi'; cases hi'; exact .inl rfl
 ·rw [show hasB (zeroW s).c i = false from h0 _ _] at h
  cases h
 ·rw [show hasB (zeroW s).c i = false from h0 _ _] at h
  cases h
 ·rw [show hasB (zeroW s).l i = false from h0 _ _] at h
  cases h
 ·obtain ⟨d, _, rfl⟩ := List.mem_map.1 hp
  rfl
end
end
section
def Path (s : Soc) : Int → List Nat → Nat → Prop
 | v, [], t => v = t
 | v, d :: r, t => (∃ c, s.domains[d]? = some c ∧ c.above = v) ∧ Path s d r t
theorem Path.at_ {s : Soc} {t : Nat} : ∀ (l : List Nat) (v : Int) (i d : Nat), Path s v l t → l[i]? = some d → ∃ c, s.domains[d]? = some c ∧ ((i = 0 ∧ c.above = v) ∨ ∃ j e, i = j + 1 ∧ l[j]? = some e ∧ c.above = (e : Int))
 | [], _, i, _, _, h => by simp at h
 | d0 :: r, v, 0, d, hp, h => by
  simp at h
  subst h
  obtain ⟨c, h1, h2⟩ := hp.1
  exact ⟨c, h1, .inl ⟨rfl, h2⟩⟩
 | d0 :: r, v, i + 1, d, hp, h => by
  obtain ⟨c, h1, h2⟩ := Path.at_ r d0 i d hp.2 (by simpa using h)
  refine ⟨c, h1, .inr ?_⟩
  rcases h2 with ⟨rfl, h3⟩ | ⟨j, e, rfl, h3, h4⟩
  ·exact ⟨0, d0, rfl, rfl, h3⟩
  ·exact ⟨j + 1, e, rfl, by simpa using h3, h4⟩
theorem Path.mem {s : Soc} {t : Nat} : ∀ (l : List Nat) (v : Int), Path s v l t → v ≠ t → t ∈ l
 | [], v, hp, h => absurd hp h
 | d :: r, v, hp, _ => by
  by_cases h : (d : Int) = t
  ·have : d = t := by omega
   rw [this]; simp
  ·exact List.mem_cons_of_mem _ (Path.mem r d hp.2 h)
theorem Path.lt {s : Soc} {t : Nat} (ht : t < s.domains.length) : ∀ (l : List Nat) (v : Int), Path s v l t → ∀ d ∈ l, d < s.domains.length
 | [], _, _, d, h => by simp at h
 | d0 :: r, v, hp, d, h => by
  rcases List.mem_cons.1 h with rfl | h
  ·obtain ⟨c, h1, _⟩ := hp.1
   exact (List.getElem?_eq_some_iff.1 h1).1
  ·exact Path.lt ht r _ hp.2 d h
theorem chain_drop {s : Soc} (hm : s.made) : ∀ (i c e : Nat), (chainL s c)[i]? = some e → chainL s e = (chainL s c).drop i
 | 0, c, e, h => by
  have hlt : c < s.clocks.length := by
   rcases Nat.lt_or_ge c s.clocks.length with h' | h'
   ·exact h'
   ·exfalso
    have hn : s.clocks[c]? = none := List.getElem?_eq_none h'
    have : chainL s c = [] := by
     unfold chainL
     cases hk : s.clocks.length with
     | zero => rfl
     | succ k => unfold chainN; rw [hn]
    rw [this] at h
    simp at h
  obtain ⟨ck, hc⟩ := get_some hlt
  have hch := chainL_cons hm.clocks hc
  rw [hch] at h
  simp at h
  rw [← h, List.drop_zero]
 | i + 1, c, e, h => by
  have hlt : c < s.clocks.length := by
   rcases Nat.lt_or_ge c s.clocks.length with h' | h'
   ·exact h'
   ·exfalso
    have hn : s.clocks[c]? = none := List.getElem?_eq_none h'
    have : chainL s c = [] := by
     unfold chainL
     cases hk : s.clocks.length with
     | zero => rfl
     | succ k => unfold chainN; rw [hn]
    rw [this] at h
    simp at h
  obtain ⟨ck, hc⟩ := get_some hlt
  have hch := chainL_cons hm.clocks hc
  cases hs : ck.src with
  | nil =>
   rw [hs] at hch
   dsimp only at hch
   rw [hch] at h
   simp at h
  | cons f fs =>
   rw [hs] at hch
   dsimp only at hch
   rw [hch] at h ⊢
   rw [List.getElem?_cons_succ] at h
   rw [List.drop_succ_cons]
   exact chain_drop hm i _ e h
theorem Inv.alive {s : Soc} {X : Wsh} {x : HwS} (hm : s.made) (hi : Inv s X none none none x) {i : Nat} {d : Dev} (hd : s.devs[i]? = some d) (h1 : hasB X.d d.domain.toNat = true) (h2 : ∀ j ∈ chainL s d.clock.toNat, swit s j → hasB X.c j = true) (h3 : hasB X.l d.reset.toNat = true) : aliveF s x i = true := by
 have hf := hm.devs i d hd
 obtain ⟨f1, f2, f3, f4, f5, f6, _⟩ := hf
 have hrun : runI s x.ck d.clock = true := by
  unfold runI
  rw [show inB s.clocks.length d.clock = true from decide_eq_true (by omega)]
  unfold runs
  rw [Bool.true_and, List.all_eq_true]
  intro j hj
  have hlt := chainL_lt hj
  obtain ⟨c, hc⟩ := get_some hlt
  obtain ⟨y, hy⟩ := get_some (l := x.ck) (i := j) (by have := hi.ok.ck.len; omega)
  unfold upK
  rw [hc, hy]
  dsimp only
  unfold upC
  by_cases k1 : c.kind = 112
  ·rw [if_pos k1]
   obtain ⟨k2, k3⟩ := hi.clk j c y hc hy (h2 j hj (.inl (by rw [kindOf_at hc]; exact k1))) (by simp)
   rw [k2, k3 k1]
   rfl
  ·rw [if_neg k1]
   by_cases k4 : c.kind = 103
   ·rw [if_pos k4]
    exact (hi.clk j c y hc hy (h2 j hj (.inr (by rw [kindOf_at hc]; exact k4))) (by simp)).1
   ·rw [if_neg k4]
 obtain ⟨m, hmm⟩ := get_some (l := x.dm) (i := d.domain.toNat) (by have := hi.ok.dm.len; omega)
 have hph : phaseF x.dm d.domain = 49 := by
  have := phase_at hmm
  rw [show ((d.domain.toNat : Nat) : Int) = d.domain by omega] at this
  rw [this]
  exact (hi.dom _ m hmm (by simp)).1 h1
 obtain ⟨y, hy⟩ := get_some (l := x.ln) (i := d.reset.toNat) (by have := hi.ok.ln.len; omega)
 have hheld : heldF x.ln d.reset = false := by
  unfold heldF
  rw [show inB x.ln.length d.reset = true from decide_eq_true (by have := hi.ok.ln.len; omega), hy]
  exact hi.lin _ y hy h3 (by simp)
 unfold aliveF
 rw [hd]
 dsimp only
 rw [hrun, hph, hheld]
 rfl
theorem Inv.state {s : Soc} {X : Wsh} {x : HwS} (hi : Inv s X none none none x) {i : Nat} (hlt : i < s.devs.length) : stateF x i = 114 := by
 obtain ⟨p, hp⟩ := get_some (l := x.dv) (i := i) (by have := hi.ok.dv; omega)
 unfold stateF
 rw [hp]
 show letF p.2.at_ = 114
 rw [hi.prt p (List.mem_of_getElem? hp)]
 rfl
end
section
set_option maxHeartbeats 4000000
set_option maxRecDepth 20000
def WakeA : Type := Wsh × Int × Int × Int × HwS
def WakeG (s : Soc) (d : Dev) (a : WakeA) : Prop := (a.2.1 = 0 ∨ a.2.1 = 1) ∧ Inv s a.1 none none none a.2.2.2.2 ∧ hasB a.1.d d.domain.toNat = true ∧ (∀ j ∈ chainL s d.clock.toNat, swit s j → hasB a.1.c j = true) ∧ hasB a.1.l d.reset.toNat = true
def WakeH (f : Nat) (hL : HL) (s : Soc) (a : WakeA) : HP := MachH f hL s (zrest s a.1 a.2.1 a.2.2.1 a.2.2.2.1) a.2.2.2.2
theorem hz00 : IntKind.i32.wrap (IntKind.u32.wrap 0) = 0 := by decide +kernel
theorem int_one {l : List Int} : ∀ u ∈ intCells l, u.oneCell' = true := fun u hu => by
 obtain ⟨i, _, rfl⟩ := List.mem_map.1 hu
 rfl
theorem wake_m (f : Nat) (hL : HL) (s : Soc) (hm : s.made) (hLo : HLOk hL s) (X : Wsh) (l0 k0 i0 : Int) (x : HwS) (hl0 : l0 = 0 ∨ l0 = 1) (hinv : Inv s X none none none x) (A1 A2 A3 A4 : Option Addr) (n1 k1 n2 k2 n3 k3 n4 k4 : Nat) (dv : Nat) (d : Dev) (hdv : s.devs[dv]? = some d) (w : World) (F : Nat → Prop) (hp : (MachH f hL s (zrest s X l0 k0 i0) x).sat F w) (hF : ∀ b, F b → b < w.heap.size)
  (hSQ : SocQ ⟨w, fun b => b < w.heap.size ∧ ¬ F b⟩ s A1 n1 A2 n2 A3 n3 A4 n4) (hLt : LetP ⟨w, fun b => b < w.heap.size ∧ ¬ F b⟩) :
  Calls Tryz.prog 29 #[.pointer (some ⟨f, 0, none⟩), .pointer (some ⟨hL.h, 0, none⟩), .agg #[.slice A1 n1 k1, .slice A2 n2 k2, .slice A3 n3 k3, .slice A4 n4 k4], .int .i64 (dv : Int)] w (fun y w' => ∃ a : WakeA, y = .returned (.bool true) ∧ WakeG s d a ∧ ∃ F', (WakeH f hL s a).sat F' w' ∧ Turns w w' F F') := by
 have hH := hm.okH
 have hnd := hm.nd
 have hnc := hm.nc
 have hnr := hm.nr
 have hnv := hm.nv
 have hdlt := (List.getElem?_eq_some_iff.1 hdv).1
 obtain ⟨rfl, rfl, rfl, rfl⟩ := hSQ.len
 obtain ⟨f1, f2, f3, f4, f5, f6, _⟩ := hm.devs dv d hdv
 obtain ⟨dc, edc⟩ : ∃ n : Nat, d.clock = (n : Int) := ⟨d.clock.toNat, by omega⟩
 obtain ⟨dd, edd⟩ : ∃ n : Nat, d.domain = (n : Int) := ⟨d.domain.toNat, by omega⟩
 obtain ⟨dr, edr⟩ : ∃ n : Nat, d.reset = (n : Int) := ⟨d.reset.toNat, by omega⟩
 have hchl : (chainL s dc).length ≤ 9 := Nat.le_trans (chainN_len s _ _) hnc.2
 obtain ⟨db, doff, dr0, hA4, hdz, hdl, ⟨RA, Rn, Rk, NA, Nn, Nk, rfl, _⟩, hdc⟩ := RsR.rowQ hSQ.dev hdv
 rw [edc, edd, edr] at hdc
 rw [edc] at f1 f2
 rw [edd] at f3 f4
 rw [edr] at f5 f6
 unfold WakeG
 rw [edc, edd, edr]
 simp only [Int.toNat_natCast]
 refine XK.enterM (p := MachH f hL s (zrest s X l0 k0 i0) x) (F := F) (vs := [.pointer (some ⟨f, 0, none⟩), .pointer (some ⟨hL.h, 0, none⟩), .agg #[.slice A1 s.clocks.length k1, .slice A2 s.domains.length k2, .slice A3 s.resets.length k3, .slice A4 s.devs.length k4], .int .i64 (dv : Int)]) Tryz.func29 rfl Tryz.ntmps29 (by simp) hp hF ?_
 generalize hR0 : (⟨w, fun b => b < w.heap.size ∧ ¬ F b⟩ : Piece) = R0 at hSQ hLt hdz hdc ⊢
 refine XK.go ?_
 refine xk_box rfl (by decide) fun g6 => ?_
 dsimp only [Value.cells]
 refine XK.go ?_
 refine kd (dat dv (doff + dv * 6) (hx := by rw [← hA4]; rfl)) ?_
 refine kd (does_ldA (vs := [.int .i64 (dc : Int), .int .i64 (dd : Int), .int .i64 (dr : Int), .int .u32 d.clamp, .slice RA Rn Rk, .slice NA Nn Nk]) rfl (.of fun k v hv => Rd.ro (p := R0) (by simp) hdz (hdc k v hv))) ?_
 refine xk_alloc (cs := [.int .i64 0, .int .i64 0, .int .i64 0, .int .u32 0, .slice none 0 0, .slice none 0 0]) (zeroB_of (by kernel_rfl)) (by decide) fun g9 => ?_
 refine XK.go ?_
 refine XK.weak [0, 1, 2] rfl (by decide) (R' := [R0, R0]) (by simp) ?_
 refine XK.envS [(11, .int .i64 (dd : Int)), (10, .slice none 0 0), (9, .pointer (some ⟨g9, 0, none⟩)), (6, .pointer (some ⟨g6, 0, none⟩)), (0, .pointer (some ⟨f, 0, none⟩)), (1, .pointer (some ⟨hL.h, 0, none⟩))] ?_
 refine XK.loop (fun m e R H => ∃ (v : Int) (l : List Nat) (A : Option Addr) (cc : Nat) (q : Piece), -1 ≤ v ∧ v < s.domains.length ∧ m = (v + 1).toNat ∧ l.length + (v + 1).toNat ≤ s.domains.length ∧ Path s v l dd ∧ SlS q 1 A l.length (intCells (natI l)) ∧ e = [(11, .int .i64 v), (10, .slice A l.length cc), (9, .pointer (some ⟨g9, 0, none⟩)), (6, .pointer (some ⟨g6, 0, none⟩)), (0, .pointer (some ⟨f, 0, none⟩)), (1, .pointer (some ⟨hL.h, 0, none⟩))] ∧ R = [q, R0] ∧ H = [HP.blk g9 78 [.int .i64 (dc : Int), .int .i64 (dd : Int), .int .i64 (dr : Int), .int .u32 d.clamp, .slice RA Rn Rk, .slice NA Nn Nk], HP.blk g6 29 [.slice A1 s.clocks.length k1, .slice A2 s.domains.length k2, .slice A3 s.resets.length k3, .slice A4 s.devs.length k4], MachH f hL s (zrest s X l0 k0 i0) x]) (dd + 1) ⟨dd, [], none, 0, R0, by omega, by omega, by omega, by simp; omega, rfl, SlS.nil _ _, rfl, rfl, rfl⟩ fun m e R H hI => ?_
 obtain ⟨v, l, A, cc, q, hv1, hv2, rfl, hlen, hpath, hq, rfl, rfl, rfl⟩ := hI
 refine XK.go ?_
 refine XK.if_ rfl (fun hv0 => ?_) (fun hv0 => ?_)
 ·have hv0 : 0 ≤ v := hv0
  obtain ⟨vn, rfl⟩ : ∃ n : Nat, v = (n : Int) := ⟨v.toNat, by omega⟩
  obtain ⟨c, hc⟩ := get_some (l := s.domains) (i := vn) (by omega)
  have hfit := (hm.domains vn c hc).1
  obtain ⟨ab, aoff, ar, hA2, haz, hal, rfl, hac⟩ := RsR.rowQ hSQ.dom hc
  refine XK.go ?_
  refine xk_slice (el := 3) (sz := 1) (zs := [.int .i64 0]) (by kernel_rfl) (zeroB_of (by kernel_rfl)) (by kernel_rfl) rfl (by decide) (by decide) rfl (by simp [fillL, setN, Value.cells, List.range_succ, List.set]; rfl) (by decide) fun gs => ?_
  refine XK.closeOwn 0 (n := 1) (c := 1) (sz := 1) rfl rfl rfl (by omega) (by decide) ?_
  dsimp only [List.set]
  refine XK.go ?_
  refine xk_appendT 0 1 8 l.length (n' := l.length + 1) (el := 3) (by kernel_rfl) (by kernel_rfl) (by decide) rfl rfl rfl (sl_ro (p := q) (by simp) hq) int_one (by omega) (by omega) (by omega) (by decide) fun Aq cq => ?_
  dsimp only [List.set]
  refine XK.go ?_
  refine kd (dat vn (aoff + vn * 3) (hx := by rw [← hA2]; rfl)) ?_
  refine XK.go ?_
  refine kd (does_ld1 rfl (Rd.ro (p := R0) (by simp) haz (hac 0 _ rfl))) ?_
  refine XK.go ?_
  refine XK.still [] [0] [1, 2, 3] (by simp) rfl (by decide) (by decide) fun q2 hq2 _ hfr => ?_
  obtain ⟨F2, sf2, zf2⟩ := hq2 0 _ (by simp) rfl
  have hs2 : SlS q2 1 Aq (l.length + 1) (intCells (natI (vn :: l))) := SlS.own ⟨F2, sf2, zf2⟩
  refine XK.weak [0, 1, 2] rfl (by decide) (R' := [q2, R0]) (by simp) ?_
  refine XK.envS [(11, .int .i64 c.above), (10, .slice Aq (vn :: l).length cq), (9, .pointer (some ⟨g9, 0, none⟩)), (6, .pointer (some ⟨g6, 0, none⟩)), (0, .pointer (some ⟨f, 0, none⟩)), (1, .pointer (some ⟨hL.h, 0, none⟩))] ?_
  exact XK.round (c.above + 1).toNat (by omega) ⟨c.above, vn :: l, Aq, cq, q2, by omega, by omega, rfl, by simp; omega, ⟨⟨c, hc, rfl⟩, hpath⟩, hs2, rfl, rfl, rfl⟩
 have hv0 : ¬ 0 ≤ v := hv0
 obtain rfl : v = -1 := by omega
 have hmem := Path.mem l (-1) hpath (by omega)
 have hplt := Path.lt (by omega) l (-1) hpath
 have hl4 : l.length ≤ 1000000 := by omega
 clear hlen
 refine XK.go ?_
 refine XK.envS [(12, .int .i64 0), (10, .slice A l.length cc), (9, .pointer (some ⟨g9, 0, none⟩)), (6, .pointer (some ⟨g6, 0, none⟩)), (0, .pointer (some ⟨f, 0, none⟩)), (1, .pointer (some ⟨hL.h, 0, none⟩))] ?_
 refine XK.loop (fun m e R H => ∃ (i : Nat) (X : Wsh) (l0 k0 i0 : Int) (x : HwS), i ≤ l.length ∧ m = l.length - i ∧ (l0 = 0 ∨ l0 = 1) ∧ Inv s X none none none x ∧ (∀ j e, j < i → l[j]? = some e → hasB X.d e = true) ∧ e = [(12, .int .i64 (i : Int)), (10, .slice A l.length cc), (9, .pointer (some ⟨g9, 0, none⟩)), (6, .pointer (some ⟨g6, 0, none⟩)), (0, .pointer (some ⟨f, 0, none⟩)), (1, .pointer (some ⟨hL.h, 0, none⟩))] ∧ R = [q, R0] ∧ H = [HP.blk g9 78 [.int .i64 (dc : Int), .int .i64 (dd : Int), .int .i64 (dr : Int), .int .u32 d.clamp, .slice RA Rn Rk, .slice NA Nn Nk], HP.blk g6 29 [.slice A1 s.clocks.length k1, .slice A2 s.domains.length k2, .slice A3 s.resets.length k3, .slice A4 s.devs.length k4], MachH f hL s (zrest s X l0 k0 i0) x]) l.length ⟨0, X, l0, k0, i0, x, by omega, rfl, hl0, hinv, (fun j e h => absurd h (by omega)), rfl, rfl, rfl⟩ fun m e R H hI => ?_
 clear hl0 hinv
 obtain ⟨i, X, l0, k0, i0, x, hil, rfl, hl0, hinv, hdone, rfl, rfl, rfl⟩ := hI
 refine XK.go ?_
 refine XK.if_ rfl (fun hlt => ?_) (fun hge => ?_)
 ·have hlt : i < l.length := by omega
  obtain ⟨e0, he0⟩ := get_some hlt
  have he4 := hplt e0 (List.mem_of_getElem? he0)
  obtain ⟨c, hc, hcase⟩ := Path.at_ l (-1) i e0 hpath he0
  have hab : c.above = -1 ∨ (0 ≤ c.above ∧ hasB X.d c.above.toNat = true) := by
   rcases hcase with ⟨_, h⟩ | ⟨j, e1, rfl, h1, h2⟩
   ·exact .inl h
   ·refine .inr ⟨by omega, ?_⟩
    rw [h2, Int.toNat_natCast]
    exact hdone j e1 (by omega) h1
  obtain ⟨N, l2, k2, i2, x2, hN, hset, hl2, hinv2⟩ := msg_power (k0 := k0) (i0 := i0) hm hl0 hinv hc hab
  obtain ⟨qb, qoff, hqA, hqz, hqc⟩ := hq.2 (by omega)
  have hqi := hqc i (.int .i64 (e0 : Int)) (by simp only [intCells, natI, List.getElem?_map, he0, Option.map_some]; rfl)
  refine XK.go ?_
  refine xk_buildS (zs := [.int .i64 0, .int .i64 0, .int .i64 0, .int .i64 0]) (L := [(0, 1), (1, 1), (2, 1), (3, 1)]) (zeroB_of (by kernel_rfl)) (by kernel_rfl) rfl (by simp [fillL, setN, Value.cells]; rfl) (by decide) ?_
  refine XK.go ?_
  refine kd (dat i (qoff + i) (hx := by rw [← hqA]; rfl)) ?_
  refine kd (does_ld1 rfl (Rd.ro (p := q) (by simp) hqz hqi)) ?_
  refine kd (does_conv (ds := .int .i64) (kd := .u32) (c := (e0 : Int)) (by kernel_rfl) (by kernel_rfl) rfl (wrap_u32 (by omega))) ?_
  refine xk_slice (el := 44) (sz := 1) (zs := [.int .u32 0]) (by kernel_rfl) (zeroB_of (by kernel_rfl)) (by kernel_rfl) rfl (by decide) (by decide) rfl (by simp [fillL, setN, Value.cells, List.range_succ, List.set]; rfl) (by decide) fun g3 => ?_
  refine xk_call [] (f := 18) (fi := []) (ca := []) (by kernel_rfl) rfl rfl (by decide) (by simp) (CmdOk ((packZ 4 0 17 0).1 :: [(e0 : Int), 1])) (fun w1 t => command_any 4 0 17 0 (some ⟨g3, 0, none⟩) 2 2 [(e0 : Int), 1] w1 (t.slS (i := 0) rfl rfl) rfl (by omega) on_17.pk) ?_
  rintro _ w1 qm ⟨Al, cl, rfl, hl3⟩ hf _ _
  have hl3 := hl3.le hf
  clear hf
  refine XK.weak [1, 2, 3] rfl (by decide) (fun _ h => h) ?_
  refine XK.go ?_
  refine kcallW 2 (MachH f hL s (zrest s (wsD X e0) l2 k2 i2) x2) (fun w1 F1 t h1 h2 h3 => settles_m f hL s (zrest s X l0 k0 i0) x w1 hH hLo Al cl (mP e0) (by simp [mP]) N hN _ (IntKind.u32.wrap 0) _ _ _ zsent_send hset rfl F1 h1 h2 (hl3.le (h3 _ (by simp))) (LetP.le hLt (h3 _ (by simp)))) ?_
  dsimp only [List.set]
  rw [hz00]
  refine XK.go ?_
  refine XK.weak [0, 1, 2] rfl (by decide) (R' := [q, R0]) (by simp) ?_
  refine XK.envS [(12, .int .i64 (i + 1 : Nat)), (10, .slice A l.length cc), (9, .pointer (some ⟨g9, 0, none⟩)), (6, .pointer (some ⟨g6, 0, none⟩)), (0, .pointer (some ⟨f, 0, none⟩)), (1, .pointer (some ⟨hL.h, 0, none⟩))] ?_
  refine XK.round (l.length - (i + 1)) (by omega) ⟨i + 1, wsD X e0, l2, k2, i2, x2, hlt, rfl, hl2, hinv2, fun j e1 hj h1 => ?_, rfl, rfl, rfl⟩
  show hasB (setBL X.d e0 true) e1 = true
  rw [has_setB (by rw [hinv.of.d]; exact he4)]
  split
  ·rfl
  ·rename_i hne
   refine hdone j e1 ?_ h1
   rcases Nat.lt_or_ge j i with h | h
   ·exact h
   ·exfalso
    have : j = i := by omega
    subst this
    rw [he0] at h1
    cases h1
    exact hne rfl
 obtain rfl : i = l.length := by omega
 have hXd : hasB X.d dd = true := by
  obtain ⟨j, hj⟩ := List.getElem?_of_mem hmem
  exact hdone j dd (List.getElem?_eq_some_iff.1 hj).1 hj
 refine XK.go ?_
 refine xk_call [] (f := 89) (fi := []) (ca := []) (by kernel_rfl) rfl rfl (by decide) (by simp) (IntsOk (chainL s dc)) (fun w1 t => chain_any R0 s A1 A2 A3 A4 _ k1 _ k2 _ k3 _ k4 dc w1 ⟨hSQ.clk, hSQ.dom, hSQ.rst, hSQ.dev⟩ hH.t (t.le (by simp)) (by omega)) ?_
 rintro _ w1 qc ⟨Ac, ccc, rfl, hcl⟩ hf _ _
 have hcl := hcl.le hf
 clear hf
 have hdrop := chain_drop hm
 have hcmem : ∀ j ∈ chainL s dc, j < s.clocks.length := fun j hj => chainL_lt hj
 generalize hch : chainL s dc = ch at hcl hchl hcmem ⊢
 refine XK.go ?_
 refine XK.weak [0, 1, 2] rfl (by decide) (R' := [qc, R0]) (by simp) ?_
 refine XK.envS [(18, .int .i64 ((ch.length : Int) - 1)), (17, .slice Ac ch.length ccc), (9, .pointer (some ⟨g9, 0, none⟩)), (6, .pointer (some ⟨g6, 0, none⟩)), (0, .pointer (some ⟨f, 0, none⟩)), (1, .pointer (some ⟨hL.h, 0, none⟩))] ?_
 refine XK.loop (fun m e R H => ∃ (j : Int) (X : Wsh) (l0 k0 i0 : Int) (x : HwS), m ≤ ch.length ∧ j = (m : Int) - 1 ∧ (l0 = 0 ∨ l0 = 1) ∧ Inv s X none none none x ∧ hasB X.d dd = true ∧ (∀ j e, m ≤ j → ch[j]? = some e → swit s e → hasB X.c e = true) ∧ e = [(18, .int .i64 j), (17, .slice Ac ch.length ccc), (9, .pointer (some ⟨g9, 0, none⟩)), (6, .pointer (some ⟨g6, 0, none⟩)), (0, .pointer (some ⟨f, 0, none⟩)), (1, .pointer (some ⟨hL.h, 0, none⟩))] ∧ R = [qc, R0] ∧ H = [HP.blk g9 78 [.int .i64 (dc : Int), .int .i64 (dd : Int), .int .i64 (dr : Int), .int .u32 d.clamp, .slice RA Rn Rk, .slice NA Nn Nk], HP.blk g6 29 [.slice A1 s.clocks.length k1, .slice A2 s.domains.length k2, .slice A3 s.resets.length k3, .slice A4 s.devs.length k4], MachH f hL s (zrest s X l0 k0 i0) x]) ch.length ⟨_, X, l0, k0, i0, x, by omega, rfl, hl0, hinv, hXd, (fun j e h he => by
  have := (List.getElem?_eq_some_iff.1 he).1
  omega), rfl, rfl, rfl⟩ fun m e R H hI => ?_
 clear hl0 hinv hXd hdone
 obtain ⟨j, X, l0, k0, i0, x, hml, hjm, hl0, hinv, hXd, hdone, rfl, rfl, rfl⟩ := hI
 refine XK.go ?_
 refine XK.if_ rfl (fun hj0 => ?_) (fun hj0 => ?_)
 ·have hj0 : 0 ≤ j := hj0
  obtain ⟨i, rfl⟩ : ∃ i : Nat, m = i + 1 := ⟨m - 1, by omega⟩
  obtain ⟨e0, he0⟩ := get_some (l := ch) (i := i) (by omega)
  have he9 := hcmem e0 (List.mem_of_getElem? he0)
  obtain ⟨ck, hck⟩ := get_some he9
  obtain ⟨cb, coff, cr, hA1, hcz, hcrl, ⟨SA, Sn, Sk, rfl, _⟩, hcc⟩ := RsR.rowQ hSQ.clk hck
  obtain ⟨qb, qoff, hqA, hqz, hqc⟩ := hcl.2 (by omega)
  have hqi := hqc i (.int .i64 (e0 : Int)) (by simp only [intCells, natI, List.getElem?_map, he0, Option.map_some]; rfl)
  have hrk := hcc 0 (.int .u8 ck.kind) rfl
  refine XK.go ?_
  refine XK.drawQ ?_
  refine XQ.go ?_
  refine XQ.kd (dat i (qoff + i) (hx := by rw [← hqA]; rfl)) ?_
  refine XQ.kd (does_ld1 rfl (Rd.ro (p := qc) (by simp) hqz hqi)) ?_
  refine XQ.kd (dat e0 (coff + e0 * 6) (hx := by rw [← hA1]; rfl)) ?_
  refine XQ.go ?_
  refine XQ.kd (does_ld1 rfl (Rd.ro (p := R0) (by simp) hcz hrk)) ?_
  refine XQ.end_ ?_
  by_cases hsw : swit s e0
  ·have hkd : ck.kind = 112 ∨ ck.kind = 103 := by
    have := kindOf_at hck
    unfold swit at hsw
    rwa [this] at hsw
   have hsuf := hdrop i dc e0 (by rw [hch]; exact he0)
   rw [hch] at hsuf
   obtain ⟨N, l2, k2, i2, x2, hN, hset, hl2, hinv2⟩ := msg_clock (k0 := k0) (i0 := i0) hm hl0 hinv hck hsw (fun j1 hj1 hne hs1 => by
    rw [hsuf] at hj1
    obtain ⟨t, ht⟩ := List.getElem?_of_mem hj1
    rw [List.getElem?_drop] at ht
    refine hdone (i + t) j1 ?_ ht hs1
    rcases Nat.eq_zero_or_pos t with h | h
    ·exfalso
     subst h
     rw [Nat.add_zero, he0] at ht
     cases ht
     exact hne rfl
    ·omega)
   have hnew : ∀ j1 e1, i ≤ j1 → ch[j1]? = some e1 → swit s e1 → hasB (wsC X e0).c e1 = true := fun j1 e1 hj1 h1 hs1 => by
    show hasB (setBL X.c e0 true) e1 = true
    rw [has_setB (by rw [hinv.of.c]; exact he9)]
    split
    ·rfl
    ·rename_i hne
     refine hdone j1 e1 ?_ h1 hs1
     rcases Nat.lt_or_ge i j1 with h | h
     ·exact h
     ·exfalso
      have : j1 = i := by omega
      subst this
      rw [he0] at h1
      cases h1
      exact hne rfl
   rcases hkd with hkd | hkd <;> rw [hkd]
   all_goals
    refine XK.go ?_
    refine xk_buildS (zs := [.int .i64 0, .int .i64 0, .int .i64 0, .int .i64 0]) (L := [(0, 1), (1, 1), (2, 1), (3, 1)]) (zeroB_of (by kernel_rfl)) (by kernel_rfl) rfl (by simp [fillL, setN, Value.cells]; rfl) (by decide) ?_
    refine XK.go ?_
    refine kd (dat i (qoff + i) (hx := by rw [← hqA]; rfl)) ?_
    refine kd (does_ld1 rfl (Rd.ro (p := qc) (by simp) hqz hqi)) ?_
    refine kd (does_conv (ds := .int .i64) (kd := .u32) (c := (e0 : Int)) (by kernel_rfl) (by kernel_rfl) rfl (wrap_u32 (by omega))) ?_
    refine xk_slice (el := 44) (sz := 1) (zs := [.int .u32 0]) (by kernel_rfl) (zeroB_of (by kernel_rfl)) (by kernel_rfl) rfl (by decide) (by decide) rfl (by simp [fillL, setN, Value.cells, List.range_succ, List.set]; rfl) (by decide) fun g3 => ?_
    refine xk_call [] (f := 18) (fi := []) (ca := []) (by kernel_rfl) rfl rfl (by decide) (by simp) (CmdOk ((packZ 7 0 20 0).1 :: [(e0 : Int), 1])) (fun w1 t => command_any 7 0 20 0 (some ⟨g3, 0, none⟩) 2 2 [(e0 : Int), 1] w1 (t.slS (i := 0) rfl rfl) rfl (by omega) on_20.pk) ?_
    rintro _ w1 qm ⟨Al, cl, rfl, hl3⟩ hf _ _
    have hl3 := hl3.le hf
    clear hf
    refine XK.weak [1, 2, 3] rfl (by decide) (fun _ h => h) ?_
    refine XK.go ?_
    refine kcallW 2 (MachH f hL s (zrest s (wsC X e0) l2 k2 i2) x2) (fun w1 F1 t h1 h2 h3 => settles_m f hL s (zrest s X l0 k0 i0) x w1 hH hLo Al cl (mC e0) (by simp [mC]) N hN _ (IntKind.u32.wrap 0) _ _ _ zsent_send hset rfl F1 h1 h2 (hl3.le (h3 _ (by simp))) (LetP.le hLt (h3 _ (by simp)))) ?_
    dsimp only [List.set]
    rw [hz00]
    refine XK.go ?_
    refine XK.weak [0, 1, 2] rfl (by decide) (R' := [qc, R0]) (by simp) ?_
    refine XK.envS [(18, .int .i64 (j - 1)), (17, .slice Ac ch.length ccc), (9, .pointer (some ⟨g9, 0, none⟩)), (6, .pointer (some ⟨g6, 0, none⟩)), (0, .pointer (some ⟨f, 0, none⟩)), (1, .pointer (some ⟨hL.h, 0, none⟩))] ?_
    exact XK.round i (by omega) ⟨j - 1, wsC X e0, l2, k2, i2, x2, by omega, by omega, hl2, hinv2, hXd, hnew, rfl, rfl, rfl⟩
  ·have hk1 : ¬ ck.kind = 112 := fun h => hsw (.inl (by rw [kindOf_at hck]; exact h))
   have hk2 : ¬ ck.kind = 103 := fun h => hsw (.inr (by rw [kindOf_at hck]; exact h))
   refine XK.go ?_
   refine xk_split (t := 99) rfl (fun _ => ?_) (fun h => absurd hk1 h)
   refine XK.go ?_
   refine XK.if_ rfl (fun _ => ?_) (fun h => absurd hk2 h)
   refine XK.go ?_
   refine XK.envS [(18, .int .i64 (j - 1)), (17, .slice Ac ch.length ccc), (9, .pointer (some ⟨g9, 0, none⟩)), (6, .pointer (some ⟨g6, 0, none⟩)), (0, .pointer (some ⟨f, 0, none⟩)), (1, .pointer (some ⟨hL.h, 0, none⟩))] ?_
   refine XK.round i (by omega) ⟨j - 1, X, l0, k0, i0, x, by omega, by omega, hl0, hinv, hXd, fun j1 e1 hj1 h1 hs1 => ?_, rfl, rfl, rfl⟩
   refine hdone j1 e1 ?_ h1 hs1
   rcases Nat.lt_or_ge i j1 with h | h
   ·exact h
   ·exfalso
    have : j1 = i := by omega
    subst this
    rw [he0] at h1
    cases h1
    exact hsw hs1
 have hj0 : ¬ 0 ≤ j := hj0
 have hXc : ∀ j1 ∈ ch, swit s j1 → hasB X.c j1 = true := fun j1 hj1 hs1 => by
  obtain ⟨t, ht⟩ := List.getElem?_of_mem hj1
  exact hdone t j1 (by omega) ht hs1
 obtain ⟨N, l2, k2, i2, x2, hN, hset, hl2, hinv2⟩ := msg_line (k0 := k0) (i0 := i0) hm hl0 hinv (r := dr) (by omega)
 have hXl : hasB (wsL X dr).l dr = true := by
  show hasB (setBL X.l dr true) dr = true
  rw [has_setB (by rw [hinv.of.l]; omega), if_pos rfl]
 refine XK.go ?_
 refine xk_buildS (zs := [.int .i64 0, .int .i64 0, .int .i64 0, .int .i64 0]) (L := [(0, 1), (1, 1), (2, 1), (3, 1)]) (zeroB_of (by kernel_rfl)) (by kernel_rfl) rfl (by simp [fillL, setN, Value.cells]; rfl) (by decide) ?_
 refine XK.go ?_
 refine kd (does_conv (ds := .int .i64) (kd := .u32) (c := (dr : Int)) (by kernel_rfl) (by kernel_rfl) rfl (wrap_u32 (by omega))) ?_
 refine xk_slice (el := 44) (sz := 1) (zs := [.int .u32 0]) (by kernel_rfl) (zeroB_of (by kernel_rfl)) (by kernel_rfl) rfl (by decide) (by decide) rfl (by simp [fillL, setN, Value.cells, List.range_succ, List.set]; rfl) (by decide) fun g3 => ?_
 refine xk_call [] (f := 18) (fi := []) (ca := []) (by kernel_rfl) rfl rfl (by decide) (by simp) (CmdOk ((packZ 4 0 22 0).1 :: [(dr : Int), 0])) (fun w1 t => command_any 4 0 22 0 (some ⟨g3, 0, none⟩) 2 2 [(dr : Int), 0] w1 (t.slS (i := 0) rfl rfl) rfl (by omega) on_22.pk) ?_
 rintro _ w1 qm ⟨Al, cl, rfl, hl3⟩ hf _ _
 have hl3 := hl3.le hf
 clear hf
 refine XK.weak [1, 2, 3] rfl (by decide) (fun _ h => h) ?_
 refine XK.go ?_
 refine kcallW 2 (MachH f hL s (zrest s (wsL X dr) l2 k2 i2) x2) (fun w1 F1 t h1 h2 h3 => settles_m f hL s (zrest s X l0 k0 i0) x w1 hH hLo Al cl (mL dr) (by simp [mL]) N hN _ (IntKind.u32.wrap 0) _ _ _ zsent_send hset rfl F1 h1 h2 (hl3.le (h3 _ (by simp))) (LetP.le hLt (h3 _ (by simp)))) ?_
 dsimp only [List.set]
 rw [hz00]
 refine XK.go ?_
 subst hR0
 exact XK.ret1 rfl rfl fun w1 t => ⟨(wsL X dr, l2, k2, i2, x2), rfl, ⟨hl2, hinv2, hXd, hXc, hXl⟩, t.turns hF (by simp) (i := 2) rfl⟩
end
section
set_option maxHeartbeats 4000000
set_option maxRecDepth 20000
theorem fwakes_any (A : Option Addr) (n c : Nat) (zs : List Int) (pk : Int) (w : World) (h0 : SlS (all w) 1 A n (intCells zs)) (hz : I64s zs) (hn : n = zs.length) (hn2 : n ≤ 9223372036854775807) (hpk : -9223372036854775808 ≤ pk ∧ pk ≤ 9223372036854775807) (hLt : LetP (all w)) :
  Calls Tryz.prog 5 #[.slice A n c, .int .i64 pk] w (Rt (.bool true) w) := by
 refine XK.enter (vs := [.slice A n c, .int .i64 pk]) Tryz.func5 rfl Tryz.ntmps5 (by simp) ?_
 refine XK.go ?_
 refine kcall (fun w1 t => shown15_any w1) ?_
 refine XK.go ?_
 refine xk_call [] (f := 14) (fi := []) (ca := []) (by kernel_rfl) rfl rfl (by decide) (by simp) (fun v w w' => ∃ cs s, v = .agg cs ∧ SocR (slq (fresh w w')) s cs ∧ s.made) (fun w1 st => chip15_any A n c zs w1 (h0.le (st.le (by simp))) hz hn hn2) ?_
 rintro _ w1 q1 ⟨cs, s, rfl, hS, hm⟩ hf _ _
 obtain ⟨A1, n1, k1, A2, n2, k2, A3, n3, k3, A4, n4, k4, rfl, hSQ⟩ := (hS.mono (slq_le hf)).Q
 clear hf hS
 have hH := hm.okH
 have hsm := made_small hm
 refine xk_alloc (cs := [.slice none 0 0, .slice none 0 0, .slice none 0 0, .slice none 0 0]) (zeroB_of (by kernel_rfl)) (by decide) fun g1 => ?_
 refine XK.go ?_
 refine xk_callN (f := 15) (fi := []) (ca := []) (by kernel_rfl) rfl rfl (by decide) (HardOk s) (fun w1 t => hardNew_ok s hH A1 A2 A3 A4 n1 k1 n2 k2 n3 k3 n4 k4 w1 (hSQ.W (t.le (by simp)) hsm)) ?_
 rintro _ _ q2 ⟨hL, rfl, rfl, hl1, hl2⟩ _
 dsimp only [List.cons_append, List.nil_append]
 refine XK.go ?_
 refine xk_callN (f := 16) (fi := []) (ca := []) (by kernel_rfl) rfl rfl (by decide) (FirmOk hL.h s) (fun w1 t => firmNew_ok hL.h s hH A1 A2 A3 A4 n1 k1 n2 k2 n3 k3 n4 k4 w1 (hSQ.W (t.le (by simp)) hsm)) ?_
 rintro _ _ q3 ⟨f, rfl, rfl⟩ _
 dsimp only [List.cons_append, List.nil_append]
 have hLo : HLOk hL s := ⟨hl1, hl2⟩
 have hok0 := hw0_ok hH
 obtain ⟨rfl, rfl, rfl, rfl⟩ := hSQ.len
 have hc9 := hm.nc
 have hd4 := hm.nd
 have hr3 := hm.nr
 have hv4 := hm.nv
 have hwt0 : ∀ i, wtN (hw0 s).wt i = 0 := fun i => by
  unfold wtN hw0
  simp only [List.getElem?_map]
  cases s.devs[i]? <;> rfl
 refine XK.go ?_
 refine xk_callV (f := 17) (fi := []) (ca := []) (by kernel_rfl) rfl rfl (by decide) (fun v => ∃ r : Int, v = .int .i64 r ∧ 0 ≤ r ∧ r < s.devs.length) (fun w1 st => pick15_any pk s.devs.length w1 hpk (by omega)) ?_
 rintro _ ⟨r, rfl, hr0, hr9⟩
 obtain ⟨dn, rfl⟩ : ∃ n : Nat, r = (n : Int) := ⟨r.toNat, by omega⟩
 obtain ⟨d, hd⟩ := get_some (l := s.devs) (i := dn) (by omega)
 refine XK.go ?_
 refine XK.weak [0, 1, 2] rfl (by decide) (R' := [q1, all w]) (by simp) ?_
 refine XK.pair ?_
 refine xk_callMV (α := WakeA) 0 (f := 29) (fi := []) (ca := []) (fun _ => .bool true) (fun a => WakeH f hL s a) (WakeG s d) (by kernel_rfl) rfl rfl rfl (by decide) (fun w1 F1 t h1 h2 h3 => wake_m f hL s hm hLo (zeroW s) 1 0 0 (hw0 s) (.inr rfl) (inv0 hm) A1 A2 A3 A4 _ k1 _ k2 _ k3 _ k4 dn d hd w1 F1 h1 h2 (hSQ.le (h3 _ (by simp))) (LetP.le hLt (h3 _ (by simp)))) ?_
 rintro ⟨X, l, k, i, x⟩ ⟨hl, hinv, hXd, hXc, hXl⟩
 dsimp only [List.set] at hinv ⊢
 refine XK.take 0 1 rfl rfl ?_
 dsimp only [List.set]
 have hal := hinv.alive hm hd hXd hXc hXl
 have hst := hinv.state (i := dn) (by omega)
 refine XK.go ?_
 refine kcall (fun w1 t => hdAlive_any hL s x w1 hH hLo hinv.ok dn (by omega) (t.hardR 0 rfl hLo hinv.ok)) ?_
 rw [hal]
 refine XK.go ?_
 refine kcall (fun w1 t => hdState_any hL s x w1 hLo hinv.ok dn (by omega) (hLt.at_ (t.le (by simp))) (t.hardR 0 rfl hLo hinv.ok)) ?_
 rw [hst]
 refine XK.go ?_
 exact XK.retE (by simp) rfl
end
end Go.Proofs.YticjkhagldkejaaGreatDoor
