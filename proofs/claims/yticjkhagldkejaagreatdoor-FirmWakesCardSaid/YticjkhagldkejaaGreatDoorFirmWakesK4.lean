/- conf.Copy. -/
import Derived.Test.YticjkhagldkejaaGreatDoorFirmWakesK3
namespace Go.Proofs.YticjkhagldkejaaGreatDoor
set_option linter.all false
open Go.RowKit
section
set_option maxHeartbeats 4000000
set_option maxRecDepth 20000
theorem regs_one {l : List Rg} : ∀ u ∈ l.flatMap Rg.cells, u.oneCell' = true := fun u hu => by
 obtain ⟨r, _, hu⟩ := List.mem_flatMap.1 hu
 simp only [Rg.cells, List.mem_cons, List.not_mem_nil, or_false] at hu
 rcases hu with rfl | rfl <;> rfl
def CopyOk (s : Soc) (v : Value) (w w' : World) : Prop := ∃ cs, v = .agg cs ∧ SocR (slq (fresh w w')) s cs
theorem copy_any (s : Soc) (A1 A2 A3 A4 : Option Addr) (n1 k1 n2 k2 n3 k3 n4 k4 : Nat) (w : World) (hW : SocW w s A1 n1 A2 n2 A3 n3 A4 n4) (hsr : ∀ d ∈ s.devs, d.regs.length ≤ 1000000) :
  Calls Tryz.prog 67 #[.agg #[.slice A1 n1 k1, .slice A2 n2 k2, .slice A3 n3 k3, .slice A4 n4 k4]] w (fun y w' => (∃ v, y = .returned v ∧ CopyOk s v w w') ∧ Below w.heap.size w w') := by
 obtain ⟨rc, hrc, hn1, hsc⟩ := hW.clk
 obtain ⟨rd, hrd, hn2, hsd⟩ := hW.dom
 obtain ⟨rr, hrr, hn3, hst⟩ := hW.rst
 obtain ⟨rv, hrv, hn4, hsv⟩ := hW.dev
 obtain ⟨fa0, hfl0, rfl, hfa0⟩ := clk_rows hrc
 obtain ⟨da0, hdl0, rfl, hda0⟩ := dev_rows hrv
 obtain ⟨sm1, sm2, sm3, sm4, sm5, sm6⟩ := hW.small
 subst hn1; subst hn2; subst hn3; subst hn4
 have ho1 := zw_one (es := s.clocks) (bs := fa0) clkC_one
 have ho4 := zw_one (es := s.devs) (bs := da0) devC_one
 refine XK.enter (vs := [.agg #[.slice A1 s.clocks.length k1, .slice A2 s.domains.length k2, .slice A3 s.resets.length k3, .slice A4 s.devs.length k4]]) Tryz.func67 rfl Tryz.ntmps67 (by simp) ?_
 refine XK.seq ?_
 refine XK.region ?_
 refine xk_box rfl (by decide) fun g1 => ?_
 refine xk_alloc (cs := [.slice none 0 0, .slice none 0 0, .slice none 0 0, .slice none 0 0]) (zeroB_of (by kernel_rfl)) (by decide) fun g2 => ?_
 refine XK.nilN ?_
 refine XK.cut (fun e R H => ∃ C j1 D j2 E j3 V j4 g3, e = [(3, .pointer (some ⟨g3, 0, none⟩)), (2, .pointer (some ⟨g2, 0, none⟩))] ∧ R = [all w] ∧ H = [HP.own 118 6 (.slice C s.clocks.length j1) s.clocks.length (clksR s fa0).flatten, HP.own 78 6 (.slice V s.devs.length j4) s.devs.length (devsR s da0).flatten, HP.own 75 3 (.slice D s.domains.length j2) s.domains.length rd.flatten, HP.own 120 1 (.slice E s.resets.length j3) s.resets.length rr.flatten, HP.blk g3 29 [.slice C s.clocks.length j1, .slice D s.domains.length j2, .slice E s.resets.length j3, .slice V s.devs.length j4], HP.blk g2 29 [.slice none 0 0, .slice none 0 0, .slice none 0 0, .slice none 0 0]]) ?_ ?_
 ·refine XK.draw 14 (by kernel_rfl) (by kernel_rfl) ?_
  refine XA.q 0 ?_
  refine XA.q 1 ?_
  refine XA.q 3 ?_
  refine XA.q 4 ?_
  refine XA.q 6 ?_
  refine XA.q 7 ?_
  refine XA.q 9 ?_
  refine XA.q 10 ?_
  refine XA.maybe0 (j := 13) 3 29 [.slice none 0 0, .slice none 0 0, .slice none 0 0, .slice none 0 0] fun M => ?_
  refine XA.maybe 2 13 rfl rfl (zeroB_of (by kernel_rfl)) (by decide) (by kernel_rfl) (by kernel_rfl) (fun _ h => h) (fun M => ?_)
  refine xk_callN (f := 143) (fi := []) (ca := []) (by kernel_rfl) (ev_M M rfl rfl) (evs_M M rfl rfl) (by decide) (OwnN_clk s.clocks.length (clksR s fa0).flatten) (fun w1 st => ownN_clk A1 _ k1 _ w1 (hsc.le (st.le (by simp))) ho1 sm1) ?_
  rintro _ _ q1 ⟨C, j1, rfl, rfl⟩ _
  dsimp only [List.cons_append, List.nil_append]
  refine XK.swapM ?_
  refine XK.nil ?_; refine XK.thenN ?_; refine XA.backM (by decide) rfl (fun _ h => h.tailR.tail) ?_
  refine XA.maybe 5 13 rfl rfl (zeroB_of (by kernel_rfl)) (by decide) (by kernel_rfl) (by kernel_rfl) (fun _ h => h.tailR.tail) (fun M => ?_)
  refine xk_callN (f := 144) (fi := []) (ca := []) (by kernel_rfl) (ev_M M rfl rfl) (evs_M M rfl rfl) (by decide) (OwnN_dom s.domains.length rd.flatten) (fun w1 st => ownN_dom A2 _ k2 _ w1 (hsd.le (st.le (by simp))) (dom_one hrd) sm2) ?_
  rintro _ _ q2 ⟨D, j2, rfl, rfl⟩ _
  dsimp only [List.cons_append, List.nil_append]
  refine XK.swapM ?_
  refine XK.nil ?_; refine XK.thenN ?_; refine XA.backM (by decide) rfl (fun _ h => h.tailR.tail.tailR.tail) ?_
  refine XA.maybe 8 13 rfl rfl (zeroB_of (by kernel_rfl)) (by decide) (by kernel_rfl) (by kernel_rfl) (fun _ h => h.tailR.tail.tailR.tail) (fun M => ?_)
  refine xk_callN (f := 145) (fi := []) (ca := []) (by kernel_rfl) (ev_M M rfl rfl) (evs_M M rfl rfl) (by decide) (OwnN_rst s.resets.length rr.flatten) (fun w1 st => ownN_rst A3 _ k3 _ w1 (hst.le (st.le (by simp))) (rst_one hrr) sm3) ?_
  rintro _ _ q3 ⟨E, j3, rfl, rfl⟩ _
  dsimp only [List.cons_append, List.nil_append]
  refine XK.swapM ?_
  refine XK.nil ?_; refine XK.thenN ?_; refine XA.backM (by decide) rfl (fun _ h => h.tailR.tail.tailR.tail.tailR.tail) ?_
  refine XA.maybe 11 13 rfl rfl (zeroB_of (by kernel_rfl)) (by decide) (by kernel_rfl) (by kernel_rfl) (fun _ h => h.tailR.tail.tailR.tail.tailR.tail) (fun M => ?_)
  refine xk_callN (f := 146) (fi := []) (ca := []) (by kernel_rfl) (ev_M M rfl rfl) (evs_M M rfl rfl) (by decide) (OwnN_dev s.devs.length (devsR s da0).flatten) (fun w1 st => ownN_dev A4 _ k4 _ w1 (hsv.le (st.le (by simp))) ho4 sm4) ?_
  rintro _ _ q4 ⟨V, j4, rfl, rfl⟩ _
  dsimp only [List.cons_append, List.nil_append]
  refine XK.swapM ?_
  refine XK.nil ?_; refine XK.thenN ?_; refine XA.backM (by decide) rfl (fun _ h => h.tailR.tail.tailR.tail.tailR.tail.tailR.tail) ?_
  cases M with
  | none =>
   dsimp only [emM, hmM, lmM, fmM]
   refine XA.do_ 12 rfl rfl rfl (by decide) (does_buildS (zs := [.slice none 0 0, .slice none 0 0, .slice none 0 0, .slice none 0 0]) (L := [(0, 1), (1, 1), (2, 1), (3, 1)]) (zeroB_of (by kernel_rfl)) (by kernel_rfl) rfl (by simp [fillL, setN, Value.cells]; rfl)) (by kernel_rfl) (fun _ _ _ h => h) (fun _ h => h.tailR.tail.tailR.tail.tailR.tail.tailR.tail) ?_
   refine XA.next 13 rfl (by kernel_rfl) ?_
   refine xk_alloc (cs := [.slice none 0 0, .slice none 0 0, .slice none 0 0, .slice none 0 0]) (zeroB_of (by kernel_rfl)) (by decide) fun g3 => ?_
   refine XK.nil ?_; refine XK.thenN ?_; refine XA.back (fun _ h => h.tail.tailR.tail.tailR.tail.tailR.tail.tailR.tail) ?_
   refine XA.next 14 rfl (by kernel_rfl) ?_
   refine kstW 0 rfl ?_
   dsimp only [List.set]
   refine XA.bt ?_
   refine XA.done (by kernel_rfl) ?_
   refine XK.norm ?_
   exact XK.weak [4, 1, 3, 2, 0, 5] rfl (by decide) (by simp) (XK.envS [(3, .pointer (some ⟨g3, 0, none⟩)), (2, .pointer (some ⟨g2, 0, none⟩))] (XK.meet ⟨C, j1, D, j2, E, j3, V, j4, g3, rfl, rfl, rfl⟩))
  | some g3 =>
   dsimp only [emM, hmM, lmM, fmM]
   refine XA.do_ 12 rfl rfl rfl (by decide) (does_buildS (zs := [.slice none 0 0, .slice none 0 0, .slice none 0 0, .slice none 0 0]) (L := [(0, 1), (1, 1), (2, 1), (3, 1)]) (zeroB_of (by kernel_rfl)) (by kernel_rfl) rfl (by simp [fillL, setN, Value.cells]; rfl)) (by kernel_rfl) (fun _ _ _ h => h) (fun _ h => h.tail.tailR.tail.tailR.tail.tailR.tail.tailR.tail) ?_
   refine XA.next 14 rfl (by kernel_rfl) ?_
   refine kstW 0 rfl ?_
   dsimp only [List.set]
   refine XA.bt ?_
   refine XA.done (by kernel_rfl) ?_
   refine XK.norm ?_
   exact XK.weak [4, 1, 3, 2, 0, 5] rfl (by decide) (by simp) (XK.envS [(3, .pointer (some ⟨g3, 0, none⟩)), (2, .pointer (some ⟨g2, 0, none⟩))] (XK.meet ⟨C, j1, D, j2, E, j3, V, j4, g3, rfl, rfl, rfl⟩))
 rintro _ _ _ ⟨C, j1, D, j2, E, j3, V, j4, g3, rfl, rfl, rfl⟩
 refine XK.chunk0 (p := HP.pic (CkP s fa0 0) (CkP.le (s := s) (fa := fa0) (i := 0))) (fun w1 j c a hj => absurd hj (by omega)) ?_
 refine XK.go ?_
 refine XK.envS [(23, .int .i64 0), (22, .int .i64 s.clocks.length), (3, .pointer (some ⟨g3, 0, none⟩)), (2, .pointer (some ⟨g2, 0, none⟩))] ?_
 refine XK.loop (fun m e R H => ∃ (i : Nat) (fa : List AC), i ≤ s.clocks.length ∧ fa.length = s.clocks.length ∧ (∀ j, i ≤ j → fa[j]? = fa0[j]?) ∧ m = s.clocks.length - i ∧ e = [(23, .int .i64 i), (22, .int .i64 s.clocks.length), (3, .pointer (some ⟨g3, 0, none⟩)), (2, .pointer (some ⟨g2, 0, none⟩))] ∧ R = [all w] ∧ H = [HP.pic (CkP s fa i) (CkP.le (s := s) (fa := fa) (i := i)), HP.own 118 6 (.slice C s.clocks.length j1) s.clocks.length (clksR s fa).flatten, HP.own 78 6 (.slice V s.devs.length j4) s.devs.length (devsR s da0).flatten, HP.own 75 3 (.slice D s.domains.length j2) s.domains.length rd.flatten, HP.own 120 1 (.slice E s.resets.length j3) s.resets.length rr.flatten, HP.blk g3 29 [.slice C s.clocks.length j1, .slice D s.domains.length j2, .slice E s.resets.length j3, .slice V s.devs.length j4], HP.blk g2 29 [.slice none 0 0, .slice none 0 0, .slice none 0 0, .slice none 0 0]]) s.clocks.length ⟨0, fa0, by omega, hfl0, fun _ _ => rfl, rfl, rfl, rfl, rfl⟩ fun m e R H hI => ?_
 obtain ⟨i, fa, hi, hfl, hsame, rfl, rfl, rfl, rfl⟩ := hI
 refine XK.go ?_
 refine XK.if_ rfl (fun hlt => ?_) (fun hge => ?_)
 ·have hlt : i < s.clocks.length := by omega
  obtain ⟨c, hc⟩ := get_some hlt
  obtain ⟨a, ha⟩ := get_some (l := fa) (i := i) (by omega)
  have ha0 : fa0[i]? = some a := by rw [← hsame i (Nat.le_refl _)]; exact ha
  have hfrom := hfa0 i c a hc ha0
  have hcs := sm5 c (List.mem_of_getElem? hc)
  refine XK.weak [1, 0, 2, 3, 4, 5, 6] rfl (by decide) (fun _ h => h) ?_
  refine XK.ownHead 0 rfl (by omega) fun gC hC => ?_
  subst hC
  refine XK.openOwn 0 rfl fun cs h1 h2 h3 h4 => ?_
  dsimp only [List.set]
  obtain ⟨hnl, hnr⟩ := zw_len (f := clkC) (es := s.clocks) (bs := fa) (sz := 6) hfl (fun _ _ => rfl)
  have hs := flat_sub h2 hnl hnr (zw_get hc ha)
  refine XK.go ?_
  refine XK.draw 10 (by kernel_rfl) (by kernel_rfl) ?_
  refine XA.q 0 ?_
  refine XA.q 1 ?_
  refine XA.q 2 ?_
  refine XA.q 3 ?_
  refine XA.q 4 ?_
  refine XA.q 5 ?_
  refine XA.q 6 ?_ (hdo := dat (sz := 6) i (i * 6))
  refine XA.q 7 ?_
  refine XA.q 8 ?_
  refine XA.next 9 rfl (by kernel_rfl) ?_
  refine xk_callN (f := 147) (fi := []) (ca := []) (by kernel_rfl) rfl rfl (by decide) (OwnN_int c.src.length (intCells c.src)) (fun w1 st => ownN_int a.1 _ a.2 _ w1 (SlS.le hfrom (st.le (by simp))) (intCells_one _) hcs) ?_
  rintro _ _ q ⟨Af, kf, rfl, rfl⟩ _
  dsimp only [List.cons_append, List.nil_append]
  refine XA.bk ?_
  refine XA.next 10 rfl (by kernel_rfl) ?_
  refine kd (dat i (i * 6)) ?_
  refine XA.bt ?_
  refine XA.next 11 rfl (by kernel_rfl) ?_
  refine kdo ?_
  refine XA.bt ?_
  refine XA.next 12 rfl (by kernel_rfl) ?_
  refine kst rfl rfl ?_
  dsimp only [List.set]
  refine XA.bt ?_
  refine XA.done (by kernel_rfl) ?_
  have hs1 := hs.set 1 (.slice Af c.src.length kf) (by simp [clkC]) (by omega)
  have hu1 := (Upd.refl cs (i * 6) 6).set 1 (.slice Af c.src.length kf) (by decide)
  have hf := flat_upd (r' := clkC c (Af, kf)) h2 hnl hnr hlt (by omega) rfl hs1 hu1
  rw [show (clksR s fa).set i (clkC c (Af, kf)) = clksR s (fa.set i (Af, kf)) from zw_set hc (by omega)] at hf
  refine XK.closeOwn 1 (n := s.clocks.length) (c := j1) (sz := 6) rfl (by simpa using h1) hf h3 h4 ?_
  dsimp only [List.set]
  refine XK.ownPic 0 (Φ := fun p => SlS p 1 Af c.src.length (intCells c.src)) (hm := fun p q hl h => SlS.le h hl) rfl (fun p h => h) ?_
  dsimp only [List.set]
  refine XK.weak [0, 2, 1, 3, 4, 5, 6, 7] rfl (by decide) (fun _ h => h) ?_
  refine XK.joinPic (X := CkP s (fa.set i (Af, kf)) (i + 1)) (h3 := CkP.le) (fun p h1 h2 j c' a' hj hc' ha' => by
   rcases Nat.lt_or_ge j i with h | h
   ·rw [List.getElem?_set_ne (by omega)] at ha'
    exact h2 j c' a' h hc' ha'
   ·obtain rfl : j = i := by omega
    rw [hc] at hc'
    cases hc'
    rw [List.getElem?_set_self (by omega)] at ha'
    cases ha'
    exact h1) ?_
  refine XK.go ?_
  refine XK.envS [(23, .int .i64 (i + 1 : Nat)), (22, .int .i64 s.clocks.length), (3, .pointer (some ⟨g3, 0, none⟩)), (2, .pointer (some ⟨g2, 0, none⟩))] ?_
  refine XK.weakR (R' := [all w]) (by simp) ?_
  exact XK.round (s.clocks.length - (i + 1)) (by omega) ⟨i + 1, fa.set i (Af, kf), hlt, by simpa using hfl, fun j hj => by rw [List.getElem?_set_ne (by omega)]; exact hsame j (by omega), rfl, rfl, rfl, rfl⟩
 ·obtain rfl : i = s.clocks.length := by omega
  refine XK.chunk0 (p := HP.pic (DvP s da0 0) (DvP.le (s := s) (da := da0) (i := 0))) (fun w1 j d a hj => absurd hj (by omega)) ?_
  refine XK.go ?_
  refine XK.envS [(42, .int .i64 0), (41, .int .i64 s.devs.length), (3, .pointer (some ⟨g3, 0, none⟩)), (2, .pointer (some ⟨g2, 0, none⟩))] ?_
  refine XK.loop (fun m e R H => ∃ (i : Nat) (da : List (AC × AC)), i ≤ s.devs.length ∧ da.length = s.devs.length ∧ (∀ j, i ≤ j → da[j]? = da0[j]?) ∧ m = s.devs.length - i ∧ e = [(42, .int .i64 i), (41, .int .i64 s.devs.length), (3, .pointer (some ⟨g3, 0, none⟩)), (2, .pointer (some ⟨g2, 0, none⟩))] ∧ R = [all w] ∧ H = [HP.pic (DvP s da i) (DvP.le (s := s) (da := da) (i := i)), HP.pic (CkP s fa s.clocks.length) (CkP.le (s := s) (fa := fa) (i := s.clocks.length)), HP.own 118 6 (.slice C s.clocks.length j1) s.clocks.length (clksR s fa).flatten, HP.own 78 6 (.slice V s.devs.length j4) s.devs.length (devsR s da).flatten, HP.own 75 3 (.slice D s.domains.length j2) s.domains.length rd.flatten, HP.own 120 1 (.slice E s.resets.length j3) s.resets.length rr.flatten, HP.blk g3 29 [.slice C s.clocks.length j1, .slice D s.domains.length j2, .slice E s.resets.length j3, .slice V s.devs.length j4], HP.blk g2 29 [.slice none 0 0, .slice none 0 0, .slice none 0 0, .slice none 0 0]]) s.devs.length ⟨0, da0, by omega, hdl0, fun _ _ => rfl, rfl, rfl, rfl, rfl⟩ fun m e R H hI => ?_
  obtain ⟨i, da, hi, hdl, hsame2, rfl, rfl, rfl, rfl⟩ := hI
  refine XK.go ?_
  refine XK.if_ rfl (fun hlt => ?_) (fun hge => ?_)
  ·have hlt : i < s.devs.length := by omega
   obtain ⟨d, hd⟩ := get_some hlt
   obtain ⟨⟨a1, a2⟩, ha⟩ := get_some (l := da) (i := i) (by omega)
   have ha0 : da0[i]? = some (a1, a2) := by rw [← hsame2 i (Nat.le_refl _)]; exact ha
   obtain ⟨hregs, hneeds⟩ := hda0 i d _ hd ha0
   have hr1 := hsr d (List.mem_of_getElem? hd)
   have hr2 := sm6 d (List.mem_of_getElem? hd)
   refine XK.weak [3, 0, 1, 2, 4, 5, 6, 7] rfl (by decide) (fun _ h => h) ?_
   refine XK.ownHead 0 rfl (by omega) fun gV hV => ?_
   subst hV
   refine XK.openOwn 0 rfl fun cs h1 h2 h3 h4 => ?_
   dsimp only [List.set]
   obtain ⟨hnl, hnr⟩ := zw_len (f := devC) (es := s.devs) (bs := da) (sz := 6) hdl (fun _ _ => rfl)
   have hs := flat_sub h2 hnl hnr (zw_get hd ha)
   refine XK.go ?_
   refine kd (dat i (i * 6)) ?_
   refine XK.go ?_
   refine XK.drawB [3, 4, 5, 8, 9, 10] ?_
   refine XB.mv 0 ?_
   refine XB.mv 1 ?_
   refine XB.mv 2 ?_
   refine XB.mv 7 ?_
   refine XB.q 3 ?_
   refine XB.q 4 ?_
   refine XB.q 5 ?_
   refine XB.q 8 ?_
   refine XB.q 9 ?_
   refine XB.q 10 ?_
   refine XB.next 6 rfl (by kernel_rfl) ?_
   refine xk_callN (f := 148) (fi := []) (ca := []) (by kernel_rfl) rfl rfl (by decide) (OwnN_reg d.regs.length (d.regs.flatMap Rg.cells)) (fun w1 st => ownN_reg a1.1 _ a1.2 _ w1 (SlS.le hregs (st.le (by simp))) regs_one hr1) ?_
   rintro _ _ q1 ⟨Ag, kg, rfl, rfl⟩ _
   dsimp only [List.cons_append, List.nil_append]
   refine XB.bk ?_
   refine XB.next 11 rfl (by kernel_rfl) ?_
   refine xk_callN (f := 147) (fi := []) (ca := []) (by kernel_rfl) rfl rfl (by decide) (OwnN_int d.needs.length (intCells d.needs)) (fun w1 st => ownN_int a2.1 _ a2.2 _ w1 (SlS.le hneeds (st.le (by simp))) (intCells_one _) hr2) ?_
   rintro _ _ q2 ⟨An, kn, rfl, rfl⟩ _
   dsimp only [List.cons_append, List.nil_append]
   refine XB.bk ?_ (hS := fun _ h => h.tailR.tail.tailR.tail)
   refine XB.next 12 rfl (by kernel_rfl) ?_
   refine kdo ?_
   refine XB.bk ?_ (hS := fun _ h => h.tailR.tail.tailR.tail)
   refine XB.next 13 rfl (by kernel_rfl) ?_
   refine kdo ?_
   refine XB.bk ?_ (hS := fun _ h => h.tailR.tail.tailR.tail)
   refine XB.next 14 rfl (by kernel_rfl) ?_
   refine kst rfl rfl ?_
   dsimp only [List.set]
   refine XB.bt ?_
   refine XB.next 15 rfl (by kernel_rfl) ?_
   refine kdo ?_
   refine XB.bt ?_
   refine XB.next 16 rfl (by kernel_rfl) ?_
   refine kdo ?_
   refine XB.bt ?_
   refine XB.next 17 rfl (by kernel_rfl) ?_
   refine kst rfl rfl ?_
   dsimp only [List.set]
   refine XB.bt ?_
   refine XB.done (by kernel_rfl) ?_
   have hs1 := (hs.set 4 (.slice Ag d.regs.length kg) (by simp [devC]) (by omega)).set 5 (.slice An d.needs.length kn) (by simp [devC]) (by simp; omega)
   have hu1 := ((Upd.refl cs (i * 6) 6).set 4 (.slice Ag d.regs.length kg) (by decide)).set 5 (.slice An d.needs.length kn) (by decide)
   have hf := flat_upd (r' := devC d ((Ag, kg), (An, kn))) h2 hnl hnr hlt (by omega) rfl hs1 hu1
   rw [show (devsR s da).set i (devC d ((Ag, kg), (An, kn))) = devsR s (da.set i ((Ag, kg), (An, kn))) from zw_set hd (by omega)] at hf
   refine XK.closeOwn 2 (n := s.devs.length) (c := j4) (sz := 6) rfl (by simpa using h1) hf h3 h4 ?_
   dsimp only [List.set]
   refine XK.ownPic 0 (Φ := fun p => SlS p 1 An d.needs.length (intCells d.needs)) (hm := fun p q hl h => SlS.le h hl) rfl (fun p h => h) ?_
   refine XK.ownPic 1 (Φ := fun p => SlS p 2 Ag d.regs.length (d.regs.flatMap Rg.cells)) (hm := fun p q hl h => SlS.le h hl) rfl (fun p h => h) ?_
   dsimp only [List.set]
   refine XK.joinPic (X := fun p => SlS p 1 An d.needs.length (intCells d.needs) ∧ SlS p 2 Ag d.regs.length (d.regs.flatMap Rg.cells)) (h3 := fun p q hl h => ⟨SlS.le h.1 hl, SlS.le h.2 hl⟩) (fun p h1 h2 => ⟨h1, h2⟩) ?_
   refine XK.weak [0, 2, 3, 4, 1, 5, 6, 7, 8] rfl (by decide) (fun _ h => h) ?_
   refine XK.joinPic (X := DvP s (da.set i ((Ag, kg), (An, kn))) (i + 1)) (h3 := DvP.le) (fun p h1 h2 j d' a' hj hd' ha' => by
    rcases Nat.lt_or_ge j i with h | h
    ·rw [List.getElem?_set_ne (by omega)] at ha'
     exact h2 j d' a' h hd' ha'
    ·obtain rfl : j = i := by omega
     rw [hd] at hd'
     cases hd'
     rw [List.getElem?_set_self (by omega)] at ha'
     cases ha'
     exact ⟨h1.2, h1.1⟩) ?_
   refine XK.go ?_
   refine XK.envS [(42, .int .i64 (i + 1 : Nat)), (41, .int .i64 s.devs.length), (3, .pointer (some ⟨g3, 0, none⟩)), (2, .pointer (some ⟨g2, 0, none⟩))] ?_
   refine XK.weakR (R' := [all w]) (by simp) ?_
   exact XK.round (s.devs.length - (i + 1)) (by omega) ⟨i + 1, da.set i ((Ag, kg), (An, kn)), hlt, by simpa using hdl, fun j hj => by rw [List.getElem?_set_ne (by omega)]; exact hsame2 j (by omega), rfl, rfl, rfl, rfl⟩
  ·obtain rfl : i = s.devs.length := by omega
   refine XK.weak [6, 7, 0, 1, 2, 3, 4, 5] rfl (by decide) (fun _ h => h) ?_
   refine XK.go ?_
   refine XK.still [] [2, 3, 4, 5, 6, 7] [1] (by simp) rfl (by decide) (by decide) fun q hq _ hfr => ?_
   obtain ⟨F0, s0, z0⟩ := hq 2 _ (by simp) rfl
   obtain ⟨F1, s1, z1⟩ := hq 3 _ (by simp) rfl
   have e0 : DvP s da s.devs.length q := DvP.le ⟨q.w, F0⟩ q (fun b hb => ⟨z0 b hb, rfl⟩) s0
   have e1 : CkP s fa s.clocks.length q := CkP.le ⟨q.w, F1⟩ q (fun b hb => ⟨z1 b hb, rfl⟩) s1
   have e2 := SlS.own (hq 4 _ (by simp) rfl)
   have e3 := SlS.own (hq 5 _ (by simp) rfl)
   have e4 := SlS.own (hq 6 _ (by simp) rfl)
   have e5 := SlS.own (hq 7 _ (by simp) rfl)
   have hS : SocR (slq q) s #[.slice C s.clocks.length j1, .slice D s.domains.length j2, .slice E s.resets.length j3, .slice V s.devs.length j4] :=
    ⟨C, _, j1, D, _, j2, E, _, j3, V, _, j4, rfl, ⟨_, rows_clk hfl (fun i c a hc ha => e1 i c a (List.getElem?_eq_some_iff.1 hc).1 hc ha), rfl, e2⟩, ⟨rd, hrd, rfl, e4⟩, ⟨rr, hrr, rfl, e5⟩, ⟨_, rows_dev hdl (fun i d p hd hp => e0 i d p (List.getElem?_eq_some_iff.1 hd).1 hd hp), rfl, e3⟩⟩
   exact XK.retC (vs := [.slice C s.clocks.length j1, .slice D s.domains.length j2, .slice E s.resets.length j3, .slice V s.devs.length j4]) rfl (by kernel_rfl) rfl rfl (by first | assumption | exact RdN.whole 0 rfl | exact RdN.whole 1 rfl | exact RdN.whole 2 rfl | exact RdN.whole 3 rfl | exact RdN.whole 4 rfl | exact RdN.whole 5 rfl | exact RdN.whole 6 rfl | exact RdN.whole 7 rfl | exact RdN.whole 8 rfl | exact RdN.roc (by simp) (by assumption)) fun w1 t => ⟨⟨_, rfl, _, rfl, hS.mono (slq_le (t.fresh_le (by simp) (hfr (by simp) (by simp))))⟩, t.below (by simp)⟩
end
section
section
variable {P : Program} {N : Frm} {w0 w : World} {K : Act → World → Prop} {e : Env} {R : List Piece} {H H' : List HP}
theorem XK.push {p : HP} {ps : List HP} (h : XK N w0 K e R (HP.many (ps ++ [p]) :: H)) : XK N w0 K e R (p :: HP.many ps :: H) := fun a w hr st => by
  obtain ⟨Z, F, hz, hrr, hs, hff, hdd⟩ := st.ex
  obtain ⟨G, hG1, hG2, hG3⟩ := hs 1 _ rfl
  refine h a w hr ⟨st.os, st.tape, st.output, st.size, Z, fun j => match j with | 0 => fun b => F 0 b ∨ F 1 b | j + 1 => F (j + 2), hz, hrr, fun j r hj => ?_, fun j b hb => ?_, fun j k b hjk hj hk => ?_⟩
  · cases j with
    | zero =>
      simp at hj
      subst hj
      refine ⟨fun i b => if i < ps.length then G i b else i = ps.length ∧ F 0 b, fun i r hi => ?_, fun i b hb => ?_, fun i k b hik h1 h2 => ?_⟩
      · rcases Nat.lt_or_ge i ps.length with hl | hl
        · rw [List.getElem?_append_left hl] at hi
          show r.sat (fun b => if i < ps.length then G i b else i = ps.length ∧ F 0 b) w
          rw [show (fun b => if i < ps.length then G i b else i = ps.length ∧ F 0 b) = G i by funext b; rw [if_pos hl]]
          exact hG1 i r hi
        · rw [List.getElem?_append_right hl] at hi
          have h0 := hlt_of hi
          have hil : i = ps.length := by simp at h0; omega
          subst hil
          simp at hi
          subst hi
          show p.sat (fun b => if ps.length < ps.length then G ps.length b else ps.length = ps.length ∧ F 0 b) w
          rw [show (fun b => if ps.length < ps.length then G ps.length b else ps.length = ps.length ∧ F 0 b) = F 0 by funext b; simp]
          exact hs 0 _ rfl
      · dsimp only at hb
        split at hb
        · exact .inr (hG2 i b hb)
        · exact .inl hb.2
      · dsimp only at h1 h2
        split at h1 <;> split at h2
        · exact hG3 i k b hik h1 h2
        · exact hdd 1 0 b (by omega) (hG2 i b h1) h2.2
        · exact hdd 0 1 b (by omega) h1.2 (hG2 k b h2)
        · omega
    | succ j => exact hs (j + 2) r (by simpa using hj)
  · cases j with
    | zero => rcases hb with hb | hb <;> exact hff _ b hb
    | succ j => exact hff _ b hb
  · cases j with
    | zero => cases k with
      | zero => exact hjk rfl
      | succ k => rcases hj with hj | hj
                  · exact hdd 0 (k + 2) b (by omega) hj hk
                  · exact hdd 1 (k + 2) b (by omega) hj hk
    | succ j => cases k with
      | zero => rcases hk with hk | hk
                · exact hdd 0 (j + 2) b (by omega) hk hj
                · exact hdd 1 (j + 2) b (by omega) hk hj
      | succ k => exact hdd (j + 2) (k + 2) b (by omega) hj hk
end
theorem XK.three {N : Frm} {w0 : World} {e : Env} {R : List Piece} {H : List HP} {K : Act → World → Prop} {p q r : HP} (h : XK N w0 K e R (HP.many [p, q, r] :: H)) : XK N w0 K e R (p :: q :: r :: H) := by
 refine XK.pair ?_
 refine fun a w hr st => ?_
 refine (XK.push (ps := [p, q]) (p := r) h) a w hr (st.weak (fun _ h => h) (fun i => match i with
  | 0 => 1
  | 1 => 0
  | i + 2 => i + 2) (fun i j _ _ he => by
   match i, j with
   | 0, 0 => rfl
   | 0, 1 => simp at he
   | 0, j + 2 => simp at he
   | 1, 0 => simp at he
   | 1, 1 => rfl
   | 1, j + 2 => simp at he
   | i + 2, 0 => simp at he
   | i + 2, 1 => simp at he
   | i + 2, j + 2 => simpa using he) (fun i p hi => by
   match i, hi with
   | 0, hi => simpa using hi
   | 1, hi => simpa using hi
   | i + 2, hi => simpa using hi))
end
section
set_option maxHeartbeats 4000000
set_option maxRecDepth 20000
theorem XK.four {N : Frm} {w0 : World} {e : Env} {R : List Piece} {H : List HP} {K : Act → World → Prop} {p q r s : HP} (h : XK N w0 K e R (HP.many [p, q, r, s] :: H)) : XK N w0 K e R (p :: q :: r :: s :: H) := by
 refine XK.pair ?_
 refine fun a w hr st => ?_
 have swap : ∀ {x y : HP} {H : List HP} {w : World}, St w0 R (x :: y :: H) w → St w0 R (y :: x :: H) w := fun st => st.weak (fun _ h => h) (fun i => match i with
  | 0 => 1
  | 1 => 0
  | i + 2 => i + 2) (fun i j _ _ he => by
   match i, j with
   | 0, 0 => rfl
   | 0, 1 => simp at he
   | 0, j + 2 => simp at he
   | 1, 0 => simp at he
   | 1, 1 => rfl
   | 1, j + 2 => simp at he
   | i + 2, 0 => simp at he
   | i + 2, 1 => simp at he
   | i + 2, j + 2 => simpa using he) (fun i p hi => by
   match i, hi with
   | 0, hi => simpa using hi
   | 1, hi => simpa using hi
   | i + 2, hi => simpa using hi)
 refine (XK.push (ps := [p, q]) (p := r) (H := s :: H) (fun a w hr st => ?_)) a w hr (swap st)
 exact (XK.push (ps := [p, q, r]) (p := s) h) a w hr (swap st)
def FileOk (d : Dev) (v : Value) (hs : List HP) (_ : Piece) : Prop := ∃ L : FL, v = .tuple #[.pointer (some ⟨L.f, 0, none⟩), .int .i64 0] ∧ hs = [FileH L d (fl0 d)]
theorem rep_u32 (l : List Rg) : List.replicate l.length (Value.int .u32 0) = u32C (l.map fun _ => 0) := by
 refine List.ext_getElem? fun j => ?_
 simp only [u32C, List.map_map, List.getElem?_replicate, List.getElem?_map]
 by_cases h : j < l.length
 ·rw [if_pos h, List.getElem?_eq_getElem h]; rfl
 ·rw [if_neg h, List.getElem?_eq_none (by omega)]; rfl
theorem regsNew_ok (d : Dev) (hrl : d.regs.length ≤ 8) (hrr : ∀ r ∈ d.regs, 0 ≤ r.reset ∧ r.reset < 4294967296) (A : Option Addr) (c : Nat) (w : World) (hs : SlS (all w) 2 A d.regs.length (d.regs.flatMap Rg.cells)) :
  Calls Tryz.prog 63 #[.slice A d.regs.length c] w (fun y w' => (∃ v hs q, y = .returned v ∧ q.w = w' ∧ FileOk d v hs q ∧ New w hs q) ∧ Below w.heap.size w w') := by
 refine XK.enter (vs := [.slice A d.regs.length c]) Tryz.func63 rfl Tryz.ntmps63 (by simp) ?_
 refine XK.seq ?_
 refine XK.region ?_
 refine kdo ?_
 refine kdo ?_
 refine XK.nilN ?_
 refine XK.seq ?_
 refine XK.seq ?_
 refine XK.region ?_
 refine kdo ?_
 refine kdo ?_
 refine kdo ?_
 refine XK.nilN ?_
 refine XK.if_ rfl (fun h => absurd h (by omega)) (fun _ => ?_)
 refine XK.skip ?_
 refine XK.norm ?_
 refine XK.cut (fun e R H => ∃ B j gn gs g3, e = [(4, .pointer (some ⟨g3, 0, none⟩))] ∧ R = [all w] ∧ H = [HP.blk g3 240 [.slice B d.regs.length j, .slice (some ⟨gn, 0, none⟩) d.regs.length d.regs.length, .slice (some ⟨gs, 0, none⟩) d.regs.length d.regs.length, .bool false], HP.blk gn 44 (u32C (d.regs.map fun _ => 0)), HP.blk gs 44 (u32C (d.regs.map fun _ => 0)), HP.own 92 2 (.slice B d.regs.length j) d.regs.length (d.regs.flatMap Rg.cells)]) ?_ ?_
 ·refine XK.draw 8 (by kernel_rfl) (by kernel_rfl) ?_
  refine XA.q 0 ?_
  refine XA.q 2 ?_
  refine XA.q 3 ?_
  refine XA.q 5 ?_
  refine XA.q 6 ?_
  refine XA.three 1 4 7 rfl rfl rfl (by kernel_rfl) ?_ ?_ ?_
  ·skip
   refine xk_callN (f := 141) (fi := []) (ca := []) (by kernel_rfl) rfl rfl (by decide) (CloneOk_reg d.regs.length (d.regs.flatMap Rg.cells)) (fun w1 st => clone_reg A _ c _ w1 (hs.le (st.le (by simp))) regs_one (by omega)) ?_
   rintro _ _ q ⟨B, j, rfl, rfl⟩ _
   dsimp only [List.cons_append, List.nil_append]
   refine XA.bk ?_ (hS := (fun _ h => h.tailR.tail))
   refine XA.either 4 7 rfl rfl (by kernel_rfl) ?_ ?_
   ·skip
    refine xk_makeT (n := d.regs.length) 4 (el := 44) (z := .int .u32 0) (by kernel_rfl) (by kernel_rfl) rfl rfl rfl (by omega) (by omega) (by decide) fun gn => ?_
    rw [rep_u32 d.regs]
    refine XA.bk ?_ (hS := (fun _ h => h.tail.tailR.tail))
    refine XA.next 7 rfl (by kernel_rfl) ?_
    refine xk_makeT (n := d.regs.length) 4 (el := 44) (z := .int .u32 0) (by kernel_rfl) (by kernel_rfl) rfl rfl rfl (by omega) (by omega) (by decide) fun gs => ?_
    rw [rep_u32 d.regs]
    refine XA.bk ?_ (hS := (fun _ h => h.tail.tail.tailR.tail))
    refine XA.next 8 rfl (by kernel_rfl) ?_
    refine xk_buildS (zs := [.slice none 0 0, .slice none 0 0, .slice none 0 0, .bool false]) (L := [(0, 1), (1, 1), (2, 1), (3, 1)]) (zeroB_of (by kernel_rfl)) (by kernel_rfl) rfl (by simp [fillL, setN, Value.cells]; rfl) (by decide) ?_
    refine XA.bt ?_
    refine XA.next 9 rfl (by kernel_rfl) ?_
    refine xk_box rfl (by decide) fun g3 => ?_
    dsimp only [Value.cells]
    refine XA.bt ?_
    refine XA.next 10 rfl (by kernel_rfl) ?_
    refine kdo ?_
    refine XA.bt ?_
    refine XA.done (by kernel_rfl) ?_
    refine XK.norm ?_
    exact XK.weak [0, 2, 1, 3] rfl (by decide) (by simp) (XK.envS [(4, .pointer (some ⟨g3, 0, none⟩))] (XK.meet ⟨B, j, gn, gs, g3, rfl, rfl, rfl⟩))
   ·skip
    refine xk_makeT (n := d.regs.length) 4 (el := 44) (z := .int .u32 0) (by kernel_rfl) (by kernel_rfl) rfl rfl rfl (by omega) (by omega) (by decide) fun gs => ?_
    rw [rep_u32 d.regs]
    refine XA.bk ?_ (hS := (fun _ h => h.tail.tailR.tail))
    refine XA.next 4 rfl (by kernel_rfl) ?_
    refine xk_makeT (n := d.regs.length) 4 (el := 44) (z := .int .u32 0) (by kernel_rfl) (by kernel_rfl) rfl rfl rfl (by omega) (by omega) (by decide) fun gn => ?_
    rw [rep_u32 d.regs]
    refine XA.bk ?_ (hS := (fun _ h => h.tail.tail.tailR.tail))
    refine XA.next 8 rfl (by kernel_rfl) ?_
    refine xk_buildS (zs := [.slice none 0 0, .slice none 0 0, .slice none 0 0, .bool false]) (L := [(0, 1), (1, 1), (2, 1), (3, 1)]) (zeroB_of (by kernel_rfl)) (by kernel_rfl) rfl (by simp [fillL, setN, Value.cells]; rfl) (by decide) ?_
    refine XA.bt ?_
    refine XA.next 9 rfl (by kernel_rfl) ?_
    refine xk_box rfl (by decide) fun g3 => ?_
    dsimp only [Value.cells]
    refine XA.bt ?_
    refine XA.next 10 rfl (by kernel_rfl) ?_
    refine kdo ?_
    refine XA.bt ?_
    refine XA.done (by kernel_rfl) ?_
    refine XK.norm ?_
    exact XK.weak [0, 1, 2, 3] rfl (by decide) (by simp) (XK.envS [(4, .pointer (some ⟨g3, 0, none⟩))] (XK.meet ⟨B, j, gn, gs, g3, rfl, rfl, rfl⟩))
  ·skip
   refine xk_makeT (n := d.regs.length) 4 (el := 44) (z := .int .u32 0) (by kernel_rfl) (by kernel_rfl) rfl rfl rfl (by omega) (by omega) (by decide) fun gn => ?_
   rw [rep_u32 d.regs]
   refine XA.bk ?_ (hS := (fun _ h => h.tail))
   refine XA.either 1 7 rfl rfl (by kernel_rfl) ?_ ?_
   ·skip
    refine xk_callN (f := 141) (fi := []) (ca := []) (by kernel_rfl) rfl rfl (by decide) (CloneOk_reg d.regs.length (d.regs.flatMap Rg.cells)) (fun w1 st => clone_reg A _ c _ w1 (hs.le (st.le (by simp))) regs_one (by omega)) ?_
    rintro _ _ q ⟨B, j, rfl, rfl⟩ _
    dsimp only [List.cons_append, List.nil_append]
    refine XA.bk ?_ (hS := (fun _ h => h.tailR.tail.tail))
    refine XA.next 7 rfl (by kernel_rfl) ?_
    refine xk_makeT (n := d.regs.length) 4 (el := 44) (z := .int .u32 0) (by kernel_rfl) (by kernel_rfl) rfl rfl rfl (by omega) (by omega) (by decide) fun gs => ?_
    rw [rep_u32 d.regs]
    refine XA.bk ?_ (hS := (fun _ h => h.tail.tailR.tail.tail))
    refine XA.next 8 rfl (by kernel_rfl) ?_
    refine xk_buildS (zs := [.slice none 0 0, .slice none 0 0, .slice none 0 0, .bool false]) (L := [(0, 1), (1, 1), (2, 1), (3, 1)]) (zeroB_of (by kernel_rfl)) (by kernel_rfl) rfl (by simp [fillL, setN, Value.cells]; rfl) (by decide) ?_
    refine XA.bt ?_
    refine XA.next 9 rfl (by kernel_rfl) ?_
    refine xk_box rfl (by decide) fun g3 => ?_
    dsimp only [Value.cells]
    refine XA.bt ?_
    refine XA.next 10 rfl (by kernel_rfl) ?_
    refine kdo ?_
    refine XA.bt ?_
    refine XA.done (by kernel_rfl) ?_
    refine XK.norm ?_
    exact XK.weak [0, 3, 1, 2] rfl (by decide) (by simp) (XK.envS [(4, .pointer (some ⟨g3, 0, none⟩))] (XK.meet ⟨B, j, gn, gs, g3, rfl, rfl, rfl⟩))
   ·skip
    refine xk_makeT (n := d.regs.length) 4 (el := 44) (z := .int .u32 0) (by kernel_rfl) (by kernel_rfl) rfl rfl rfl (by omega) (by omega) (by decide) fun gs => ?_
    rw [rep_u32 d.regs]
    refine XA.bk ?_ (hS := (fun _ h => h.tail.tail))
    refine XA.next 1 rfl (by kernel_rfl) ?_
    refine xk_callN (f := 141) (fi := []) (ca := []) (by kernel_rfl) rfl rfl (by decide) (CloneOk_reg d.regs.length (d.regs.flatMap Rg.cells)) (fun w1 st => clone_reg A _ c _ w1 (hs.le (st.le (by simp))) regs_one (by omega)) ?_
    rintro _ _ q ⟨B, j, rfl, rfl⟩ _
    dsimp only [List.cons_append, List.nil_append]
    refine XA.bk ?_ (hS := (fun _ h => h.tailR.tail.tail.tail))
    refine XA.next 8 rfl (by kernel_rfl) ?_
    refine xk_buildS (zs := [.slice none 0 0, .slice none 0 0, .slice none 0 0, .bool false]) (L := [(0, 1), (1, 1), (2, 1), (3, 1)]) (zeroB_of (by kernel_rfl)) (by kernel_rfl) rfl (by simp [fillL, setN, Value.cells]; rfl) (by decide) ?_
    refine XA.bt ?_
    refine XA.next 9 rfl (by kernel_rfl) ?_
    refine xk_box rfl (by decide) fun g3 => ?_
    dsimp only [Value.cells]
    refine XA.bt ?_
    refine XA.next 10 rfl (by kernel_rfl) ?_
    refine kdo ?_
    refine XA.bt ?_
    refine XA.done (by kernel_rfl) ?_
    refine XK.norm ?_
    exact XK.weak [0, 3, 2, 1] rfl (by decide) (by simp) (XK.envS [(4, .pointer (some ⟨g3, 0, none⟩))] (XK.meet ⟨B, j, gn, gs, g3, rfl, rfl, rfl⟩))
  ·skip
   refine xk_makeT (n := d.regs.length) 4 (el := 44) (z := .int .u32 0) (by kernel_rfl) (by kernel_rfl) rfl rfl rfl (by omega) (by omega) (by decide) fun gs => ?_
   rw [rep_u32 d.regs]
   refine XA.bk ?_ (hS := (fun _ h => h.tail))
   refine XA.either 1 4 rfl rfl (by kernel_rfl) ?_ ?_
   ·skip
    refine xk_callN (f := 141) (fi := []) (ca := []) (by kernel_rfl) rfl rfl (by decide) (CloneOk_reg d.regs.length (d.regs.flatMap Rg.cells)) (fun w1 st => clone_reg A _ c _ w1 (hs.le (st.le (by simp))) regs_one (by omega)) ?_
    rintro _ _ q ⟨B, j, rfl, rfl⟩ _
    dsimp only [List.cons_append, List.nil_append]
    refine XA.bk ?_ (hS := (fun _ h => h.tailR.tail.tail))
    refine XA.next 4 rfl (by kernel_rfl) ?_
    refine xk_makeT (n := d.regs.length) 4 (el := 44) (z := .int .u32 0) (by kernel_rfl) (by kernel_rfl) rfl rfl rfl (by omega) (by omega) (by decide) fun gn => ?_
    rw [rep_u32 d.regs]
    refine XA.bk ?_ (hS := (fun _ h => h.tail.tailR.tail.tail))
    refine XA.next 8 rfl (by kernel_rfl) ?_
    refine xk_buildS (zs := [.slice none 0 0, .slice none 0 0, .slice none 0 0, .bool false]) (L := [(0, 1), (1, 1), (2, 1), (3, 1)]) (zeroB_of (by kernel_rfl)) (by kernel_rfl) rfl (by simp [fillL, setN, Value.cells]; rfl) (by decide) ?_
    refine XA.bt ?_
    refine XA.next 9 rfl (by kernel_rfl) ?_
    refine xk_box rfl (by decide) fun g3 => ?_
    dsimp only [Value.cells]
    refine XA.bt ?_
    refine XA.next 10 rfl (by kernel_rfl) ?_
    refine kdo ?_
    refine XA.bt ?_
    refine XA.done (by kernel_rfl) ?_
    refine XK.norm ?_
    exact XK.weak [0, 1, 3, 2] rfl (by decide) (by simp) (XK.envS [(4, .pointer (some ⟨g3, 0, none⟩))] (XK.meet ⟨B, j, gn, gs, g3, rfl, rfl, rfl⟩))
   ·skip
    refine xk_makeT (n := d.regs.length) 4 (el := 44) (z := .int .u32 0) (by kernel_rfl) (by kernel_rfl) rfl rfl rfl (by omega) (by omega) (by decide) fun gn => ?_
    rw [rep_u32 d.regs]
    refine XA.bk ?_ (hS := (fun _ h => h.tail.tail))
    refine XA.next 1 rfl (by kernel_rfl) ?_
    refine xk_callN (f := 141) (fi := []) (ca := []) (by kernel_rfl) rfl rfl (by decide) (CloneOk_reg d.regs.length (d.regs.flatMap Rg.cells)) (fun w1 st => clone_reg A _ c _ w1 (hs.le (st.le (by simp))) regs_one (by omega)) ?_
    rintro _ _ q ⟨B, j, rfl, rfl⟩ _
    dsimp only [List.cons_append, List.nil_append]
    refine XA.bk ?_ (hS := (fun _ h => h.tailR.tail.tail.tail))
    refine XA.next 8 rfl (by kernel_rfl) ?_
    refine xk_buildS (zs := [.slice none 0 0, .slice none 0 0, .slice none 0 0, .bool false]) (L := [(0, 1), (1, 1), (2, 1), (3, 1)]) (zeroB_of (by kernel_rfl)) (by kernel_rfl) rfl (by simp [fillL, setN, Value.cells]; rfl) (by decide) ?_
    refine XA.bt ?_
    refine XA.next 9 rfl (by kernel_rfl) ?_
    refine xk_box rfl (by decide) fun g3 => ?_
    dsimp only [Value.cells]
    refine XA.bt ?_
    refine XA.next 10 rfl (by kernel_rfl) ?_
    refine kdo ?_
    refine XA.bt ?_
    refine XA.done (by kernel_rfl) ?_
    refine XK.norm ?_
    exact XK.weak [0, 2, 3, 1] rfl (by decide) (by simp) (XK.envS [(4, .pointer (some ⟨g3, 0, none⟩))] (XK.meet ⟨B, j, gn, gs, g3, rfl, rfl, rfl⟩))
 rintro _ _ _ ⟨B, j, gn, gs, g3, rfl, rfl, rfl⟩
 refine XK.ownPic 3 (Φ := RegP d B) (hm := RegP.le (d := d) (A := B)) rfl (fun p h => h) ?_
 dsimp only [List.set]
 refine XK.four ?_
 refine XK.go ?_
 refine kcallW 0 (FileH ⟨g3, gn, gs, B, j⟩ d (clearF d ⟨d.regs.map fun _ => 0, d.regs.map fun _ => 0, false⟩)) (fun w1 G t hG hlt1 hle => regsClear_m ⟨g3, gn, gs, B, j⟩ d ⟨d.regs.map fun _ => 0, d.regs.map fun _ => 0, false⟩ (by omega) ⟨by simp, by simp, fun v hv => by
  obtain ⟨r, hr, rfl⟩ := List.mem_map.1 hv
  decide, fun v hv => by
  obtain ⟨r, hr, rfl⟩ := List.mem_map.1 hv
  decide⟩ w1 G hG hlt1) ?_
 dsimp only [List.set]
 refine XK.go ?_
 refine XK.still [] [] [0] (by simp) rfl (by decide) (by decide) fun q _ _ hfr => ?_
 exact XK.ret2 rfl rfl rfl fun w1 t => ⟨⟨_, _, ⟨w1, q.Z⟩, rfl, rfl, ⟨⟨g3, gn, gs, B, j⟩, rfl, rfl⟩, t.newR (by simp) (by simp) (hfr (by simp) (by simp))⟩, t.below (by simp)⟩
theorem quietNew_ok (w : World) :
  Calls Tryz.prog 65 #[] w (fun y w' => (∃ v hs q, y = .returned v ∧ q.w = w' ∧ (∃ g, v = .pointer (some ⟨g, 0, none⟩) ∧ hs = [HP.blk g 242 [.int .i64 0, .int .i64 0]]) ∧ New w hs q) ∧ Below w.heap.size w w') := by
 refine XK.enter (vs := []) Tryz.func65 rfl Tryz.ntmps65 (by simp) ?_
 refine XK.go ?_
 refine xk_buildS (zs := [.int .i64 0, .int .i64 0]) (L := [(0, 1), (1, 1)]) (zeroB_of (by kernel_rfl)) (by kernel_rfl) rfl (by simp [fillL, setN, Value.cells]; rfl) (by decide) ?_
 refine xk_box rfl (by decide) fun g => ?_
 dsimp only [Value.cells]
 refine XK.go ?_
 refine XK.still [] [] [0] (by simp) rfl (by decide) (by decide) fun q _ _ hfr => ?_
 exact XK.ret1 rfl rfl fun w1 t => ⟨⟨_, _, ⟨w1, q.Z⟩, rfl, rfl, ⟨g, rfl, rfl⟩, t.newR (by simp) (by simp) (hfr (by simp) (by simp))⟩, t.below (by simp)⟩
end
section
set_option maxHeartbeats 4000000
set_option maxRecDepth 20000
def QtC (x : QtS) : List Value := [.int .i64 x.at_, .int .i64 x.denied]
def QtH (g : Nat) (x : QtS) : HP := HP.blk g 242 (QtC x)
def Letters (w : World) : Prop := ∀ i v, [(114 : Int), 97, 115, 100][i]? = some v → ROc w 0 i (.int .u8 v)
theorem Letters.below {w w' : World} (h : Letters w) (hb : Below w.heap.size w w') : Letters w' := fun i v hv =>
 ⟨Nat.lt_of_lt_of_le (h i v hv).1 hb.size, (hb.cell (p := ⟨0, i, none⟩) (h i v hv).1).trans (h i v hv).2⟩
theorem qtState_any (g : Nat) (x : QtS) (hx : QtOk x) (w : World) (hL : Letters w) (hR : ROn w g 0 (QtC x)) :
  Calls Tryz.prog 93 #[.pointer (some ⟨g, 0, none⟩)] w (Rt (.int .u8 (letF x.at_)) w) := by
 have k0 := hR.at_ (j := 0) rfl
 obtain ⟨h1, h2⟩ := hx
 obtain ⟨i, hi⟩ : ∃ i : Nat, x.at_ = i := ⟨x.at_.toNat, by omega⟩
 have hv : [(114 : Int), 97, 115, 100][i]? = some (letF x.at_) := by
  have : i = 0 ∨ i = 1 ∨ i = 2 ∨ i = 3 := by omega
  rcases this with rfl | rfl | rfl | rfl <;> rw [hi] <;> rfl
 have k1 := hL i _ hv
 have hlt : i < 4 := by omega
 rw [hi] at k0 k1 ⊢
 refine XK.enter (vs := [.pointer (some ⟨g, 0, none⟩)]) Tryz.func93 rfl Tryz.ntmps93 (by simp) ?_
 refine XK.go ?_
 refine kd (datA i i) ?_
 refine XK.go ?_
 exact XK.retE (by simp) rfl
section
variable {g : Nat} {x : QtS} {w : World} {F : Nat → Prop}
theorem qtLeave_m (hp : (QtH g x).sat F w) (hF : ∀ b, F b → b < w.heap.size) :
  Calls Tryz.prog 245 #[.pointer (some ⟨g, 0, none⟩)] w (fun y w' => y = .returned (.int .i64 (leaveQ x).1) ∧ ∃ F', (QtH g (leaveQ x).2).sat F' w' ∧ Turns w w' F F') := by
 refine XK.enterM (p := QtH g x) (F := F) (vs := [.pointer (some ⟨g, 0, none⟩)]) Tryz.func245 rfl Tryz.ntmps245 (by simp) hp hF ?_
 dsimp only [QtH, QtC]
 refine XK.go ?_
 refine xk_split (t := 11) rfl (fun h2 => ?_) (fun h2 => ?_)
 ·refine XK.go ?_
  refine XK.if_ rfl (fun h => ?_) (fun h => ?_)
  ·have hr : leaveQ x = (6, x) := if_pos ⟨by simpa using h2, by simpa using h⟩
   rw [hr]
   refine XK.go ?_
   exact XK.ret1 rfl rfl fun w1 t => ⟨rfl, t.turns hF (by simp) (i := 0) rfl⟩
  ·have hr : leaveQ x = (0, ⟨0, x.denied⟩) := if_neg fun h3 => h3.2 (by simpa using h)
   rw [hr]
   refine XK.go ?_
   exact XK.ret1 rfl rfl fun w1 t => ⟨rfl, t.turns hF (by simp) (i := 0) rfl⟩
 ·have hr : leaveQ x = (0, ⟨0, x.denied⟩) := if_neg fun h3 => h3.1 (by simpa using h2)
  rw [hr]
  refine XK.go ?_
  exact XK.ret1 rfl rfl fun w1 t => ⟨rfl, t.turns hF (by simp) (i := 0) rfl⟩
theorem qtTick_m (active deny : Bool) (hp : (QtH g x).sat F w) (hF : ∀ b, F b → b < w.heap.size) :
  Calls Tryz.prog 81 #[.pointer (some ⟨g, 0, none⟩), .bool active, .bool deny] w (fun y w' => y = .returned (.tuple #[]) ∧ ∃ F', (QtH g (tickQ x active deny)).sat F' w' ∧ Turns w w' F F') := by
 refine XK.enterM (p := QtH g x) (F := F) (vs := [.pointer (some ⟨g, 0, none⟩), .bool active, .bool deny]) Tryz.func81 rfl Tryz.ntmps81 (by simp) hp hF ?_
 dsimp only [QtH, QtC]
 refine XK.go ?_
 refine XK.if_ rfl (fun h => ?_) (fun h => ?_)
 ·have hr : tickQ x active deny = x := if_pos (by simpa using h)
  rw [hr]
  refine XK.go ?_
  exact XK.ret0 (.inl rfl) rfl fun w1 t => ⟨rfl, t.turns hF (by simp) (i := 0) rfl⟩
 ·have h1 : ¬ x.at_ ≠ 1 := by simpa using h
  cases deny
  ·cases active
   ·have hr : tickQ x false false = ⟨2, 0⟩ := (if_neg h1).trans ((if_neg (by decide)).trans (if_neg (by decide)))
    rw [hr]
    refine XK.go ?_
    exact XK.ret0 (.inr rfl) rfl fun w1 t => ⟨rfl, t.turns hF (by simp) (i := 0) rfl⟩
   ·have hr : tickQ x true false = x := (if_neg h1).trans ((if_neg (by decide)).trans (if_pos rfl))
    rw [hr]
    refine XK.go ?_
    exact XK.ret0 (.inr rfl) rfl fun w1 t => ⟨rfl, t.turns hF (by simp) (i := 0) rfl⟩
  ·have hr : tickQ x active true = ⟨3, IntKind.i64.wrap (x.denied + 1)⟩ := (if_neg h1).trans (if_pos rfl)
   rw [hr]
   refine XK.go ?_
   refine xk_add rfl rfl rfl (by decide) ?_
   refine XK.go ?_
   exact XK.ret0 (.inr rfl) rfl fun w1 t => ⟨rfl, t.turns hF (by simp) (i := 0) rfl⟩
end
end
section
set_option maxHeartbeats 4000000
set_option maxRecDepth 20000
structure TL where
 t : Nat
 A : Option Addr
 c : Nat
 fa : List (Option Addr × Nat)
def nodeC (c : Clk) (a : Option Addr × Nat) (x : CkS) : List Value := [.int .u8 c.kind, .slice a.1 c.src.length a.2, .int .u64 c.rate, .int .i64 c.mul, .int .i64 c.div, .int .i64 c.lock, .bool x.on, .int .i64 x.left, .int .i64 0, .int .i64 0, .int .i64 (byF c)]
def nodesR (s : Soc) (fa : List (Option Addr × Nat)) (st : List CkS) : List (List Value) := List.zipWith (fun c p => nodeC c p.1 p.2) s.clocks (fa.zip st)
structure TreeR (w : World) (L : TL) (s : Soc) (st : List CkS) : Prop where
 r0 : ROc w L.t 0 (.slice L.A s.clocks.length L.c)
 row : SlS (all w) 11 L.A s.clocks.length (nodesR s L.fa st).flatten
 frm : ∀ (i : Nat) (c : Clk) (a : Option Addr × Nat), s.clocks[i]? = some c → L.fa[i]? = some a → SlS (all w) 1 a.1 c.src.length (intCells c.src)
 fl : L.fa.length = s.clocks.length
 ok : CkOk s st
theorem TreeR.below {w w' : World} {L : TL} {s : Soc} {st : List CkS} (h : TreeR w L s st) (hb : Below w.heap.size w w') : TreeR w' L s st :=
 ⟨⟨Nat.lt_of_lt_of_le h.r0.1 hb.size, (hb.cell (p := ⟨_, 0, none⟩) h.r0.1).trans h.r0.2⟩, h.row.le (all_le hb), fun i c a hc ha => (h.frm i c a hc ha).le (all_le hb), h.fl, h.ok⟩
theorem TreeR.node {w : World} {L : TL} {s : Soc} {st : List CkS} (h : TreeR w L s st) {i : Nat} (hi : i < s.clocks.length) :
  ∃ b off c a x, s.clocks[i]? = some c ∧ st[i]? = some x ∧ L.A = some ⟨b, off, none⟩ ∧ ROn w b (off + i * 11) (nodeC c a x) ∧ SlS (all w) 1 a.1 c.src.length (intCells c.src) := by
 obtain ⟨c, hc⟩ := get_some hi
 obtain ⟨a, ha⟩ := get_some (l := L.fa) (i := i) (by rw [h.fl]; exact hi)
 obtain ⟨x, hx⟩ := get_some (l := st) (i := i) (by rw [h.ok.len]; exact hi)
 have hr : (nodesR s L.fa st)[i]? = some (nodeC c a x) := by
  rw [nodesR, List.getElem?_zipWith, hc, (List.getElem?_zip_eq_some (z := (a, x))).2 ⟨ha, hx⟩]
 obtain ⟨b, off, hA, hro⟩ := SlS.row h.row (fun r hr => by
  obtain ⟨j, hj⟩ := List.getElem?_of_mem hr
  rw [nodesR, List.getElem?_zipWith] at hj
  split at hj <;> cases hj
  rfl) hr hi
 exact ⟨b, off, c, a, x, hc, hx, hA, hro, h.frm i c a hc ha⟩
def FrmP (s : Soc) (fa : List (Option Addr × Nat)) (p : Piece) : Prop := ∀ (i : Nat) (c : Clk) (a : Option Addr × Nat), s.clocks[i]? = some c → fa[i]? = some a → SlS p 1 a.1 c.src.length (intCells c.src)
theorem FrmP.le {s : Soc} {fa : List (Option Addr × Nat)} (p q : Piece) (hl : p.Le q) (h : FrmP s fa p) : FrmP s fa q := fun i c a hc ha => (h i c a hc ha).le hl
def TreeH (L : TL) (s : Soc) (st : List CkS) : HP := HP.many [HP.blk L.t 225 [.slice L.A s.clocks.length L.c], HP.own 227 11 (.slice L.A s.clocks.length L.c) s.clocks.length (nodesR s L.fa st).flatten, HP.pic (FrmP s L.fa) (FrmP.le (s := s) (fa := L.fa))]
theorem TreeH.reads {L : TL} {s : Soc} {st : List CkS} {F : Nat → Prop} {w : World} (h : (TreeH L s st).sat F w) (hF : ∀ b, F b → b < w.heap.size) (hfl : L.fa.length = s.clocks.length) (hok : CkOk s st) : TreeR w L s st := by
 obtain ⟨G, g1, g2, _⟩ := h
 have h0 := g1 0 _ rfl
 have h1 := g1 1 _ rfl
 have h2 := g1 2 _ rfl
 have hl : ∀ i b, G i b → b < w.heap.size := fun i b hb => hF b (g2 i b hb)
 obtain ⟨A', c', he, hs⟩ := SlS.of_own (Y := fun b => b < w.heap.size) h1 (hl 1)
 injection he with he
 subst he
 exact ⟨⟨h0.2.lt, by rw [h0.2.cell]; rfl⟩, hs, fun i c a hc ha => (h2 i c a hc ha).le (fun b hb => ⟨hl 2 b hb, rfl⟩), hfl, hok⟩
theorem clkAt_in (t n c b off i : Nat) (w : World) (h0 : ROc w t 0 (.slice (some ⟨b, off, none⟩) n c)) (hi : i < n) :
  Calls Tryz.prog 160 #[.pointer (some ⟨t, 0, none⟩), .int .i64 (i : Int)] w (Rt (.pointer (some ⟨b, off + i * 11, none⟩)) w) := by
 refine XK.enter (vs := [.pointer (some ⟨t, 0, none⟩), .int .i64 (i : Int)]) Tryz.func160 rfl Tryz.ntmps160 (by simp) ?_
 refine XK.go ?_
 refine xk_split (t := 11) rfl (fun h => absurd h (by omega)) (fun _ => ?_)
 refine XK.go ?_
 refine XK.if_ rfl (fun h => absurd h (by omega)) (fun _ => ?_)
 refine XK.go ?_
 refine kd (dat i (off + i * 11)) ?_
 refine XK.go ?_
 exact XK.retE (by simp) rfl
theorem clkAt_out (t n c : Nat) (A : Option Addr) (i : Int) (w : World) (h0 : ROc w t 0 (.slice A n c)) (hi : inB n i = false) :
  Calls Tryz.prog 160 #[.pointer (some ⟨t, 0, none⟩), .int .i64 i] w (Rt (.pointer none) w) := by
 have hi := of_decide_eq_false hi
 refine XK.enter (vs := [.pointer (some ⟨t, 0, none⟩), .int .i64 i]) Tryz.func160 rfl Tryz.ntmps160 (by simp) ?_
 refine XK.go ?_
 refine xk_split (t := 11) rfl (fun h => ?_) (fun h => ?_)
 ·refine XK.go ?_
  exact XK.retE (by simp) rfl
 ·refine XK.go ?_
  refine XK.if_ rfl (fun h => ?_) (fun h => absurd hi (by omega))
  refine XK.go ?_
  exact XK.retE (by simp) rfl
theorem clkSource_any (L : TL) (s : Soc) (st : List CkS) (i f : Nat) (c : Clk) (fs : List Int) (w : World) (hR : TreeR w L s st) (hi : s.clocks[i]? = some c) (hf : c.src = (f : Int) :: fs) :
  Calls Tryz.prog 167 #[.pointer (some ⟨L.t, 0, none⟩), .int .i64 (i : Int)] w (Rt (.int .i64 (f : Int)) w) := by
 have hlt : i < s.clocks.length := (List.getElem?_eq_some_iff.1 hi).1
 obtain ⟨b, off, c', a, x, hc, hx, hA, hro, hs⟩ := hR.node hlt
 obtain rfl : c = c' := by rw [hi] at hc; exact Option.some.inj hc
 have h0 := hR.r0
 rw [hA] at h0
 have h1 := hro.at_ (j := 1) rfl
 have h8 := hro.at_ (j := 8) rfl
 rw [hf] at h1 hs
 obtain ⟨b2, o2, hA2, hz2, hc2⟩ := hs.2 (by simp)
 rw [hA2] at h1
 have h2 : ROc w b2 o2 (.int .i64 (f : Int)) := ⟨hz2, hc2 0 _ rfl⟩
 refine XK.enter (vs := [.pointer (some ⟨L.t, 0, none⟩), .int .i64 (i : Int)]) Tryz.func167 rfl Tryz.ntmps167 (by simp) ?_
 refine XK.go ?_
 refine kd (dat i (off + i * 11)) ?_
 refine XK.go ?_
 refine XK.drawQ ?_
 refine XQ.go ?_
 refine XQ.kd (dat 0 o2 (hlt := by simp)) ?_
 refine XQ.end_ ?_
 refine XK.go ?_
 exact XK.retE (by simp) rfl
theorem clkRuns_in (L : TL) (s : Soc) (st : List CkS) (hH : s.okH) (b1 b2 : Nat) : ∀ (i : Nat), i < s.clocks.length → ∀ w, TreeR w L s st → ROc w b1 0 (.pointer (some ⟨L.t, 0, none⟩)) → ROc w b2 0 (.func (.func 173) #[] #[.pointer (some ⟨b1, 0, none⟩), .pointer (some ⟨b2, 0, none⟩)]) →
  Calls Tryz.prog 173 #[.int .i64 (i : Int), .pointer (some ⟨b1, 0, none⟩), .pointer (some ⟨b2, 0, none⟩)] w (Rt (.bool (runs s st i)) w) := by
 intro i
 induction i using Nat.strongRecOn with
 | _ i ih =>
  intro hlt w hR hb1 hb2
  obtain ⟨b, off, c, a, x, hc, hx, hA, hro, hs⟩ := hR.node hlt
  have hrun := runs_eq hH.t.clocks hc hx
  have h0 := hR.r0
  rw [hA] at h0
  have k0 := hro.at_ (j := 0) rfl
  have k6 := hro.at_ (j := 6) rfl
  have k7 := hro.at_ (j := 7) rfl
  have go1 : ∀ {w1}, Below w.heap.size w w1 → ROc w1 b1 0 (.pointer (some ⟨L.t, 0, none⟩)) := fun hb => ⟨Nat.lt_of_lt_of_le hb1.1 hb.size, (hb.cell (p := ⟨_, 0, none⟩) hb1.1).trans hb1.2⟩
  have go2 : ∀ {w1}, Below w.heap.size w w1 → ROc w1 b2 0 (.func (.func 173) #[] #[.pointer (some ⟨b1, 0, none⟩), .pointer (some ⟨b2, 0, none⟩)]) := fun hb => ⟨Nat.lt_of_lt_of_le hb2.1 hb.size, (hb.cell (p := ⟨_, 0, none⟩) hb2.1).trans hb2.2⟩
  obtain ⟨hsrc, hfit⟩ := hH.t.clocks i c hc
  refine XK.enter (vs := [.int .i64 (i : Int), .pointer (some ⟨b1, 0, none⟩), .pointer (some ⟨b2, 0, none⟩)]) Tryz.func173 rfl Tryz.ntmps173 (by simp) ?_
  refine XK.go ?_
  refine kd (dat i (off + i * 11)) ?_
  rcases hfit with ⟨hk, hs0, _⟩ | hfit
  ·rw [hk] at k0
   refine XK.go ?_
   refine XK.retE (by simp) ?_
   rw [hrun, hs0]
   simp [upC, hk]
  obtain ⟨f, fs, hf⟩ : ∃ (f : Nat) (fs : List Int), c.src = (f : Int) :: fs := by
   cases hs0 : c.src with
   | nil => rw [hs0] at hfit; simp at hfit
   | cons f fs => exact ⟨f.toNat, fs, by have := (hsrc f (by rw [hs0]; simp)).1; rw [Int.toNat_of_nonneg this]⟩
  have hfi : f < i := by have := (hsrc f (by rw [hf]; simp)).2; omega
  have hrun2 : runs s st i = (upC c x && runs s st f) := by rw [hrun, hf]; rfl
  clear hrun
  rcases hfit with ⟨hk, _⟩ | ⟨hk, _⟩ | ⟨hk, _⟩ | ⟨hk, _⟩
  ·rw [hk] at k0
   cases hon : x.on
   ·rw [hon] at k6
    refine XK.go ?_
    refine XK.drawQ ?_
    refine XQ.end_ ?_
    refine XK.go ?_
    refine XK.retE (by simp) ?_
    rw [hrun2]
    simp [upC, hk, hon]
   ·rw [hon] at k6
    refine XK.go ?_
    refine XK.drawQ ?_
    refine XQ.go ?_
    refine XQ.split 32 rfl (fun h => ?_) (fun h => ?_)
    ·refine XQ.go ?_
     refine XQ.call (fun w1 st1 => clkSource_any L s st i f c fs w1 (hR.below (st1.below (by simp))) hc hf) ?_
     refine XQ.go ?_
     refine XQ.callC (fi := []) (vs := [.int .i64 (f : Int)]) (ca := [.pointer (some ⟨b1, 0, none⟩), .pointer (some ⟨b2, 0, none⟩)]) (fun w1 st1 => ih f hfi (by omega) w1 (hR.below (st1.below (by simp))) (go1 (st1.below (by simp))) (go2 (st1.below (by simp)))) ?_
     refine XQ.end_ ?_
     refine XK.go ?_
     refine XK.retE (by simp) ?_
     rw [hrun2]
     simp [upC, hk, hon, h]
    ·refine XQ.end_ ?_
     refine XK.go ?_
     refine XK.retE (by simp) ?_
     rw [hrun2]
     simp [upC, hk, hon, h]
  ·rw [hk] at k0
   refine XK.go ?_
   refine XK.drawQ ?_
   refine XQ.go ?_
   refine XQ.call (fun w1 st1 => clkSource_any L s st i f c fs w1 (hR.below (st1.below (by simp))) hc hf) ?_
   refine XQ.callC (fi := []) (vs := [.int .i64 (f : Int)]) (ca := [.pointer (some ⟨b1, 0, none⟩), .pointer (some ⟨b2, 0, none⟩)]) (fun w1 st1 => ih f hfi (by omega) w1 (hR.below (st1.below (by simp))) (go1 (st1.below (by simp))) (go2 (st1.below (by simp)))) ?_
   refine XQ.end_ ?_
   refine XK.go ?_
   refine XK.retE (by simp) ?_
   rw [hrun2]
   simp [upC, hk]
  ·rw [hk] at k0
   cases hon : x.on
   ·rw [hon] at k6
    refine XK.go ?_
    refine XK.drawQ ?_
    refine XQ.end_ ?_
    refine XK.go ?_
    refine XK.retE (by simp) ?_
    rw [hrun2]
    simp [upC, hk, hon]
   ·rw [hon] at k6
    refine XK.go ?_
    refine XK.drawQ ?_
    refine XQ.go ?_
    refine XQ.call (fun w1 st1 => clkSource_any L s st i f c fs w1 (hR.below (st1.below (by simp))) hc hf) ?_
    refine XQ.go ?_
    refine XQ.callC (fi := []) (vs := [.int .i64 (f : Int)]) (ca := [.pointer (some ⟨b1, 0, none⟩), .pointer (some ⟨b2, 0, none⟩)]) (fun w1 st1 => ih f hfi (by omega) w1 (hR.below (st1.below (by simp))) (go1 (st1.below (by simp))) (go2 (st1.below (by simp)))) ?_
    refine XQ.end_ ?_
    refine XK.go ?_
    refine XK.retE (by simp) ?_
    rw [hrun2]
    simp [upC, hk, hon]
  ·rw [hk] at k0
   refine XK.go ?_
   refine XK.drawQ ?_
   refine XQ.go ?_
   refine XQ.call (fun w1 st1 => clkSource_any L s st i f c fs w1 (hR.below (st1.below (by simp))) hc hf) ?_
   refine XQ.callC (fi := []) (vs := [.int .i64 (f : Int)]) (ca := [.pointer (some ⟨b1, 0, none⟩), .pointer (some ⟨b2, 0, none⟩)]) (fun w1 st1 => ih f hfi (by omega) w1 (hR.below (st1.below (by simp))) (go1 (st1.below (by simp))) (go2 (st1.below (by simp)))) ?_
   refine XQ.end_ ?_
   refine XK.go ?_
   refine XK.retE (by simp) ?_
   rw [hrun2]
   simp [upC, hk]
end
section
set_option maxHeartbeats 4000000
set_option maxRecDepth 20000
section
variable {N : Frm} {w0 w : World} {e : Env} {R : List Piece} {H : List HP} {K : Act → World → Prop} {L : TL} {s : Soc} {st : List CkS}
theorem St.treeR (t : St w0 R H w) (i : Nat) (hi : H[i]? = some (TreeH L s st)) (hfl : L.fa.length = s.clocks.length) (hok : CkOk s st) : TreeR w L s st := by
 obtain ⟨F, h1, h2, _⟩ := t.chunk hi
 exact TreeH.reads h1 h2 hfl hok
theorem Rd.tree (i : Nat) (hi : H[i]? = some (TreeH L s st)) (hfl : L.fa.length = s.clocks.length) (hok : CkOk s st) : Rd w0 R H L.t 0 (.slice L.A s.clocks.length L.c) := fun w t => (t.treeR i hi hfl hok).r0.2
theorem nodesR_len (hfl : L.fa.length = s.clocks.length) (hok : CkOk s st) : (nodesR s L.fa st).length = s.clocks.length ∧ ∀ r ∈ nodesR s L.fa st, r.length = 11 := by
 have := hok.len
 refine ⟨by simp [nodesR]; omega, fun r hr => ?_⟩
 obtain ⟨j, hj⟩ := List.getElem?_of_mem hr
 rw [nodesR, List.getElem?_zipWith] at hj
 split at hj <;> cases hj
 rfl
theorem nodesR_get {i : Nat} {c : Clk} {a : Option Addr × Nat} {x : CkS} (hc : s.clocks[i]? = some c) (ha : L.fa[i]? = some a) (hx : st[i]? = some x) : (nodesR s L.fa st)[i]? = some (nodeC c a x) := by
 rw [nodesR, List.getElem?_zipWith, hc, (List.getElem?_zip_eq_some (z := (a, x))).2 ⟨ha, hx⟩]
theorem nodesR_set {i : Nat} {c : Clk} {a : Option Addr × Nat} {x : CkS} (hc : s.clocks[i]? = some c) (ha : L.fa[i]? = some a) (hi : i < st.length) : (nodesR s L.fa st).set i (nodeC c a x) = nodesR s L.fa (st.set i x) := by
 refine List.ext_getElem? fun j => ?_
 rw [List.getElem?_set]
 by_cases he : i = j
 ·subst he
  rw [if_pos rfl, nodesR_get hc ha (x := x) (by rw [List.getElem?_set_self hi])]
  rw [if_pos]
  have h1 := (List.getElem?_eq_some_iff.1 hc).1
  have h2 := (List.getElem?_eq_some_iff.1 ha).1
  simp [nodesR]; omega
 ·rw [if_neg he, nodesR, nodesR, List.getElem?_zipWith, List.getElem?_zipWith]
  have hz : (L.fa.zip st)[j]? = (L.fa.zip (st.set i x))[j]? := by
   rw [List.zip_eq_zipWith, List.zip_eq_zipWith, List.getElem?_zipWith, List.getElem?_zipWith, List.getElem?_set_ne he]
  rw [hz]
theorem St.treeO {g : Nat} {cs : List Value} (t : St w0 R H w) (i j : Nat) (hi : H[i]? = some (HP.blk g 227 cs)) (hj : H[j]? = some (HP.many [HP.blk L.t 225 [.slice (some ⟨g, 0, none⟩) s.clocks.length L.c], HP.emp, HP.pic (FrmP s L.fa) (FrmP.le (s := s) (fa := L.fa))])) (hA : L.A = some ⟨g, 0, none⟩) (h2 : cs.take (s.clocks.length * 11) = (nodesR s L.fa st).flatten) (hfl : L.fa.length = s.clocks.length) (hok : CkOk s st) : TreeR w L s st := by
 obtain ⟨hnl, hnr⟩ := nodesR_len hfl hok
 have hb := t.blk hi
 obtain ⟨F, ⟨G, g1, g2, _⟩, hlt, _⟩ := t.chunk hj
 have h0 := g1 0 _ rfl
 have hpic := g1 2 _ rfl
 refine ⟨⟨h0.2.lt, by rw [h0.2.cell, hA]; rfl⟩, ⟨by rw [rows_len _ hnr, hnl], fun _ => ⟨g, 0, hA, hb.lt, fun k u hu => ?_⟩⟩, fun k c a hc ha => (hpic k c a hc ha).le (fun b hbG => ⟨hlt b (g2 2 b hbG), rfl⟩), hfl, hok⟩
 rw [← h2] at hu
 rw [Nat.zero_add]
 show w.cell? _ = _
 rw [hb.cell]
 have hk : k < s.clocks.length * 11 := by
  rcases Nat.lt_or_ge k (s.clocks.length * 11) with h | h
  ·exact h
  ·rw [List.getElem?_eq_none (by rw [List.length_take]; omega)] at hu; cases hu
 rw [List.getElem?_take_of_lt hk] at hu
 simpa using hu
theorem XK.openTree (i : Nat) (hi : H[i]? = some (TreeH L s st)) (hn : 0 < s.clocks.length) (h : ∀ g cs, L.A = some ⟨g, 0, none⟩ → cs.length = L.c * 11 → cs.take (s.clocks.length * 11) = (nodesR s L.fa st).flatten → s.clocks.length ≤ L.c → L.c ≤ maxLen →
  XK N w0 K e R (HP.blk g 227 cs :: H.set i (HP.many [HP.blk L.t 225 [.slice L.A s.clocks.length L.c], HP.emp, HP.pic (FrmP s L.fa) (FrmP.le (s := s) (fa := L.fa))]))) : XK N w0 K e R H := by
 refine XK.take i 1 hi rfl ?_
 refine XK.ownHead 0 rfl hn fun g hA => ?_
 dsimp only [List.set]
 rw [hA]
 refine XK.openOwn 0 rfl fun cs h1 h2 h3 h4 => ?_
 have := h g cs hA h1 h2 h3 h4
 rw [hA] at this
 exact this
theorem XK.closeTree (i : Nat) {g : Nat} {cs : List Value} {st' : List CkS} (hA : L.A = some ⟨g, 0, none⟩) (h1 : cs.length = L.c * 11) (h2 : cs.take (s.clocks.length * 11) = (nodesR s L.fa st').flatten) (h3 : s.clocks.length ≤ L.c) (h4 : L.c ≤ maxLen)
  (hi : H[i]? = some (HP.many [HP.blk L.t 225 [.slice (some ⟨g, 0, none⟩) s.clocks.length L.c], HP.emp, HP.pic (FrmP s L.fa) (FrmP.le (s := s) (fa := L.fa))]))
  (h : XK N w0 K e R (H.set i (TreeH L s st'))) : XK N w0 K e R (HP.blk g 227 cs :: H) := by
 refine XK.closeOwn 0 (n := s.clocks.length) (c := L.c) (sz := 11) rfl h1 h2 h3 h4 ?_
 dsimp only [List.set]
 rw [← hA] at hi ⊢
 exact XK.give i 1 hi rfl h
end
theorem clkRunning_any (L : TL) (s : Soc) (st : List CkS) (hH : s.okH) (i : Int) (w : World) (hR : TreeR w L s st) :
  Calls Tryz.prog 91 #[.pointer (some ⟨L.t, 0, none⟩), .int .i64 i] w (Rt (.bool (runI s st i)) w) := by
 cases hi : inB s.clocks.length i
 ·refine XK.enter (vs := [.pointer (some ⟨L.t, 0, none⟩), .int .i64 i]) Tryz.func91 rfl Tryz.ntmps91 (by simp) ?_
  refine XK.go ?_
  refine xk_box rfl (by decide) fun g1 => ?_
  refine XK.go ?_
  refine kcall (fun w1 t => clkAt_out L.t s.clocks.length L.c L.A i w1 ((hR.below (t.below (by simp))).r0) hi) ?_
  refine XK.go ?_
  refine XK.retE (by simp) ?_
  simp [runI, hi]
 ·obtain ⟨n, rfl⟩ : ∃ n : Nat, i = n := ⟨i.toNat, by have := of_decide_eq_true hi; omega⟩
  have hlt : n < s.clocks.length := by have := of_decide_eq_true hi; omega
  obtain ⟨b, off, c, a, x, hc, hx, hA, _⟩ := hR.node hlt
  refine XK.enter (vs := [.pointer (some ⟨L.t, 0, none⟩), .int .i64 (n : Int)]) Tryz.func91 rfl Tryz.ntmps91 (by simp) ?_
  refine XK.go ?_
  refine xk_box rfl (by decide) fun g1 => ?_
  refine XK.go ?_
  refine kcall (fun w1 t => clkAt_in L.t s.clocks.length L.c b off n w1 (by rw [← hA]; exact (hR.below (t.below (by simp))).r0) hlt) ?_
  refine XK.go ?_
  refine xk_alloc (cs := [.nilFunc]) (zeroB_of (by kernel_rfl)) (by decide) fun g2 => ?_
  refine XK.go ?_
  refine xk_func (vf := []) (vc := [.pointer (some ⟨g1, 0, none⟩), .pointer (some ⟨g2, 0, none⟩)]) rfl rfl (by decide) ?_
  refine XK.go ?_
  refine kcallC (fi := []) (vs := [.int .i64 (n : Int)]) (ca := [.pointer (some ⟨g1, 0, none⟩), .pointer (some ⟨g2, 0, none⟩)]) (fun w1 t => clkRuns_in L s st hH g1 g2 n hlt w1 (hR.below (t.below (by simp))) ((t.box (i := 1) rfl).at_ (j := 0) rfl) ((t.box (i := 0) rfl).at_ (j := 0) rfl)) ?_
  refine XK.go ?_
  refine XK.retE (by simp) ?_
  simp [runI, hi]
theorem clkOn_m (L : TL) (s : Soc) (st : List CkS) (hfl : L.fa.length = s.clocks.length) (hok : CkOk s st) (i : Int) (on : Bool) (w : World) (F : Nat → Prop) (hp : (TreeH L s st).sat F w) (hF : ∀ b, F b → b < w.heap.size) :
  Calls Tryz.prog 78 #[.pointer (some ⟨L.t, 0, none⟩), .int .i64 i, .bool on] w (fun y w' => y = .returned (.int .i64 (onF s st i on).1) ∧ ∃ F', (TreeH L s (onF s st i on).2).sat F' w' ∧ Turns w w' F F') := by
 cases hi : inB s.clocks.length i
 ·have hr : onF s st i on = (4, st) := by simp [onF, hi]
  rw [hr]
  refine XK.enterM (p := TreeH L s st) (F := F) (vs := [.pointer (some ⟨L.t, 0, none⟩), .int .i64 i, .bool on]) Tryz.func78 rfl Tryz.ntmps78 (by simp) hp hF ?_
  refine XK.go ?_
  refine kcall (fun w1 t => clkAt_out L.t s.clocks.length L.c L.A i w1 ((t.treeR 0 rfl hfl hok).r0) hi) ?_
  refine XK.go ?_
  exact XK.ret1 rfl rfl fun w1 t => ⟨rfl, t.turns hF (by simp) (i := 0) rfl⟩
 ·obtain ⟨n, rfl⟩ : ∃ n : Nat, i = n := ⟨i.toNat, by have := of_decide_eq_true hi; omega⟩
  have hlt : n < s.clocks.length := by have := of_decide_eq_true hi; omega
  have hl := hok.len
  obtain ⟨c, hc⟩ := get_some hlt
  obtain ⟨a, ha⟩ := get_some (l := L.fa) (i := n) (by omega)
  obtain ⟨x, hx⟩ := get_some (l := st) (i := n) (by omega)
  obtain ⟨hnl, hnr⟩ := nodesR_len hfl hok
  refine XK.enterM (p := TreeH L s st) (F := F) (vs := [.pointer (some ⟨L.t, 0, none⟩), .int .i64 (n : Int), .bool on]) Tryz.func78 rfl Tryz.ntmps78 (by simp) hp hF ?_
  refine XK.openTree 0 rfl (by omega) fun g cs hA h1 h2 h3 h4 => ?_
  dsimp only [List.set]
  rw [hA]
  have hs := flat_sub h2 hnl hnr (nodesR_get hc ha hx)
  have hlen : n * 11 + 11 ≤ cs.length := by omega
  refine XK.take 1 0 rfl rfl ?_
  dsimp only [List.set]
  refine XK.go ?_
  refine kcall (fun w1 t => clkAt_in L.t s.clocks.length L.c g 0 n w1 ((t.box (i := 0) rfl).at_ (j := 0) rfl) hlt) ?_
  refine XK.give 1 0 rfl rfl ?_
  dsimp only [List.set]
  rw [Nat.zero_add]
  refine XK.go ?_
  have hpq : ∀ x' : CkS, (nodesR s L.fa st).set n (nodeC c a x') = nodesR s L.fa (st.set n x') := fun x' => nodesR_set hc ha (by omega)
  refine xk_split (t := 19) rfl (fun hk => ?_) (fun hk => ?_)
  ·refine XK.go ?_
   refine XK.if_ rfl (fun hg => ?_) (fun hg => ?_)
   ·have hr : onF s st (n : Int) on = (1, st) := by simp [onF, hi, hc, hx, hk, hg]
    rw [hr]
    refine XK.go ?_
    refine XK.closeTree 0 hA h1 h2 h3 h4 rfl ?_
    exact XK.ret1 rfl rfl fun w1 t => ⟨rfl, t.turns hF (by simp) (i := 0) rfl⟩
   ·have hg : c.kind = 103 := Classical.not_not.1 hg
    have hr : onF s st (n : Int) on = (0, st.set n ⟨on, x.left⟩) := by simp [onF, hi, hc, hx, hg, onC]
    rw [hr]
    have hs1 := hs.set 6 (.bool on) (by simp [nodeC]) (by omega)
    have hu1 := (Upd.refl cs (n * 11) 11).set 6 (.bool on) (by decide)
    have hf1 := flat_upd (r' := nodeC c a ⟨on, x.left⟩) h2 hnl hnr hlt (by omega) rfl hs1 hu1
    rw [hpq] at hf1
    refine XK.go ?_
    refine xk_split (t := 37) rfl (fun h => absurd h hk) (fun _ => ?_)
    refine XK.go ?_
    refine XK.closeTree 0 hA (by simpa using h1) hf1 h3 h4 rfl ?_
    exact XK.ret1 rfl rfl fun w1 t => ⟨rfl, t.turns hF (by simp) (i := 0) rfl⟩
  ·have hk : c.kind = 112 := Classical.not_not.1 hk
   have hs1 := hs.set 6 (.bool on) (by simp [nodeC]) (by omega)
   have hu1 := (Upd.refl cs (n * 11) 11).set 6 (.bool on) (by decide)
   cases on
   ·have hr : onF s st (n : Int) false = (0, st.set n ⟨false, c.lock⟩) := by simp [onF, hi, hc, hx, hk, onC]
    rw [hr]
    refine XK.go ?_
    refine xk_split (t := 37) rfl (fun _ => ?_) (fun h => absurd hk h)
    have hs2 := hs1.set 7 (.int .i64 c.lock) (by simp [nodeC]) (by simp; omega)
    have hu2 := hu1.set 7 (.int .i64 c.lock) (by decide)
    have hf1 := flat_upd (r' := nodeC c a ⟨false, c.lock⟩) h2 hnl hnr hlt (by omega) rfl hs2 hu2
    rw [hpq] at hf1
    refine XK.go ?_
    refine XK.closeTree 0 hA (by simpa using h1) hf1 h3 h4 rfl ?_
    exact XK.ret1 rfl rfl fun w1 t => ⟨rfl, t.turns hF (by simp) (i := 0) rfl⟩
   ·have hr : onF s st (n : Int) true = (0, st.set n ⟨true, x.left⟩) := by simp [onF, hi, hc, hx, hk, onC]
    rw [hr]
    have hf1 := flat_upd (r' := nodeC c a ⟨true, x.left⟩) h2 hnl hnr hlt (by omega) rfl hs1 hu1
    rw [hpq] at hf1
    refine XK.go ?_
    refine xk_split (t := 37) rfl (fun _ => ?_) (fun h => absurd hk h)
    refine XK.go ?_
    refine XK.closeTree 0 hA (by simpa using h1) hf1 h3 h4 rfl ?_
    exact XK.ret1 rfl rfl fun w1 t => ⟨rfl, t.turns hF (by simp) (i := 0) rfl⟩
end
section
set_option maxHeartbeats 4000000
set_option maxRecDepth 20000
theorem SlS.rowP {p : Piece} {sz n : Nat} {A : Option Addr} {rows : List (List Value)} (h : SlS p sz A n rows.flatten) (hl : ∀ r ∈ rows, r.length = sz) {k : Nat} {r : List Value} (hk : rows[k]? = some r) (hn : k < n) :
  ∃ b off, A = some ⟨b, off, none⟩ ∧ p.Z b ∧ ∀ j u, r[j]? = some u → p.w.cell? ⟨b, off + k * sz + j, none⟩ = some u := by
 obtain ⟨b, off, hA, hz, hc⟩ := SlS.at_ h hn
 refine ⟨b, off, hA, hz, fun j u hu => hc j u ?_⟩
 have hj : j < sz := by
  rw [← hl r (List.mem_of_getElem? hk)]
  exact (List.getElem?_eq_some_iff.1 hu).1
 rw [flat_at rows hl k j r hk hj, hu]
theorem RdN.roP {w0 : World} {R : List Piece} {H : List HP} {p : Piece} {b o : Nat} {vs : List Value} (hp : p ∈ R) (hz : p.Z b) (h : ∀ j u, vs[j]? = some u → p.w.cell? ⟨b, o + j, none⟩ = some u) : RdN w0 R H b o vs := .of fun j v hj => Rd.ro hp hz (h j v hj)
theorem checkS_call (s : Soc) (A1 A2 A3 A4 : Option Addr) (n1 k1 n2 k2 n3 k3 n4 k4 : Nat) (w : World) (hW : SocW w s A1 n1 A2 n2 A3 n3 A4 n4) (hchk : checkS s = 0) :
  Calls Tryz.prog 59 #[.agg #[.slice A1 n1 k1, .slice A2 n2 k2, .slice A3 n3 k3, .slice A4 n4 k4]] w (Rt (.int .i64 0) w) := by
 have := checkS_any s A1 A2 A3 A4 n1 k1 n2 k2 n3 k3 n4 k4 w hW
 rw [hchk] at this
 exact this
def TreeOk (s : Soc) (v : Value) (hs : List HP) (_ : Piece) : Prop := ∃ L : TL, v = .tuple #[.pointer (some ⟨L.t, 0, none⟩), .int .i64 0] ∧ hs = [TreeH L s (s.clocks.map ck0)] ∧ L.fa.length = s.clocks.length
theorem clkNew_ok (s : Soc) (hH : s.okH) (A1 A2 A3 A4 : Option Addr) (n1 k1 n2 k2 n3 k3 n4 k4 : Nat) (w : World) (hW : SocW w s A1 n1 A2 n2 A3 n3 A4 n4) :
  Calls Tryz.prog 60 #[.agg #[.slice A1 n1 k1, .slice A2 n2 k2, .slice A3 n3 k3, .slice A4 n4 k4]] w (fun y w' => (∃ v hs q, y = .returned v ∧ q.w = w' ∧ TreeOk s v hs q ∧ New w hs q) ∧ Below w.heap.size w w') := by
 have hnc := hH.t.nc
 have hsr : ∀ d ∈ s.devs, d.regs.length ≤ 1000000 := fun d hd => by
  obtain ⟨i, hi⟩ := List.getElem?_of_mem hd
  have := hH.t.devs i d hi
  unfold Dev.fit at this
  omega
 refine XK.enter (vs := [.agg #[.slice A1 n1 k1, .slice A2 n2 k2, .slice A3 n3 k3, .slice A4 n4 k4]]) Tryz.func60 rfl Tryz.ntmps60 (by simp) ?_
 refine XK.go ?_
 refine xk_box rfl (by decide) fun g1 => ?_
 dsimp only [Value.cells]
 refine XK.go ?_
 refine kcall (fun w1 t => checkS_call s A1 A2 A3 A4 n1 k1 n2 k2 n3 k3 n4 k4 w1 (hW.le (t.started (by simp))) hH.t.chk) ?_
 refine XK.go ?_
 refine xk_buildS (zs := [.slice none 0 0]) (L := [(0, 1)]) (zeroB_of (by kernel_rfl)) (by kernel_rfl) rfl (by simp [fillL, setN, Value.cells]; rfl) (by decide) ?_
 refine xk_box rfl (by decide) fun g2 => ?_
 dsimp only [Value.cells]
 refine XK.go ?_
 refine xk_call [] (f := 67) (fi := []) (ca := []) (by kernel_rfl) rfl rfl (by decide) (by simp) (CopyOk s) (fun w1 t => copy_any s A1 A2 A3 A4 n1 k1 n2 k2 n3 k3 n4 k4 w1 (hW.le (t.started (by simp))) hsr) ?_
 rintro _ w1 q1 ⟨cs1, rfl, hS⟩ hf1 _ hfr1
 have hfr1 := hfr1 (by simp)
 obtain ⟨B1, m1, j1, B2, m2, j2, B3, m3, j3, B4, m4, j4, rfl, hSQ⟩ := (hS.mono (slq_le hf1)).Q
 clear hf1 hS
 obtain ⟨rc, hrc, hm1, hsc⟩ := hSQ.clk
 obtain ⟨fa, hfl, rfl, hfa⟩ := clk_rows hrc
 subst hm1
 obtain ⟨hcl, hcr⟩ := zw_len (f := clkC) (es := s.clocks) (bs := fa) (sz := 6) hfl (fun _ _ => rfl)
 have hl0 : (s.clocks.map ck0).length = s.clocks.length := by simp
 refine kd (does_field1 (off := 0) (cs := [.slice B1 s.clocks.length j1, .slice B2 m2 j2, .slice B3 m3 j3, .slice B4 m4 j4]) (by kernel_rfl) rfl rfl) ?_
 refine XK.go ?_
 refine XK.nilrow 227 11 ?_
 refine XK.envS [(20, .int .i64 0), (19, .int .i64 s.clocks.length), (18, .slice B1 s.clocks.length j1), (5, .pointer (some ⟨g2, 0, none⟩))] ?_
 refine XK.loop (fun m e R H => ∃ (i : Nat) (A : Option Addr) (k : Nat), i ≤ s.clocks.length ∧ m = s.clocks.length - i ∧ e = [(20, .int .i64 i), (19, .int .i64 s.clocks.length), (18, .slice B1 s.clocks.length j1), (5, .pointer (some ⟨g2, 0, none⟩))] ∧ R = [q1, all w] ∧ H = [HP.own 227 11 (.slice A i k) i ((nodesR s fa (s.clocks.map ck0)).take i).flatten, HP.blk g2 225 [.slice A i k], HP.blk g1 29 [.slice A1 n1 k1, .slice A2 n2 k2, .slice A3 n3 k3, .slice A4 n4 k4]]) s.clocks.length ⟨0, none, 0, by omega, rfl, rfl, rfl, by simp⟩ fun m e R H hI => ?_
 obtain ⟨i, A, k, hi, rfl, rfl, rfl, rfl⟩ := hI
 refine XK.go ?_
 refine XK.if_ rfl (fun hlt => ?_) (fun hge => ?_)
 ·have hlt : i < s.clocks.length := by omega
  obtain ⟨c, hc⟩ := get_some hlt
  obtain ⟨a, ha⟩ := get_some (l := fa) (i := i) (by omega)
  obtain ⟨b, off, hB, hz, hcell⟩ := SlS.rowP hsc hcr (zw_get hc ha) hlt
  subst hB
  have hrow : (nodesR s fa (s.clocks.map ck0))[i]? = some (nodeC c a (ck0 c)) := nodesR_get (L := ⟨0, none, 0, fa⟩) hc ha (by rw [List.getElem?_map, hc]; rfl)
  have hsucc : ((nodesR s fa (s.clocks.map ck0)).take (i + 1)).flatten = ((nodesR s fa (s.clocks.map ck0)).take i).flatten ++ nodeC c a (ck0 c) := by
   rw [List.take_succ, hrow, List.flatten_append]; simp
  have hrn : ∀ H, RdN w [q1, all w] H b (off + i * 6) (clkC c a) := fun H => RdN.roP (by simp) hz hcell
  have hrn1 := hrn [HP.own 227 11 (.slice A i k) i ((nodesR s fa (s.clocks.map ck0)).take i).flatten, HP.blk g2 225 [.slice A i k], HP.blk g1 29 [.slice A1 n1 k1, .slice A2 n2 k2, .slice A3 n3 k3, .slice A4 n4 k4]]
  refine XK.go ?_
  refine kd (dat i (off + i * 6)) ?_
  refine XK.go ?_
  refine xk_alloc (cs := [.int .u8 0, .slice none 0 0, .int .u64 0, .int .i64 0, .int .i64 0, .int .i64 0]) (zeroB_of (by kernel_rfl)) (by decide) fun g3 => ?_
  obtain ⟨kd, src, rate, mul, dv, lock⟩ := c
  dsimp only [clkC]
  refine XK.go ?_
  refine xk_buildS (zs := [.int .u8 0, .slice none 0 0, .int .u64 0, .int .i64 0, .int .i64 0, .int .i64 0, .bool false, .int .i64 0, .int .i64 0, .int .i64 0, .int .i64 0]) (L := [(0, 6), (6, 1), (7, 1), (8, 1), (9, 1), (10, 1)]) (zeroB_of (by kernel_rfl)) (by kernel_rfl) rfl (by simp [fillL, setN, Value.cells]; rfl) (by decide) ?_
  refine xk_alloc (cs := [.int .u8 0, .slice none 0 0, .int .u64 0, .int .i64 0, .int .i64 0, .int .i64 0, .bool false, .int .i64 0, .int .i64 0, .int .i64 0, .int .i64 0]) (zeroB_of (by kernel_rfl)) (by decide) fun g4 => ?_
  have hfit := (hH.t.clocks i _ hc).2
  dsimp only at hfit
  rcases hfit with ⟨rfl, _⟩ | ⟨rfl, _⟩ | ⟨rfl, _⟩ | ⟨rfl, _⟩ | ⟨rfl, _⟩
  ·skip
   refine XK.go ?_
   refine XK.drawB [2, 3, 4, 5] ?_
   refine XB.mv 0 ?_
   refine XB.mv 1 ?_
   refine XB.q 2 ?_
   refine XB.q 3 ?_
   refine XB.q 4 ?_
   refine XB.q 5 ?_
   refine XB.next 6 rfl (by kernel_rfl) ?_
   refine xk_slice (el := 227) (sz := 11) (zs := [.int .u8 0, .slice none 0 0, .int .u64 0, .int .i64 0, .int .i64 0, .int .i64 0, .bool false, .int .i64 0, .int .i64 0, .int .i64 0, .int .i64 0]) (by kernel_rfl) (zeroB_of (by kernel_rfl)) (by kernel_rfl) rfl (by decide) (by decide) rfl (by simp [fillL, setN, Value.cells, List.range_succ, List.set]; rfl) (by decide) fun g5 => ?_
   refine XB.bk ?_
   refine XB.next 7 rfl (by kernel_rfl) ?_
   refine xk_appendT 3 11 104 1 (el := 227) (by kernel_rfl) (by kernel_rfl) (by decide) rfl rfl rfl (sl_blk 0 rfl rfl) (by simp [Value.oneCell']) rfl (by omega) (by omega) (by decide) fun A' k' => ?_
   dsimp only [List.set]
   refine XB.bt ?_
   refine XB.next 8 rfl (by kernel_rfl) ?_
   refine kdo ?_
   refine XB.bt ?_
   refine XB.next 9 rfl (by kernel_rfl) ?_
   refine kdo ?_
   refine XB.bt ?_
   refine XB.next 10 rfl (by kernel_rfl) ?_
   refine kst rfl rfl ?_
   dsimp only [List.set]
   refine XB.bt ?_
   refine XB.done (by kernel_rfl) ?_
   refine XK.go ?_
   refine XK.weak [3, 4, 5] rfl (by decide) (fun _ h => h) ?_
   refine XK.envS [(20, .int .i64 (i + 1 : Nat)), (19, .int .i64 s.clocks.length), (18, .slice (some ⟨b, off, none⟩) s.clocks.length j1), (5, .pointer (some ⟨g2, 0, none⟩))] ?_
   exact XK.round (s.clocks.length - (i + 1)) (by omega) ⟨i + 1, A', k', hlt, rfl, rfl, rfl, by rw [hsucc]; rfl⟩
  ·skip
   refine XK.go ?_
   refine XK.drawB [2, 3, 4, 5] ?_
   refine XB.mv 0 ?_
   refine XB.mv 1 ?_
   refine XB.q 2 ?_
   refine XB.q 3 ?_
   refine XB.q 4 ?_
   refine XB.q 5 ?_
   refine XB.next 6 rfl (by kernel_rfl) ?_
   refine xk_slice (el := 227) (sz := 11) (zs := [.int .u8 0, .slice none 0 0, .int .u64 0, .int .i64 0, .int .i64 0, .int .i64 0, .bool false, .int .i64 0, .int .i64 0, .int .i64 0, .int .i64 0]) (by kernel_rfl) (zeroB_of (by kernel_rfl)) (by kernel_rfl) rfl (by decide) (by decide) rfl (by simp [fillL, setN, Value.cells, List.range_succ, List.set]; rfl) (by decide) fun g5 => ?_
   refine XB.bk ?_
   refine XB.next 7 rfl (by kernel_rfl) ?_
   refine xk_appendT 3 11 104 1 (el := 227) (by kernel_rfl) (by kernel_rfl) (by decide) rfl rfl rfl (sl_blk 0 rfl rfl) (by simp [Value.oneCell']) rfl (by omega) (by omega) (by decide) fun A' k' => ?_
   dsimp only [List.set]
   refine XB.bt ?_
   refine XB.next 8 rfl (by kernel_rfl) ?_
   refine kdo ?_
   refine XB.bt ?_
   refine XB.next 9 rfl (by kernel_rfl) ?_
   refine kdo ?_
   refine XB.bt ?_
   refine XB.next 10 rfl (by kernel_rfl) ?_
   refine kst rfl rfl ?_
   dsimp only [List.set]
   refine XB.bt ?_
   refine XB.done (by kernel_rfl) ?_
   refine XK.go ?_
   refine XK.weak [3, 4, 5] rfl (by decide) (fun _ h => h) ?_
   refine XK.envS [(20, .int .i64 (i + 1 : Nat)), (19, .int .i64 s.clocks.length), (18, .slice (some ⟨b, off, none⟩) s.clocks.length j1), (5, .pointer (some ⟨g2, 0, none⟩))] ?_
   exact XK.round (s.clocks.length - (i + 1)) (by omega) ⟨i + 1, A', k', hlt, rfl, rfl, rfl, by rw [hsucc]; rfl⟩
  ·skip
   refine XK.go ?_
   refine XK.drawB [2, 3, 4, 5] ?_
   refine XB.mv 0 ?_
   refine XB.mv 1 ?_
   refine XB.q 2 ?_
   refine XB.q 3 ?_
   refine XB.q 4 ?_
   refine XB.q 5 ?_
   refine XB.next 6 rfl (by kernel_rfl) ?_
   refine xk_slice (el := 227) (sz := 11) (zs := [.int .u8 0, .slice none 0 0, .int .u64 0, .int .i64 0, .int .i64 0, .int .i64 0, .bool false, .int .i64 0, .int .i64 0, .int .i64 0, .int .i64 0]) (by kernel_rfl) (zeroB_of (by kernel_rfl)) (by kernel_rfl) rfl (by decide) (by decide) rfl (by simp [fillL, setN, Value.cells, List.range_succ, List.set]; rfl) (by decide) fun g5 => ?_
   refine XB.bk ?_
   refine XB.next 7 rfl (by kernel_rfl) ?_
   refine xk_appendT 3 11 104 1 (el := 227) (by kernel_rfl) (by kernel_rfl) (by decide) rfl rfl rfl (sl_blk 0 rfl rfl) (by simp [Value.oneCell']) rfl (by omega) (by omega) (by decide) fun A' k' => ?_
   dsimp only [List.set]
   refine XB.bt ?_
   refine XB.next 8 rfl (by kernel_rfl) ?_
   refine kdo ?_
   refine XB.bt ?_
   refine XB.next 9 rfl (by kernel_rfl) ?_
   refine kdo ?_
   refine XB.bt ?_
   refine XB.next 10 rfl (by kernel_rfl) ?_
   refine kst rfl rfl ?_
   dsimp only [List.set]
   refine XB.bt ?_
   refine XB.done (by kernel_rfl) ?_
   refine XK.go ?_
   refine XK.weak [3, 4, 5] rfl (by decide) (fun _ h => h) ?_
   refine XK.envS [(20, .int .i64 (i + 1 : Nat)), (19, .int .i64 s.clocks.length), (18, .slice (some ⟨b, off, none⟩) s.clocks.length j1), (5, .pointer (some ⟨g2, 0, none⟩))] ?_
   exact XK.round (s.clocks.length - (i + 1)) (by omega) ⟨i + 1, A', k', hlt, rfl, rfl, rfl, by rw [hsucc]; rfl⟩
  ·skip
   refine XK.go ?_
   refine XK.drawB [2, 3, 4, 5] ?_
   refine XB.mv 0 ?_
   refine XB.mv 1 ?_
   refine XB.q 2 ?_
   refine XB.q 3 ?_
   refine XB.q 4 ?_
   refine XB.q 5 ?_
   refine XB.next 6 rfl (by kernel_rfl) ?_
   refine xk_slice (el := 227) (sz := 11) (zs := [.int .u8 0, .slice none 0 0, .int .u64 0, .int .i64 0, .int .i64 0, .int .i64 0, .bool false, .int .i64 0, .int .i64 0, .int .i64 0, .int .i64 0]) (by kernel_rfl) (zeroB_of (by kernel_rfl)) (by kernel_rfl) rfl (by decide) (by decide) rfl (by simp [fillL, setN, Value.cells, List.range_succ, List.set]; rfl) (by decide) fun g5 => ?_
   refine XB.bk ?_
   refine XB.next 7 rfl (by kernel_rfl) ?_
   refine xk_appendT 3 11 104 1 (el := 227) (by kernel_rfl) (by kernel_rfl) (by decide) rfl rfl rfl (sl_blk 0 rfl rfl) (by simp [Value.oneCell']) rfl (by omega) (by omega) (by decide) fun A' k' => ?_
   dsimp only [List.set]
   refine XB.bt ?_
   refine XB.next 8 rfl (by kernel_rfl) ?_
   refine kdo ?_
   refine XB.bt ?_
   refine XB.next 9 rfl (by kernel_rfl) ?_
   refine kdo ?_
   refine XB.bt ?_
   refine XB.next 10 rfl (by kernel_rfl) ?_
   refine kst rfl rfl ?_
   dsimp only [List.set]
   refine XB.bt ?_
   refine XB.done (by kernel_rfl) ?_
   refine XK.go ?_
   refine XK.weak [3, 4, 5] rfl (by decide) (fun _ h => h) ?_
   refine XK.envS [(20, .int .i64 (i + 1 : Nat)), (19, .int .i64 s.clocks.length), (18, .slice (some ⟨b, off, none⟩) s.clocks.length j1), (5, .pointer (some ⟨g2, 0, none⟩))] ?_
   exact XK.round (s.clocks.length - (i + 1)) (by omega) ⟨i + 1, A', k', hlt, rfl, rfl, rfl, by rw [hsucc]; rfl⟩
  ·skip
   refine XK.go ?_
   refine XK.drawB [2, 3, 4, 5] ?_
   refine XB.mv 0 ?_
   refine XB.mv 1 ?_
   refine XB.q 2 ?_
   refine XB.q 3 ?_
   refine XB.q 4 ?_
   refine XB.q 5 ?_
   refine XB.next 6 rfl (by kernel_rfl) ?_
   refine xk_slice (el := 227) (sz := 11) (zs := [.int .u8 0, .slice none 0 0, .int .u64 0, .int .i64 0, .int .i64 0, .int .i64 0, .bool false, .int .i64 0, .int .i64 0, .int .i64 0, .int .i64 0]) (by kernel_rfl) (zeroB_of (by kernel_rfl)) (by kernel_rfl) rfl (by decide) (by decide) rfl (by simp [fillL, setN, Value.cells, List.range_succ, List.set]; rfl) (by decide) fun g5 => ?_
   refine XB.bk ?_
   refine XB.next 7 rfl (by kernel_rfl) ?_
   refine xk_appendT 3 11 104 1 (el := 227) (by kernel_rfl) (by kernel_rfl) (by decide) rfl rfl rfl (sl_blk 0 rfl rfl) (by simp [Value.oneCell']) rfl (by omega) (by omega) (by decide) fun A' k' => ?_
   dsimp only [List.set]
   refine XB.bt ?_
   refine XB.next 8 rfl (by kernel_rfl) ?_
   refine kdo ?_
   refine XB.bt ?_
   refine XB.next 9 rfl (by kernel_rfl) ?_
   refine kdo ?_
   refine XB.bt ?_
   refine XB.next 10 rfl (by kernel_rfl) ?_
   refine kst rfl rfl ?_
   dsimp only [List.set]
   refine XB.bt ?_
   refine XB.done (by kernel_rfl) ?_
   refine XK.go ?_
   refine XK.weak [3, 4, 5] rfl (by decide) (fun _ h => h) ?_
   refine XK.envS [(20, .int .i64 (i + 1 : Nat)), (19, .int .i64 s.clocks.length), (18, .slice (some ⟨b, off, none⟩) s.clocks.length j1), (5, .pointer (some ⟨g2, 0, none⟩))] ?_
   exact XK.round (s.clocks.length - (i + 1)) (by omega) ⟨i + 1, A', k', hlt, rfl, rfl, rfl, by rw [hsucc]; rfl⟩
 ·obtain rfl : i = s.clocks.length := by omega
  refine XK.go ?_
  have hfull : (nodesR s fa (s.clocks.map ck0)).take s.clocks.length = nodesR s fa (s.clocks.map ck0) := List.take_of_length_le (by simp [nodesR]; omega)
  rw [hfull]
  refine XK.weak [1, 0] rfl (by decide) (fun _ h => h) ?_
  refine XK.ownP hfr1 (by simp [all]) (Φ := FrmP s fa) (hm := FrmP.le (s := s) (fa := fa)) (fun i c a hc ha => hfa i c a hc ha) ?_
  refine XK.weak [1, 2, 0] rfl (by decide) (fun _ h => h) ?_
  refine XK.three ?_
  refine XK.still [] [] [0] (by simp) rfl (by decide) (by decide) fun q _ _ hfr => ?_
  exact XK.ret2 rfl rfl rfl fun w1 t => ⟨⟨_, _, ⟨w1, q.Z⟩, rfl, rfl, ⟨⟨g2, A, k, fa⟩, rfl, rfl, hfl⟩, t.newR (by simp) (by simp) (hfr (by simp) (by simp))⟩, t.below (by simp)⟩
end
section
set_option maxHeartbeats 4000000
set_option maxRecDepth 20000
def lnV (r : Int) (x : LnS) : Value := .agg #[.int .i64 r, .int .i64 x.left, .bool x.held, .bool x.wanted]
def lnE (s : Soc) (st : List LnS) (i : Nat) : Int × Value := ((i : Int), lnV (s.resets.getD i 0) (st.getD i ln0))
def lnL (s : Soc) (st : List LnS) : List (Int × Value) := (List.range st.length).map (lnE s st)
theorem mget_map (f : Nat → Value) (n : Nat) (i : Int) : mget ((List.range n).map fun j : Nat => ((j : Int), f j)) i = if inB n i then some (f i.toNat) else none := by
 induction n with
 | zero =>
  have : inB 0 i = false := decide_eq_false (by omega)
  rw [this]; rfl
 | succ n ih =>
  have h0 : mget ((List.range (n + 1)).map fun j : Nat => ((j : Int), f j)) i = (mget ((List.range n).map fun j : Nat => ((j : Int), f j)) i).or (mget [((n : Int), f n)] i) := by
   rw [List.range_succ, List.map_append]
   unfold mget
   rw [List.find?_append]
   cases List.find? (fun p => decide (p.1 = i)) ((List.range n).map fun j : Nat => ((j : Int), f j)) <;> rfl
  rw [h0, ih]
  by_cases h1 : inB n i = true
  ·have : inB (n + 1) i = true := by have := of_decide_eq_true h1; exact decide_eq_true (by omega)
   rw [if_pos h1, if_pos this]; rfl
  ·have hf : inB n i = false := by simpa using h1
   have := of_decide_eq_false hf
   rw [if_neg h1, mget_cons]
   by_cases h2 : (n : Int) = i
   ·subst h2
    have : inB (n + 1) (n : Int) = true := decide_eq_true (by omega)
    rw [if_pos rfl, if_pos this]; rfl
   ·have h3 : inB (n + 1) i = false := decide_eq_false (by omega)
    rw [if_neg h2, h3]; rfl
theorem mset_map (f : Nat → Value) (n i : Nat) (v : Value) (hi : i < n) : mset ((List.range n).map fun j : Nat => ((j : Int), f j)) (i : Int) v = (List.range n).map fun j : Nat => ((j : Int), if j = i then v else f j) := by
  have key : ∀ (l : List Nat), i ∈ l → l.Nodup → mset (l.map fun j : Nat => ((j : Int), f j)) (i : Int) v = l.map fun j : Nat => ((j : Int), if j = i then v else f j) := by
    intro l
    induction l with
    | nil => intro h; simp at h
    | cons a l ih =>
      intro h hn
      rw [List.map_cons, mset, List.map_cons]
      by_cases ha : (a : Int) = (i : Int)
      · have ha' : a = i := by omega
        subst ha'
        rw [if_pos rfl, if_pos rfl]
        congr 1
        refine List.map_congr_left fun j hj => ?_
        rw [if_neg (fun he : j = a => (List.nodup_cons.1 hn).1 (he ▸ hj))]
      · rw [if_neg ha, if_neg (by omega)]
        congr 1
        exact ih (by rcases List.mem_cons.1 h with h | h
                     · omega
                     · exact h) (List.nodup_cons.1 hn).2
  exact key _ (List.mem_range.2 hi) List.nodup_range
theorem mget_ln {s : Soc} {st : List LnS} (i : Int) : mget (lnL s st) i = if inB st.length i then some (lnV (s.resets.getD i.toNat 0) (st.getD i.toNat ln0)) else none := mget_map (fun j => lnV (s.resets.getD j 0) (st.getD j ln0)) st.length i
theorem mset_ln {s : Soc} {st : List LnS} {i : Nat} {x : LnS} {r : Int} (hr : s.resets.getD i 0 = r) (hi : i < st.length) : mset (lnL s st) (i : Int) (lnV r x) = lnL s (st.set i x) := by
 have := mset_map (fun j => lnV (s.resets.getD j 0) (st.getD j ln0)) st.length i (lnV r x) hi
 refine this.trans ?_
 unfold lnL
 rw [List.length_set]
 refine List.map_congr_left fun j hj => ?_
 unfold lnE
 congr 1
 by_cases he : j = i
 ·subst he
  rw [if_pos rfl, ← hr, List.getD_eq_getElem?_getD (l := st.set j x), List.getElem?_set_self hi]
  rfl
 ·rw [if_neg he, List.getD_eq_getElem?_getD (l := st.set i x), List.getElem?_set_ne (Ne.symm he), List.getD_eq_getElem?_getD (l := st)]
structure RL where
 t : Nat
 g : Nat
def LinesH (L : RL) (s : Soc) (st : List LnS) : HP := HP.many [HP.blk L.t 235 [.map (some L.g)], HP.map L.g (lnL s st)]
structure LinesR (w : World) (L : RL) (s : Soc) (st : List LnS) : Prop where
 r0 : ROc w L.t 0 (.map (some L.g))
 m : MapI w L.g (lnL s st)
theorem LinesR.below {w w' : World} {L : RL} {s : Soc} {st : List LnS} (h : LinesR w L s st) (hb : Below w.heap.size w w') : LinesR w' L s st :=
 ⟨⟨Nat.lt_of_lt_of_le h.r0.1 hb.size, (hb.cell (p := ⟨_, 0, none⟩) h.r0.1).trans h.r0.2⟩, h.m.below hb⟩
section
variable {N : Frm} {w0 w : World} {e : Env} {R : List Piece} {H : List HP} {K : Act → World → Prop} {L : RL} {s : Soc} {st : List LnS}
theorem LinesH.reads {F : Nat → Prop} (h : (LinesH L s st).sat F w) : LinesR w L s st := by
 obtain ⟨G, g1, g2, _⟩ := h
 have h0 := g1 0 _ rfl
 exact ⟨⟨h0.2.lt, by rw [h0.2.cell]; rfl⟩, (g1 1 _ rfl).2⟩
theorem St.linesR (t : St w0 R H w) (i : Nat) (hi : H[i]? = some (LinesH L s st)) : LinesR w L s st := by
 obtain ⟨F, h1, h2, _⟩ := t.chunk hi
 exact LinesH.reads h1
end
theorem line_zero : (Tryz.prog.info? 237).bind (·.zero) = some (lnV 0 ⟨0, false, false⟩) := by kernel_rfl
def findV (s : Soc) (st : List LnS) (i : Int) : Value := if inB st.length i then lnV (s.resets.getD i.toNat 0) (st.getD i.toNat ln0) else lnV 0 ⟨0, false, false⟩
theorem findV_agg (s : Soc) (st : List LnS) (i : Int) : ∃ r x, findV s st i = lnV r x := by
 unfold findV
 split
 ·exact ⟨_, _, rfl⟩
 ·exact ⟨_, _, rfl⟩
theorem rstFind_any (L : RL) (s : Soc) (st : List LnS) (i : Int) (w : World) (hR : LinesR w L s st) :
  Calls Tryz.prog 174 #[.pointer (some ⟨L.t, 0, none⟩), .int .i64 i] w (Rt (.tuple #[findV s st i, .bool (inB st.length i)]) w) := by
 have h0 := hR.r0
 obtain ⟨r, x, hv⟩ := findV_agg s st i
 have hm := mget_ln (s := s) (st := st) i
 have hz : (mget (lnL s st) i).getD (lnV 0 ⟨0, false, false⟩) = lnV r x := by
  rw [hm, ← hv, findV]
  split <;> rfl
 have hb : (mget (lnL s st) i).isSome = inB st.length i := by
  rw [hm]
  split
  ·rename_i h; rw [h]; rfl
  ·rename_i h; simp at h; rw [h]; rfl
 rw [hv]
 refine XK.enter (vs := [.pointer (some ⟨L.t, 0, none⟩), .int .i64 i]) Tryz.func174 rfl Tryz.ntmps174 (by simp) ?_
 refine XK.go ?_
 refine xk_alloc (cs := [.int .i64 0, .int .i64 0, .bool false, .bool false]) (zeroB_of (by kernel_rfl)) (by decide) fun g1 => ?_
 refine XK.go ?_
 refine xk_lookup (kt := 3) (et := 237) (kd := .i64) (z := lnV 0 ⟨0, false, false⟩) (l := lnL s st) true (by kernel_rfl) (by kernel_rfl) line_zero rfl rfl (fun w1 t => (hR.below (t.below (by simp))).m) (by decide) ?_
 simp only [if_true]
 rw [hz, hb]
 refine XK.go ?_
 refine xk_alloc (cs := [.int .i64 0, .int .i64 0, .bool false, .bool false]) (zeroB_of (by kernel_rfl)) (by decide) fun g2 => ?_
 unfold lnV
 refine XK.go ?_
 exact XK.retCT rfl (by kernel_rfl) rfl rfl (by first | assumption | exact RdN.whole 0 rfl | exact RdN.whole 1 rfl | exact RdN.whole 2 rfl | exact RdN.whole 3 rfl | exact RdN.whole 4 rfl | exact RdN.whole 5 rfl | exact RdN.whole 6 rfl | exact RdN.whole 7 rfl | exact RdN.whole 8 rfl | exact RdN.roc (by simp) (by assumption)) rfl fun w1 t => ⟨rfl, t.below (by simp)⟩
theorem rstHeld_any (L : RL) (s : Soc) (st : List LnS) (i : Int) (w : World) (hR : LinesR w L s st) :
  Calls Tryz.prog 92 #[.pointer (some ⟨L.t, 0, none⟩), .int .i64 i] w (Rt (.bool (heldF st i)) w) := by
 refine XK.enter (vs := [.pointer (some ⟨L.t, 0, none⟩), .int .i64 i]) Tryz.func92 rfl Tryz.ntmps92 (by simp) ?_
 refine XK.go ?_
 refine kcall (fun w1 t => rstFind_any L s st i w1 (hR.below (t.below (by simp)))) ?_
 refine XK.go ?_
 refine xk_alloc (cs := [.int .i64 0, .int .i64 0, .bool false, .bool false]) (zeroB_of (by kernel_rfl)) (by decide) fun g2 => ?_
 cases hi : inB st.length i
 ·have hv : findV s st i = lnV 0 ⟨0, false, false⟩ := by simp [findV, hi]
  rw [hv]
  unfold lnV
  refine XK.go ?_
  refine XK.retE (by simp) ?_
  simp [heldF, hi]
 ·have hv : findV s st i = lnV (s.resets.getD i.toNat 0) (st.getD i.toNat ln0) := by simp [findV, hi]
  rw [hv]
  unfold lnV
  refine XK.go ?_
  refine XK.retE (by simp) ?_
  have : i.toNat < st.length := by have := of_decide_eq_true hi; omega
  simp [heldF, hi, List.getElem?_eq_getElem this]
end
section
set_option maxHeartbeats 4000000
set_option maxRecDepth 20000
theorem dom_rows : ∀ {cl : List Dom} {rs : List (List Value)}, Rows DomR 3 cl rs → rs = cl.map fun d => [.int .i64 d.above, .int .i64 d.delay, .bool d.ret]
 | [], [], _ => rfl
 | e :: es, r :: rs, h => by
  have h1 : r = [.int .i64 e.above, .int .i64 e.delay, .bool e.ret] := h.2.1
  rw [h1, dom_rows h.2.2]
  rfl
theorem rst_rows : ∀ {cl : List Int} {rs : List (List Value)}, Rows RstR 1 cl rs → rs = cl.map fun d => [.int .i64 d]
 | [], [], _ => rfl
 | e :: es, r :: rs, h => by
  have h1 : r = [.int .i64 e] := h.2.1
  rw [h1, rst_rows h.2.2]
  rfl
def GridOk (s : Soc) (v : Value) (hs : List HP) (_ : Piece) : Prop := ∃ L : GL, v = .tuple #[.pointer (some ⟨L.t, 0, none⟩), .int .i64 0] ∧ hs = [GridH L s (s.domains.map fun _ => dm0)]
theorem powNew_ok (s : Soc) (hH : s.okH) (A1 A2 A3 A4 : Option Addr) (n1 k1 n2 k2 n3 k3 n4 k4 : Nat) (w : World) (hW : SocW w s A1 n1 A2 n2 A3 n3 A4 n4) :
  Calls Tryz.prog 61 #[.agg #[.slice A1 n1 k1, .slice A2 n2 k2, .slice A3 n3 k3, .slice A4 n4 k4]] w (fun y w' => (∃ v hs q, y = .returned v ∧ q.w = w' ∧ GridOk s v hs q ∧ New w hs q) ∧ Below w.heap.size w w') := by
 have hnd := hH.t.nd
 obtain ⟨rd, hrd, hn2, hsd⟩ := hW.dom
 have hrd := dom_rows hrd
 subst hrd; subst hn2
 have hdl : (s.domains.map fun _ => dm0).length = s.domains.length := by simp
 refine XK.enter (vs := [.agg #[.slice A1 n1 k1, .slice A2 s.domains.length k2, .slice A3 n3 k3, .slice A4 n4 k4]]) Tryz.func61 rfl Tryz.ntmps61 (by simp) ?_
 refine XK.go ?_
 refine xk_box rfl (by decide) fun g1 => ?_
 dsimp only [Value.cells]
 refine XK.go ?_
 refine kcall (fun w1 t => checkS_call s A1 A2 A3 A4 n1 k1 _ k2 n3 k3 n4 k4 w1 (hW.le (t.started (by simp))) hH.t.chk) ?_
 refine XK.go ?_
 refine xk_buildS (zs := [.slice none 0 0]) (L := [(0, 1)]) (zeroB_of (by kernel_rfl)) (by kernel_rfl) rfl (by simp [fillL, setN, Value.cells]; rfl) (by decide) ?_
 refine xk_box rfl (by decide) fun g2 => ?_
 dsimp only [Value.cells]
 refine XK.go ?_
 refine XK.nilrow 232 7 ?_
 refine XK.envS [(18, .int .i64 0), (17, .int .i64 s.domains.length), (16, .slice A2 s.domains.length k2), (5, .pointer (some ⟨g2, 0, none⟩))] ?_
 refine XK.loop (fun m e R H => ∃ (i : Nat) (A : Option Addr) (k : Nat), i ≤ s.domains.length ∧ m = s.domains.length - i ∧ e = [(18, .int .i64 i), (17, .int .i64 s.domains.length), (16, .slice A2 s.domains.length k2), (5, .pointer (some ⟨g2, 0, none⟩))] ∧ R = [all w] ∧ H = [HP.own 232 7 (.slice A i k) i ((domsR s (s.domains.map fun _ => dm0)).take i).flatten, HP.blk g2 230 [.slice A i k], HP.blk g1 29 [.slice A1 n1 k1, .slice A2 s.domains.length k2, .slice A3 n3 k3, .slice A4 n4 k4]]) s.domains.length ⟨0, none, 0, by omega, rfl, rfl, rfl, by simp⟩ fun m e R H hI => ?_
 obtain ⟨i, A, k, hi, rfl, rfl, rfl, rfl⟩ := hI
 refine XK.go ?_
 refine XK.if_ rfl (fun hlt => ?_) (fun hge => ?_)
 ·have hlt : i < s.domains.length := by omega
  obtain ⟨c, hc⟩ := get_some hlt
  obtain ⟨b, off, hB, hro⟩ := SlS.row hsd (fun r hr => by obtain ⟨q, _, rfl⟩ := List.mem_map.1 hr; rfl) (r := [.int .i64 c.above, .int .i64 c.delay, .bool c.ret]) (by rw [List.getElem?_map, hc]; rfl) hlt
  subst hB
  have hrow : (domsR s (s.domains.map fun _ => dm0))[i]? = some (domC c dm0) := domsR_get hc (by rw [List.getElem?_map, hc]; rfl)
  have hsucc : ((domsR s (s.domains.map fun _ => dm0)).take (i + 1)).flatten = ((domsR s (s.domains.map fun _ => dm0)).take i).flatten ++ domC c dm0 := by
   rw [List.take_succ, hrow, List.flatten_append]; simp
  refine XK.go ?_
  refine kd (dat i (off + i * 3)) ?_
  refine XK.go ?_
  refine xk_alloc (cs := [.int .i64 0, .int .i64 0, .bool false]) (zeroB_of (by kernel_rfl)) (by decide) fun g3 => ?_
  refine XK.go ?_
  refine XK.drawB [2, 3, 4, 5, 6] ?_
  refine XB.mv 0 ?_
  refine XB.mv 1 ?_
  refine XB.q 2 ?_
  refine XB.q 3 ?_
  refine XB.q 4 ?_
  refine XB.q 5 ?_
  refine XB.q 6 ?_ (hdo := does_buildS (zs := [.int .i64 0, .int .i64 0, .bool false, .int .u8 0, .int .i64 0, .bool false, .bool false]) (L := [(0, 3), (3, 1), (4, 1), (5, 1), (6, 1)]) (zeroB_of (by kernel_rfl)) (by kernel_rfl) rfl (by simp [fillL, setN, Value.cells]; rfl))
  refine XB.next 7 rfl (by kernel_rfl) ?_
  refine xk_slice (el := 232) (sz := 7) (zs := [.int .i64 0, .int .i64 0, .bool false, .int .u8 0, .int .i64 0, .bool false, .bool false]) (by kernel_rfl) (zeroB_of (by kernel_rfl)) (by kernel_rfl) rfl (by decide) (by decide) rfl (by simp [fillL, setN, Value.cells, List.range_succ, List.set]; rfl) (by decide) fun g5 => ?_
  refine XB.bk ?_
  refine XB.next 8 rfl (by kernel_rfl) ?_
  refine xk_appendT 2 7 48 1 (el := 232) (by kernel_rfl) (by kernel_rfl) (by decide) rfl rfl rfl (sl_blk 0 rfl rfl) (by simp [Value.oneCell']) rfl (by omega) (by omega) (by decide) fun A' k' => ?_
  dsimp only [List.set]
  refine XB.bt ?_
  refine XB.next 9 rfl (by kernel_rfl) ?_
  refine kdo ?_
  refine XB.bt ?_
  refine XB.next 10 rfl (by kernel_rfl) ?_
  refine kdo ?_
  refine XB.bt ?_
  refine XB.next 11 rfl (by kernel_rfl) ?_
  refine kst rfl rfl ?_
  dsimp only [List.set]
  refine XB.bt ?_
  refine XB.done (by kernel_rfl) ?_
  refine XK.go ?_
  refine XK.weak [2, 3, 4] rfl (by decide) (fun _ h => h) ?_
  refine XK.envS [(18, .int .i64 (i + 1 : Nat)), (17, .int .i64 s.domains.length), (16, .slice (some ⟨b, off, none⟩) s.domains.length k2), (5, .pointer (some ⟨g2, 0, none⟩))] ?_
  exact XK.round (s.domains.length - (i + 1)) (by omega) ⟨i + 1, A', k', hlt, rfl, rfl, rfl, by rw [hsucc]; rfl⟩
 ·obtain rfl : i = s.domains.length := by omega
  refine XK.go ?_
  have hfull : (domsR s (s.domains.map fun _ => dm0)).take s.domains.length = domsR s (s.domains.map fun _ => dm0) := List.take_of_length_le (by simp [domsR])
  rw [hfull]
  refine XK.weak [1, 0] rfl (by decide) (fun _ h => h) ?_
  refine XK.pair ?_
  refine XK.still [] [] [0] (by simp) rfl (by decide) (by decide) fun q _ _ hfr => ?_
  exact XK.ret2 rfl rfl rfl fun w1 t => ⟨⟨_, _, ⟨w1, q.Z⟩, rfl, rfl, ⟨⟨g2, A, k⟩, rfl, rfl⟩, t.newR (by simp) (by simp) (hfr (by simp) (by simp))⟩, t.below (by simp)⟩
theorem xk_makeMapH {N : Frm} {w0 : World} {e : Env} {R : List Piece} {H : List HP} {Q : Exit → Act → World → Prop} {ops : Array Oper} {rest : List Oper} {d : Nat} {ty : TypeId} {pos : String} {aft : Array Edge} {x : Operand} {n : Int} {t kt et : TypeId} (ht : Tryz.prog.underlying t = some (.map kt et)) (hx : e.ev x = some (.int .i64 n)) (hd : d < N.n) (k : ∀ g, XK N w0 (wpList Tryz.prog ops Q rest) ((d, .map (some g)) :: e) R (HP.map g [] :: H)) : XK N w0 (wpList Tryz.prog ops Q (⟨some d, .makeMap t (some x), ty, pos, aft, none⟩ :: rest)) e R H :=
 xk_run rfl fun a w hr st => ⟨.map (some w.heap.size), w.alloc (.map #[] 0), by simp [execOp, Instr.makeMap, hr.ev hx, run_underlying ht, asInt, asIntOf], k w.heap.size _ _ (hr.put hd _) (st.new (alloc_below w _) ⟨⟨Nat.le_refl _, by simp⟩, #[], 0, heap_alloc_new w _, rfl⟩)⟩
def LinesOk (s : Soc) (v : Value) (hs : List HP) (_ : Piece) : Prop := ∃ L : RL, v = .tuple #[.pointer (some ⟨L.t, 0, none⟩), .int .i64 0] ∧ hs = [LinesH L s (s.resets.map fun _ => ln0)]
theorem mset_new (l : List (Int × Value)) (k : Int) (v : Value) (h : mget l k = none) : mset l k v = l ++ [(k, v)] := by
 induction l with
 | nil => rfl
 | cons p l ih =>
  obtain ⟨a, b⟩ := p
  rw [mget_cons] at h
  rw [mset]
  split at h
  ·cases h
  ·rename_i hne
   rw [if_neg hne, ih h]
   rfl
theorem rstNew_ok (s : Soc) (hH : s.okH) (A1 A2 A3 A4 : Option Addr) (n1 k1 n2 k2 n3 k3 n4 k4 : Nat) (w : World) (hW : SocW w s A1 n1 A2 n2 A3 n3 A4 n4) :
  Calls Tryz.prog 62 #[.agg #[.slice A1 n1 k1, .slice A2 n2 k2, .slice A3 n3 k3, .slice A4 n4 k4]] w (fun y w' => (∃ v hs q, y = .returned v ∧ q.w = w' ∧ LinesOk s v hs q ∧ New w hs q) ∧ Below w.heap.size w w') := by
 have hnr := hH.t.nr
 obtain ⟨rr, hrr, hn3, hst⟩ := hW.rst
 have hrr := rst_rows hrr
 subst hrr; subst hn3
 have hll : (s.resets.map fun _ => ln0).length = s.resets.length := by simp
 refine XK.enter (vs := [.agg #[.slice A1 n1 k1, .slice A2 n2 k2, .slice A3 s.resets.length k3, .slice A4 n4 k4]]) Tryz.func62 rfl Tryz.ntmps62 (by simp) ?_
 refine XK.go ?_
 refine xk_box rfl (by decide) fun g1 => ?_
 dsimp only [Value.cells]
 refine XK.go ?_
 refine kcall (fun w1 t => checkS_call s A1 A2 A3 A4 n1 k1 n2 k2 _ k3 n4 k4 w1 (hW.le (t.started (by simp))) hH.t.chk) ?_
 refine XK.go ?_
 refine xk_makeMapH (kt := 3) (et := 237) (by kernel_rfl) rfl (by decide) fun gm => ?_
 refine xk_buildS (zs := [.map none]) (L := [(0, 1)]) (zeroB_of (by kernel_rfl)) (by kernel_rfl) rfl (by simp [fillL, setN, Value.cells]; rfl) (by decide) ?_
 refine xk_box rfl (by decide) fun g2 => ?_
 dsimp only [Value.cells]
 refine XK.go ?_
 refine XK.envS [(22, .int .i64 0), (21, .int .i64 s.resets.length), (20, .slice A3 s.resets.length k3), (5, .pointer (some ⟨g2, 0, none⟩))] ?_
 refine XK.loop (fun m e R H => ∃ i : Nat, i ≤ s.resets.length ∧ m = s.resets.length - i ∧ e = [(22, .int .i64 i), (21, .int .i64 s.resets.length), (20, .slice A3 s.resets.length k3), (5, .pointer (some ⟨g2, 0, none⟩))] ∧ R = [all w] ∧ H = [HP.blk g2 235 [.map (some gm)], HP.map gm ((List.range i).map (lnE s (s.resets.map fun _ => ln0))), HP.blk g1 29 [.slice A1 n1 k1, .slice A2 n2 k2, .slice A3 s.resets.length k3, .slice A4 n4 k4]]) s.resets.length ⟨0, by omega, rfl, rfl, rfl, rfl⟩ fun m e R H hI => ?_
 obtain ⟨i, hi, rfl, rfl, rfl, rfl⟩ := hI
 refine XK.go ?_
 refine XK.if_ rfl (fun hlt => ?_) (fun hge => ?_)
 ·have hlt : i < s.resets.length := by omega
  obtain ⟨c, hc⟩ := get_some hlt
  obtain ⟨b, off, hB, hro⟩ := SlS.row hst (fun r hr => by obtain ⟨q, _, rfl⟩ := List.mem_map.1 hr; rfl) (r := [.int .i64 c]) (by rw [List.getElem?_map, hc]; rfl) hlt
  subst hB
  have hset : mset ((List.range i).map (lnE s (s.resets.map fun _ => ln0))) (i : Int) (lnV c ln0) = (List.range (i + 1)).map (lnE s (s.resets.map fun _ => ln0)) := by
   rw [mset_new _ _ _ (by
    have := mget_map (fun j => lnV (s.resets.getD j 0) ((s.resets.map fun _ => ln0).getD j ln0)) i (i : Int)
    rw [if_neg (by simp [inB])] at this
    exact this), List.range_succ, List.map_append]
   congr 1
   simp [lnE, List.getD_eq_getElem?_getD, hc]
  refine XK.go ?_
  refine kd (dat i (off + i * 1)) ?_
  refine XK.go ?_
  refine xk_alloc (cs := [.int .i64 0]) (zeroB_of (by kernel_rfl)) (by decide) fun g3 => ?_
  refine XK.go ?_
  refine XK.drawB [1, 2, 3, 5, 6, 7] ?_
  refine XB.mv 0 ?_
  refine XB.q 1 ?_
  refine XB.q 2 ?_
  refine XB.q 3 ?_
  refine XB.mv 4 ?_
  refine XB.q 5 ?_
  refine XB.q 6 ?_
  refine XB.q 7 ?_ (hdo := does_buildS (zs := [.int .i64 0, .int .i64 0, .bool false, .bool false]) (L := [(0, 1), (1, 1), (2, 1), (3, 1)]) (zeroB_of (by kernel_rfl)) (by kernel_rfl) rfl (by simp [fillL, setN, Value.cells]; rfl))
  refine XB.next 8 rfl (by kernel_rfl) ?_
  refine xk_mapUpdate (kt := 3) (et := 237) (kd := .i64) (l := (List.range i).map (lnE s (s.resets.map fun _ => ln0))) (v := lnV c ln0) 2 (by kernel_rfl) (by kernel_rfl) rfl rfl rfl rfl ?_
  rw [hset]
  dsimp only [List.set]
  refine XB.bt ?_
  refine XB.done (by kernel_rfl) ?_
  refine XK.go ?_
  refine XK.weak [1, 2, 3] rfl (by decide) (fun _ h => h) ?_
  refine XK.envS [(22, .int .i64 (i + 1 : Nat)), (21, .int .i64 s.resets.length), (20, .slice (some ⟨b, off, none⟩) s.resets.length k3), (5, .pointer (some ⟨g2, 0, none⟩))] ?_
  exact XK.round (s.resets.length - (i + 1)) (by omega) ⟨i + 1, hlt, rfl, rfl, rfl, rfl⟩
 ·obtain rfl : i = s.resets.length := by omega
  refine XK.go ?_
  refine XK.pair ?_
  refine XK.still [] [] [0] (by simp) rfl (by decide) (by decide) fun q _ _ hfr => ?_
  exact XK.ret2 rfl rfl rfl fun w1 t => ⟨⟨_, _, ⟨w1, q.Z⟩, rfl, rfl, ⟨⟨g2, gm⟩, rfl, by simp [LinesH, lnL]⟩, t.newR (by simp) (by simp) (hfr (by simp) (by simp))⟩, t.below (by simp)⟩
end
section
set_option maxHeartbeats 4000000
set_option maxRecDepth 20000
structure Txn where
 id : Int
 wr : Bool
 reg : Int
 val : Int
def Txn.cells (t : Txn) : List Value := [.int .i64 t.id, .bool t.wr, .int .i64 t.reg, .int .u32 t.val]
def QH (v : Value) : Option Txn → HP
 | none => HP.pure (∃ A, v = .slice A 0 0)
 | some t => HP.own 260 4 v 1 t.cells
structure BL where
 b : Nat
 gr : Nat
 gw : Nat
def wtN (ws : List (Option Txn)) (i : Nat) : Nat := if ((ws[i]?).join).isSome then 1 else 0
def WaitH (g n : Nat) (ws : List (Option Txn)) : HP := HP.ex fun vs : List Value => HP.many (HP.blk g 265 vs :: HP.pure (vs.length = n) :: (List.range n).map fun i => QH (vs.getD i undef) (ws[i]?).join)
def BusH (L : BL) (ms : List Int) (ws : List (Option Txn)) (posted : Int) : HP := HP.many [HP.blk L.b 245 [.slice (some ⟨L.gr, 0, none⟩) ms.length ms.length, .slice (some ⟨L.gw, 0, none⟩) ms.length ms.length, .int .i64 posted], HP.blk L.gr 3 (intCells ms), WaitH L.gw ms.length ws]
structure BusR (w : World) (L : BL) (ms : List Int) (ws : List (Option Txn)) (posted : Int) : Prop where
 r0 : ROn w L.b 0 [.slice (some ⟨L.gr, 0, none⟩) ms.length ms.length, .slice (some ⟨L.gw, 0, none⟩) ms.length ms.length, .int .i64 posted]
 rg : ROn w L.gr 0 (intCells ms)
 wt : ∀ i, i < ms.length → ∃ A c, ROc w L.gw i (.slice A (wtN ws i) c)
theorem BusR.below {w w' : World} {L : BL} {ms : List Int} {ws : List (Option Txn)} {posted : Int} (h : BusR w L ms ws posted) (hb : Below w.heap.size w w') : BusR w' L ms ws posted :=
 ⟨h.r0.below hb, h.rg.below hb, fun i hi => by
  obtain ⟨A, c, h1, h2⟩ := h.wt i hi
  exact ⟨A, c, Nat.lt_of_lt_of_le h1 hb.size, (hb.cell (p := ⟨_, i, none⟩) h1).trans h2⟩⟩
theorem BusH.reads {L : BL} {ms : List Int} {ws : List (Option Txn)} {posted : Int} {F : Nat → Prop} {w : World} (h : (BusH L ms ws posted).sat F w) : BusR w L ms ws posted := by
 obtain ⟨G, g1, g2, _⟩ := h
 refine ⟨blk_ron (g1 0 _ rfl).2, blk_ron (g1 1 _ rfl).2, fun i hi => ?_⟩
 obtain ⟨vs, G', k1, _, _⟩ := g1 2 _ rfl
 have hb := blk_ron (k1 0 _ rfl).2
 have hl : vs.length = ms.length := k1 1 _ rfl
 obtain ⟨v, hv⟩ := get_some (l := vs) (i := i) (by omega)
 have hq := k1 (i + 2) (QH (vs.getD i undef) (ws[i]?).join) (by
  rw [List.getElem?_cons_succ, List.getElem?_cons_succ, List.getElem?_map, List.getElem?_range hi]; rfl)
 rw [List.getD_eq_getElem?_getD, hv] at hq
 have hc := hb.at_ hv
 rw [Nat.zero_add] at hc
 unfold wtN
 cases hj : (ws[i]?).join with
 | none =>
  rw [hj] at hq
  obtain ⟨A, hA⟩ : ∃ A, v = .slice A 0 0 := hq
  subst hA
  exact ⟨A, 0, hc⟩
 | some t =>
  rw [hj] at hq
  obtain ⟨A, c, hA, _⟩ := SlS.of_own (Y := fun _ => True) hq (fun _ _ => trivial)
  have hA : v = .slice A 1 c := hA
  subst hA
  exact ⟨A, c, hc⟩
section
variable {N : Frm} {w0 w : World} {e : Env} {R : List Piece} {H : List HP} {K : Act → World → Prop} {L : BL} {ms : List Int} {ws : List (Option Txn)} {posted : Int}
end
theorem busHas_any (L : BL) (ms : List Int) (ws : List (Option Txn)) (posted : Int) (i : Int) (w : World) (hR : BusR w L ms ws posted) :
  Calls Tryz.prog 166 #[.pointer (some ⟨L.b, 0, none⟩), .int .i64 i] w (Rt (.bool (inB ms.length i)) w) := by
 have k0 := hR.r0.at_ (j := 0) rfl
 refine XK.enter (vs := [.pointer (some ⟨L.b, 0, none⟩), .int .i64 i]) Tryz.func166 rfl Tryz.ntmps166 (by simp) ?_
 refine XK.go ?_
 refine xk_split (t := 11) rfl (fun h => ?_) (fun h => ?_)
 ·refine XK.go ?_
  refine XK.retE (by simp) ?_
  unfold inB
  congr 1
  simp; omega
 ·refine XK.go ?_
  refine XK.retE (by simp) ?_
  have : inB ms.length i = false := decide_eq_false (by omega)
  rw [this]
theorem busWaiting_any (L : BL) (ms : List Int) (ws : List (Option Txn)) (posted : Int) (i : Nat) (hi : i < ms.length) (w : World) (hR : BusR w L ms ws posted) :
  Calls Tryz.prog 82 #[.pointer (some ⟨L.b, 0, none⟩), .int .i64 (i : Int)] w (Rt (.int .i64 (wtN ws i : Nat)) w) := by
 have k1 := hR.r0.at_ (j := 1) rfl
 obtain ⟨A, c, hw⟩ := hR.wt i hi
 have hin : inB ms.length (i : Int) = true := decide_eq_true (by omega)
 refine XK.enter (vs := [.pointer (some ⟨L.b, 0, none⟩), .int .i64 (i : Int)]) Tryz.func82 rfl Tryz.ntmps82 (by simp) ?_
 refine XK.go ?_
 refine kcall (fun w1 t => busHas_any L ms ws posted i w1 (hR.below (t.below (by simp)))) ?_
 rw [hin]
 refine XK.go ?_
 refine kd (dat i i) ?_
 refine XK.go ?_
 exact XK.retE (by simp) rfl
def BusOk (ms : List Int) (v : Value) (hs : List HP) (_ : Piece) : Prop := ∃ L : BL, v = .tuple #[.pointer (some ⟨L.b, 0, none⟩), .int .i64 0] ∧ hs = [BusH L ms (ms.map fun _ => none) 0]
theorem waitH_new {N : Frm} {w0 : World} {e : Env} {R : List Piece} {H : List HP} {K : Act → World → Prop} {g n : Nat} {β : Type} (l : List β) (hl : l.length = n) (i : Nat) (hi : H[i]? = some (HP.blk g 265 (List.replicate n (.slice none 0 0)))) (h : XK N w0 K e R (H.set i (WaitH g n (l.map fun _ => none)))) : XK N w0 K e R H := by
 refine XK.reuse (q := WaitH g n (l.map fun _ => none)) i hi (fun F w hs => ⟨List.replicate n (.slice none 0 0), fun k b => k = 0 ∧ F b, fun k p hk => ?_, fun k b h => h.2, fun k j b hkj h1 h2 => by have := h1.1; have := h2.1; omega⟩) h
 match k, hk with
 | 0, hk =>
  simp at hk; subst hk
  show (HP.blk g 265 (List.replicate n (.slice none 0 0))).sat (fun b => 0 = 0 ∧ F b) w
  rw [show (fun b => 0 = 0 ∧ F b) = F by funext b; simp]
  exact hs
 | 1, hk => cases hk; show (List.replicate n (Value.slice none 0 0)).length = n; simp
 | k + 2, hk =>
  rw [List.getElem?_cons_succ, List.getElem?_cons_succ, List.getElem?_map] at hk
  cases hr : (List.range n)[k]? with
  | none => rw [hr] at hk; cases hk
  | some j =>
   rw [hr] at hk
   have hj : j < n := List.mem_range.1 (List.mem_of_getElem? hr)
   have : ((l.map fun _ => (none : Option Txn))[j]?).join = none := by
    rw [List.getElem?_map]
    cases l[j]? <;> rfl
   simp only [Option.map_some, Option.some.injEq, this] at hk
   subst hk
   refine ⟨none, ?_⟩
   rw [List.getD_eq_getElem?_getD, List.getElem?_replicate, if_pos hj]
   rfl
theorem busNew_ok (ms : List Int) (hml : ms.length ≤ 6) (hm : ∀ m ∈ ms, 0 ≤ m ∧ m ≤ 8) (A : Option Addr) (c : Nat) (w : World) (hs : SlS (all w) 1 A ms.length (intCells ms)) :
  Calls Tryz.prog 66 #[.slice A ms.length c] w (fun y w' => (∃ v hs q, y = .returned v ∧ q.w = w' ∧ BusOk ms v hs q ∧ New w hs q) ∧ Below w.heap.size w w') := by
 refine XK.enter (vs := [.slice A ms.length c]) Tryz.func66 rfl Tryz.ntmps66 (by simp) ?_
 refine XK.seq ?_
 refine XK.region ?_
 refine kdo ?_
 refine kdo ?_
 refine XK.nilN ?_
 refine XK.seq ?_
 refine XK.seq ?_
 refine XK.region ?_
 refine kdo ?_
 refine kdo ?_
 refine kdo ?_
 refine XK.nilN ?_
 refine XK.if_ rfl (fun h => absurd h (by omega)) (fun _ => ?_)
 refine XK.skip ?_
 refine XK.norm ?_
 refine XK.cut (fun e R H => ∃ gr gw g3, e = [(4, .pointer (some ⟨g3, 0, none⟩)), (0, .slice A ms.length c)] ∧ R = [all w] ∧ H = [HP.blk g3 245 [.slice (some ⟨gr, 0, none⟩) ms.length ms.length, .slice (some ⟨gw, 0, none⟩) ms.length ms.length, .int .i64 0], HP.blk gr 3 (List.replicate ms.length (.int .i64 0)), HP.blk gw 265 (List.replicate ms.length (.slice none 0 0))]) ?_ ?_
 ·refine XK.draw 6 (by kernel_rfl) (by kernel_rfl) ?_
  refine XA.q 0 ?_
  refine XA.q 1 ?_
  refine XA.q 3 ?_
  refine XA.q 4 ?_
  refine XA.either 2 5 rfl rfl (by kernel_rfl) ?_ ?_
  ·refine xk_makeT (n := ms.length) 8 (el := 3) (z := .int .i64 0) (by kernel_rfl) (by kernel_rfl) rfl rfl rfl (by omega) (by omega) (by decide) fun gr => ?_
   refine XA.bk ?_
   refine XA.next 5 rfl (by kernel_rfl) ?_
   refine xk_makeT (n := ms.length) 24 (el := 265) (z := .slice none 0 0) (by kernel_rfl) (by kernel_rfl) rfl rfl rfl (by omega) (by omega) (by decide) fun gw => ?_
   refine XA.bk ?_
   refine XA.next 6 rfl (by kernel_rfl) ?_
   refine xk_buildS (zs := [.slice none 0 0, .slice none 0 0, .int .i64 0]) (L := [(0, 1), (1, 1), (2, 1)]) (zeroB_of (by kernel_rfl)) (by kernel_rfl) rfl (by simp [fillL, setN, Value.cells]; rfl) (by decide) ?_
   refine XA.bt ?_
   refine XA.next 7 rfl (by kernel_rfl) ?_
   refine xk_box rfl (by decide) fun g3 => ?_
   dsimp only [Value.cells]
   refine XA.bt ?_
   refine XA.next 8 rfl (by kernel_rfl) ?_
   refine kdo ?_
   refine XA.bt ?_
   refine XA.done (by kernel_rfl) ?_
   refine XK.norm ?_
   exact XK.weak [0, 2, 1] rfl (by decide) (by simp) (XK.envS [(4, .pointer (some ⟨g3, 0, none⟩)), (0, .slice A ms.length c)] (XK.meet ⟨gr, gw, g3, rfl, rfl, rfl⟩))
  ·refine xk_makeT (n := ms.length) 24 (el := 265) (z := .slice none 0 0) (by kernel_rfl) (by kernel_rfl) rfl rfl rfl (by omega) (by omega) (by decide) fun gw => ?_
   refine XA.bk ?_
   refine XA.next 2 rfl (by kernel_rfl) ?_
   refine xk_makeT (n := ms.length) 8 (el := 3) (z := .int .i64 0) (by kernel_rfl) (by kernel_rfl) rfl rfl rfl (by omega) (by omega) (by decide) fun gr => ?_
   refine XA.bk ?_
   refine XA.next 6 rfl (by kernel_rfl) ?_
   refine xk_buildS (zs := [.slice none 0 0, .slice none 0 0, .int .i64 0]) (L := [(0, 1), (1, 1), (2, 1)]) (zeroB_of (by kernel_rfl)) (by kernel_rfl) rfl (by simp [fillL, setN, Value.cells]; rfl) (by decide) ?_
   refine XA.bt ?_
   refine XA.next 7 rfl (by kernel_rfl) ?_
   refine xk_box rfl (by decide) fun g3 => ?_
   dsimp only [Value.cells]
   refine XA.bt ?_
   refine XA.next 8 rfl (by kernel_rfl) ?_
   refine kdo ?_
   refine XA.bt ?_
   refine XA.done (by kernel_rfl) ?_
   refine XK.norm ?_
   exact XK.weak [0, 1, 2] rfl (by decide) (by simp) (XK.envS [(4, .pointer (some ⟨g3, 0, none⟩)), (0, .slice A ms.length c)] (XK.meet ⟨gr, gw, g3, rfl, rfl, rfl⟩))
 rintro _ _ _ ⟨gr, gw, g3, rfl, rfl, rfl⟩
 refine XK.go ?_
 refine XK.envS [(20, .int .i64 0), (19, .int .i64 ms.length), (18, .slice A ms.length c), (4, .pointer (some ⟨g3, 0, none⟩))] ?_
 refine XK.loop (fun m e R H => ∃ i : Nat, i ≤ ms.length ∧ m = ms.length - i ∧ e = [(20, .int .i64 i), (19, .int .i64 ms.length), (18, .slice A ms.length c), (4, .pointer (some ⟨g3, 0, none⟩))] ∧ R = [all w] ∧ H = [HP.blk g3 245 [.slice (some ⟨gr, 0, none⟩) ms.length ms.length, .slice (some ⟨gw, 0, none⟩) ms.length ms.length, .int .i64 0], HP.blk gr 3 (intCells (midN ms (ms.map fun _ => 0) i)), HP.blk gw 265 (List.replicate ms.length (.slice none 0 0))]) ms.length ⟨0, by omega, rfl, rfl, rfl, by
  rw [midN_zero]
  have : List.replicate ms.length (Value.int .i64 0) = intCells (ms.map fun _ => 0) := by
   refine List.ext_getElem? fun j => ?_
   simp only [intCells, List.map_map, List.getElem?_replicate, List.getElem?_map]
   by_cases h : j < ms.length
   ·rw [if_pos h, List.getElem?_eq_getElem h]; rfl
   ·rw [if_neg h, List.getElem?_eq_none (by omega)]; rfl
  rw [this]⟩ fun m e R H hI => ?_
 obtain ⟨i, hi, rfl, rfl, rfl, rfl⟩ := hI
 have hml2 := midN_len (vs := ms) (old := ms.map fun _ => 0) (n := ms.length) rfl (by simp) hi
 refine XK.go ?_
 refine XK.if_ rfl (fun hlt => ?_) (fun hge => ?_)
 ·have hlt : i < ms.length := by omega
  obtain ⟨v, hv⟩ := get_some hlt
  have hvb := hm v (List.mem_of_getElem? hv)
  obtain ⟨b, off, hB, hz, hc⟩ := hs.2 (by omega)
  subst hB
  have hro : ROc w b (off + i) (.int .i64 v) := ⟨hz, hc i _ (by simp [intCells, hv])⟩
  have hcl : (intCells (midN ms (ms.map fun _ => 0) i)).length = ms.length := by simp [intCells, hml2]
  have hset : (intCells (midN ms (ms.map fun _ => 0) i)).set i (.int .i64 v) = intCells (midN ms (ms.map fun _ => 0) (i + 1)) := by
   rw [← midN_set (by simp) hv, intCells, intCells, List.map_set]
  refine XK.go ?_
  refine kd (dat i (off + i)) ?_
  refine XK.go ?_
  refine xk_split (t := 27) rfl (fun h => absurd h (by omega)) (fun _ => ?_)
  refine XK.go ?_
  refine XK.if_ rfl (fun h => absurd h (by omega)) (fun _ => ?_)
  refine XK.go ?_
  refine kd (dat i i) ?_
  refine kst rfl rfl ?_
  dsimp only [List.set]
  rw [hset]
  refine XK.go ?_
  refine XK.envS [(20, .int .i64 (i + 1 : Nat)), (19, .int .i64 ms.length), (18, .slice (some ⟨b, off, none⟩) ms.length c), (4, .pointer (some ⟨g3, 0, none⟩))] ?_
  exact XK.round (ms.length - (i + 1)) (by omega) ⟨i + 1, hlt, rfl, rfl, rfl, rfl⟩
 ·obtain rfl : i = ms.length := by omega
  rw [midN_all rfl (by simp)]
  refine XK.go ?_
  refine waitH_new ms rfl 2 rfl ?_
  dsimp only [List.set]
  refine XK.three ?_
  refine XK.still [] [] [0] (by simp) rfl (by decide) (by decide) fun q _ _ hfr => ?_
  exact XK.ret2 rfl rfl rfl fun w1 t => ⟨⟨_, _, ⟨w1, q.Z⟩, rfl, rfl, ⟨⟨g3, gr, gw⟩, rfl, rfl⟩, t.newR (by simp) (by simp) (hfr (by simp) (by simp))⟩, t.below (by simp)⟩
end
section
set_option maxHeartbeats 4000000
set_option maxRecDepth 20000
structure HwS where
 ck : List CkS
 dm : List DmS
 ln : List LnS
 dv : List (FlS × QtS)
 wt : List (Option Txn)
 posted : Int
def hw0 (s : Soc) : HwS := ⟨s.clocks.map ck0, s.domains.map fun _ => dm0, s.resets.map fun _ => ln0, s.devs.map fun d => (fl0 d, qt0), s.devs.map fun _ => none, 0⟩
structure HL where
 h : Nat
 T : TL
 G : GL
 R : RL
 B : BL
 A : Option Addr
 c : Nat
 ds : List (FL × Nat)
def dvC (d : Dev) (l : FL × Nat) : List Value := [.int .i64 d.clock, .int .i64 d.domain, .int .i64 d.reset, .int .u32 d.clamp, .pointer (some ⟨l.1.f, 0, none⟩), .pointer (some ⟨l.2, 0, none⟩)]
def dvRows (ds : List Dev) (ls : List (FL × Nat)) : List (List Value) := List.zipWith dvC ds ls
def dvH1 (d : Dev) (p : (FL × Nat) × (FlS × QtS)) : HP := HP.many [FileH p.1.1 d p.2.1, QtH p.1.2 p.2.2]
def dvHs (ds : List Dev) (ls : List (FL × Nat)) (xs : List (FlS × QtS)) : List HP := List.zipWith dvH1 ds (ls.zip xs)
def msF (s : Soc) : List Int := s.devs.map fun d => (d.regs.length : Int)
def hdC (L : HL) (n : Nat) : List Value := [.pointer (some ⟨L.T.t, 0, none⟩), .pointer (some ⟨L.G.t, 0, none⟩), .pointer (some ⟨L.R.t, 0, none⟩), .pointer (some ⟨L.B.b, 0, none⟩), .slice L.A n L.c]
def HardH (L : HL) (s : Soc) (x : HwS) : HP := HP.many [HP.blk L.h 134 (hdC L s.devs.length), TreeH L.T s x.ck, GridH L.G s x.dm, LinesH L.R s x.ln, BusH L.B (msF s) x.wt x.posted, HP.own 141 6 (.slice L.A s.devs.length L.c) s.devs.length (dvRows s.devs L.ds).flatten, HP.many (dvHs s.devs L.ds x.dv)]
def HardOk (s : Soc) (v : Value) (hs : List HP) (_ : Piece) : Prop := ∃ L : HL, v = .tuple #[.pointer (some ⟨L.h, 0, none⟩), .int .i64 0] ∧ hs = [HardH L s (hw0 s)] ∧ L.T.fa.length = s.clocks.length ∧ L.ds.length = s.devs.length
theorem msF_len (s : Soc) : (msF s).length = s.devs.length := by simp [msF]
theorem dvHs_snoc {ds : List Dev} {i : Nat} {d : Dev} (hd : ds[i]? = some d) {ls : List (FL × Nat)} (hl : ls.length = i) (l : FL × Nat) : dvHs (ds.take (i + 1)) (ls ++ [l]) ((ds.take (i + 1)).map fun d => (fl0 d, qt0)) = dvHs (ds.take i) ls ((ds.take i).map fun d => (fl0 d, qt0)) ++ [dvH1 d (l, (fl0 d, qt0))] := by
 have hlt : i < ds.length := hlt_of hd
 rw [List.take_succ, hd, Option.toList_some, List.map_append]
 unfold dvHs
 rw [List.zip_append (by simp; omega), List.zipWith_append (by simp; omega)]
 rfl
theorem dvRows_snoc {ds : List Dev} {i : Nat} {d : Dev} (hd : ds[i]? = some d) {ls : List (FL × Nat)} (hl : ls.length = i) (l : FL × Nat) : (dvRows (ds.take (i + 1)) (ls ++ [l])).flatten = (dvRows (ds.take i) ls).flatten ++ dvC d l := by
 have hlt : i < ds.length := hlt_of hd
 rw [List.take_succ, hd, Option.toList_some]
 unfold dvRows
 rw [List.zipWith_append (by simp; omega), List.flatten_append]
 simp
theorem XK.more {N : Frm} {w0 : World} {e : Env} {R : List Piece} {H : List HP} {K : Act → World → Prop} {p : HP} {ps : List HP} (h : XK N w0 K e R (HP.many (ps ++ [p]) :: H)) : XK N w0 K e R (HP.many ps :: p :: H) := fun a w hr st =>
 (XK.push (ps := ps) (p := p) h) a w hr (st.weak (fun _ h => h) (fun i => match i with
  | 0 => 1
  | 1 => 0
  | i + 2 => i + 2) (fun i j _ _ he => by
   match i, j with
   | 0, 0 => rfl
   | 0, 1 => simp at he
   | 0, j + 2 => simp at he
   | 1, 0 => simp at he
   | 1, 1 => rfl
   | 1, j + 2 => simp at he
   | i + 2, 0 => simp at he
   | i + 2, 1 => simp at he
   | i + 2, j + 2 => simpa using he) (fun i p hi => by
   match i, hi with
   | 0, hi => simpa using hi
   | 1, hi => simpa using hi
   | i + 2, hi => simpa using hi))
theorem XK.nilMany {N : Frm} {w0 : World} {e : Env} {R : List Piece} {H : List HP} {K : Act → World → Prop} (h : XK N w0 K e R (HP.many [] :: H)) : XK N w0 K e R H := XK.chunk0 (p := HP.many []) (fun w => ⟨fun _ _ => False, fun i p hp => by simp at hp, fun _ _ h => h, fun _ _ _ _ h => h.elim⟩) h
theorem hardNew_ok (s : Soc) (hH : s.okH) (A1 A2 A3 A4 : Option Addr) (n1 k1 n2 k2 n3 k3 n4 k4 : Nat) (w : World) (hW : SocW w s A1 n1 A2 n2 A3 n3 A4 n4) :
  Calls Tryz.prog 15 #[.agg #[.slice A1 n1 k1, .slice A2 n2 k2, .slice A3 n3 k3, .slice A4 n4 k4]] w (fun y w' => (∃ v hs q, y = .returned v ∧ q.w = w' ∧ HardOk s v hs q ∧ New w hs q) ∧ Below w.heap.size w w') := by
 have hnv := hH.t.nv
 obtain ⟨rv, hrv, hn4, hsv⟩ := hW.dev
 obtain ⟨da, hdl, rfl, hda⟩ := dev_rows hrv
 subst hn4
 refine XK.enter (vs := [.agg #[.slice A1 n1 k1, .slice A2 n2 k2, .slice A3 n3 k3, .slice A4 s.devs.length k4]]) Tryz.func15 rfl Tryz.ntmps15 (by simp) ?_
 refine XK.go ?_
 refine xk_box rfl (by decide) fun g1 => ?_
 dsimp only [Value.cells]
 refine XK.go ?_
 refine kcall (fun w1 t => checkS_call s A1 A2 A3 A4 n1 k1 n2 k2 n3 k3 _ k4 w1 (hW.le (t.started (by simp))) hH.t.chk) ?_
 refine XK.go ?_
 refine xk_callN (f := 60) (fi := []) (ca := []) (by kernel_rfl) rfl rfl (by decide) (TreeOk s) (fun w1 t => clkNew_ok s hH A1 A2 A3 A4 n1 k1 n2 k2 n3 k3 _ k4 w1 (hW.le (t.started (by simp)))) ?_
 rintro _ _ q1 ⟨LT, rfl, rfl, hfa⟩ _
 dsimp only [List.cons_append, List.nil_append]
 refine XK.go ?_
 refine xk_callN (f := 61) (fi := []) (ca := []) (by kernel_rfl) rfl rfl (by decide) (GridOk s) (fun w1 t => powNew_ok s hH A1 A2 A3 A4 n1 k1 n2 k2 n3 k3 _ k4 w1 (hW.le (t.started (by simp)))) ?_
 rintro _ _ q2 ⟨LG, rfl, rfl⟩ _
 dsimp only [List.cons_append, List.nil_append]
 refine XK.go ?_
 refine xk_callN (f := 62) (fi := []) (ca := []) (by kernel_rfl) rfl rfl (by decide) (LinesOk s) (fun w1 t => rstNew_ok s hH A1 A2 A3 A4 n1 k1 n2 k2 n3 k3 _ k4 w1 (hW.le (t.started (by simp)))) ?_
 rintro _ _ q3 ⟨LR, rfl, rfl⟩ _
 dsimp only [List.cons_append, List.nil_append]
 refine XK.go ?_
 refine xk_buildS (zs := [.pointer none, .pointer none, .pointer none, .pointer none, .slice none 0 0]) (L := [(0, 1), (1, 1), (2, 1), (3, 1), (4, 1)]) (zeroB_of (by kernel_rfl)) (by kernel_rfl) rfl (by simp [fillL, setN, Value.cells]; rfl) (by decide) ?_
 refine xk_box rfl (by decide) fun g2 => ?_
 dsimp only [Value.cells]
 refine XK.go ?_
 refine xk_makeT (n := s.devs.length) 8 (el := 3) (z := .int .i64 0) (by kernel_rfl) (by kernel_rfl) rfl rfl rfl (by omega) (by omega) (by decide) fun gm => ?_
 refine XK.go ?_
 refine XK.nilrow 141 6 ?_
 refine XK.nilMany ?_
 refine XK.weak [0, 1, 2, 3, 4, 5, 6] rfl (by decide) (R' := [all w]) (by simp) ?_
 refine XK.envS [(56, .int .i64 0), (55, .int .i64 s.devs.length), (54, .slice A4 s.devs.length k4), (10, .slice (some ⟨gm, 0, none⟩) s.devs.length s.devs.length), (9, .pointer (some ⟨g2, 0, none⟩))] ?_
 refine XK.loop (fun m e R H => ∃ (i : Nat) (A : Option Addr) (c : Nat) (ls : List (FL × Nat)), i ≤ s.devs.length ∧ ls.length = i ∧ m = s.devs.length - i ∧ e = [(56, .int .i64 i), (55, .int .i64 s.devs.length), (54, .slice A4 s.devs.length k4), (10, .slice (some ⟨gm, 0, none⟩) s.devs.length s.devs.length), (9, .pointer (some ⟨g2, 0, none⟩))] ∧ R = [all w] ∧ H = [HP.many (dvHs (s.devs.take i) ls ((s.devs.take i).map fun d => (fl0 d, qt0))), HP.own 141 6 (.slice A i c) i (dvRows (s.devs.take i) ls).flatten, HP.blk gm 3 (intCells (midN (msF s) ((msF s).map fun _ => 0) i)), HP.blk g2 134 [.pointer (some ⟨LT.t, 0, none⟩), .pointer (some ⟨LG.t, 0, none⟩), .pointer (some ⟨LR.t, 0, none⟩), .pointer none, .slice A i c], LinesH LR s (hw0 s).ln, GridH LG s (hw0 s).dm, TreeH LT s (hw0 s).ck]) s.devs.length ⟨0, none, 0, [], by omega, rfl, rfl, rfl, rfl, ?_⟩ fun m e R H hI => ?_
 ·have : List.replicate s.devs.length (Value.int .i64 0) = intCells (midN (msF s) ((msF s).map fun _ => 0) 0) := by
   rw [midN_zero]
   refine List.ext_getElem? fun j => ?_
   simp only [intCells, msF, List.map_map, List.getElem?_replicate, List.getElem?_map]
   by_cases h : j < s.devs.length
   ·rw [if_pos h, List.getElem?_eq_getElem h]; rfl
   ·rw [if_neg h, List.getElem?_eq_none (by omega)]; rfl
  rw [this]
  rfl
 obtain ⟨i, A, c, ls, hi, hll, rfl, rfl, rfl, rfl⟩ := hI
 have hml := msF_len s
 have hml2 := midN_len (vs := msF s) (old := (msF s).map fun _ => 0) (n := s.devs.length) hml (by simp [msF]) hi
 refine XK.go ?_
 refine XK.if_ rfl (fun hlt => ?_) (fun hge => ?_)
 ·have hlt : i < s.devs.length := by omega
  obtain ⟨d, hd⟩ := get_some hlt
  obtain ⟨⟨a1, a2⟩, ha⟩ := get_some (l := da) (i := i) (by omega)
  obtain ⟨hregs, hneeds⟩ := hda i d _ hd ha
  have hfit := hH.t.devs i d hd
  obtain ⟨b, off, hB, hro⟩ := SlS.row hsv (zw_len (f := devC) (es := s.devs) (bs := da) (sz := 6) hdl (fun _ _ => rfl)).2 (zw_get (f := devC) hd ha) hlt
  subst hB
  refine XK.go ?_
  refine kd (dat i (off + i * 6)) ?_
  refine XK.go ?_
  refine xk_alloc (cs := [.int .i64 0, .int .i64 0, .int .i64 0, .int .u32 0, .slice none 0 0, .slice none 0 0]) (zeroB_of (by kernel_rfl)) (by decide) fun g3 => ?_
  have hmi : (msF s)[i]? = some (d.regs.length : Int) := by rw [msF, List.getElem?_map, hd]; rfl
  have hcl : (intCells (midN (msF s) ((msF s).map fun _ => 0) i)).length = s.devs.length := by simp [intCells, hml2]
  have hset : (intCells (midN (msF s) ((msF s).map fun _ => 0) i)).set i (.int .i64 d.regs.length) = intCells (midN (msF s) ((msF s).map fun _ => 0) (i + 1)) := by
   rw [← midN_set (by simp) hmi, intCells, intCells, List.map_set]
  refine XK.go ?_
  refine xk_callN (f := 63) (fi := []) (ca := []) (by kernel_rfl) rfl rfl (by decide) (FileOk d) (fun w1 t => regsNew_ok d (by have := hfit.2.2.2.2.2.2.2.2.1; omega) (fun r hr => by have := hfit.2.2.2.2.2.2.2.2.2.1 r hr; omega) a1.1 a1.2 w1 (SlS.le hregs (t.le (by simp)))) ?_
  rintro _ _ q1 ⟨LF, rfl, rfl⟩ _
  dsimp only [List.cons_append, List.nil_append]
  refine XK.go ?_
  refine kcall (fun w1 t => regsMany_any LF d (fl0 d) w1 (t.fileR 0 rfl)) ?_
  refine XK.go ?_
  refine kd (dat i i) ?_
  refine kst rfl rfl ?_
  dsimp only [List.set]
  rw [hset]
  refine XK.go ?_
  refine XK.drawB [2, 3, 4, 5, 6, 7, 8, 9, 10, 11, 12] ?_
  refine XB.mv 0 ?_
  refine XB.mv 1 ?_
  refine XB.mv 13 ?_
  refine XB.q 2 ?_
  refine XB.q 3 ?_
  refine XB.q 4 ?_
  refine XB.q 5 ?_
  refine XB.q 6 ?_
  refine XB.q 7 ?_
  refine XB.q 8 ?_
  refine XB.q 9 ?_
  refine XB.q 10 ?_
  refine XB.q 11 ?_
  refine XB.q 12 ?_
  refine XB.next 14 rfl (by kernel_rfl) ?_
  refine xk_callN (f := 65) (fi := []) (ca := []) (by kernel_rfl) rfl rfl (by decide) (fun v hs _ => ∃ g, v = .pointer (some ⟨g, 0, none⟩) ∧ hs = [HP.blk g 242 [.int .i64 0, .int .i64 0]]) (fun w1 t => quietNew_ok w1) ?_
  rintro _ _ q2 ⟨gq, rfl, rfl⟩ _
  dsimp only [List.cons_append, List.nil_append]
  refine XB.bk ?_
  refine XB.next 15 rfl (by kernel_rfl) ?_
  refine xk_buildS (zs := [.int .i64 0, .int .i64 0, .int .i64 0, .int .u32 0, .pointer none, .pointer none]) (L := [(0, 1), (1, 1), (2, 1), (3, 1), (4, 1), (5, 1)]) (zeroB_of (by kernel_rfl)) (by kernel_rfl) rfl (by simp [fillL, setN, Value.cells]; rfl) (by decide) ?_
  refine XB.bk ?_
  refine XB.next 16 rfl (by kernel_rfl) ?_
  refine xk_slice (el := 141) (sz := 6) (zs := [.int .i64 0, .int .i64 0, .int .i64 0, .int .u32 0, .pointer none, .pointer none]) (by kernel_rfl) (zeroB_of (by kernel_rfl)) (by kernel_rfl) rfl (by decide) (by decide) rfl (by simp [fillL, setN, Value.cells, List.range_succ, List.set]; rfl) (by decide) fun g4 => ?_
  refine XB.bk ?_ (hS := fun _ h => h.tail.tailR.tail)
  refine XB.next 17 rfl (by kernel_rfl) ?_
  refine xk_appendT 5 6 48 1 (n' := i + 1) (el := 141) (by kernel_rfl) (by kernel_rfl) (by decide) rfl rfl rfl (sl_blk 0 rfl rfl) (by simp [Value.oneCell']) rfl (by omega) (by omega) (by decide) fun An cn => ?_
  dsimp only [List.set]
  refine XB.bt ?_
  refine XB.next 18 rfl (by kernel_rfl) ?_
  refine kdo ?_
  refine XB.bt ?_
  refine XB.next 19 rfl (by kernel_rfl) ?_
  refine kdo ?_
  refine XB.bt ?_
  refine XB.next 20 rfl (by kernel_rfl) ?_
  refine kst rfl rfl ?_
  dsimp only [List.set]
  refine XB.bt ?_
  refine XB.done (by kernel_rfl) ?_
  refine XK.go ?_
  refine XK.weak [2, 1, 4, 5, 6, 7, 8, 9, 10] rfl (by decide) (R' := [all w]) (by simp) ?_
  refine XK.pair ?_
  refine XK.push ?_
  refine XK.envS [(56, .int .i64 (i + 1 : Nat)), (55, .int .i64 s.devs.length), (54, .slice (some ⟨b, off, none⟩) s.devs.length k4), (10, .slice (some ⟨gm, 0, none⟩) s.devs.length s.devs.length), (9, .pointer (some ⟨g2, 0, none⟩))] ?_
  exact XK.round (s.devs.length - (i + 1)) (by omega) ⟨i + 1, An, cn, ls ++ [(LF, gq)], hlt, by simp; omega, rfl, rfl, rfl, by rw [dvHs_snoc hd hll, dvRows_snoc hd hll]; rfl⟩
 ·obtain rfl : i = s.devs.length := by omega
  rw [midN_all hml (by simp [msF])]
  rw [List.take_length]
  refine XK.go ?_
  refine xk_callN (f := 66) (fi := []) (ca := []) (by kernel_rfl) rfl rfl (by decide) (BusOk (msF s)) (fun w1 t => by
   have := busNew_ok (msF s) (by omega) (fun m hm => by
    obtain ⟨d, hd, rfl⟩ := List.mem_map.1 hm
    obtain ⟨j, hj⟩ := List.getElem?_of_mem hd
    have := (hH.t.devs j d hj).2.2.2.2.2.2.2.2.1
    omega) (some ⟨gm, 0, none⟩) s.devs.length w1
   rw [hml] at this
   exact this (t.slS (i := 2) rfl (by simp [intCells, hml]))) ?_
  rintro _ _ q1 ⟨LB, rfl, rfl⟩ _
  dsimp only [List.cons_append, List.nil_append]
  refine XK.go ?_
  refine XK.weak [4, 7, 6, 5, 0, 2, 1] rfl (by decide) (R' := [all w]) (by simp) ?_
  refine XK.pair ?_
  refine XK.more ?_
  refine XK.more ?_
  refine XK.more ?_
  refine XK.more ?_
  refine XK.more ?_
  dsimp only [List.cons_append, List.nil_append]
  refine XK.still [] [] [0] (by simp) rfl (by decide) (by decide) fun q _ _ hfr => ?_
  exact XK.ret2 rfl rfl rfl fun w1 t => ⟨⟨_, _, ⟨w1, q.Z⟩, rfl, rfl, ⟨⟨g2, LT, LG, LR, LB, A, c, ls⟩, rfl, by simp [HardH, hdC, hw0, msF, Function.comp_def], hfa, hll⟩, t.newR (by simp) (by simp) (hfr (by simp) (by simp))⟩, t.below (by simp)⟩
end
section
set_option maxHeartbeats 4000000
set_option maxRecDepth 20000
structure HwOk (s : Soc) (x : HwS) : Prop where
 ck : CkOk s x.ck
 dm : DmOk s x.dm
 ln : LnOk s x.ln
 dv : x.dv.length = s.devs.length
 each : ∀ (i : Nat) (d : Dev) (p : FlS × QtS), s.devs[i]? = some d → x.dv[i]? = some p → FlOk d p.1 ∧ QtOk p.2
 wt : x.wt.length = s.devs.length
structure HLOk (L : HL) (s : Soc) : Prop where
 fa : L.T.fa.length = s.clocks.length
 ds : L.ds.length = s.devs.length
structure HardR (w : World) (L : HL) (s : Soc) (x : HwS) : Prop where
 r0 : ROn w L.h 0 (hdC L s.devs.length)
 tree : TreeR w L.T s x.ck
 grid : GridR w L.G s x.dm
 lines : LinesR w L.R s x.ln
 bus : BusR w L.B (msF s) x.wt x.posted
 rows : SlS (all w) 6 L.A s.devs.length (dvRows s.devs L.ds).flatten
 each : ∀ (i : Nat) (d : Dev) (l : FL × Nat) (p : FlS × QtS), s.devs[i]? = some d → L.ds[i]? = some l → x.dv[i]? = some p → FileR w l.1 d p.1 ∧ ROn w l.2 0 (QtC p.2)
theorem HardR.below {w w' : World} {L : HL} {s : Soc} {x : HwS} (h : HardR w L s x) (hb : Below w.heap.size w w') : HardR w' L s x :=
 ⟨h.r0.below hb, h.tree.below hb, RowR.below h.grid hb, h.lines.below hb, h.bus.below hb, h.rows.le (all_le hb), fun i d l p h1 h2 h3 => ⟨(h.each i d l p h1 h2 h3).1.below hb, (h.each i d l p h1 h2 h3).2.below hb⟩⟩
theorem HardH.reads {L : HL} {s : Soc} {x : HwS} {F : Nat → Prop} {w : World} (h : (HardH L s x).sat F w) (hF : ∀ b, F b → b < w.heap.size) (hL : HLOk L s) (hok : HwOk s x) : HardR w L s x := by
 obtain ⟨G, g1, g2, _⟩ := h
 have hl : ∀ i b, G i b → b < w.heap.size := fun i b hb => hF b (g2 i b hb)
 obtain ⟨A', c', he, hs⟩ := SlS.of_own (Y := fun b => b < w.heap.size) (g1 5 _ rfl) (hl 5)
 injection he with he
 subst he
 refine ⟨blk_ron (g1 0 _ rfl).2, TreeH.reads (g1 1 _ rfl) (hl 1) hL.fa hok.ck, RowH.reads (g1 2 _ rfl) (hl 2), LinesH.reads (g1 3 _ rfl), BusH.reads (g1 4 _ rfl), hs, fun i d l p h1 h2 h3 => ?_⟩
 obtain ⟨G', k1, k2, _⟩ := g1 6 _ rfl
 have hz : (dvHs s.devs L.ds x.dv)[i]? = some (dvH1 d (l, p)) := by
  have hq : (L.ds.zip x.dv)[i]? = some (l, p) := List.getElem?_zip_eq_some.2 ⟨h2, h3⟩
  rw [dvHs, List.getElem?_zipWith, h1, hq]
 have hj : ∀ b, G' i b → b < w.heap.size := fun b hb => hl 6 b (k2 i b hb)
 obtain ⟨G2, m1, m2, _⟩ := k1 i _ hz
 exact ⟨FileH.reads (m1 0 _ rfl) (fun b hb => hj b (m2 0 b hb)), blk_ron (m1 1 _ rfl).2⟩
section
variable {N : Frm} {w0 w : World} {e : Env} {R : List Piece} {H : List HP} {K : Act → World → Prop} {L : HL} {s : Soc} {x : HwS}
theorem St.hardR (t : St w0 R H w) (i : Nat) (hi : H[i]? = some (HardH L s x)) (hL : HLOk L s) (hok : HwOk s x) : HardR w L s x := by
 obtain ⟨F, h1, h2, _⟩ := t.chunk hi
 exact HardH.reads h1 h2 hL hok
end
section
variable (L : HL) (s : Soc) (x : HwS) (w : World)
theorem hdMade_any (hR : HardR w L s x) : Calls Tryz.prog 77 #[.pointer (some ⟨L.h, 0, none⟩)] w (Rt (.bool true) w) := by
 have k0 := hR.r0.at_ (j := 0) rfl
 have k1 := hR.r0.at_ (j := 1) rfl
 have k2 := hR.r0.at_ (j := 2) rfl
 have k3 := hR.r0.at_ (j := 3) rfl
 refine XK.enter (vs := [.pointer (some ⟨L.h, 0, none⟩)]) Tryz.func77 rfl Tryz.ntmps77 (by simp) ?_
 refine XK.go ?_
 exact XK.retE (by simp) rfl
theorem hdHas_any (i : Int) (hR : HardR w L s x) : Calls Tryz.prog 90 #[.pointer (some ⟨L.h, 0, none⟩), .int .i64 i] w (Rt (.bool (inB s.devs.length i)) w) := by
 have k0 := hR.r0.at_ (j := 4) rfl
 refine XK.enter (vs := [.pointer (some ⟨L.h, 0, none⟩), .int .i64 i]) Tryz.func90 rfl Tryz.ntmps90 (by simp) ?_
 refine XK.go ?_
 refine kcall (fun w1 t => hdMade_any L s x w1 (hR.below (t.below (by simp)))) ?_
 refine XK.go ?_
 refine xk_split (t := 11) rfl (fun h => ?_) (fun h => ?_)
 ·refine XK.go ?_
  refine XK.retE (by simp) ?_
  unfold inB
  congr 1
  simp; omega
 ·refine XK.go ?_
  refine XK.retE (by simp) ?_
  have : inB s.devs.length i = false := decide_eq_false (by omega)
  rw [this]
theorem hdWaiting_any (i : Nat) (hi : i < s.devs.length) (hR : HardR w L s x) : Calls Tryz.prog 150 #[.pointer (some ⟨L.h, 0, none⟩), .int .i64 (i : Int)] w (Rt (.int .i64 (wtN x.wt i : Nat)) w) := by
 have k0 := hR.r0.at_ (j := 3) rfl
 have hin : inB s.devs.length (i : Int) = true := decide_eq_true (by omega)
 refine XK.enter (vs := [.pointer (some ⟨L.h, 0, none⟩), .int .i64 (i : Int)]) Tryz.func150 rfl Tryz.ntmps150 (by simp) ?_
 refine XK.go ?_
 refine kcall (fun w1 t => hdHas_any L s x w1 i (hR.below (t.below (by simp)))) ?_
 rw [hin]
 refine XK.go ?_
 refine kcall (fun w1 t => busWaiting_any L.B (msF s) x.wt x.posted i (by rw [msF_len]; exact hi) w1 (hR.bus.below (t.below (by simp)))) ?_
 refine XK.go ?_
 exact XK.retE (by simp) rfl
theorem hdPhase_any (hok : DmOk s x.dm) (i : Int) (hR : HardR w L s x) : Calls Tryz.prog 28 #[.pointer (some ⟨L.h, 0, none⟩), .int .i64 i] w (Rt (.int .u8 (phaseF x.dm i)) w) := by
 have k0 := hR.r0.at_ (j := 1) rfl
 refine XK.enter (vs := [.pointer (some ⟨L.h, 0, none⟩), .int .i64 i]) Tryz.func28 rfl Tryz.ntmps28 (by simp) ?_
 refine XK.go ?_
 refine kcall (fun w1 t => hdMade_any L s x w1 (hR.below (t.below (by simp)))) ?_
 refine XK.go ?_
 refine kcall (fun w1 t => powPhase_any L.G s x.dm hok i w1 (RowR.below hR.grid (t.below (by simp)))) ?_
 refine XK.go ?_
 exact XK.retE (by simp) rfl
theorem hdHeld_any (i : Int) (hR : HardR w L s x) : Calls Tryz.prog 34 #[.pointer (some ⟨L.h, 0, none⟩), .int .i64 i] w (Rt (.bool (heldF x.ln i)) w) := by
 have k0 := hR.r0.at_ (j := 2) rfl
 refine XK.enter (vs := [.pointer (some ⟨L.h, 0, none⟩), .int .i64 i]) Tryz.func34 rfl Tryz.ntmps34 (by simp) ?_
 refine XK.go ?_
 refine kcall (fun w1 t => hdMade_any L s x w1 (hR.below (t.below (by simp)))) ?_
 refine XK.go ?_
 refine kcall (fun w1 t => rstHeld_any L.R s x.ln i w1 (hR.lines.below (t.below (by simp)))) ?_
 refine XK.go ?_
 exact XK.retE (by simp) rfl
end
end
section
set_option maxHeartbeats 4000000
set_option maxRecDepth 20000
def RowN (l : List Int) (v : Value) (hs : List HP) (_ : Piece) : Prop := ∃ A c, v = .slice A l.length c ∧ hs = [HP.own 44 1 (.slice A l.length c) l.length (u32Cells l)]
theorem rowN_any (w0 : Int) (A : Option Addr) (n c : Nat) (zs : List Int) (w : World) (hs : SlS (all w) 1 A n (u32Cells zs)) (hn : n = zs.length) (hn2 : n ≤ 1000000) : Calls Tryz.prog 70 #[.int .u32 w0, .slice A n c] w (fun y w' => (∃ v hs q, y = .returned v ∧ q.w = w' ∧ RowN (w0 :: zs) v hs q ∧ New w hs q) ∧ Below w.heap.size w w') := by
 refine XK.enter (vs := [.int .u32 w0, .slice A n c]) Tryz.func70 rfl Tryz.ntmps70 (by simp) ?_
 refine XK.go ?_
 refine xk_makeCapT 1 4 (el := 44) (c := n + 1) (k0 := 1) (kd' := .i64) (by kernel_rfl) (by kernel_rfl) rfl (by rw [Int.natCast_add]; rfl) (by omega) (by omega) (by decide) fun g1 => ?_
 refine XK.go ?_
 refine xk_slice (el := 44) (sz := 1) (zs := [.int .u32 0]) (by kernel_rfl) (zeroB_of (by kernel_rfl)) (by kernel_rfl) rfl (by decide) (by decide) rfl (by simp [fillL, setN, Value.cells, List.range_succ, List.set]; rfl) (by decide) fun g2 => ?_
 refine xk_appendT 1 1 4 1 (n' := 1) (el := 44) (by kernel_rfl) (by kernel_rfl) (by decide) rfl rfl rfl (sl_blk 0 rfl rfl) (by simp [Value.oneCell']) rfl (by omega) (by omega) (by decide) fun A1 c1 => ?_
 dsimp only [List.set]
 refine XK.go ?_
 refine xk_appendT 1 1 4 n (n' := n + 1) (el := 44) (by kernel_rfl) (by kernel_rfl) (by decide) rfl rfl rfl (sl_ro (by simp) hs) (u32Cells_one _) (by omega) (by omega) (by omega) (by decide) fun A2 c2 => ?_
 dsimp only [List.set]
 refine XK.go ?_
 subst hn
 refine XK.weak [1] rfl (by decide) (fun _ h => h) ?_
 refine XK.still [] [] [0] (by simp) rfl (by decide) (by decide) fun q _ _ hfr => ?_
 exact XK.ret1 rfl rfl fun w1 t => ⟨⟨_, _, ⟨w1, q.Z⟩, rfl, rfl, ⟨A2, c2, rfl, rfl⟩, t.newR (by simp) (by simp) (hfr (by simp) (by simp))⟩, t.below (by simp)⟩
theorem answer_any (w0 st st' : Int) (hst : IntKind.u32.wrap st = st') (A : Option Addr) (n c : Nat) (zs : List Int) (w : World) (hs : SlS (all w) 1 A n (u32Cells zs)) (hn : n = zs.length) (hn2 : n ≤ 1000) :
  Calls Tryz.prog 159 #[.int .u32 w0, .int .i32 st, .slice A n c] w (fun y w' => (∃ v hs q, y = .returned v ∧ q.w = w' ∧ RowN (w0 :: st' :: zs) v hs q ∧ New w hs q) ∧ Below w.heap.size w w') := by
 subst hn
 refine XK.enter (vs := [.int .u32 w0, .int .i32 st, .slice A zs.length c]) Tryz.func159 rfl Tryz.ntmps159 (by simp) ?_
 refine XK.go ?_
 refine xk_conv (ds := .int .i32) (by kernel_rfl) (by kernel_rfl) rfl hst (by decide) ?_
 refine xk_slice (el := 44) (sz := 1) (zs := [.int .u32 0]) (by kernel_rfl) (zeroB_of (by kernel_rfl)) (by kernel_rfl) rfl (by decide) (by decide) rfl (by simp [fillL, setN, Value.cells, List.range_succ, List.set]; rfl) (by decide) fun g1 => ?_
 refine xk_callN (f := 70) (fi := []) (ca := []) (by kernel_rfl) rfl rfl (by decide) (RowN [w0, st']) (fun w1 t => rowN_any w0 _ 1 1 [st'] w1 (t.slS (i := 0) rfl rfl) rfl (by omega)) ?_
 rintro _ _ q1 ⟨A1, c1, rfl, rfl⟩ _
 dsimp only [List.cons_append, List.nil_append]
 refine XK.go ?_
 refine xk_appendT 0 1 4 zs.length (n' := zs.length + 2) (el := 44) (by kernel_rfl) (by kernel_rfl) (by decide) rfl rfl rfl (sl_ro (by simp) hs) (u32Cells_one _) (by simp; omega) (by omega) (by omega) (by decide) fun A2 c2 => ?_
 dsimp only [List.set]
 refine XK.go ?_
 refine XK.weak [0] rfl (by decide) (R' := [all w]) (by simp) ?_
 refine XK.still [] [] [0] (by simp) rfl (by decide) (by decide) fun q _ _ hfr => ?_
 exact XK.ret1 rfl rfl fun w1 t => ⟨⟨_, _, ⟨w1, q.Z⟩, rfl, rfl, ⟨A2, c2, rfl, rfl⟩, t.newR (by simp) (by simp) (hfr (by simp) (by simp))⟩, t.below (by simp)⟩
theorem known_any (i : Int) (w : World) : Calls Tryz.prog 71 #[.int .i64 i] w (Rt (.bool (inB 2 i)) w) := by
 refine XK.enter (vs := [.int .i64 i]) Tryz.func71 rfl Tryz.ntmps71 (by simp) ?_
 refine XK.go ?_
 refine xk_split (t := 5) rfl (fun h => ?_) (fun h => ?_)
 ·refine XK.go ?_
  refine XK.retE (by simp) ?_
  unfold inB
  congr 1
  simp; omega
 ·refine XK.go ?_
  refine XK.retE (by simp) ?_
  have : inB 2 i = false := decide_eq_false (by omega)
  rw [this]
def phN (p : Int) : Int := if p = 48 then 0 else if p = 49 then 1 else if p = 116 then 2 else 3
theorem fmPhase_any (p : Int) (w : World) : Calls Tryz.prog 225 #[.int .u8 p] w (Rt (.int .u32 (phN p)) w) := by
 refine XK.enter (vs := [.int .u8 p]) Tryz.func225 rfl Tryz.ntmps225 (by simp) ?_
 refine XK.go ?_
 refine XK.if_ rfl (fun h => ?_) (fun h => ?_)
 ·refine XK.go ?_
  exact XK.retE (by simp) (by rw [phN, if_pos h])
 ·refine XK.go ?_
  refine XK.if_ rfl (fun h1 => ?_) (fun h1 => ?_)
  ·refine XK.go ?_
   exact XK.retE (by simp) (by rw [phN, if_neg h, if_pos h1])
  ·refine XK.go ?_
   refine XK.if_ rfl (fun h2 => ?_) (fun h2 => ?_)
   ·refine XK.go ?_
    exact XK.retE (by simp) (by rw [phN, if_neg h, if_neg h1, if_pos h2])
   ·refine XK.go ?_
    exact XK.retE (by simp) (by rw [phN, if_neg h, if_neg h1, if_neg h2])
end
section
def StR (p : Piece) (x y : Wsh) (v : Value) : Prop := ∃ A1 k1 A2 k2 A3 k3 B1 m1 B2 m2 B3 m3, v = .agg #[.slice A1 x.d.length k1, .slice A2 x.c.length k2, .slice A3 x.l.length k3, .slice B1 y.d.length m1, .slice B2 y.c.length m2, .slice B3 y.l.length m3] ∧
 SlS p 1 A1 x.d.length (boolCells x.d) ∧ SlS p 1 A2 x.c.length (boolCells x.c) ∧ SlS p 1 A3 x.l.length (boolCells x.l) ∧ SlS p 1 B1 y.d.length (boolCells y.d) ∧ SlS p 1 B2 y.c.length (boolCells y.c) ∧ SlS p 1 B3 y.l.length (boolCells y.l)
theorem StR.le {p q : Piece} {x y : Wsh} {v : Value} (h : StR p x y v) (hl : p.Le q) : StR q x y v := by
 obtain ⟨A1, k1, A2, k2, A3, k3, B1, m1, B2, m2, B3, m3, h0, h1, h2, h3, h4, h5, h6⟩ := h
 exact ⟨A1, k1, A2, k2, A3, k3, B1, m1, B2, m2, B3, m3, h0, h1.le hl, h2.le hl, h3.le hl, h4.le hl, h5.le hl, h6.le hl⟩
def StC (s : Soc) (p : Piece) : Nat → List Value → Prop
 | 0, cs => cs = [.slice none 0 0, .slice none 0 0, .slice none 0 0, .slice none 0 0, .slice none 0 0, .slice none 0 0]
 | 1, cs => ∃ a b c, cs = [a, b, c, .slice none 0 0, .slice none 0 0, .slice none 0 0] ∧ WshR p (zeroW s) (.agg #[a, b, c])
 | _, cs => ∃ a b c a' b' c', cs = [a, b, c, a', b', c'] ∧ WshR p (zeroW s) (.agg #[a, b, c]) ∧ WshR p (zeroW s) (.agg #[a', b', c'])
theorem StC.len {s : Soc} {p : Piece} : ∀ {i : Nat} {cs : List Value}, StC s p i cs → cs.length = 6
 | 0, _, h => by rw [show _ = _ from h]; rfl
 | 1, _, ⟨_, _, _, h, _⟩ => by rw [h]; rfl
 | _ + 2, _, ⟨_, _, _, _, _, _, h, _⟩ => by rw [h]; rfl
theorem StC.next {s : Soc} {p q : Piece} (hl : p.Le q) {a b c : Value} (hw : WshR q (zeroW s) (.agg #[a, b, c])) {i : Nat} {cs : List Value} (hi : i < 2) (h : StC s p i cs) : StC s q (i + 1) (putN cs (i * 3) [a, b, c]) := by
 obtain rfl | rfl : i = 0 ∨ i = 1 := by omega
 ·have h0 : cs = [.slice none 0 0, .slice none 0 0, .slice none 0 0, .slice none 0 0, .slice none 0 0, .slice none 0 0] := h
  subst h0
  exact ⟨a, b, c, rfl, hw⟩
 ·obtain ⟨a1, b1, c1, h0, h1⟩ := h
  subst h0
  exact ⟨a1, b1, c1, a, b, c, rfl, WshR.le h1 hl, hw⟩
theorem start_any (s : Soc) (A1 A2 A3 A4 : Option Addr) (k1 k2 k3 k4 : Nat) (w : World) (hm : s.okT) :
  Calls Tryz.prog 68 #[.agg #[.slice A1 s.clocks.length k1, .slice A2 s.domains.length k2, .slice A3 s.resets.length k3, .slice A4 s.devs.length k4]] w (RtW (fun v w w' => StR (fresh w w') (zeroW s) (zeroW s) v) w) := by
 have hn9 := hm.nc
 have hn4 := hm.nd
 have hn3 := hm.nr
 refine XK.enter (vs := [.agg #[.slice A1 s.clocks.length k1, .slice A2 s.domains.length k2, .slice A3 s.resets.length k3, .slice A4 s.devs.length k4]]) Tryz.func68 rfl Tryz.ntmps68 (by simp) ?_
 refine XK.seq ?_
 refine XK.region ?_
 refine xk_box rfl (by decide) fun g1 => ?_
 refine xk_alloc (cs := [.slice none 0 0, .slice none 0 0, .slice none 0 0, .slice none 0 0, .slice none 0 0, .slice none 0 0]) (zeroB_of (by kernel_rfl)) (by decide) fun g2 => ?_
 refine XK.nilN ?_
 refine XK.seq ?_
 refine XK.region ?_
 refine xk_alloc (cs := [.slice none 0 0, .slice none 0 0, .slice none 0 0, .slice none 0 0, .slice none 0 0, .slice none 0 0]) (zeroB_of (by kernel_rfl)) (by decide) fun g3 => ?_
 refine XK.nilN ?_
 refine XK.seq ?_
 refine XK.seq ?_
 refine XK.region ?_
 refine xk_move rfl (by decide) ?_
 refine XK.nilN ?_
 refine XK.envS [(5, .int .i64 0), (3, .pointer (some ⟨g3, 0, none⟩)), (2, .pointer (some ⟨g2, 0, none⟩)), (1, .pointer (some ⟨g1, 0, none⟩))] ?_
 refine XK.piece ⟨w, fun _ => False⟩ (by simp) (fun _ h => h.elim) ?_
 refine XK.block ?_
 refine XK.loop (fun m e R H => ∃ (i : Nat) (cs : List Value) (qs : Piece), i ≤ 2 ∧ m = 2 - i ∧ StC s qs i cs ∧ Fresh w qs ∧ e = [(5, .int .i64 i), (3, .pointer (some ⟨g3, 0, none⟩)), (2, .pointer (some ⟨g2, 0, none⟩)), (1, .pointer (some ⟨g1, 0, none⟩))] ∧ R = [qs, all w] ∧ H = [HP.blk g3 71 cs, HP.blk g2 71 [.slice none 0 0, .slice none 0 0, .slice none 0 0, .slice none 0 0, .slice none 0 0, .slice none 0 0], HP.blk g1 29 [.slice A1 s.clocks.length k1, .slice A2 s.domains.length k2, .slice A3 s.resets.length k3, .slice A4 s.devs.length k4]]) 2 ⟨0, _, ⟨w, fun _ => False⟩, by omega, rfl, rfl, (fun _ h => h.elim), rfl, rfl, rfl⟩ fun m e R H hI => ?_
 obtain ⟨i, cs, qs, hi2, rfl, hcs, hfrs, rfl, rfl, rfl⟩ := hI
 refine XK.seq ?_
 refine XK.region ?_
 refine xk_lss rfl rfl (by decide) ?_
 refine XK.nilN ?_
 refine XK.seq ?_
 refine XK.if_ rfl (fun h => ?_) (fun h => ?_)
 ·
  refine XK.skip ?_
  refine XK.norm ?_
  refine XK.seq ?_
  refine XK.block ?_
  refine XK.seq ?_
  refine XK.region ?_
  refine xk_move rfl (by decide) ?_
  refine xk_assign rfl (by decide) ?_
  refine XK.nilN ?_
  refine XK.draw 15 (by kernel_rfl) (by kernel_rfl) ?_
  refine XA.dA 0 rfl rfl rfl (does_move rfl) ?_
  refine XA.dA 1 rfl rfl rfl (does_field (off := 1) (by kernel_rfl) rfl) ?_
  refine XA.dA 2 rfl rfl rfl (does_ld rfl) ?_
  refine XA.dA 3 rfl rfl rfl (does_len (el := 75) (by kernel_rfl) rfl) ?_
  refine XA.dA 5 rfl rfl rfl (does_field (off := 0) (by kernel_rfl) rfl) ?_
  refine XA.dA 6 rfl rfl rfl (does_ld rfl) ?_
  refine XA.dA 7 rfl rfl rfl (does_len (el := 118) (by kernel_rfl) rfl) ?_
  refine XA.dA 9 rfl rfl rfl (does_field (off := 2) (by kernel_rfl) rfl) ?_
  refine XA.dA 10 rfl rfl rfl (does_ld rfl) ?_
  refine XA.dA 11 rfl rfl rfl (does_len (el := 120) (by kernel_rfl) rfl) ?_
  refine XA.dA 14 rfl rfl rfl (does_field (off := 0) (by kernel_rfl) rfl) ?_
  refine XA.allocs (fuel := 3) [4, 8, 12] [[4, 8, 12]] (fun i => match i with | 4 => ⟨12, 4, List.replicate s.domains.length (.bool false), fun g => .slice (some ⟨g, 0, none⟩) s.domains.length s.domains.length⟩ | 8 => ⟨16, 4, List.replicate s.clocks.length (.bool false), fun g => .slice (some ⟨g, 0, none⟩) s.clocks.length s.clocks.length⟩ | _ => ⟨20, 4, List.replicate s.resets.length (.bool false), fun g => .slice (some ⟨g, 0, none⟩) s.resets.length s.resets.length⟩) (fun i hi => ?_) (by show [12, 16, 20].Nodup; decide) (by kernel_rfl) (fun _ h => h) (fun sub hsub hex g => ?_)
  ·simp only [List.mem_cons, List.not_mem_nil, or_false] at hi
   rcases hi with rfl | rfl | rfl
   ·exact ALok.of rfl rfl rfl (makes_make 1 (el := 4) (z := .bool false) (by kernel_rfl) (by kernel_rfl) rfl rfl rfl (by omega) (by omega)) (Nat.le_of_ble_eq_true rfl) rfl
   ·exact ALok.of rfl rfl rfl (makes_make 1 (el := 4) (z := .bool false) (by kernel_rfl) (by kernel_rfl) rfl rfl rfl (by omega) (by omega)) (Nat.le_of_ble_eq_true rfl) rfl
   ·exact ALok.of rfl rfl rfl (makes_make 1 (el := 4) (z := .bool false) (by kernel_rfl) (by kernel_rfl) rfl rfl rfl (by omega) (by omega)) (Nat.le_of_ble_eq_true rfl) rfl
  have hs2 : sub = [4, 8, 12] := by simpa using hex
  have er : ∀ n : Nat, List.replicate n (Value.bool false) = boolCells (List.replicate n false) := fun n => by simp [boolCells]
  have hi : i < 2 := by have h' : (i : Int) < 2 := h; omega
  have hlen := hcs.len
  subst hs2
  dsimp only [envA, hpA, markA, List.map, List.foldr, List.cons_append, List.nil_append, List.length_cons, List.length_nil, Nat.reduceAdd, Nat.reduceSub]
  refine XA.do_ 13 rfl rfl rfl (by decide) (does_buildS (zs := [.slice none 0 0, .slice none 0 0, .slice none 0 0]) (L := [(0, 1), (1, 1), (2, 1)]) (zeroB_of (by kernel_rfl)) (by kernel_rfl) rfl (by simp [fillL, setN, Value.cells]; rfl)) (by kernel_rfl) (fun _ _ _ h => h) (fun _ h => h.tail.tail.tail) ?_
  refine XA.next 15 rfl (by kernel_rfl) ?_
  refine xk_atA i (i * 3) (el := 68) (sz := 3) (by kernel_rfl) (by kernel_rfl) rfl rfl rfl hi (by omega) (by decide) ?_
  refine XA.bt ?_
  refine XA.next 16 rfl (by kernel_rfl) ?_
  refine xk_storeN 3 rfl rfl rfl (by kernel_rfl) (by simp [Value.cells, Value.oneCell']) (by simp [Value.cells]; omega) ?_
  dsimp only [List.set]
  rw [show (Value.agg [.slice (some ⟨g 4, 0, none⟩) s.domains.length s.domains.length, .slice (some ⟨g 8, 0, none⟩) s.clocks.length s.clocks.length, .slice (some ⟨g 12, 0, none⟩) s.resets.length s.resets.length].toArray).cells.toList = [.slice (some ⟨g 4, 0, none⟩) s.domains.length s.domains.length, .slice (some ⟨g 8, 0, none⟩) s.clocks.length s.clocks.length, .slice (some ⟨g 12, 0, none⟩) s.resets.length s.resets.length] from rfl]
  refine XA.bt ?_
  refine XA.done (by kernel_rfl) ?_
  refine XK.norm ?_
  refine XK.region ?_
  refine xk_add rfl rfl (wrap_in (by omega)) (by decide) ?_
  refine xk_move rfl (by decide) ?_
  refine XK.nilN ?_
  refine XK.still [qs] [0, 1, 2] [3, 4, 5] (by simp) rfl (by decide) (by decide) fun qn hqn hle hfr => ?_
  have hfn := hfr (by simp) (fun p hp => by simp only [List.mem_cons, List.not_mem_nil, or_false] at hp; subst hp; exact hfrs)
  have b1 : SlS qn 1 (some ⟨g 4, 0, none⟩) (s.domains.length) (List.replicate (s.domains.length) (Value.bool false)) := SlS.of_blk (n := s.domains.length) (sz := 1) (c := 0) (hqn 0 _ (by simp) rfl).choose_spec.1 (hqn 0 _ (by simp) rfl).choose_spec.2 (by simp)
  have b2 : SlS qn 1 (some ⟨g 8, 0, none⟩) (s.clocks.length) (List.replicate (s.clocks.length) (Value.bool false)) := SlS.of_blk (n := s.clocks.length) (sz := 1) (c := 0) (hqn 1 _ (by simp) rfl).choose_spec.1 (hqn 1 _ (by simp) rfl).choose_spec.2 (by simp)
  have b3 : SlS qn 1 (some ⟨g 12, 0, none⟩) (s.resets.length) (List.replicate (s.resets.length) (Value.bool false)) := SlS.of_blk (n := s.resets.length) (sz := 1) (c := 0) (hqn 2 _ (by simp) rfl).choose_spec.1 (hqn 2 _ (by simp) rfl).choose_spec.2 (by simp)
  rw [er] at b1 b2 b3
  have hww : WshR qn (zeroW s) (.agg #[.slice (some ⟨g 4, 0, none⟩) s.domains.length s.domains.length, .slice (some ⟨g 8, 0, none⟩) s.clocks.length s.clocks.length, .slice (some ⟨g 12, 0, none⟩) s.resets.length s.resets.length]) := by
   unfold WshR zeroW
   simp only [List.length_replicate]
   exact ⟨_, _, _, _, _, _, rfl, b1, b2, b3⟩
  refine XK.weakR (R' := [qn, all w]) (by simp) ?_
  exact XK.envS [(5, .int .i64 ((i : Int) + 1)), (3, .pointer (some ⟨g3, 0, none⟩)), (2, .pointer (some ⟨g2, 0, none⟩)), (1, .pointer (some ⟨g1, 0, none⟩))] (XK.round (2 - (i + 1)) (by omega) ⟨i + 1, _, qn, by omega, rfl, StC.next (hle qs (by simp)) hww hi hcs, hfn, rfl, rfl, rfl⟩)
 ·
  refine XK.exit ?_
  refine XK.norm ?_
  refine XK.seq ?_
  have hie : i = 2 := by have h' : ¬ (i : Int) < 2 := h; omega
  subst hie
  obtain ⟨a, b, c, a', b', c', rfl, hw1, hw2⟩ := hcs
  obtain ⟨D1, d1, D2, d2, D3, d3, e1, x1, x2, x3⟩ := hw1
  obtain ⟨F1, f1, F2, f2, F3, f3, e2, y1, y2, y3⟩ := hw2
  cases e1
  cases e2
  refine XK.region ?_
  refine xk_ldN 6 rfl ?_
  refine xk_stN rfl rfl ?_; simp only [putN, Value.cells, List.set, List.take, List.drop, List.nil_append, List.append_nil, List.length_cons, List.length_nil, List.cons_append, Nat.reduceAdd]
  refine XK.nilN ?_
  refine XK.ret ?_
  refine XK.norm ?_
  exact XK.retC rfl (by kernel_rfl) rfl rfl (RdN.whole 1 rfl) fun w1 st => ⟨⟨_, rfl, by
   have hl := st.fresh_le (by simp) hfrs
   exact ⟨_, _, _, _, _, _, _, _, _, _, _, _, rfl, x1.le hl, x2.le hl, x3.le hl, y1.le hl, y2.le hl, y3.le hl⟩⟩, st.below (by simp)⟩
end
section
set_option maxHeartbeats 4000000
set_option maxRecDepth 20000
def onB (k : Int) : Prop := k = 117 ∨ k = 99 ∨ k = 114
instance (k : Int) : Decidable (onB k) := by unfold onB; infer_instance
def numF (s : Soc) (p : Int) : Nat := if p = 17 then s.domains.length else if p = 20 then s.clocks.length else if p = 22 then s.resets.length else 0
def listV (k : Int) (v0 v1 v2 : Value) : Value := if k = 117 ∨ k = 100 ∨ k = 107 then v0 else if k = 99 ∨ k = 111 then v1 else if k = 114 ∨ k = 97 then v2 else .slice none 0 0
def kindL (k : Int) (x : Wsh) : List Bool := if k = 117 ∨ k = 100 ∨ k = 107 then x.d else if k = 99 ∨ k = 111 then x.c else if k = 114 ∨ k = 97 then x.l else []
def wishF (x : Wsh) (k id : Int) : Bool := decide (0 ≤ id) && hasB (kindL k x) id.toNat
theorem ROc.thn {w w' : World} {g o : Nat} {v : Value} (h : ROc w g o v) (hb : Below w.heap.size w w') : ROc w' g o v := ⟨Nat.lt_of_lt_of_le h.1 hb.size, (hb.cell (p := ⟨g, o, none⟩) h.1).trans h.2⟩
def WshM (w : World) (g o : Nat) (x : Wsh) : Prop := ∃ A1 k1 A2 k2 A3 k3, ROc w g o (.slice A1 x.d.length k1) ∧ ROc w g (o + 1) (.slice A2 x.c.length k2) ∧ ROc w g (o + 2) (.slice A3 x.l.length k3) ∧
 SlS (all w) 1 A1 x.d.length (boolCells x.d) ∧ SlS (all w) 1 A2 x.c.length (boolCells x.c) ∧ SlS (all w) 1 A3 x.l.length (boolCells x.l)
theorem listV_S {w : World} {x : Wsh} {A1 A2 A3 : Option Addr} {k1 k2 k3 : Nat} (h1 : SlS (all w) 1 A1 x.d.length (boolCells x.d)) (h2 : SlS (all w) 1 A2 x.c.length (boolCells x.c)) (h3 : SlS (all w) 1 A3 x.l.length (boolCells x.l)) (k : Int) :
  ∃ A c, listV k (.slice A1 x.d.length k1) (.slice A2 x.c.length k2) (.slice A3 x.l.length k3) = .slice A (kindL k x).length c ∧ SlS (all w) 1 A (kindL k x).length (boolCells (kindL k x)) := by
 unfold listV kindL
 split
 ·exact ⟨_, _, rfl, h1⟩
 ·split
  ·exact ⟨_, _, rfl, h2⟩
  ·split
   ·exact ⟨_, _, rfl, h3⟩
   ·exact ⟨_, _, rfl, SlS.nil _ _⟩
theorem on_any (k : Int) (w : World) :
  Calls Tryz.prog 96 #[.int .u8 k] w (Rt (.bool (decide (onB k))) w) := by
 refine XK.enter (vs := [.int .u8 k]) Tryz.func96 rfl Tryz.ntmps96 (by simp) ?_
 refine XK.seq ?_
 refine XK.region ?_
 refine xk_assign rfl (by decide) ?_
 refine XK.nilN ?_
 refine XK.seq ?_
 refine XK.region ?_
 refine xk_move rfl (by decide) ?_
 refine xk_eql rfl rfl (by decide) ?_
 refine xk_move rfl (by decide) ?_
 (first | refine xk_split (t := 5) rfl (fun hg => ?_) (fun hg => ?_) | refine xk_splitB (t := 5) rfl (fun hg => ?_) (fun hg => ?_))
 ·
  refine xk_guardF rfl rfl rfl (by decide) ?_
  refine xk_guardF rfl rfl rfl (by decide) ?_
  (first | refine xk_pickT rfl rfl (by decide) ?_ | refine xk_pickF rfl rfl (by decide) ?_)
  refine xk_move rfl (by decide) ?_
  refine xk_guardF rfl rfl rfl (by decide) ?_
  refine xk_guardF rfl rfl rfl (by decide) ?_
  (first | refine xk_pickT rfl rfl (by decide) ?_ | refine xk_pickF rfl rfl (by decide) ?_)
  refine xk_assign rfl (by decide) ?_
  refine XK.nilN ?_
  refine XK.ret ?_
  refine XK.norm ?_
  exact XK.ret1 rfl rfl fun w1 st => ⟨by simp_all [onB], st.below (by simp)⟩
 ·
  refine xk_guardT rfl rfl ?_; refine xk_move rfl (by decide) ?_
  refine xk_guardT rfl rfl ?_; refine xk_eql rfl rfl (by decide) ?_
  (first | refine xk_pickT rfl rfl (by decide) ?_ | refine xk_pickF rfl rfl (by decide) ?_)
  refine xk_move rfl (by decide) ?_
  (first | refine xk_split (t := 9) rfl (fun hg => ?_) (fun hg => ?_) | refine xk_splitB (t := 9) rfl (fun hg => ?_) (fun hg => ?_))
  ·
   refine xk_guardF rfl rfl rfl (by decide) ?_
   refine xk_guardF rfl rfl rfl (by decide) ?_
   (first | refine xk_pickT rfl rfl (by decide) ?_ | refine xk_pickF rfl rfl (by decide) ?_)
   refine xk_assign rfl (by decide) ?_
   refine XK.nilN ?_
   refine XK.ret ?_
   refine XK.norm ?_
   exact XK.ret1 rfl rfl fun w1 st => ⟨by simp_all [onB], st.below (by simp)⟩
  ·
   refine xk_guardT rfl rfl ?_; refine xk_move rfl (by decide) ?_
   refine xk_guardT rfl rfl ?_; refine xk_eql rfl rfl (by decide) ?_
   (first | refine xk_pickT rfl rfl (by decide) ?_ | refine xk_pickF rfl rfl (by decide) ?_)
   refine xk_assign rfl (by decide) ?_
   refine XK.nilN ?_
   refine XK.ret ?_
   refine XK.norm ?_
   exact XK.ret1 rfl rfl fun w1 st => ⟨by simp_all [onB], st.below (by simp)⟩
theorem number_any (s : Soc) (A1 A2 A3 A4 : Option Addr) (k1 k2 k3 k4 : Nat) (p : Int) (w : World) :
  Calls Tryz.prog 177 #[.agg #[.slice A1 s.clocks.length k1, .slice A2 s.domains.length k2, .slice A3 s.resets.length k3, .slice A4 s.devs.length k4], .int .i64 p] w (Rt (.int .i64 (numF s p)) w) := by
 refine XK.enter (vs := [.agg #[.slice A1 s.clocks.length k1, .slice A2 s.domains.length k2, .slice A3 s.resets.length k3, .slice A4 s.devs.length k4], .int .i64 p]) Tryz.func177 rfl Tryz.ntmps177 (by simp) ?_
 refine XK.go ?_
 refine xk_box rfl (by decide) fun g1 => ?_
 refine XK.go ?_
 refine XK.if_ rfl (fun h => ?_) (fun h => ?_)
 ·
  refine XK.go ?_
  exact XK.ret1 rfl rfl fun w1 st => ⟨by simp_all [numF], st.below (by simp)⟩
 ·
  refine XK.go ?_
  refine XK.if_ rfl (fun h => ?_) (fun h => ?_)
  ·
   refine XK.go ?_
   exact XK.ret1 rfl rfl fun w1 st => ⟨by simp_all [numF], st.below (by simp)⟩
  ·
   refine XK.go ?_
   refine XK.if_ rfl (fun h => ?_) (fun h => ?_)
   ·
    refine XK.go ?_
    exact XK.ret1 rfl rfl fun w1 st => ⟨by simp_all [numF], st.below (by simp)⟩
   ·
    refine XK.go ?_
    exact XK.ret1 rfl rfl fun w1 st => ⟨by simp_all [numF], st.below (by simp)⟩
theorem list_any (g o : Nat) (k : Int) (v0 v1 v2 : Value) (w : World) (h0 : ROc w g o v0) (h1 : ROc w g (o + 1) v1) (h2 : ROc w g (o + 2) v2) :
  Calls Tryz.prog 179 #[.pointer (some ⟨g, o, none⟩), .int .u8 k] w (Rt (listV k v0 v1 v2) w) := by
 refine XK.enter (vs := [.pointer (some ⟨g, o, none⟩), .int .u8 k]) Tryz.func179 rfl Tryz.ntmps179 (by simp) ?_
 refine XK.go ?_
 refine XK.if_ rfl (fun h => ?_) (fun h => ?_)
 ·
  refine XK.go ?_
  refine XK.if_ rfl (fun h => ?_) (fun h => ?_)
  ·
   refine XK.go ?_
   exact XK.ret1 rfl rfl fun w1 st => ⟨by simp_all [listV], st.below (by simp)⟩
  ·
   refine XK.go ?_
   refine XK.if_ rfl (fun h => ?_) (fun h => ?_)
   ·
    refine XK.go ?_
    refine XK.if_ rfl (fun h => ?_) (fun h => ?_)
    ·
     refine XK.go ?_
     exact XK.ret1 rfl rfl fun w1 st => ⟨by simp_all [listV], st.below (by simp)⟩
    ·
     refine XK.go ?_
     refine XK.if_ rfl (fun h => ?_) (fun h => ?_)
     ·
      refine XK.go ?_
      refine XK.if_ rfl (fun h => ?_) (fun h => ?_)
      ·
       refine XK.go ?_
       exact XK.ret1 rfl rfl fun w1 st => ⟨by simp_all [listV], st.below (by simp)⟩
      ·
       refine XK.go ?_
       exact XK.ret1 rfl rfl fun w1 st => ⟨by simp_all [listV], st.below (by simp)⟩
     ·
      refine XK.go ?_
      refine XK.if_ rfl (fun h => ?_) (fun h => ?_)
      ·
       refine XK.go ?_
       exact XK.ret1 rfl rfl fun w1 st => ⟨by simp_all [listV], st.below (by simp)⟩
      ·
       refine XK.go ?_
       exact XK.ret1 rfl rfl fun w1 st => ⟨by simp_all [listV], st.below (by simp)⟩
   ·
    refine XK.go ?_
    refine XK.if_ rfl (fun h => ?_) (fun h => ?_)
    ·
     refine XK.go ?_
     exact XK.ret1 rfl rfl fun w1 st => ⟨by simp_all [listV], st.below (by simp)⟩
    ·
     refine XK.go ?_
     refine XK.if_ rfl (fun h => ?_) (fun h => ?_)
     ·
      refine XK.go ?_
      refine XK.if_ rfl (fun h => ?_) (fun h => ?_)
      ·
       refine XK.go ?_
       exact XK.ret1 rfl rfl fun w1 st => ⟨by simp_all [listV], st.below (by simp)⟩
      ·
       refine XK.go ?_
       exact XK.ret1 rfl rfl fun w1 st => ⟨by simp_all [listV], st.below (by simp)⟩
     ·
      refine XK.go ?_
      refine XK.if_ rfl (fun h => ?_) (fun h => ?_)
      ·
       refine XK.go ?_
       exact XK.ret1 rfl rfl fun w1 st => ⟨by simp_all [listV], st.below (by simp)⟩
      ·
       refine XK.go ?_
       exact XK.ret1 rfl rfl fun w1 st => ⟨by simp_all [listV], st.below (by simp)⟩
 ·
  refine XK.go ?_
  refine XK.if_ rfl (fun h => ?_) (fun h => ?_)
  ·
   refine XK.go ?_
   refine XK.if_ rfl (fun h => ?_) (fun h => ?_)
   ·
    refine XK.go ?_
    exact XK.ret1 rfl rfl fun w1 st => ⟨by simp_all [listV], st.below (by simp)⟩
   ·
    refine XK.go ?_
    refine XK.if_ rfl (fun h => ?_) (fun h => ?_)
    ·
     refine XK.go ?_
     refine XK.if_ rfl (fun h => ?_) (fun h => ?_)
     ·
      refine XK.go ?_
      exact XK.ret1 rfl rfl fun w1 st => ⟨by simp_all [listV], st.below (by simp)⟩
     ·
      refine XK.go ?_
      refine XK.if_ rfl (fun h => ?_) (fun h => ?_)
      ·
       refine XK.go ?_
       refine XK.if_ rfl (fun h => ?_) (fun h => ?_)
       ·
        refine XK.go ?_
        exact XK.ret1 rfl rfl fun w1 st => ⟨by simp_all [listV], st.below (by simp)⟩
       ·
        refine XK.go ?_
        exact XK.ret1 rfl rfl fun w1 st => ⟨by simp_all [listV], st.below (by simp)⟩
      ·
       refine XK.go ?_
       refine XK.if_ rfl (fun h => ?_) (fun h => ?_)
       ·
        refine XK.go ?_
        exact XK.ret1 rfl rfl fun w1 st => ⟨by simp_all [listV], st.below (by simp)⟩
       ·
        refine XK.go ?_
        exact XK.ret1 rfl rfl fun w1 st => ⟨by simp_all [listV], st.below (by simp)⟩
    ·
     refine XK.go ?_
     refine XK.if_ rfl (fun h => ?_) (fun h => ?_)
     ·
      refine XK.go ?_
      exact XK.ret1 rfl rfl fun w1 st => ⟨by simp_all [listV], st.below (by simp)⟩
     ·
      refine XK.go ?_
      refine XK.if_ rfl (fun h => ?_) (fun h => ?_)
      ·
       refine XK.go ?_
       refine XK.if_ rfl (fun h => ?_) (fun h => ?_)
       ·
        refine XK.go ?_
        exact XK.ret1 rfl rfl fun w1 st => ⟨by simp_all [listV], st.below (by simp)⟩
       ·
        refine XK.go ?_
        exact XK.ret1 rfl rfl fun w1 st => ⟨by simp_all [listV], st.below (by simp)⟩
      ·
       refine XK.go ?_
       refine XK.if_ rfl (fun h => ?_) (fun h => ?_)
       ·
        refine XK.go ?_
        exact XK.ret1 rfl rfl fun w1 st => ⟨by simp_all [listV], st.below (by simp)⟩
       ·
        refine XK.go ?_
        exact XK.ret1 rfl rfl fun w1 st => ⟨by simp_all [listV], st.below (by simp)⟩
  ·
   refine XK.go ?_
   refine XK.if_ rfl (fun h => ?_) (fun h => ?_)
   ·
    refine XK.go ?_
    exact XK.ret1 rfl rfl fun w1 st => ⟨by simp_all [listV], st.below (by simp)⟩
   ·
    refine XK.go ?_
    refine XK.if_ rfl (fun h => ?_) (fun h => ?_)
    ·
     refine XK.go ?_
     refine XK.if_ rfl (fun h => ?_) (fun h => ?_)
     ·
      refine XK.go ?_
      exact XK.ret1 rfl rfl fun w1 st => ⟨by simp_all [listV], st.below (by simp)⟩
     ·
      refine XK.go ?_
      refine XK.if_ rfl (fun h => ?_) (fun h => ?_)
      ·
       refine XK.go ?_
       refine XK.if_ rfl (fun h => ?_) (fun h => ?_)
       ·
        refine XK.go ?_
        exact XK.ret1 rfl rfl fun w1 st => ⟨by simp_all [listV], st.below (by simp)⟩
       ·
        refine XK.go ?_
        exact XK.ret1 rfl rfl fun w1 st => ⟨by simp_all [listV], st.below (by simp)⟩
      ·
       refine XK.go ?_
       refine XK.if_ rfl (fun h => ?_) (fun h => ?_)
       ·
        refine XK.go ?_
        exact XK.ret1 rfl rfl fun w1 st => ⟨by simp_all [listV], st.below (by simp)⟩
       ·
        refine XK.go ?_
        exact XK.ret1 rfl rfl fun w1 st => ⟨by simp_all [listV], st.below (by simp)⟩
    ·
     refine XK.go ?_
     refine XK.if_ rfl (fun h => ?_) (fun h => ?_)
     ·
      refine XK.go ?_
      exact XK.ret1 rfl rfl fun w1 st => ⟨by simp_all [listV], st.below (by simp)⟩
     ·
      refine XK.go ?_
      refine XK.if_ rfl (fun h => ?_) (fun h => ?_)
      ·
       refine XK.go ?_
       refine XK.if_ rfl (fun h => ?_) (fun h => ?_)
       ·
        refine XK.go ?_
        exact XK.ret1 rfl rfl fun w1 st => ⟨by simp_all [listV], st.below (by simp)⟩
       ·
        refine XK.go ?_
        exact XK.ret1 rfl rfl fun w1 st => ⟨by simp_all [listV], st.below (by simp)⟩
      ·
       refine XK.go ?_
       refine XK.if_ rfl (fun h => ?_) (fun h => ?_)
       ·
        refine XK.go ?_
        exact XK.ret1 rfl rfl fun w1 st => ⟨by simp_all [listV], st.below (by simp)⟩
       ·
        refine XK.go ?_
        exact XK.ret1 rfl rfl fun w1 st => ⟨by simp_all [listV], st.below (by simp)⟩
theorem wishes_any (g ag : Nat) (x : Wsh) (k id : Int) (w : World) (hag : ag < 2) (hM : WshM w g (ag * 3) x) :
  Calls Tryz.prog 95 #[.pointer (some ⟨g, 0, none⟩), .int .i64 (ag : Int), .int .u8 k, .int .i64 id] w (Rt (.bool (wishF x k id)) w) := by
 obtain ⟨A1, k1, A2, k2, A3, k3, h1, h2, h3, s1, s2, s3⟩ := hM
 obtain ⟨A, c, hL, hS⟩ := listV_S (k1 := k1) (k2 := k2) (k3 := k3) s1 s2 s3 k
 refine XK.enter (vs := [.pointer (some ⟨g, 0, none⟩), .int .i64 (ag : Int), .int .u8 k, .int .i64 id]) Tryz.func95 rfl Tryz.ntmps95 (by simp) ?_
 refine XK.seq ?_
 refine XK.region ?_
 refine xk_assign rfl (by decide) ?_
 refine XK.nilN ?_
 refine XK.seq ?_
 refine XK.region ?_
 refine xk_move rfl (by decide) ?_
 refine xk_move rfl (by decide) ?_
 refine xk_nilC rfl (by decide) ?_
 refine xk_field (off := 0) (by kernel_rfl) rfl (by decide) ?_
 refine xk_atA (ag) (ag * 3) (n := 2) (el := 68) (sz := 3) (by kernel_rfl) (by kernel_rfl) rfl rfl (by omega) (by omega) (by omega) (by decide) ?_
 refine xk_move rfl (by decide) ?_
 refine xk_callR (f := 179) (fi := []) (ca := []) (by kernel_rfl) rfl rfl (by decide) (fun w1 st => list_any g (ag * 3) k _ _ _ w1 (h1.thn (st.below (by simp))) (h2.thn (st.below (by simp))) (h3.thn (st.below (by simp)))) ?_
 rw [hL]
 refine xk_assign rfl (by decide) ?_
 refine XK.nilN ?_
 refine XK.seq ?_
 refine XK.region ?_
 refine xk_move rfl (by decide) ?_
 refine xk_geq rfl rfl (by decide) ?_
 refine xk_move rfl (by decide) ?_
 (first | refine xk_split (t := 19) rfl (fun hg => ?_) (fun hg => ?_) | refine xk_splitB (t := 19) rfl (fun hg => ?_) (fun hg => ?_))
 ·
  refine xk_guardT rfl rfl ?_; refine xk_move rfl (by decide) ?_
  refine xk_guardT rfl rfl ?_; refine xk_move rfl (by decide) ?_
  refine xk_guardT rfl rfl ?_; refine xk_len (el := 4) (by kernel_rfl) rfl (by decide) ?_
  refine xk_guardT rfl rfl ?_; refine xk_lss rfl rfl (by decide) ?_
  (first | refine xk_pickT rfl rfl (by decide) ?_ | refine xk_pickF rfl rfl (by decide) ?_)
  refine xk_move rfl (by decide) ?_
  (first | refine xk_split (t := 25) rfl (fun hg => ?_) (fun hg => ?_) | refine xk_splitB (t := 25) rfl (fun hg => ?_) (fun hg => ?_))
  ·
   obtain ⟨i, rfl⟩ : ∃ i : Nat, id = (i : Int) := ⟨id.toNat, by omega⟩
   have hil : i < (kindL k x).length := by omega
   obtain ⟨b, off, rfl, hz, hc⟩ := hS.2 (by omega)
   obtain ⟨v, hv⟩ : ∃ v, (kindL k x)[i]? = some v := ⟨_, List.getElem?_eq_getElem hil⟩
   refine xk_guardT rfl rfl ?_; refine xk_move rfl (by decide) ?_
   refine xk_guardT rfl rfl ?_; refine xk_move rfl (by decide) ?_
   refine xk_guardT rfl rfl ?_; refine xk_at (i) (off + i) (el := 4) (sz := 1) (by kernel_rfl) (by kernel_rfl) rfl rfl (by omega) (by omega) (by omega) (by decide) ?_
   refine xk_guardT rfl rfl ?_; refine xk_load (by kernel_rfl) rfl (Rd.ro (p := all w) (by simp) hz (hc i _ (boolCells_at hv))) (by decide) ?_
   (first | refine xk_pickT rfl rfl (by decide) ?_ | refine xk_pickF rfl rfl (by decide) ?_)
   refine xk_assign rfl (by decide) ?_
   refine XK.nilN ?_
   refine XK.ret ?_
   refine XK.norm ?_
   exact XK.ret1 rfl rfl fun w1 st => ⟨by simp [wishF, hasB, hv], st.below (by simp)⟩
  ·
   refine xk_guardF rfl rfl rfl (by decide) ?_
   refine xk_guardF rfl rfl rfl (by decide) ?_
   refine xk_guardF rfl rfl rfl (by decide) ?_
   refine xk_guardF rfl rfl rfl (by decide) ?_
   (first | refine xk_pickT rfl rfl (by decide) ?_ | refine xk_pickF rfl rfl (by decide) ?_)
   refine xk_assign rfl (by decide) ?_
   refine XK.nilN ?_
   refine XK.ret ?_
   refine XK.norm ?_
   have hn : hasB (kindL k x) id.toNat = false := by rw [hasB, List.getElem?_eq_none (by omega)]; rfl
   exact XK.ret1 rfl rfl fun w1 st => ⟨by simp [wishF, hn], st.below (by simp)⟩
 ·
  refine xk_guardF rfl rfl rfl (by decide) ?_
  refine xk_guardF rfl rfl rfl (by decide) ?_
  refine xk_guardF rfl rfl rfl (by decide) ?_
  refine xk_guardF rfl rfl rfl (by decide) ?_
  (first | refine xk_pickT rfl rfl (by decide) ?_ | refine xk_pickF rfl rfl (by decide) ?_)
  refine xk_move rfl (by decide) ?_
  refine xk_guardF rfl rfl rfl (by decide) ?_
  refine xk_guardF rfl rfl rfl (by decide) ?_
  refine xk_guardF rfl rfl rfl (by decide) ?_
  refine xk_guardF rfl rfl rfl (by decide) ?_
  (first | refine xk_pickT rfl rfl (by decide) ?_ | refine xk_pickF rfl rfl (by decide) ?_)
  refine xk_assign rfl (by decide) ?_
  refine XK.nilN ?_
  refine XK.ret ?_
  refine XK.norm ?_
  have hn : decide (0 ≤ id) = false := by simp; omega
  exact XK.ret1 rfl rfl fun w1 st => ⟨by simp [wishF, hn], st.below (by simp)⟩
end
section
set_option maxHeartbeats 4000000
set_option maxRecDepth 20000
def StM (w : World) (g : Nat) (x y : Wsh) : Prop := ∀ i, i < 2 → WshM w g (i * 3) (if i = 0 then x else y)
def wishedF (x y : Wsh) (k id : Int) : Bool := wishF x k id || wishF y k id
theorem WshM.thn {w w' : World} {g o : Nat} {x : Wsh} (h : WshM w g o x) (hb : Below w.heap.size w w') : WshM w' g o x := by
 obtain ⟨A1, k1, A2, k2, A3, k3, h1, h2, h3, s1, s2, s3⟩ := h
 have hl : (all w).Le (all w') := fun b hb' => ⟨Nat.lt_of_lt_of_le hb' hb.size, hb.block b hb'⟩
 exact ⟨A1, k1, A2, k2, A3, k3, h1.thn hb, h2.thn hb, h3.thn hb, s1.le hl, s2.le hl, s3.le hl⟩
theorem StM.thn {w w' : World} {g : Nat} {x y : Wsh} (h : StM w g x y) (hb : Below w.heap.size w w') : StM w' g x y := fun i hi => (h i hi).thn hb
theorem wished_any (g : Nat) (x y : Wsh) (k id : Int) (w : World) (hM : StM w g x y) :
  Calls Tryz.prog 97 #[.pointer (some ⟨g, 0, none⟩), .int .u8 k, .int .i64 id] w (Rt (.bool (wishedF x y k id)) w) := by
 refine XK.enter (vs := [.pointer (some ⟨g, 0, none⟩), .int .u8 k, .int .i64 id]) Tryz.func97 rfl Tryz.ntmps97 (by simp) ?_
 refine XK.go ?_
 refine XK.envS [(8, .int .i64 0), (2, .int .i64 id), (1, .int .u8 k), (0, .pointer (some ⟨g, 0, none⟩))] ?_
 refine XK.go ?_
 refine XK.loop (fun m e R H => ∃ (i : Nat), i ≤ 2 ∧ m = 2 - i ∧ (∀ j, j < i → wishF (if j = 0 then x else y) k id = false) ∧ e = [(8, .int .i64 i), (2, .int .i64 id), (1, .int .u8 k), (0, .pointer (some ⟨g, 0, none⟩))] ∧ R = [all w] ∧ H = []) 2 ⟨0, by omega, rfl, (fun j hj => absurd hj (Nat.not_lt_zero j)), rfl, rfl, rfl⟩ fun m e R H hI => ?_
 obtain ⟨i, hi, rfl, hno, rfl, rfl, rfl⟩ := hI
 refine XK.go ?_
 refine XK.if_ rfl (fun h => ?_) (fun h => ?_)
 ·
  refine XK.go ?_
  have hi2 : i < 2 := by have h' : (i : Int) < 2 := h; omega
  refine xk_callR (f := 95) (fi := []) (ca := []) (by kernel_rfl) rfl rfl (by decide) (fun w1 st => wishes_any g i (if i = 0 then x else y) k id w1 hi2 ((hM i hi2).thn (st.below (by simp)))) ?_
  refine XK.go ?_
  refine XK.cond rfl (fun hw => ?_) (fun hw => ?_)
  ·
   refine XK.go ?_
   have hr : wishedF x y k id = true := by
    unfold wishedF
    rcases (by omega : i = 0 ∨ i = 1) with rfl | rfl
    ·simp at hw; simp [hw]
    ·simp at hw; simp [hw]
   exact XK.ret1 rfl rfl fun w1 st => ⟨by rw [hr], st.below (by simp)⟩
  ·
   refine XK.go ?_
   exact XK.envS [(8, .int .i64 ((i : Int) + 1)), (2, .int .i64 id), (1, .int .u8 k), (0, .pointer (some ⟨g, 0, none⟩))] (XK.round (2 - (i + 1)) (by omega) ⟨i + 1, by omega, rfl, (fun j hj => by
    rcases Nat.lt_or_ge j i with h1 | h1
    ·exact hno j h1
    ·obtain rfl : j = i := by omega
     exact hw), rfl, rfl, rfl⟩)
 ·
  refine XK.go ?_
  have hi2 : i = 2 := by have h' : ¬ (i : Int) < 2 := h; omega
  subst hi2
  have e0 := hno 0 (by omega)
  have e1 := hno 1 (by omega)
  have hr : wishedF x y k id = false := by
   unfold wishedF
   simp at e0 e1
   simp [e0, e1]
  exact XK.ret1 rfl rfl fun w1 st => ⟨by rw [hr], st.below (by simp)⟩
theorem switched_any (k : Int) (A : Option Addr) (n c : Nat) (r m d l : Int) (w : World) :
  Calls Tryz.prog 178 #[.agg #[.int .u8 k, .slice A n c, .int .u64 r, .int .i64 m, .int .i64 d, .int .i64 l]] w (Rt (.bool (decide (k = 112 ∨ k = 103))) w) := by
 refine XK.enter (vs := [.agg #[.int .u8 k, .slice A n c, .int .u64 r, .int .i64 m, .int .i64 d, .int .i64 l]]) Tryz.func178 rfl Tryz.ntmps178 (by simp) ?_
 refine XK.seq ?_
 refine XK.region ?_
 refine xk_box rfl (by decide) fun g1 => ?_
 refine xk_assign rfl (by decide) ?_
 refine XK.nilN ?_
 refine XK.seq ?_
 refine XK.region ?_
 refine xk_field (off := 0) (by kernel_rfl) rfl (by decide) ?_
 refine xk_ld rfl ?_
 refine xk_eql rfl rfl (by decide) ?_
 refine xk_move rfl (by decide) ?_
 (first | refine xk_split (t := 6) rfl (fun hg => ?_) (fun hg => ?_) | refine xk_splitB (t := 6) rfl (fun hg => ?_) (fun hg => ?_))
 ·
  refine xk_guardF rfl rfl rfl (by decide) ?_
  refine xk_guardF rfl rfl rfl (by decide) ?_
  refine xk_guardF rfl rfl rfl (by decide) ?_
  (first | refine xk_pickT rfl rfl (by decide) ?_ | refine xk_pickF rfl rfl (by decide) ?_)
  refine xk_assign rfl (by decide) ?_
  refine XK.nilN ?_
  refine XK.ret ?_
  refine XK.norm ?_
  exact XK.ret1 rfl rfl fun w1 st => ⟨by simp_all, st.below (by simp)⟩
 ·
  refine xk_guardT rfl rfl ?_; refine xk_field (off := 0) (by kernel_rfl) rfl (by decide) ?_
  refine xk_guardT rfl rfl ?_; refine xk_ld rfl ?_
  refine xk_guardT rfl rfl ?_; refine xk_eql rfl rfl (by decide) ?_
  (first | refine xk_pickT rfl rfl (by decide) ?_ | refine xk_pickF rfl rfl (by decide) ?_)
  refine xk_assign rfl (by decide) ?_
  refine XK.nilN ?_
  refine XK.ret ?_
  refine XK.norm ?_
  exact XK.ret1 rfl rfl fun w1 st => ⟨by simp_all, st.below (by simp)⟩
end
section
def kP (p : Int × Int) : Value := .agg #[.int .i64 p.1, .int .i64 p.2]
def MapV (w : World) (r : Nat) (l : List ((Int × Int) × Value)) : Prop := ∃ es clock, w.heap[r]? = some (.map es clock) ∧ es.toList.map (fun x => (x.key, x.val)) = l.map fun p => (kP p.1, p.2)
def mgetP (l : List ((Int × Int) × Value)) (k : Int × Int) : Option Value := (l.find? fun p => decide (p.1 = k)).map (·.2)
theorem mgetP_cons (a : Int × Int) (b : Value) (l : List ((Int × Int) × Value)) (k : Int × Int) : mgetP ((a, b) :: l) k = if a = k then some b else mgetP l k := by
 unfold mgetP
 rw [List.find?_cons]
 by_cases h : a = k <;> simp [h]
section
variable {P : Program} {w : World} {kt : TypeId}
theorem eq_kP (hfl : ∀ a b c d : Int, flatB P kt [.int .i64 a, .int .i64 b] [.int .i64 c, .int .i64 d] = true) (p q : Int × Int) : (Op.equal kt (kP p) (kP q)).run P w = .ok (decide (q = p)) w := by
 obtain ⟨h, _⟩ := run_eqS (P := P) (w := w) (hfl p.1 p.2 q.1 q.2)
 rw [show kP p = .agg [Value.int .i64 p.1, .int .i64 p.2].toArray from rfl, show kP q = .agg [Value.int .i64 q.1, .int .i64 q.2].toArray from rfl, h]
 congr 1
 obtain ⟨a, b⟩ := p
 obtain ⟨c, d⟩ := q
 simp only [eqVs, eqV, Prod.mk.injEq]
 by_cases h1 : a = c
 ·subst h1
  by_cases h2 : b = d
  ·subst h2; simp
  ·have h3 : ¬ d = b := fun e => h2 e.symm
   simp [h2, h3]
 ·have h3 : ¬ c = a := fun e => h1 e.symm
  simp [h1, h3]
theorem ask_kP (hfl : ∀ a b c d : Int, flatB P kt [.int .i64 a, .int .i64 b] [.int .i64 c, .int .i64 d] = true) (k : Int × Int) : ∀ (es : List MapEntry) (l : List ((Int × Int) × Value)) (i : Nat), es.map (fun x => (x.key, x.val)) = l.map (fun p => (kP p.1, p.2)) →
  ∃ q, (Instr.findAsking kt (kP k) es i).run P w = .ok q w ∧ q.map (·.2) = mgetP l k
 | [], l, i, h => by
  cases l with
  | nil => exact ⟨none, by simp [Instr.findAsking], rfl⟩
  | cons _ _ => cases h
 | e :: es, l, i, h => by
  cases l with
  | nil => cases h
  | cons p l =>
   simp only [List.map_cons, List.cons.injEq, Prod.mk.injEq] at h
   obtain ⟨⟨h1, h2⟩, h3⟩ := h
   obtain ⟨q, hq1, hq2⟩ := ask_kP hfl k es l (i + 1) h3
   obtain ⟨a, b⟩ := p
   have he := eq_kP (w := w) hfl k a
   rw [← h1] at he
   by_cases hk : a = k
   ·refine ⟨some (i, e.val), ?_, ?_⟩
    ·unfold Instr.findAsking
     simp [Sem.run_bind, he, hk]
    ·rw [mgetP_cons, if_pos hk]; simp [h2]
   ·refine ⟨q, ?_, ?_⟩
    ·unfold Instr.findAsking
     simp [Sem.run_bind, he, hk, hq1]
    ·rw [mgetP_cons, if_neg hk]; exact hq2
theorem check_kP {f0 f1 : Field} {k0 k1 : IntKind} (hk : P.underlying kt = some (.struct #[f0, f1])) (h0 : P.underlying f0.type = some (.int k0)) (h1 : P.underlying f1.type = some (.int k1)) (o0 : f0.offset = 0) (o1 : f1.offset = 1) (p : Int × Int) (b : Bool) : (Instr.checkKey b 10000 kt (kP p)).run P w = .ok () w := by
 have e0 := run_part_one (P := P) (w := w) (cs := #[.int .i64 p.1, .int .i64 p.2]) (i := 0) (v := .int .i64 p.1) h0 (.inl ⟨_, rfl⟩) rfl
 have e1 := run_part_one (P := P) (w := w) (cs := #[.int .i64 p.1, .int .i64 p.2]) (i := 1) (v := .int .i64 p.2) h1 (.inl ⟨_, rfl⟩) rfl
 have c0 : (Instr.checkKey b 9999 f0.type (.int .i64 p.1)).run P w = .ok () w := by
  unfold Instr.checkKey
  simp [Sem.run_bind, run_underlying h0]
 have c1 : (Instr.checkKey b 9999 f1.type (.int .i64 p.2)).run P w = .ok () w := by
  unfold Instr.checkKey
  simp [Sem.run_bind, run_underlying h1]
 unfold Instr.checkKey kP
 by_cases n0 : f0.name = "_" <;> by_cases n1 : f1.name = "_" <;> simp [Sem.run_bind, run_underlying hk, n0, n1, o0, o1, e0, e1, c0, c1]
end
structure PairK (P : Program) (kt : TypeId) : Prop where
 st : ∃ f0 f1 k0 k1, P.underlying kt = some (.struct #[f0, f1]) ∧ P.underlying f0.type = some (.int k0) ∧ P.underlying f1.type = some (.int k1) ∧ f0.offset = 0 ∧ f1.offset = 1
 fl : ∀ a b c d : Int, flatB P kt [.int .i64 a, .int .i64 b] [.int .i64 c, .int .i64 d] = true
theorem PairK.of {P : Program} {kt : TypeId} {f0 f1 : Field} {k0 k1 : IntKind} (h : P.underlying kt = some (.struct #[f0, f1])) (h0 : P.underlying f0.type = some (.int k0)) (h1 : P.underlying f1.type = some (.int k1)) (o0 : f0.offset = 0) (o1 : f1.offset = 1) (fl : ∀ a b c d : Int, flatB P kt [.int .i64 a, .int .i64 b] [.int .i64 c, .int .i64 d] = true) : PairK P kt := ⟨⟨f0, f1, k0, k1, h, h0, h1, o0, o1⟩, fl⟩
section
variable {P : Program} {w : World} {t kt et : TypeId} {r : Nat} {l : List ((Int × Int) × Value)}
theorem find_kP (hk : PairK P kt) (k : Int × Int) (es : List MapEntry) (h : es.map (fun x => (x.key, x.val)) = l.map (fun p => (kP p.1, p.2))) : ∃ q, (Instr.findKey kt (kP k) es).run P w = .ok q w ∧ q.map (·.2) = mgetP l k := by
 obtain ⟨f0, f1, k0, k1, hu, _⟩ := hk.st
 obtain ⟨q, h1, h2⟩ := ask_kP (w := w) hk.fl k es l 0 h
 cases es with
 | nil =>
  cases l with
  | cons _ _ => cases h
  | nil => exact ⟨none, by simp [Instr.findKey, Sem.run_bind, run_underlying hu, Instr.findNow], rfl⟩
 | cons e es =>
  refine ⟨q, ?_, h2⟩
  unfold Instr.findKey
  have : Instr.findNow (.struct #[f0, f1]) (kP k) (e :: es) 0 = none := by
   unfold Instr.findNow Instr.sameNow
   rfl
  simp [Sem.run_bind, run_underlying hu, this, h1]
theorem run_lookup_kP {z : Value} (ht : P.underlying t = some (.map kt et)) (hk : PairK P kt) (hz : ∀ w, (zeroValue et).run P w = .ok z w) (h : MapV w r l) (k : Int × Int) (ok : Bool) :
  (Instr.lookup t (.map (some r)) (kP k) ok).run P w = .ok (if ok then .tuple #[(mgetP l k).getD z, .bool (mgetP l k).isSome] else (mgetP l k).getD z) w := by
 obtain ⟨es, c, h1, h2⟩ := h
 obtain ⟨q, hf, hq2⟩ := find_kP (w := w) hk k es.toList h2
 obtain ⟨f0, f1, k0, k1, hu, u0, u1, o0, o1⟩ := hk.st
 have hc := fun b => check_kP (w := w) hu u0 u1 o0 o1 k b
 unfold Instr.lookup
 rw [← hq2]
 cases q with
 | none => cases ok <;> simp [Sem.run_bind, run_underlying ht, run_getObj_map h1, hc, hf, hz]
 | some x => obtain ⟨j, v⟩ := x; cases ok <;> simp [Sem.run_bind, run_underlying ht, run_getObj_map h1, hc, hf]
theorem run_insert_kP (ht : P.underlying t = some (.map kt et)) (hk : PairK P kt) (h : MapV w r l) (k : Int × Int) (v : Value) (hno : mgetP l k = none) :
  ∃ es c, (Instr.mapUpdate t (.map (some r)) (kP k) v).run P w = .ok () { w with heap := w.heap.setIfInBounds r (.map es c) } ∧ es.toList.map (fun x => (x.key, x.val)) = (l ++ [(k, v)]).map fun p => (kP p.1, p.2) := by
 obtain ⟨es, c, h1, h2⟩ := h
 obtain ⟨q, hf, hq2⟩ := find_kP (w := w) hk k es.toList h2
 obtain ⟨f0, f1, k0, k1, hu, u0, u1, o0, o1⟩ := hk.st
 have hc := fun b => check_kP (w := w) hu u0 u1 o0 o1 k b
 have hset : ∀ o, (setObj r o).run P w = .ok () { w with heap := w.heap.setIfInBounds r o } := fun o => by simp [setObj, Sem.run, h1]
 rw [hno] at hq2
 obtain rfl : q = none := by cases q with | none => rfl | some x => cases hq2
 refine ⟨es.push { key := kP k, val := v, born := c }, c + 1, ?_, ?_⟩
 ·unfold Instr.mapUpdate
  simp [Sem.run_bind, run_underlying ht, run_getObj_map h1, hc, hf, hset]
 ·rw [Array.toList_push, List.map_append, h2]
  simp
end
def HP.mapV (r : Nat) (l : List ((Int × Int) × Value)) : HP := ⟨fun F w => F r ∧ MapV w r l, fun F w w' h hk => ⟨h.1, by
 obtain ⟨es, c, h1, h2⟩ := h.2
 exact ⟨es, c, (hk r h.1).trans h1, h2⟩⟩⟩
theorem MapV.lt {w : World} {r : Nat} {l : List ((Int × Int) × Value)} (h : MapV w r l) : r < w.heap.size := by
 obtain ⟨es, c, h1, _⟩ := h
 rcases Nat.lt_or_ge r w.heap.size with h | h
 ·exact h
 ·rw [Array.getElem?_eq_none h] at h1; cases h1
section
variable {P : Program} {N : Frm} {w0 w : World} {e : Env} {R : List Piece} {H : List HP} {Q : Exit → Act → World → Prop} {ops : Array Oper} {rest : List Oper}
variable {d : Nat} {ty : TypeId} {pos : String} {aft : Array Edge}
theorem St.mapV (st : St w0 R H w) {i r : Nat} {l : List ((Int × Int) × Value)} (hi : H[i]? = some (HP.mapV r l)) : MapV w r l := (st.sat hi).choose_spec.2
theorem xk_makeMapV {t : TypeId} (hd : d < N.n) (k : ∀ g, XK N w0 (wpList P ops Q rest) ((d, .map (some g)) :: e) R (HP.mapV g [] :: H)) : XK N w0 (wpList P ops Q (⟨some d, .makeMap t none, ty, pos, aft, none⟩ :: rest)) e R H :=
 xk_run rfl fun a w hr st => ⟨.map (some w.heap.size), w.alloc (.map #[] 0), by simp [execOp, Instr.makeMap], k w.heap.size _ _ (hr.put hd _) (st.new (alloc_below w _) ⟨⟨Nat.le_refl _, by simp⟩, #[], 0, heap_alloc_new w _, rfl⟩)⟩
theorem xk_lookupV {x y : Operand} {t kt et : TypeId} {z : Value} {r : Nat} {l : List ((Int × Int) × Value)} {k : Int × Int} (ok : Bool) (ht : P.underlying t = some (.map kt et)) (hk : PairK P kt) (hz : (P.info? et).bind (·.zero) = some z)
  (hx : e.ev x = some (.map (some r))) (hy : e.ev y = some (kP k)) (hm : ∀ w, St w0 R H w → MapV w r l) (hd : d < N.n)
  (kk : XK N w0 (wpList P ops Q rest) ((d, if ok then .tuple #[(mgetP l k).getD z, .bool (mgetP l k).isSome] else (mgetP l k).getD z) :: e) R H) : XK N w0 (wpList P ops Q (⟨some d, .lookup t x y ok, ty, pos, aft, none⟩ :: rest)) e R H :=
 xk_run rfl fun a w hr st => ⟨_, w, by simp only [execOp, hr.ev hx, hr.ev hy, Sem.run_bind, run_lookup_kP ht hk (zeroV hz) (hm w st), Result.andThen_ok, Sem.run_pure], kk _ _ (hr.put hd _) st⟩
theorem xk_lookupT {x y : Operand} {t kt et : TypeId} {z v : Value} {r : Nat} {l : List ((Int × Int) × Value)} {k : Int × Int} {b : Bool} (ht : P.underlying t = some (.map kt et)) (hk : PairK P kt) (hz : (P.info? et).bind (·.zero) = some z)
  (hx : e.ev x = some (.map (some r))) (hy : e.ev y = some (kP k)) (hm : ∀ w, St w0 R H w → MapV w r l) (hv : (mgetP l k).getD z = v) (hb : (mgetP l k).isSome = b) (hd : d < N.n)
  (kk : XK N w0 (wpList P ops Q rest) ((d, .tuple #[v, .bool b]) :: e) R H) : XK N w0 (wpList P ops Q (⟨some d, .lookup t x y true, ty, pos, aft, none⟩ :: rest)) e R H :=
 xk_lookupV true ht hk hz hx hy hm hd (by subst hv; subst hb; exact kk)
theorem xk_insertV (i : Nat) {x y u : Operand} {t kt et : TypeId} {r : Nat} {l : List ((Int × Int) × Value)} {k : Int × Int} {v : Value} (ht : P.underlying t = some (.map kt et)) (hk : PairK P kt) (hi : H[i]? = some (HP.mapV r l)) (hno : mgetP l k = none)
  (hx : e.ev x = some (.map (some r))) (hy : e.ev y = some (kP k)) (hu : e.ev u = some v) (kk : XK N w0 (wpList P ops Q rest) e R (H.set i (HP.mapV r (l ++ [(k, v)])))) : XK N w0 (wpList P ops Q (⟨none, .insert t x y u, ty, pos, aft, none⟩ :: rest)) e R H :=
 xk_skip rfl rfl fun a w hr st => by
  have hm := st.mapV hi
  have hlt := hm.lt
  obtain ⟨es, c, hrun, hl⟩ := run_insert_kP (P := P) ht hk hm k v hno
  refine ⟨{ w with heap := w.heap.setIfInBounds r (.map es c) }, by simp only [execOp, hr.ev hx, hr.ev hy, hr.ev hu, Sem.run_bind, hrun, Result.andThen_ok, Sem.run_pure], kk _ _ hr ?_⟩
  refine st.turn hi (by simp) rfl rfl rfl fun F hF hb => ⟨F, ⟨hF.1, es, c, by simp [Array.getElem?_setIfInBounds, hlt], hl⟩, fun b h => ⟨.inl h, by simpa using hb b h⟩, fun b hb hnb => ?_⟩
  rw [Array.getElem?_setIfInBounds]
  split
  ·rename_i he; exact absurd (he ▸ hF.1) hnb
  ·rfl
end
end
section
theorem markA_size : ∀ (sub : List Nat) (l : Array Bool), (markA sub l).size = l.size
 | [], l => rfl
 | i :: sub, l => by
  show ((markA sub l).setIfInBounds i true).size = _
  rw [Array.size_setIfInBounds, markA_size sub l]
theorem markA_in : ∀ (sub : List Nat) (l : Array Bool) (i : Nat) (b : Bool), i ∈ sub → i < l.size → (markA sub l).getD i b = true
 | j :: sub, l, i, b, h, hi => by
  show ((markA sub l).setIfInBounds j true).getD i b = true
  by_cases e : j = i
  ·subst e
   have : j < (markA sub l).size := by rw [markA_size]; exact hi
   simp [this]
  ·rw [getD_set_ne b e]
   rcases List.mem_cons.1 h with h | h
   ·exact absurd h.symm e
   ·exact markA_in sub l i b h hi
theorem markA_out : ∀ (sub : List Nat) (l : Array Bool) (i : Nat) (b : Bool), i ∉ sub → (markA sub l).getD i b = l.getD i b
 | [], l, i, b, _ => rfl
 | j :: sub, l, i, b, h => by
  show ((markA sub l).setIfInBounds j true).getD i b = _
  have e : j ≠ i := fun e => h (by simp [e])
  rw [getD_set_ne b e]
  exact markA_out sub l i b fun h2 => h (by simp [h2])
theorem markA_mono {sub : List Nat} {l : Array Bool} {i : Nat} (h : l.getD i false = true) : (markA sub l).getD i false = true := by
 by_cases hi : i ∈ sub
 ·refine markA_in sub l i false hi ?_
  rcases Nat.lt_or_ge i l.size with h1 | h1
  ·exact h1
  ·simp [Array.getElem?_eq_none h1] at h
 ·rw [markA_out sub l i false hi]; exact h
def insB (ops : Array Oper) (I : List Nat) (listed : Array Bool) : Bool :=
 I.all (fun i => decide (i < listed.size) && !(listed.getD i true) && match ops[i]? with
  | some o => o.after.toList.all fun x => !(Region.binds .any x) || listed.getD x.on false
  | none => false) &&
 (List.range ops.size).all fun j => I.contains j || listed.getD j true || match ops[j]? with
  | some o => I.all fun i => o.after.toList.any fun x => Region.binds .any x && x.on == i
  | none => true
theorem ready_ins {ops : Array Oper} {I sub : List Nat} {listed : Array Bool} (hB : insB ops I listed = true) (hsub : ∀ i ∈ sub, i ∈ I) {i0 : Nat} (hi0 : i0 ∈ I) (hn0 : i0 ∉ sub) :
  Region.ready .any ops (markA sub listed) ≠ [] ∧ ∀ j ∈ Region.ready .any ops (markA sub listed), j ∈ I ∧ j ∉ sub := by
 unfold insB at hB
 rw [Bool.and_eq_true, List.all_eq_true, List.all_eq_true] at hB
 obtain ⟨hA, hC⟩ := hB
 have h0 := hA i0 hi0
 simp only [Bool.and_eq_true, decide_eq_true_eq, Bool.not_eq_true'] at h0
 obtain ⟨⟨h1, h2⟩, h3⟩ := h0
 constructor
 ·cases ho : ops[i0]? with
  | none => rw [ho] at h3; cases h3
  | some o =>
   rw [ho] at h3
   simp only [List.all_eq_true] at h3
   have : i0 ∈ Region.ready .any ops (markA sub listed) := mem_ready.2 ⟨by rw [markA_out _ _ _ _ hn0]; exact h2, o, ho, fun x hx hb => by
    have := h3 x (by simpa using hx)
    rw [hb] at this
    exact markA_mono (by simpa using this)⟩
   intro he
   rw [he] at this
   cases this
 ·intro j hj
  obtain ⟨g1, o, ho, g2⟩ := mem_ready.1 hj
  have hjn : j ∉ sub := fun h => by
   have hA' := hA j (hsub j h)
   simp only [Bool.and_eq_true, decide_eq_true_eq] at hA'
   rw [markA_in sub listed j true h hA'.1.1] at g1
   cases g1
  refine ⟨?_, hjn⟩
  rw [markA_out _ _ _ _ hjn] at g1
  have hlt : j < ops.size := (Array.getElem?_eq_some_iff.1 ho).1
  have hc := hC j (List.mem_range.2 hlt)
  rw [g1, ho] at hc
  simp only [Bool.or_false, Bool.or_eq_true] at hc
  rcases hc with hc | hc
  ·simpa using hc
  ·exfalso
   rw [List.all_eq_true] at hc
   have := hc i0 hi0
   rw [List.any_eq_true] at this
   obtain ⟨x, hx, hb⟩ := this
   simp only [Bool.and_eq_true, beq_iff_eq] at hb
   have := g2 x (by simpa using hx) hb.1
   rw [hb.2, markA_out _ _ _ _ hn0] at this
   have h4 : listed.getD i0 true = listed.getD i0 false := by simp [h1]
   rw [h4, this] at h2
   cases h2
theorem perm_of_len {I sub : List Nat} (hI : I.Nodup) (hn : sub.Nodup) (hin : ∀ i ∈ sub, i ∈ I) : (I.filter fun i => sub.contains i).Perm sub := by
 rw [List.perm_iff_count]
 intro a
 rw [(hI.sublist List.filter_sublist).count, hn.count]
 by_cases ha : a ∈ sub
 ·rw [if_pos ha, if_pos (by simp [ha, hin a ha])]
 ·rw [if_neg ha, if_neg (by simp [ha])]
theorem mgetP_perm {l1 l2 : List ((Int × Int) × Value)} (h : l1.Perm l2) (hn : (l1.map (·.1)).Nodup) (k : Int × Int) : mgetP l1 k = mgetP l2 k := by
 induction h with
 | nil => rfl
 | cons x _ ih =>
  obtain ⟨a, b⟩ := x
  rw [mgetP_cons, mgetP_cons, ih (List.nodup_cons.1 hn).2]
 | swap x y s =>
  obtain ⟨a, b⟩ := x
  obtain ⟨c, d⟩ := y
  have hne : c ≠ a := fun e => (List.nodup_cons.1 hn).1 (by rw [e]; simp)
  simp only [mgetP_cons]
  by_cases h1 : a = k
  ·have : c ≠ k := fun e => hne (e.trans h1.symm)
   simp [h1, this]
  ·simp [h1]
 | trans h1 h2 i1 i2 => exact (i1 hn).trans (i2 ((h1.map _).nodup_iff.1 hn))
theorem mgetP_none {l : List ((Int × Int) × Value)} {k : Int × Int} (h : k ∉ l.map (·.1)) : mgetP l k = none := by
 induction l with
 | nil => rfl
 | cons x l ih =>
  obtain ⟨a, b⟩ := x
  rw [List.map_cons, List.mem_cons, not_or] at h
  rw [mgetP_cons, if_neg (fun e => h.1 e.symm)]
  exact ih h.2
section
variable {P : Program} {N : Frm} {w0 w : World} {e : Env} {R R0 : List Piece} {H H0 : List HP} {Q : Exit → Act → World → Prop} {ops : Array Oper} {m fuel : Nat} {listed : Array Bool}
def Lays (P : Program) (ops : Array Oper) (e : Env) (r : Nat) (i : Nat) (p : (Int × Int) × Value) : Prop := ∃ x y u ty pos aft t kt et, ops[i]? = some ⟨none, .insert t x y u, ty, pos, aft, none⟩ ∧ P.underlying t = some (.map kt et) ∧ PairK P kt ∧ e.ev x = some (.map (some r)) ∧ e.ev y = some (kP p.1) ∧ e.ev u = some p.2
theorem XA.inserts (I : List Nat) (ents : Nat → (Int × Int) × Value) (r : Nat) (hI : I.Nodup) (hop : ∀ i ∈ I, Lays P ops e r i (ents i)) (hkeys : (I.map fun i => (ents i).1).Nodup) (hB : insB ops I listed = true)
  (hS : ∀ l w, St w0 R (HP.mapV r l :: H) w → St w0 R0 H0 w)
  (k : ∀ sub : List Nat, sub.Perm I → XA P N w0 ops Q R0 H0 m fuel (markA sub listed) e R (HP.mapV r (sub.reverse.map ents) :: H)) : XA P N w0 ops Q R0 H0 m (fuel + I.length) listed e R (HP.mapV r [] :: H) := by
 have key : ∀ (n : Nat) (sub : List Nat), sub.Nodup → (∀ i ∈ sub, i ∈ I) → sub.length + n = I.length → XA P N w0 ops Q R0 H0 m (fuel + n) (markA sub listed) e R (HP.mapV r (sub.reverse.map ents) :: H) := by
  intro n
  induction n with
  | zero =>
   intro sub hn hin hl
   have hp := perm_of_len hI hn hin
   have hf : (I.filter fun i => sub.contains i) = I := List.filter_sublist.eq_of_length (by have := hp.length_eq; omega)
   rw [hf] at hp
   exact k sub hp.symm
  | succ n ih =>
   intro sub hn hin hl
   obtain ⟨i0, hi0, hn0⟩ : ∃ i, i ∈ I ∧ i ∉ sub := Classical.byContradiction fun hno => by
    have hp := perm_of_len hI hn hin
    have hf : (I.filter fun i => sub.contains i) = I := List.filter_eq_self.2 fun i hi => by
     rcases Classical.em (i ∈ sub) with h | h
     ·simpa using h
     ·exact absurd ⟨i, hi, h⟩ hno
    rw [hf] at hp
    have := hp.length_eq
    omega
   obtain ⟨r1, r2⟩ := ready_ins hB hin hi0 hn0
   intro up a w hrp st
   refine ⟨fun h => absurd h r1, fun i hi => ?_⟩
   obtain ⟨hiI, hin2⟩ := r2 i hi
   obtain ⟨x, y, u, ty, pos, aft, t, kt, et, ho, ht, hk, hx, hy, hu⟩ := hop i hiI
   have hno : mgetP (sub.reverse.map ents) (ents i).1 = none := mgetP_none fun hm => by
    simp only [List.map_map, List.mem_map, List.mem_reverse, Function.comp] at hm
    obtain ⟨j, hj, he⟩ := hm
    have hji : j ≠ i := fun e => hin2 (e ▸ hj)
    exact hji (Classical.byContradiction fun hne => by
     have h1 := List.pairwise_map.1 hkeys
     exact absurd he (by
      obtain ⟨a, ha⟩ := List.getElem?_of_mem (hin j hj)
      obtain ⟨b, hb⟩ := List.getElem?_of_mem hiI
      have hal := (List.getElem?_eq_some_iff.1 ha).1
      have hbl := (List.getElem?_eq_some_iff.1 hb).1
      have hav := (List.getElem?_eq_some_iff.1 ha).2
      have hbv := (List.getElem?_eq_some_iff.1 hb).2
      have h2 := List.pairwise_iff_getElem.1 h1
      rcases Nat.lt_trichotomy a b with h | h | h
      ·have := h2 a b hal hbl h; rw [hav, hbv] at this; exact this
      ·subst h; exact absurd (hav.symm.trans hbv) hji
      ·have := h2 b a hbl hal h; rw [hav, hbv] at this; exact fun e => this e.symm))
   refine xa_step ho (fun a w h => ⟨h.1, h.2 (up.set_ hi)⟩) (K := XAK P w0 ops Q R0 H0 m (fuel + n) (markA sub listed) i) ?_
   have := xk_insertV (P := P) (N := N) (w0 := w0) (R := R) (H := HP.mapV r (sub.reverse.map ents) :: H) (Q := Exit.then (XAK P w0 ops Q R0 H0 m (fuel + n) (markA sub listed) i) Q) (ops := ops) (rest := []) (ty := ty) (pos := pos) (aft := aft) 0 ht hk rfl hno hx hy hu
    (XK.nil (XK.thenN (XA.back (hS _) (by
     have := ih (i :: sub) (List.nodup_cons.2 ⟨hin2, hn⟩) (fun j hj => by
      rcases List.mem_cons.1 hj with rfl | hj
      ·exact hiI
      ·exact hin j hj) (by simp only [List.length_cons]; omega)
     rw [List.reverse_cons, List.map_append] at this
     exact this))))
   exact this a w hrp st
 exact key I.length [] List.nodup_nil (fun _ h => by cases h) (by simp)
end
end
section
theorem fill_le (L : List (Nat × Nat)) (place : Nat → Option (Nat × Nat)) (hp : ∀ i x, L[i]? = some x → place i = some x) : ∀ (ps : List (Nat × Value)) (cs cs' : List Value), fillL L cs ps = some cs' → Instr.fill place cs.toArray ps = some cs'.toArray
 | [], cs, cs', h => by cases h; rfl
 | (i, v) :: rest, cs, cs', h => by
  unfold fillL at h
  unfold Instr.fill
  split at h
  ·rename_i off sz hL
   rw [hp _ _ hL]
   split at h
   ·rename_i hc
    have e1 : (decide (v.cells.size ≠ sz) || decide (off + v.cells.size > cs.toArray.size)) = false := by simp; omega
    simp only [e1, Bool.false_eq_true, if_false]
    have := setN_fold v.cells.toList cs off 0
    rw [show v.cells.zipIdx.foldl (fun cs (c, j) => cs.setIfInBounds (off + j) c) cs.toArray = (setN cs off v.cells.toList).toArray by
     rw [← Array.foldl_toList, Array.toList_zipIdx]; exact this]
    exact fill_le L place hp rest _ cs' h
   ·cases h
  ·cases h
section
variable {P : Program} {N : Frm} {w0 : World} {e : Env} {R : List Piece} {H : List HP} {d : Nat} {ty : TypeId} {pos : String} {aft : Array Edge}
theorem does_buildA {t el : TypeId} {n sz : Nat} {ps : List (Nat × Operand)} {vs : List (Nat × Value)} {zs cs : List Value} (hz : zeroB P t zs) (ht : P.underlying t = some (.array n el)) (hsz : (P.info? el).map (·.size) = some sz) (hp : e.parts ps = some vs) (hf : fillL ((List.range n).map fun i => (i * sz, sz)) zs vs = some cs) : Does P N w0 e R H ⟨some d, .build t ps.toArray, ty, pos, aft, none⟩ (.agg cs.toArray) :=
 does_of (fun a w hr => by
  have := hr.parts hp
  obtain ⟨i, z, hi, hzz, rfl⟩ := hz
  obtain ⟨j, hj, rfl⟩ := Option.map_eq_some_iff.1 hsz
  have hfl := fill_le _ (fun i => some (i * j.size, j.size)) (fun i x hx => by
   rw [List.getElem?_map] at hx
   obtain ⟨q, hq, rfl⟩ := Option.map_eq_some_iff.1 hx
   have hlt : i < n := by
    rcases Nat.lt_or_ge i n with h | h
    ·exact h
    ·rw [List.getElem?_eq_none (by simpa using h)] at hq; cases hq
   rw [List.getElem?_range hlt] at hq
   cases hq
   rfl) vs z.cells.toList cs hf
  simp at hfl
  simp only [execOp, List.map_toArray, this]
  simp [Instr.build, zeroValue, typeInfo, sizeOf, hi, hj, hzz, run_underlying ht, hfl])
end
def frm (n m a b c : Int) : Value := .agg #[.int .i64 n, .int .i64 m, .int .u8 a, .int .u8 b, .int .u8 c]
theorem msgK : PairK Tryz.prog 280 := PairK.of Tryz.underlying280 Tryz.underlying3 Tryz.underlying3 rfl rfl (fun _ _ _ _ => by kernel_rfl)
def frmE : Nat → (Int × Int) × Value
 | 3 => ((16, 0), frm 0 0 0 0 0) | 6 => ((17, 0), frm 0 0 0 0 0) | 9 => ((20, 0), frm 0 0 0 0 0) | 12 => ((22, 0), frm 0 0 0 0 0) | 15 => ((16, 1), frm 0 0 0 0 0)
 | 19 => ((17, 4), frm 2 3 100 117 107) | 22 => ((17, 5), frm 1 0 0 0 0) | 25 => ((20, 6), frm 1 0 0 0 0) | 29 => ((20, 7), frm 2 2 111 99 0) | _ => ((22, 4), frm 2 2 114 97 0)
def frmI : List Nat := [3, 6, 9, 12, 15, 19, 22, 25, 29, 33]
def frmL : List ((Int × Int) × Value) := frmI.map frmE
def FormsOk (v : Value) (hs : List HP) (_ : Piece) : Prop := ∃ (g : Nat) (sub : List Nat), v = .map (some g) ∧ sub.Perm frmI ∧ hs = [HP.mapV g (sub.reverse.map frmE)]
theorem forms_any (w : World) : Calls Tryz.prog 176 #[] w (fun y w' => (∃ v hs q, y = .returned v ∧ q.w = w' ∧ FormsOk v hs q ∧ New w hs q) ∧ Below w.heap.size w w') := by
 refine XK.enter (vs := []) Tryz.func176 rfl Tryz.ntmps176 (by simp) ?_
 refine XK.seq ?_
 refine XK.region ?_
 refine xk_assign rfl (by decide) ?_
 refine XK.nilN ?_
 refine XK.seq ?_
 refine XK.draw 34 (by kernel_rfl) (by kernel_rfl) ?_
 refine XA.do_ 1 rfl rfl rfl (by decide) (does_buildS (zs := [.int .i64 0, .int .i64 0]) (L := [(0, 1), (1, 1)]) (zeroB_of (by kernel_rfl)) (by kernel_rfl) rfl (by simp [fillL, setN, Value.cells]; rfl)) (by kernel_rfl) (fun _ _ _ h => h) (fun _ h => h) ?_
 refine XA.do_ 2 rfl rfl rfl (by decide) (does_buildS (zs := [.int .i64 0, .int .i64 0, .int .u8 0, .int .u8 0, .int .u8 0]) (L := [(0, 1), (1, 1), (2, 3)]) (zeroB_of (by kernel_rfl)) (by kernel_rfl) rfl (by simp [fillL, setN, Value.cells]; rfl)) (by kernel_rfl) (fun _ _ _ h => h) (fun _ h => h) ?_
 refine XA.do_ 4 rfl rfl rfl (by decide) (does_buildS (zs := [.int .i64 0, .int .i64 0]) (L := [(0, 1), (1, 1)]) (zeroB_of (by kernel_rfl)) (by kernel_rfl) rfl (by simp [fillL, setN, Value.cells]; rfl)) (by kernel_rfl) (fun _ _ _ h => h) (fun _ h => h) ?_
 refine XA.do_ 5 rfl rfl rfl (by decide) (does_buildS (zs := [.int .i64 0, .int .i64 0, .int .u8 0, .int .u8 0, .int .u8 0]) (L := [(0, 1), (1, 1), (2, 3)]) (zeroB_of (by kernel_rfl)) (by kernel_rfl) rfl (by simp [fillL, setN, Value.cells]; rfl)) (by kernel_rfl) (fun _ _ _ h => h) (fun _ h => h) ?_
 refine XA.do_ 7 rfl rfl rfl (by decide) (does_buildS (zs := [.int .i64 0, .int .i64 0]) (L := [(0, 1), (1, 1)]) (zeroB_of (by kernel_rfl)) (by kernel_rfl) rfl (by simp [fillL, setN, Value.cells]; rfl)) (by kernel_rfl) (fun _ _ _ h => h) (fun _ h => h) ?_
 refine XA.do_ 8 rfl rfl rfl (by decide) (does_buildS (zs := [.int .i64 0, .int .i64 0, .int .u8 0, .int .u8 0, .int .u8 0]) (L := [(0, 1), (1, 1), (2, 3)]) (zeroB_of (by kernel_rfl)) (by kernel_rfl) rfl (by simp [fillL, setN, Value.cells]; rfl)) (by kernel_rfl) (fun _ _ _ h => h) (fun _ h => h) ?_
 refine XA.do_ 10 rfl rfl rfl (by decide) (does_buildS (zs := [.int .i64 0, .int .i64 0]) (L := [(0, 1), (1, 1)]) (zeroB_of (by kernel_rfl)) (by kernel_rfl) rfl (by simp [fillL, setN, Value.cells]; rfl)) (by kernel_rfl) (fun _ _ _ h => h) (fun _ h => h) ?_
 refine XA.do_ 11 rfl rfl rfl (by decide) (does_buildS (zs := [.int .i64 0, .int .i64 0, .int .u8 0, .int .u8 0, .int .u8 0]) (L := [(0, 1), (1, 1), (2, 3)]) (zeroB_of (by kernel_rfl)) (by kernel_rfl) rfl (by simp [fillL, setN, Value.cells]; rfl)) (by kernel_rfl) (fun _ _ _ h => h) (fun _ h => h) ?_
 refine XA.do_ 13 rfl rfl rfl (by decide) (does_buildS (zs := [.int .i64 0, .int .i64 0]) (L := [(0, 1), (1, 1)]) (zeroB_of (by kernel_rfl)) (by kernel_rfl) rfl (by simp [fillL, setN, Value.cells]; rfl)) (by kernel_rfl) (fun _ _ _ h => h) (fun _ h => h) ?_
 refine XA.do_ 14 rfl rfl rfl (by decide) (does_buildS (zs := [.int .i64 0, .int .i64 0, .int .u8 0, .int .u8 0, .int .u8 0]) (L := [(0, 1), (1, 1), (2, 3)]) (zeroB_of (by kernel_rfl)) (by kernel_rfl) rfl (by simp [fillL, setN, Value.cells]; rfl)) (by kernel_rfl) (fun _ _ _ h => h) (fun _ h => h) ?_
 refine XA.do_ 16 rfl rfl rfl (by decide) (does_buildS (zs := [.int .i64 0, .int .i64 0]) (L := [(0, 1), (1, 1)]) (zeroB_of (by kernel_rfl)) (by kernel_rfl) rfl (by simp [fillL, setN, Value.cells]; rfl)) (by kernel_rfl) (fun _ _ _ h => h) (fun _ h => h) ?_
 refine XA.do_ 17 rfl rfl rfl (by decide) (does_buildA (n := 3) (sz := 1) (el := 5) (zs := [.int .u8 0, .int .u8 0, .int .u8 0]) (zeroB_of (by kernel_rfl)) (by kernel_rfl) (by kernel_rfl) rfl (by simp [fillL, setN, Value.cells, List.range_succ, List.set]; rfl)) (by kernel_rfl) (fun _ _ _ h => h) (fun _ h => h) ?_
 refine XA.do_ 18 rfl rfl rfl (by decide) (does_buildS (zs := [.int .i64 0, .int .i64 0, .int .u8 0, .int .u8 0, .int .u8 0]) (L := [(0, 1), (1, 1), (2, 3)]) (zeroB_of (by kernel_rfl)) (by kernel_rfl) rfl (by simp [fillL, setN, Value.cells]; rfl)) (by kernel_rfl) (fun _ _ _ h => h) (fun _ h => h) ?_
 refine XA.do_ 20 rfl rfl rfl (by decide) (does_buildS (zs := [.int .i64 0, .int .i64 0]) (L := [(0, 1), (1, 1)]) (zeroB_of (by kernel_rfl)) (by kernel_rfl) rfl (by simp [fillL, setN, Value.cells]; rfl)) (by kernel_rfl) (fun _ _ _ h => h) (fun _ h => h) ?_
 refine XA.do_ 21 rfl rfl rfl (by decide) (does_buildS (zs := [.int .i64 0, .int .i64 0, .int .u8 0, .int .u8 0, .int .u8 0]) (L := [(0, 1), (1, 1), (2, 3)]) (zeroB_of (by kernel_rfl)) (by kernel_rfl) rfl (by simp [fillL, setN, Value.cells]; rfl)) (by kernel_rfl) (fun _ _ _ h => h) (fun _ h => h) ?_
 refine XA.do_ 23 rfl rfl rfl (by decide) (does_buildS (zs := [.int .i64 0, .int .i64 0]) (L := [(0, 1), (1, 1)]) (zeroB_of (by kernel_rfl)) (by kernel_rfl) rfl (by simp [fillL, setN, Value.cells]; rfl)) (by kernel_rfl) (fun _ _ _ h => h) (fun _ h => h) ?_
 refine XA.do_ 24 rfl rfl rfl (by decide) (does_buildS (zs := [.int .i64 0, .int .i64 0, .int .u8 0, .int .u8 0, .int .u8 0]) (L := [(0, 1), (1, 1), (2, 3)]) (zeroB_of (by kernel_rfl)) (by kernel_rfl) rfl (by simp [fillL, setN, Value.cells]; rfl)) (by kernel_rfl) (fun _ _ _ h => h) (fun _ h => h) ?_
 refine XA.do_ 26 rfl rfl rfl (by decide) (does_buildS (zs := [.int .i64 0, .int .i64 0]) (L := [(0, 1), (1, 1)]) (zeroB_of (by kernel_rfl)) (by kernel_rfl) rfl (by simp [fillL, setN, Value.cells]; rfl)) (by kernel_rfl) (fun _ _ _ h => h) (fun _ h => h) ?_
 refine XA.do_ 27 rfl rfl rfl (by decide) (does_buildA (n := 3) (sz := 1) (el := 5) (zs := [.int .u8 0, .int .u8 0, .int .u8 0]) (zeroB_of (by kernel_rfl)) (by kernel_rfl) (by kernel_rfl) rfl (by simp [fillL, setN, Value.cells, List.range_succ, List.set]; rfl)) (by kernel_rfl) (fun _ _ _ h => h) (fun _ h => h) ?_
 refine XA.do_ 28 rfl rfl rfl (by decide) (does_buildS (zs := [.int .i64 0, .int .i64 0, .int .u8 0, .int .u8 0, .int .u8 0]) (L := [(0, 1), (1, 1), (2, 3)]) (zeroB_of (by kernel_rfl)) (by kernel_rfl) rfl (by simp [fillL, setN, Value.cells]; rfl)) (by kernel_rfl) (fun _ _ _ h => h) (fun _ h => h) ?_
 refine XA.do_ 30 rfl rfl rfl (by decide) (does_buildS (zs := [.int .i64 0, .int .i64 0]) (L := [(0, 1), (1, 1)]) (zeroB_of (by kernel_rfl)) (by kernel_rfl) rfl (by simp [fillL, setN, Value.cells]; rfl)) (by kernel_rfl) (fun _ _ _ h => h) (fun _ h => h) ?_
 refine XA.do_ 31 rfl rfl rfl (by decide) (does_buildA (n := 3) (sz := 1) (el := 5) (zs := [.int .u8 0, .int .u8 0, .int .u8 0]) (zeroB_of (by kernel_rfl)) (by kernel_rfl) (by kernel_rfl) rfl (by simp [fillL, setN, Value.cells, List.range_succ, List.set]; rfl)) (by kernel_rfl) (fun _ _ _ h => h) (fun _ h => h) ?_
 refine XA.do_ 32 rfl rfl rfl (by decide) (does_buildS (zs := [.int .i64 0, .int .i64 0, .int .u8 0, .int .u8 0, .int .u8 0]) (L := [(0, 1), (1, 1), (2, 3)]) (zeroB_of (by kernel_rfl)) (by kernel_rfl) rfl (by simp [fillL, setN, Value.cells]; rfl)) (by kernel_rfl) (fun _ _ _ h => h) (fun _ h => h) ?_
 refine XA.next 0 rfl (by kernel_rfl) ?_
 refine xk_makeMapV (by decide) fun g1 => ?_
 refine XA.bk ?_
 refine XA.inserts (fuel := 2) frmI frmE g1 (by decide) (fun i hi => ?_) (by decide) (by kernel_rfl) (fun l w1 h => h.tail) (fun sub hsub => ?_)
 ·simp only [frmI, List.mem_cons, List.not_mem_nil, or_false] at hi
  rcases hi with rfl | rfl | rfl | rfl | rfl | rfl | rfl | rfl | rfl | rfl
  all_goals exact ⟨_, _, _, _, _, _, _, _, _, rfl, Tryz.underlying277, msgK, rfl, rfl, rfl⟩
 rw [markA_perm hsub]
 refine XA.next 34 rfl (by kernel_rfl) ?_
 refine xk_move rfl (by decide) ?_
 refine XA.bt ?_
 refine XA.next 35 rfl (by kernel_rfl) ?_
 refine xk_assign rfl (by decide) ?_
 refine XA.bt ?_
 refine XA.done (by kernel_rfl) ?_
 refine XK.norm ?_
 refine XK.ret ?_
 refine XK.norm ?_
 refine XK.still [] [] [0] (by simp) rfl (by decide) (by decide) fun q _ _ hfr => ?_
 exact XK.ret1 rfl rfl fun w1 st => ⟨⟨_, _, ⟨w1, q.Z⟩, rfl, rfl, ⟨g1, sub, rfl, hsub, rfl⟩, st.newR (by simp) (by simp) (hfr (by simp) (by simp))⟩, st.below (by simp)⟩
end
section
def hMsg (w : Int) : Int := if getZ w 28 4 ≠ 0 then 0 else getZ w 0 8
def hTyp (w : Int) : Int := if getZ w 28 4 ≠ 0 then 0 else getZ w 8 2
def hPro (w : Int) : Int := if getZ w 28 4 ≠ 0 then 0 else getZ w 10 8
def hTok (w : Int) : Int := if getZ w 28 4 ≠ 0 then 0 else getZ w 18 10
theorem unpackH_eq (w : Int) : unpackH w = headC (hMsg w) (hTyp w) (hPro w) (hTok w) := by
 unfold unpackH hMsg hTyp hPro hTok
 split <;> rfl
structure FrmT where
 n : Int
 m : Int
 a : Int
 b : Int
 c : Int
def FrmT.v (f : FrmT) : Value := frm f.n f.m f.a f.b f.c
def FrmT.act (f : FrmT) (v : Int) : Int := if v = 0 then f.a else if v = 1 then f.b else f.c
def frmOf (p m : Int) : Option FrmT :=
 if m = 0 then (if p = 16 ∨ p = 17 ∨ p = 20 ∨ p = 22 then some ⟨0, 0, 0, 0, 0⟩ else none)
 else if m = 1 then (if p = 16 then some ⟨0, 0, 0, 0, 0⟩ else none)
 else if m = 4 then (if p = 17 then some ⟨2, 3, 100, 117, 107⟩ else if p = 22 then some ⟨2, 2, 114, 97, 0⟩ else none)
 else if m = 5 then (if p = 17 then some ⟨1, 0, 0, 0, 0⟩ else none)
 else if m = 6 then (if p = 20 then some ⟨1, 0, 0, 0, 0⟩ else none)
 else if m = 7 then (if p = 20 then some ⟨2, 2, 111, 99, 0⟩ else none)
 else none
theorem frm_get (p m : Int) : mgetP frmL (p, m) = (frmOf p m).map FrmT.v := by
 unfold frmL frmI frmOf
 simp only [List.map_cons, List.map_nil, frmE, mgetP_cons, Prod.mk.injEq]
 by_cases h0 : m = 0
 ·subst h0
  by_cases h16 : p = 16
  ·subst h16; simp [FrmT.v]
  ·by_cases h17 : p = 17
   ·subst h17; simp [FrmT.v]
   ·by_cases h20 : p = 20
    ·subst h20; simp [FrmT.v]
    ·by_cases h22 : p = 22
     ·subst h22; simp [FrmT.v]
     ·simp [h16, h17, h20, h22, mgetP, Ne.symm h16, Ne.symm h17, Ne.symm h20, Ne.symm h22]
 ·by_cases h1 : m = 1
  ·subst h1
   by_cases h16 : p = 16
   ·subst h16; simp [FrmT.v]
   ·simp [h16, Ne.symm h16, mgetP]
  ·by_cases h4 : m = 4
   ·subst h4
    by_cases h17 : p = 17
    ·subst h17; simp [FrmT.v]
    ·by_cases h22 : p = 22
     ·subst h22; simp [FrmT.v]
     ·simp [h17, h22, Ne.symm h17, Ne.symm h22, mgetP]
   ·by_cases h5 : m = 5
    ·subst h5
     by_cases h17 : p = 17
     ·subst h17; simp [FrmT.v]
     ·simp [h17, Ne.symm h17, mgetP]
    ·by_cases h6 : m = 6
     ·subst h6
      by_cases h20 : p = 20
      ·subst h20; simp [FrmT.v]
      ·simp [h20, Ne.symm h20, mgetP]
     ·by_cases h7 : m = 7
      ·subst h7
       by_cases h20 : p = 20
       ·subst h20; simp [FrmT.v]
       ·simp [h20, Ne.symm h20, mgetP]
      ·simp [h0, h1, h4, h5, h6, h7, Ne.symm h0, Ne.symm h1, Ne.symm h4, Ne.symm h5, Ne.symm h6, Ne.symm h7, mgetP]
def frmD (p m : Int) : FrmT := (frmOf p m).getD ⟨0, 0, 0, 0, 0⟩
theorem frm_perm {sub : List Nat} (h : sub.Perm frmI) (p m : Int) : mgetP (sub.reverse.map frmE) (p, m) = (frmOf p m).map FrmT.v := by
 rw [← frm_get]
 have hp : (sub.reverse.map frmE).Perm frmL := ((List.reverse_perm sub).trans h).map frmE
 refine mgetP_perm hp ?_ _
 exact ((hp.map (·.1)).nodup_iff).2 (by decide)
theorem frm_look {sub : List Nat} (h : sub.Perm frmI) (p m : Int) : (mgetP (sub.reverse.map frmE) (p, m)).getD (frm 0 0 0 0 0) = (frmD p m).v ∧ (mgetP (sub.reverse.map frmE) (p, m)).isSome = (frmOf p m).isSome := by
 rw [frm_perm h]
 unfold frmD
 cases frmOf p m <;> exact ⟨rfl, rfl⟩
theorem frm_ok (p m : Int) : ((frmD p m).n = 0 ∨ (frmD p m).n = 1 ∨ (frmD p m).n = 2) ∧ 0 ≤ (frmD p m).m ∧ (frmD p m).m ≤ 3 ∧ (∀ v, 0 ≤ v → v < (frmD p m).m → (frmD p m).act v = 107 → p = 17) ∧
  ((frmD p m).m ≠ 0 → p = 17 ∨ p = 20 ∨ p = 22) := by
 unfold frmD frmOf
 by_cases h0 : m = 0
 ·by_cases h : p = 16 ∨ p = 17 ∨ p = 20 ∨ p = 22 <;> simp [h0, h] <;> omega
 ·by_cases h1 : m = 1
  ·by_cases h : p = 16 <;> simp [h1, h] <;> omega
  ·by_cases h4 : m = 4
   ·by_cases h : p = 17
    ·simp [h4, h]
    ·by_cases h' : p = 22
     ·subst h4 h'
      simp only [FrmT.act]
      refine ⟨by simp, by simp, by simp, fun v h1 h2 h3 => ?_, by simp⟩
      simp at h2 h3
      split at h3
      ·omega
      ·split at h3 <;> omega
     ·simp [h4, h, h']; omega
   ·by_cases h5 : m = 5
    ·by_cases h : p = 17 <;> simp [h5, h] <;> omega
    ·by_cases h6 : m = 6
     ·by_cases h : p = 20 <;> simp [h6, h] <;> omega
     ·by_cases h7 : m = 7
      ·by_cases h : p = 20
       ·subst h7 h
        simp only [FrmT.act]
        refine ⟨by simp, by simp, by simp, fun v h1 h2 h3 => ?_, by simp⟩
        simp at h2 h3
        split at h3
        ·omega
        ·split at h3 <;> omega
       ·simp [h7, h]; omega
      ·simp [h0, h1, h4, h5, h6, h7]; omega
def retOf (s : Soc) (k : Nat) : Bool := (s.domains[k]?).any (·.ret)
def kindOf (s : Soc) (k : Nat) : Int := ((s.clocks[k]?).map (·.kind)).getD 0
def swit (s : Soc) (k : Nat) : Prop := kindOf s k = 112 ∨ kindOf s k = 103
instance (s : Soc) (k : Nat) : Decidable (swit s k) := inferInstanceAs (Decidable (_ ∨ _))
def notF (s : Soc) (p k : Int) (id : Nat) : Prop := (k = 107 ∧ retOf s id = false) ∨ (p = 20 ∧ ¬ swit s id)
instance (s : Soc) (p k : Int) (id : Nat) : Decidable (notF s p k id) := inferInstanceAs (Decidable (_ ∨ _))
def askF (s : Soc) (p : Int) (f : FrmT) (id v : Int) : Int × Int × Int :=
 if (numF s p : Int) ≤ id then (-4, 0, 0) else if f.m = 0 then (0, 0, 0) else if f.m ≤ v then (-2, 0, 0) else if notF s p (f.act v) id.toNat then (-2, 0, 0) else (0, f.act v, id)
def readF (s : Soc) (l : List Int) : Int × Int × Int :=
 match l with
 | [] => (-10, 0, 0)
 | w :: r =>
  if unpackE w ≠ 0 ∨ hTyp w ≠ 0 then (-10, 0, 0)
  else if (frmOf (hPro w) (hMsg w)).isSome = false then (-1, 0, 0)
  else if (r.length : Int) ≠ (frmD (hPro w) (hMsg w)).n then (-10, 0, 0)
  else if (frmD (hPro w) (hMsg w)).n = 0 then (0, 0, 0)
  else askF s (hPro w) (frmD (hPro w) (hMsg w)) (r.getD 0 0) (r.getD ((frmD (hPro w) (hMsg w)).n.toNat - 1) 0)
def actV (a : Int × Int × Int) : Value := .tuple #[.int .i32 a.1, .agg #[.int .u8 a.2.1, .int .i64 a.2.2]]
def U32s (l : List Int) : Prop := ∀ x ∈ l, 0 ≤ x ∧ x < 4294967296
theorem SlS.u32 {w : World} {A : Option Addr} {n : Nat} {l : List Int} (h : SlS (all w) 1 A n (u32Cells l)) (hn : 0 < n) : ∃ b off, A = some ⟨b, off, none⟩ ∧ ∀ (i : Nat) (x : Int), l[i]? = some x → ROc w b (off + i) (.int .u32 x) := by
 obtain ⟨b, off, hA, hb, hc⟩ := h.2 hn
 refine ⟨b, off, hA, fun i x hx => ⟨hb, hc i _ ?_⟩⟩
 simp only [u32Cells, List.getElem?_map, hx, Option.map_some]
section
variable {P : Program} {N : FrmT} {w0 : World} {e : Env} {R : List Piece} {H : List HP}
theorem XK.retTC {nn : Nat} {fn : Func} {Post : Ending → World → Prop} {t u n b : Nat} {s : TypeId} {vs : List Value} {v' : Value} (hr : fn.results = #[.tmp u, .cell t s]) (hs : rowB P s n = true) (hn : vs.length = n) (ht : e.get t = some (.pointer (some ⟨b, 0, none⟩))) (hrd : RdN w0 R H b 0 vs) (hu : e.get u = some v') (h : ∀ w, St w0 R H w → Post (.returned (.tuple #[v', .agg vs.toArray])) w) : XK ⟨nn, []⟩ w0 (bodyPost P fn Post .ret) e R H := fun a w hrp st => by
 have hl := run_load_row (P := P) hs hn (hrd w st)
 refine bodyPost_ret (v := .tuple #[v', .agg vs.toArray]) ?_ hrp.defers (h w st)
 have ha := hrp.get t _ ht
 have hb := hrp.get u _ hu
 simp only [Instr.loadAt, Instr.sureAddr, Sem.run_bind, Sem.run_pure, Result.andThen_ok] at hl
 simp only [results, hr]
 simp [ha, hb, asAddr, hl]
end
end
end Go.Proofs.YticjkhagldkejaaGreatDoor
