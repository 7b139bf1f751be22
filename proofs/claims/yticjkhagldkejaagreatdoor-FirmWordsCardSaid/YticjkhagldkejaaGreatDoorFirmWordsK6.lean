/- chip: a description that is right, of any raw numbers. No condition of ours. -/
import Derived.KernelRfl
import Derived.Test.YticjkhagldkejaaGreatDoorProg
import Derived.Test.YticjkhagldkejaaGreatDoorFirmWordsK5
namespace Go.Proofs.YticjkhagldkejaaGreatDoor
set_option linter.all false
open Go.RowKit
section
theorem Wi (c n : Int) (w : World) (hc : -9223372036854775808 ≤ c ∧ c ≤ 9223372036854775807) (hn : 0 < n) :
  Calls Tryz.prog 17 #[.int .i64 c, .int .i64 n] w fun x w' => (∃ v, x = .returned v ∧ ∃ r : Int, v = .int .i64 r ∧ 0 ≤ r ∧ r < n) ∧ Below w.heap.size w w' := by
 refine XK.enter (vs := [.int .i64 c, .int .i64 n]) Tryz.func17 rfl Tryz.ntmps17 (by simp) ?_
 refine XK.seq ?_
 refine XK.region ?_
 refine aH rfl (by decide) ?_
 refine XK.aA ?_
 refine XK.cut (fun e R H => ∃ c : Int, 0 ≤ c ∧ e = [(0, .int .i64 c), (1, .int .i64 n)] ∧ R = [all w] ∧ H = []) ?_ ?_
 ·refine XK.seq ?_
  refine XK.region ?_
  refine aF rfl (by decide) ?_
  refine fB rfl rfl (by decide) ?_
  refine XK.aA ?_
  refine XK.if_ rfl (fun h => ?_) (fun h => ?_)
  ·refine XK.go ?_
   refine aB4 rfl (aY (by omega)) (by decide) ?_
   refine XK.go ?_
   exact XK.aL [(0, .int .i64 (0 - (c + 1))), (1, .int .i64 n)] (XK.meet ⟨_, by omega, rfl, rfl, rfl⟩)
  ·refine XK.go ?_
   exact XK.aL [(0, .int .i64 c), (1, .int .i64 n)] (XK.meet ⟨_, by omega, rfl, rfl, rfl⟩)
 rintro _ _ _ ⟨c, hc0, rfl, rfl, rfl⟩
 refine XK.go ?_
 refine pN rfl rfl (by omega) (rem_in (by omega)) (by decide) ?_
 refine XK.go ?_
 exact XK.aK rfl rfl fun w' st => ⟨⟨_, rfl, _, rfl, Int.emod_nonneg _ (by omega), Int.emod_lt_of_pos _ hn⟩, st.below (by simp)⟩
set_option maxRecDepth 100000 in
set_option maxHeartbeats 4000000 in
theorem aG8 (A : Option Addr) (n c : Nat) (zs : List Int) (w : World) (h0 : aI (all w) 1 A n (aR zs)) (hz : Tq zs) (hn : n = zs.length) (hn2 : n ≤ 9223372036854775807) :
    Calls Tryz.prog 14 #[.slice A n c] w fun x w' => (∃ v, x = .returned v ∧ ∃ cs s, v = .agg cs ∧ mJ (dR (fresh w w')) s cs ∧ s.made) ∧ Below w.heap.size w w' := by
  refine XK.enter (vs := [.slice A n c]) Tryz.func14 rfl Tryz.ntmps14 (by simp) ?_
  refine XK.seq ?_
  refine XK.region ?_
  refine cD (cs := [.slice none 0 0, .slice none 0 0, .slice none 0 0, .slice none 0 0]) (aM (by kernel_rfl)) (by decide) fun g1 => ?_
  refine XK.aA ?_
  refine XK.seq ?_
  refine XK.region ?_
  refine aH rfl (by decide) ?_
  refine XK.aA ?_
  refine XK.seq ?_
  refine XK.region ?_
  refine jQ 8 (n := 120) (el := 3) (z := .int .i64 0) (by kernel_rfl) (by kernel_rfl) rfl rfl rfl (by omega) (by omega) (by decide) fun g2 => ?_
  refine aH rfl (by decide) ?_
  refine XK.aA ?_
  refine XK.cut (fun e R H => ∃ ds, sU ds ∧ e = [(4, .slice (some ⟨g2, 0, none⟩) 120 120), (2, .pointer (some ⟨g1, 0, none⟩))] ∧ R = [all w] ∧ H = [HP.aE g2 3 (aR ds), HP.aE g1 29 [.slice none 0 0, .slice none 0 0, .slice none 0 0, .slice none 0 0]]) ?_ ?_
  ·
    refine XK.seq ?_
    refine XK.region ?_
    refine aH rfl (by decide) ?_
    refine XK.aA ?_
    refine XK.aL [(5, .int .i64 0), (4, .slice (some ⟨g2, 0, none⟩) 120 120), (2, .pointer (some ⟨g1, 0, none⟩)), (0, .slice A n c)] ?_
    refine XK.block ?_
    refine XK.loop (fun m e R H => ∃ (k : Nat) (ds : List Int), sU ds ∧ k ≤ 120 ∧ m = 120 - k ∧ e = [(5, .int .i64 k), (4, .slice (some ⟨g2, 0, none⟩) 120 120), (2, .pointer (some ⟨g1, 0, none⟩)), (0, .slice A n c)] ∧ R = [all w] ∧ H = [HP.aE g2 3 (aR ds), HP.aE g1 29 [.slice none 0 0, .slice none 0 0, .slice none 0 0, .slice none 0 0]]) 120 ⟨0, List.replicate 120 0, sU.zero, by omega, rfl, rfl, rfl, by simp [aR]⟩ fun m e R H hI => ?_
    obtain ⟨k, ds, hd, hk, rfl, rfl, rfl, rfl⟩ := hI
    refine XK.seq ?_
    refine XK.seq ?_
    refine XK.region ?_
    refine aF rfl (by decide) ?_
    refine aF rfl (by decide) ?_
    refine cY (el := 3) (by kernel_rfl) rfl (by decide) ?_
    refine fB rfl rfl (by decide) ?_
    refine aF rfl (by decide) ?_
    refine bO (t := 23) rfl (fun hg => ?_) (fun hg => ?_)
    ·
      refine aO rfl rfl ?_; refine aF rfl (by decide) ?_
      refine aO rfl rfl ?_; refine cY (el := 3) (by kernel_rfl) rfl (by decide) ?_
      refine aO rfl rfl ?_; refine qM rfl rfl (by decide) ?_
      (first | refine bJ rfl rfl (by decide) ?_ | refine bK rfl rfl (by decide) ?_)
      refine XK.aA ?_
      refine XK.if_ rfl (fun h => ?_) (fun h => ?_)
      ·
        refine XK.skip ?_
        refine XK.norm ?_
        refine XK.seq ?_
        refine XK.block ?_
        have hk2 : k < 120 := by omega
        have hn0 : 0 < n := by omega
        obtain ⟨b, off, rfl, fC, hc⟩ := h0.2 hn0
        have hkn : ((k % n : Nat) : Int) = (k : Int) % (n : Int) := Int.natCast_emod k n
        have Kz : k % n < n := Nat.mod_lt _ hn0
        have Rf : ((k / n : Nat) : Int) = (k : Int) / (n : Int) := Int.natCast_ediv k n
        have mX : k / n ≤ k := Nat.div_le_self _ _
        have hdb : 0 ≤ (k : Int) / (n : Int) ∧ (k : Int) / (n : Int) ≤ k := ⟨Int.ediv_nonneg (by omega) (by omega), by have h2 : ((k / n : Nat) : Int) ≤ (k : Int) := Int.ofNat_le.2 mX; rwa [Rf] at h2⟩
        have hrd : ∀ H, Rd w [all w] H b (off + k % n) (.int .i64 (zs[k % n]?.getD 0)) := fun H => Rd.ro (p := all w) (by simp) fC (by exact hc _ _ (Pr zs _ (by omega)))
        have rY := hz (k % n)
        have Xs := aCc (z := zs[k % n]?.getD 0) (d := 1 + (k : Int) / (n : Int)) (lo := -9223372036854775808) (hi := 9223372036854775807) (by omega) (by omega) (by omega) rY
        refine XK.draw 16 (by kernel_rfl) (by kernel_rfl) ?_
        refine XA.dA 0 rfl rfl rfl (cE rfl) ?_
        refine XA.dA 1 rfl rfl rfl (cE rfl) ?_
        refine XA.dA 2 rfl rfl rfl (cE rfl) ?_
        refine XA.dA 3 rfl rfl rfl (cE rfl) ?_
        refine XA.dA 4 rfl rfl rfl (cE rfl) ?_
        refine XA.dA 5 rfl rfl rfl (uE (el := 3) (by kernel_rfl) rfl) ?_
        refine XA.dA 6 rfl rfl rfl (oU rfl rfl (by omega) (rem_in (by omega))) ?_
        refine XA.dA 7 rfl rfl rfl (nS (k % n) (off + k % n) (el := 3) (sz := 1) (by kernel_rfl) (by kernel_rfl) rfl rfl hkn.symm Kz (by omega)) ?_
        refine XA.dA 8 rfl rfl rfl (iG (by kernel_rfl) rfl (hrd _)) ?_
        refine XA.dA 9 rfl rfl rfl (cE rfl) ?_
        refine XA.dA 10 rfl rfl rfl (cE rfl) ?_
        refine XA.dA 11 rfl rfl rfl (uE (el := 3) (by kernel_rfl) rfl) ?_
        refine XA.dA 12 rfl rfl rfl (Gz rfl rfl (by omega) (yU (by omega) (by omega) (by omega))) ?_
        refine XA.dA 13 rfl rfl rfl (lS rfl rfl (aY (by omega))) ?_
        refine XA.dA 14 rfl rfl rfl (Gz rfl rfl (by omega) (aY Xs)) ?_
        refine XA.next 15 rfl (by kernel_rfl) ?_
        refine Ip (f := 17) (fi := []) (ca := []) (by kernel_rfl) rfl rfl (by decide) (fun v => ∃ r : Int, v = .int .i64 r ∧ 0 ≤ r ∧ r < 1000000) (fun w1 st => Wi _ _ w1 Xs (by omega)) fun v hv => ?_
        obtain ⟨r, rfl, Ks, cT⟩ := hv
        refine XA.bk ?_
        refine XA.next 16 rfl (by kernel_rfl) ?_
        refine dB k k (el := 3) (sz := 1) (by kernel_rfl) (by kernel_rfl) rfl rfl rfl hk2 (by omega) (by decide) ?_
        refine XA.bt ?_
        refine XA.next 17 rfl (by kernel_rfl) ?_
        refine wW 0 rfl (by kernel_rfl) rfl rfl rfl (by simp [aR, hd.1]; omega) ?_
        refine XA.bt ?_
        refine XA.done (by kernel_rfl) ?_
        refine XK.norm ?_
        refine XK.region ?_
        refine aF rfl (by decide) ?_
        refine dD rfl rfl (aY (by omega)) (by decide) ?_
        refine aH rfl (by decide) ?_
        refine XK.aA ?_
        exact XK.aL [(5, .int .i64 (k + 1)), (4, .slice (some ⟨g2, 0, none⟩) 120 120), (2, .pointer (some ⟨g1, 0, none⟩)), (0, .slice (some ⟨b, off, none⟩) n c)] (XK.round (120 - (k + 1)) (by omega) ⟨k + 1, ds.set k r, hd.gI k Ks cT, by omega, rfl, rfl, rfl, by simp [aR, List.map_set]⟩)
      ·
        refine XK.exit ?_
        refine XK.norm ?_
        exact XK.aL [(4, .slice (some ⟨g2, 0, none⟩) 120 120), (2, .pointer (some ⟨g1, 0, none⟩))] (XK.meet ⟨ds, hd, rfl, rfl, rfl⟩)
    ·
      refine aN rfl rfl rfl (by decide) ?_
      refine aN rfl rfl rfl (by decide) ?_
      refine aN rfl rfl rfl (by decide) ?_
      (first | refine bJ rfl rfl (by decide) ?_ | refine bK rfl rfl (by decide) ?_)
      refine XK.aA ?_
      refine XK.cond rfl (fun h => by cases h) (fun _ => ?_)
      refine XK.exit ?_
      refine XK.norm ?_
      exact XK.aL [(4, .slice (some ⟨g2, 0, none⟩) 120 120), (2, .pointer (some ⟨g1, 0, none⟩))] (XK.meet ⟨ds, hd, rfl, rfl, rfl⟩)
  rintro _ _ _ ⟨ds, hd, rfl, rfl, rfl⟩
  have dd := hd.at_
  have b0 := hd.bd 0
  have b1 := hd.bd 1
  refine XK.seq ?_
  refine XK.region ?_
  refine aF rfl (by decide) ?_
  refine dB 0 0 (el := 3) (sz := 1) (by kernel_rfl) (by kernel_rfl) rfl rfl (by rfl) (by omega) (by omega) (by decide) ?_
  refine fI (by kernel_rfl) rfl (by first | exact Rd.eC (dd _ (by omega)) | exact Rd.ld) (by decide) ?_
  refine dD rfl rfl (aY (by omega)) (by decide) ?_
  refine qN (ds := .int .i64) (by kernel_rfl) (by kernel_rfl) rfl (wrap_u64 (by omega)) (by decide) ?_
  refine dJ (zs := [.int .u8 0, .slice none 0 0, .int .u64 0, .int .i64 0, .int .i64 0, .int .i64 0]) (L := [(0, 1), (1, 1), (2, 1), (3, 1), (4, 1), (5, 1)]) (aM (by kernel_rfl)) (by kernel_rfl) rfl (by simp [aS, aT, Value.cells]; rfl) (by decide) ?_
  refine eZ (el := 118) (sz := 6) (zs := [.int .u8 0, .slice none 0 0, .int .u64 0, .int .i64 0, .int .i64 0, .int .i64 0]) (by kernel_rfl) (aM (by kernel_rfl)) (by kernel_rfl) rfl (by decide) (by decide) rfl (by simp [aS, aT, Value.cells, List.range_succ, List.set]; rfl) (by decide) fun g3 => ?_
  refine dJ (zs := [.slice none 0 0, .slice none 0 0, .slice none 0 0, .slice none 0 0]) (L := [(0, 1), (1, 1), (2, 1), (3, 1)]) (aM (by kernel_rfl)) (by kernel_rfl) rfl (by simp [aS, aT, Value.cells]; rfl) (by decide) ?_
  refine cD (cs := [.slice none 0 0, .slice none 0 0, .slice none 0 0, .slice none 0 0]) (aM (by kernel_rfl)) (by decide) fun g4 => ?_
  refine eA rfl rfl ?_; simp only [bZ, Value.cells, List.set, List.take, List.drop, List.nil_append, List.append_nil, List.length_cons, List.length_nil, List.cons_append, Nat.reduceAdd]
  refine XK.aA ?_
  refine XK.seq ?_
  refine XK.region ?_
  refine aH rfl (by decide) ?_
  refine XK.aA ?_
  refine XK.seq ?_
  refine XK.region ?_
  refine aH rfl (by decide) ?_
  refine XK.aA ?_
  refine XK.cut (fun e R H => ∃ (cs : List cZ) (A1 : Option Addr) (c1 : Nat) (q : Piece) (jB : List (List Value)), 1 ≤ cs.length ∧ cs.length ≤ 9 ∧ Fits cZ.fit cs ∧ Rows (iO (dR q)) 6 cs jB ∧ kM w q ∧ e = [(6, .pointer (some ⟨g4, 0, none⟩)), (4, .slice (some ⟨g2, 0, none⟩) 120 120), (2, .pointer (some ⟨g1, 0, none⟩))] ∧ R = [q, all w] ∧ H = [HP.aE g4 29 [.slice A1 cs.length c1, .slice none 0 0, .slice none 0 0, .slice none 0 0], HP.own 118 6 (.slice A1 cs.length c1) cs.length jB.flatten, HP.aE g2 3 (aR ds), HP.aE g1 29 [.slice none 0 0, .slice none 0 0, .slice none 0 0, .slice none 0 0]]) ?_ ?_
  ·
    refine XK.seq ?_
    refine XK.region ?_
    refine aH rfl (by decide) ?_
    refine XK.aA ?_
    refine XK.Ht 1 6 1 rfl rfl (by omega) ?_
    refine XK.still [] [] [0, 1, 2, 3] (by simp) rfl (by decide) (by simp) fun q _ _ qA => ?_
    have hq := qA (by simp) (by simp)
    refine XK.aL [(8, .int .i64 0), (3, .int .i64 1), (7, .string ⟨#[112, 100, 103, 109, 103]⟩), (6, .pointer (some ⟨g4, 0, none⟩)), (4, .slice (some ⟨g2, 0, none⟩) 120 120), (2, .pointer (some ⟨g1, 0, none⟩))] ?_
    refine XK.block ?_
    refine XK.loop (fun m e R H => ∃ (k : Nat) (cs : List cZ) (A1 : Option Addr) (c1 : Nat) (q : Piece) (jB : List (List Value)), (k : Int) ≤ dv ds 1 % 9 ∧ m = 9 - k ∧ cs.length = k + 1 ∧ Fits cZ.fit cs ∧ Rows (iO (dR q)) 6 cs jB ∧ kM w q ∧ e = [(8, .int .i64 k), (3, .int .i64 1), (7, .string ⟨#[112, 100, 103, 109, 103]⟩), (6, .pointer (some ⟨g4, 0, none⟩)), (4, .slice (some ⟨g2, 0, none⟩) 120 120), (2, .pointer (some ⟨g1, 0, none⟩))] ∧ R = [q, all w] ∧ H = [HP.aE g4 29 [.slice A1 cs.length c1, .slice none 0 0, .slice none 0 0, .slice none 0 0], HP.own 118 6 (.slice A1 cs.length c1) cs.length jB.flatten, HP.aE g2 3 (aR ds), HP.aE g1 29 [.slice none 0 0, .slice none 0 0, .slice none 0 0, .slice none 0 0]]) 9 ⟨0, [⟨111, [], 1 + dv ds 0, 0, 0, 0⟩], some ⟨g3, 0, none⟩, 1, q, [[.int .u8 111, .slice none 0 0, .int .u64 (1 + dv ds 0), .int .i64 0, .int .i64 0, .int .i64 0]], by omega, rfl, rfl, (Fits.nil cZ.fit).snoc ⟨by simp, .inl ⟨rfl, rfl, by dsimp only; omega, by dsimp only; omega, rfl, rfl, rfl⟩⟩, ⟨rfl, ⟨none, 0, 0, rfl, rfl, aI.nil _ _⟩, trivial⟩, hq, rfl, rfl, rfl⟩ fun m e R H hI => ?_
    obtain ⟨k, cs, A1, c1, q, jB, hk, rfl, fD, Cf, tR, hq, rfl, rfl, rfl⟩ := hI
    refine XK.seq ?_
    refine XK.seq ?_
    refine XK.region ?_
    refine aF rfl (by decide) ?_
    refine aF rfl (by decide) ?_
    refine aF rfl (by decide) ?_
    refine dB 1 1 (el := 3) (sz := 1) (by kernel_rfl) (by kernel_rfl) rfl rfl (by omega) (by omega) (by omega) (by decide) ?_
    refine fI (by kernel_rfl) rfl (by first | exact Rd.eC (dd _ (by omega)) | exact Rd.ld) (by decide) ?_
    refine pN rfl rfl (by omega) (rem_in (by omega)) (by decide) ?_
    refine fB rfl rfl (by decide) ?_
    refine XK.aA ?_
    refine XK.if_ rfl (fun h => ?_) (fun h => ?_)
    ·
      refine XK.skip ?_
      refine XK.norm ?_
      refine XK.seq ?_
      have hk2 : k < 9 := by omega
      have Zf : (0 : Int) < cs.length := by omega
      have b2 := hd.bd (10 + 3 * k)
      have b3 := hd.bd (11 + 3 * k)
      have b4 := hd.bd (12 + 3 * k)
      have f0 := wH (dv ds (11 + 3 * k)) Zf
      have f1 := wH (dv ds (12 + 3 * k)) Zf
      have m5 := wH (dv ds (10 + 3 * k)) (n := 5) (by omega)
      obtain ⟨kb, hkb, aHo⟩ := aEj (q := (dv ds (10 + 3 * k) % 5).toNat) (by omega)
      refine XK.block ?_
      refine XK.seq ?_
      refine XK.region ?_
      refine aF rfl (by decide) ?_
      refine Mz rfl rfl (aY (by omega)) (by decide) ?_
      refine dD rfl rfl (aY (by omega)) (by decide) ?_
      refine aH rfl (by decide) ?_
      refine XK.aA ?_
      refine XK.cut (fun e R H => ∃ gC gF, e = [(10, .pointer (some ⟨gC, 0, none⟩)), (9, .int .i64 (10 + 3 * k)), (8, .int .i64 k), (3, .int .i64 1), (7, .string ⟨#[112, 100, 103, 109, 103]⟩), (6, .pointer (some ⟨g4, 0, none⟩)), (4, .slice (some ⟨g2, 0, none⟩) 120 120), (2, .pointer (some ⟨g1, 0, none⟩))] ∧ R = [q, all w] ∧ H = [HP.aE gC 118 [.int .u8 kb.toNat, .slice (some ⟨gF, 0, none⟩) 1 1, .int .u64 0, .int .i64 0, .int .i64 0, .int .i64 0], HP.aE gF 3 [.int .i64 (dv ds (11 + 3 * k) % cs.length)], HP.aE g4 29 [.slice A1 cs.length c1, .slice none 0 0, .slice none 0 0, .slice none 0 0], HP.own 118 6 (.slice A1 cs.length c1) cs.length jB.flatten, HP.aE g2 3 (aR ds), HP.aE g1 29 [.slice none 0 0, .slice none 0 0, .slice none 0 0, .slice none 0 0]]) ?_ ?_
      ·
        refine XK.draw 19 (by kernel_rfl) (by kernel_rfl) ?_
        refine XA.dA 0 rfl rfl rfl (cE rfl) ?_
        refine XA.dA 1 rfl rfl rfl (cE rfl) ?_
        refine XA.dA 2 rfl rfl rfl (cE rfl) ?_
        refine XA.dA 3 rfl rfl rfl (nS (10 + 3 * k) (10 + 3 * k) (el := 3) (sz := 1) (by kernel_rfl) (by kernel_rfl) rfl rfl (by omega) (by omega) (by omega)) ?_
        refine XA.dA 4 rfl rfl rfl (iG (by kernel_rfl) rfl (by first | exact Rd.eC (dd _ (by omega)) | exact Rd.ld)) ?_
        refine XA.dA 5 rfl rfl rfl (oU rfl rfl (by omega) (rem_in (by omega))) ?_
        refine XA.dA 6 rfl rfl rfl (aGc (dv ds (10 + 3 * k) % 5).toNat (by kernel_rfl) rfl rfl (by omega) hkb) ?_
        refine XA.dA 7 rfl rfl rfl (cE rfl) ?_
        refine XA.dA 8 rfl rfl rfl (cE rfl) ?_
        refine XA.dA 9 rfl rfl rfl (lS rfl rfl (aY (by omega))) ?_
        refine XA.dA 10 rfl rfl rfl (nS (11 + 3 * k) (11 + 3 * k) (el := 3) (sz := 1) (by kernel_rfl) (by kernel_rfl) rfl rfl (by omega) (by omega) (by omega)) ?_
        refine XA.dA 11 rfl rfl rfl (iG (by kernel_rfl) rfl (by first | exact Rd.eC (dd _ (by omega)) | exact Rd.ld)) ?_
        refine XA.dA 12 rfl rfl rfl (iV (off := 0) (by kernel_rfl) rfl) ?_
        refine XA.dA 13 rfl rfl rfl (iG (by kernel_rfl) rfl (by first | exact Rd.eC (dd _ (by omega)) | exact Rd.ld)) ?_
        refine XA.dA 14 rfl rfl rfl (uE (el := 118) (by kernel_rfl) rfl) ?_
        refine XA.dA 15 rfl rfl rfl (oU rfl rfl (by omega) (rem_in (by omega))) ?_
        refine XA.either 16 18 rfl rfl (by kernel_rfl) ?_ ?_
        · refine eZ (el := 3) (sz := 1) (zs := [.int .i64 0]) (by kernel_rfl) (aM (by kernel_rfl)) (by kernel_rfl) rfl (by decide) (by decide) rfl (by simp [aS, aT, Value.cells, List.range_succ, List.set]; rfl) (by decide) fun g5 => ?_
          refine XA.bk ?_
          refine XA.dA 17 rfl rfl rfl (fS (zs := [.int .u8 0, .slice none 0 0, .int .u64 0, .int .i64 0, .int .i64 0, .int .i64 0]) (L := [(0, 1), (1, 1), (2, 1), (3, 1), (4, 1), (5, 1)]) (aM (by kernel_rfl)) (by kernel_rfl) rfl (by simp [aS, aT, Value.cells]; rfl)) ?_
          refine XA.next 18 rfl (by kernel_rfl) ?_
          refine cD (cs := [.int .u8 0, .slice none 0 0, .int .u64 0, .int .i64 0, .int .i64 0, .int .i64 0]) (aM (by kernel_rfl)) (by decide) fun g6 => ?_
          refine XA.bk ?_
          refine XA.next 19 rfl (by kernel_rfl) ?_
          refine eA rfl rfl ?_; simp only [bZ, Value.cells, List.set, List.take, List.drop, List.nil_append, List.append_nil, List.length_cons, List.length_nil, List.cons_append, Nat.reduceAdd]
          refine XA.bt ?_
          refine XA.done (by kernel_rfl) ?_
          refine XK.norm ?_
          exact XK.aL [(10, .pointer (some ⟨g6, 0, none⟩)), (9, .int .i64 (10 + 3 * k)), (8, .int .i64 k), (3, .int .i64 1), (7, .string ⟨#[112, 100, 103, 109, 103]⟩), (6, .pointer (some ⟨g4, 0, none⟩)), (4, .slice (some ⟨g2, 0, none⟩) 120 120), (2, .pointer (some ⟨g1, 0, none⟩))] (XK.meet ⟨_, _, rfl, rfl, rfl⟩)
        · refine cD (cs := [.int .u8 0, .slice none 0 0, .int .u64 0, .int .i64 0, .int .i64 0, .int .i64 0]) (aM (by kernel_rfl)) (by decide) fun g6 => ?_
          refine XA.bk ?_
          refine XA.next 16 rfl (by kernel_rfl) ?_
          refine eZ (el := 3) (sz := 1) (zs := [.int .i64 0]) (by kernel_rfl) (aM (by kernel_rfl)) (by kernel_rfl) rfl (by decide) (by decide) rfl (by simp [aS, aT, Value.cells, List.range_succ, List.set]; rfl) (by decide) fun g5 => ?_
          refine XA.bk ?_
          refine XA.dA 17 rfl rfl rfl (fS (zs := [.int .u8 0, .slice none 0 0, .int .u64 0, .int .i64 0, .int .i64 0, .int .i64 0]) (L := [(0, 1), (1, 1), (2, 1), (3, 1), (4, 1), (5, 1)]) (aM (by kernel_rfl)) (by kernel_rfl) rfl (by simp [aS, aT, Value.cells]; rfl)) ?_
          refine XA.next 19 rfl (by kernel_rfl) ?_
          refine eA rfl rfl ?_; simp only [bZ, Value.cells, List.set, List.take, List.drop, List.nil_append, List.append_nil, List.length_cons, List.length_nil, List.cons_append, Nat.reduceAdd]
          refine XA.bt ?_
          refine XA.done (by kernel_rfl) ?_
          refine XK.norm ?_
          exact XK.weak [1, 0, 2, 3, 4, 5] rfl (by decide) (fun _ h => h) (XK.aL [(10, .pointer (some ⟨g6, 0, none⟩)), (9, .int .i64 (10 + 3 * k)), (8, .int .i64 k), (3, .int .i64 1), (7, .string ⟨#[112, 100, 103, 109, 103]⟩), (6, .pointer (some ⟨g4, 0, none⟩)), (4, .slice (some ⟨g2, 0, none⟩) 120 120), (2, .pointer (some ⟨g1, 0, none⟩))] (XK.meet ⟨_, _, rfl, rfl, rfl⟩))
      rintro _ _ _ ⟨gC, gF, rfl, rfl, rfl⟩
      refine XK.Ht 1 1 1 rfl rfl (by omega) ?_
      refine XK.cut (fun e R H => ∃ (cl : cZ) (Af : Option Addr) (cf gC : Nat), cl.fit cs.length ∧ e = [(10, .pointer (some ⟨gC, 0, none⟩)), (8, .int .i64 k), (3, .int .i64 1), (7, .string ⟨#[112, 100, 103, 109, 103]⟩), (6, .pointer (some ⟨g4, 0, none⟩)), (4, .slice (some ⟨g2, 0, none⟩) 120 120), (2, .pointer (some ⟨g1, 0, none⟩))] ∧ R = [q, all w] ∧ H = [HP.aE gC 118 [.int .u8 cl.kind, .slice Af cl.src.length cf, .int .u64 cl.rate, .int .i64 cl.mul, .int .i64 cl.div, .int .i64 cl.lock], HP.own 3 1 (.slice Af cl.src.length cf) cl.src.length (aR cl.src), HP.aE g4 29 [.slice A1 cs.length c1, .slice none 0 0, .slice none 0 0, .slice none 0 0], HP.own 118 6 (.slice A1 cs.length c1) cs.length jB.flatten, HP.aE g2 3 (aR ds), HP.aE g1 29 [.slice none 0 0, .slice none 0 0, .slice none 0 0, .slice none 0 0]]) ?_ ?_
      ·
        refine XK.seq ?_
        refine XK.region ?_
        refine aW (off := 0) (by kernel_rfl) rfl (by decide) ?_
        refine fI (by kernel_rfl) rfl (by first | exact Rd.eC (dd _ (by omega)) | exact Rd.ld) (by decide) ?_
        refine XK.aA ?_
        refine XK.block ?_
        refine XK.seq ?_
        refine XK.region ?_
        refine eH rfl rfl (by decide) ?_
        refine aH rfl (by decide) ?_
        refine XK.aA ?_
        refine XK.if_ rfl (fun h => ?_) (fun h => ?_)
        ·
          refine XK.seq ?_
          refine XK.region ?_
          refine aF rfl (by decide) ?_
          refine aF rfl (by decide) ?_
          refine dD rfl rfl (aY (by omega)) (by decide) ?_
          refine dB (12 + 3 * k) (12 + 3 * k) (el := 3) (sz := 1) (by kernel_rfl) (by kernel_rfl) rfl rfl (by omega) (by omega) (by omega) (by decide) ?_
          refine fI (by kernel_rfl) rfl (by first | exact Rd.eC (dd _ (by omega)) | exact Rd.ld) (by decide) ?_
          refine pN rfl rfl (by omega) (rem_in (by omega)) (by decide) ?_
          refine dD rfl rfl (aY (by omega)) (by decide) ?_
          refine aW (off := 3) (by kernel_rfl) rfl (by decide) ?_
          refine pL rfl rfl ?_; dsimp only [List.set]
          refine XK.aA ?_
          refine XK.seq ?_
          refine XK.region ?_
          refine aF rfl (by decide) ?_
          refine aF rfl (by decide) ?_
          refine dD rfl rfl (aY (by omega)) (by decide) ?_
          refine dB (12 + 3 * k) (12 + 3 * k) (el := 3) (sz := 1) (by kernel_rfl) (by kernel_rfl) rfl rfl (by omega) (by omega) (by omega) (by decide) ?_
          refine fI (by kernel_rfl) rfl (by first | exact Rd.eC (dd _ (by omega)) | exact Rd.ld) (by decide) ?_
          refine Dv rfl rfl (by omega) (yU (by omega) (by omega) (by omega)) (by decide) ?_
          refine pN rfl rfl (by omega) (rem_in (by omega)) (by decide) ?_
          refine dD rfl rfl (aY (by omega)) (by decide) ?_
          refine aW (off := 4) (by kernel_rfl) rfl (by decide) ?_
          refine pL rfl rfl ?_; dsimp only [List.set]
          refine XK.aA ?_
          refine XK.region ?_
          refine aF rfl (by decide) ?_
          refine aF rfl (by decide) ?_
          refine dD rfl rfl (aY (by omega)) (by decide) ?_
          refine dB (12 + 3 * k) (12 + 3 * k) (el := 3) (sz := 1) (by kernel_rfl) (by kernel_rfl) rfl rfl (by omega) (by omega) (by omega) (by decide) ?_
          refine fI (by kernel_rfl) rfl (by first | exact Rd.eC (dd _ (by omega)) | exact Rd.ld) (by decide) ?_
          refine Dv rfl rfl (by omega) (yU (by omega) (by omega) (by omega)) (by decide) ?_
          refine pN rfl rfl (by omega) (rem_in (by omega)) (by decide) ?_
          refine aW (off := 5) (by kernel_rfl) rfl (by decide) ?_
          refine pL rfl rfl ?_; dsimp only [List.set]
          refine XK.aA ?_
          exact XK.aL [(10, .pointer (some ⟨gC, 0, none⟩)), (8, .int .i64 k), (3, .int .i64 1), (7, .string ⟨#[112, 100, 103, 109, 103]⟩), (6, .pointer (some ⟨g4, 0, none⟩)), (4, .slice (some ⟨g2, 0, none⟩) 120 120), (2, .pointer (some ⟨g1, 0, none⟩))] (XK.meet ⟨⟨kb.toNat, [dv ds (11 + 3 * k) % cs.length], 0, 1 + dv ds (12 + 3 * k) % 8, 1 + dv ds (12 + 3 * k) / 8 % 4, dv ds (12 + 3 * k) / 32 % 4⟩, some ⟨gF, 0, none⟩, 1, gC, ⟨fun f hf => by simp at hf; subst hf; exact f0, .inr (.inl ⟨h, rfl, rfl, by dsimp only; omega, by dsimp only; omega, by dsimp only; omega, by dsimp only; omega, by dsimp only; omega, by dsimp only; omega⟩)⟩, rfl, rfl, rfl⟩)
        ·
          refine XK.seq ?_
          refine XK.region ?_
          refine eH rfl rfl (by decide) ?_
          refine aH rfl (by decide) ?_
          refine XK.aA ?_
          refine XK.if_ rfl (fun h => ?_) (fun h => ?_)
          ·
            refine XK.region ?_
            refine aF rfl (by decide) ?_
            refine aF rfl (by decide) ?_
            refine dD rfl rfl (aY (by omega)) (by decide) ?_
            refine dB (12 + 3 * k) (12 + 3 * k) (el := 3) (sz := 1) (by kernel_rfl) (by kernel_rfl) rfl rfl (by omega) (by omega) (by omega) (by decide) ?_
            refine fI (by kernel_rfl) rfl (by first | exact Rd.eC (dd _ (by omega)) | exact Rd.ld) (by decide) ?_
            refine pN rfl rfl (by omega) (rem_in (by omega)) (by decide) ?_
            refine dD rfl rfl (aY (by omega)) (by decide) ?_
            refine aW (off := 4) (by kernel_rfl) rfl (by decide) ?_
            refine pL rfl rfl ?_; dsimp only [List.set]
            refine XK.aA ?_
            exact XK.aL [(10, .pointer (some ⟨gC, 0, none⟩)), (8, .int .i64 k), (3, .int .i64 1), (7, .string ⟨#[112, 100, 103, 109, 103]⟩), (6, .pointer (some ⟨g4, 0, none⟩)), (4, .slice (some ⟨g2, 0, none⟩) 120 120), (2, .pointer (some ⟨g1, 0, none⟩))] (XK.meet ⟨⟨kb.toNat, [dv ds (11 + 3 * k) % cs.length], 0, 0, 1 + dv ds (12 + 3 * k) % 8, 0⟩, some ⟨gF, 0, none⟩, 1, gC, ⟨fun f hf => by simp at hf; subst hf; exact f0, .inr (.inr (.inl ⟨h, rfl, rfl, rfl, by dsimp only; omega, by dsimp only; omega, rfl⟩))⟩, rfl, rfl, rfl⟩)
          ·
            refine XK.seq ?_
            refine XK.region ?_
            refine eH rfl rfl (by decide) ?_
            refine aH rfl (by decide) ?_
            refine XK.aA ?_
            refine XK.if_ rfl (fun h => ?_) (fun h => ?_)
            ·
              refine XK.draw 12 (by kernel_rfl) (by kernel_rfl) ?_
              refine XA.dA 0 rfl rfl rfl (iV (off := 1) (by kernel_rfl) rfl) ?_
              refine XA.dA 1 rfl rfl rfl (iG (by kernel_rfl) rfl (by first | exact Rd.eC (dd _ (by omega)) | exact Rd.ld)) ?_
              refine XA.dA 2 rfl rfl rfl (cE rfl) ?_
              refine XA.dA 3 rfl rfl rfl (cE rfl) ?_
              refine XA.dA 4 rfl rfl rfl (lS rfl rfl (aY (by omega))) ?_
              refine XA.dA 5 rfl rfl rfl (nS (12 + 3 * k) (12 + 3 * k) (el := 3) (sz := 1) (by kernel_rfl) (by kernel_rfl) rfl rfl (by omega) (by omega) (by omega)) ?_
              refine XA.dA 6 rfl rfl rfl (iG (by kernel_rfl) rfl (by first | exact Rd.eC (dd _ (by omega)) | exact Rd.ld)) ?_
              refine XA.dA 7 rfl rfl rfl (iV (off := 0) (by kernel_rfl) rfl) ?_
              refine XA.dA 8 rfl rfl rfl (iG (by kernel_rfl) rfl (by first | exact Rd.eC (dd _ (by omega)) | exact Rd.ld)) ?_
              refine XA.dA 9 rfl rfl rfl (uE (el := 118) (by kernel_rfl) rfl) ?_
              refine XA.dA 10 rfl rfl rfl (oU rfl rfl (by omega) (rem_in (by omega))) ?_
              refine XA.next 11 rfl (by kernel_rfl) ?_
              refine eZ (el := 3) (sz := 1) (zs := [.int .i64 0]) (by kernel_rfl) (aM (by kernel_rfl)) (by kernel_rfl) rfl (by decide) (by decide) rfl (by simp [aS, aT, Value.cells, List.range_succ, List.set]; rfl) (by decide) fun g7 => ?_
              refine XA.bk ?_
              refine XA.next 12 rfl (by kernel_rfl) ?_
              refine fA 2 1 8 1 (n' := 2) (el := 3) (by kernel_rfl) (by kernel_rfl) (by decide) rfl rfl rfl (jY 0 rfl rfl) (by simp [Value.oneCell']) rfl (by omega) (by omega) (by decide) fun Af cf => ?_
              refine XA.bt ?_
              refine XA.next 13 rfl (by kernel_rfl) ?_
              refine aW (off := 1) (by kernel_rfl) rfl (by decide) ?_
              refine XA.bt ?_
              refine XA.next 14 rfl (by kernel_rfl) ?_
              refine pL rfl rfl ?_; dsimp only [List.set]
              refine XA.bt ?_
              refine XA.done (by kernel_rfl) ?_
              refine XK.norm ?_
              exact XK.weak [1, 2, 3, 4, 5, 6] rfl (by decide) (fun _ h => h) (XK.aL [(10, .pointer (some ⟨gC, 0, none⟩)), (8, .int .i64 k), (3, .int .i64 1), (7, .string ⟨#[112, 100, 103, 109, 103]⟩), (6, .pointer (some ⟨g4, 0, none⟩)), (4, .slice (some ⟨g2, 0, none⟩) 120 120), (2, .pointer (some ⟨g1, 0, none⟩))] (XK.meet ⟨⟨kb.toNat, [dv ds (11 + 3 * k) % cs.length, dv ds (12 + 3 * k) % cs.length], 0, 0, 0, 0⟩, Af, cf, gC, ⟨fun f hf => by simp at hf; rcases hf with rfl | rfl; exact f0; exact f1, .inr (.inr (.inr (.inr ⟨h, rfl, rfl, rfl, rfl, rfl⟩)))⟩, rfl, rfl, rfl⟩))
            ·
              refine XK.skip ?_
              refine XK.norm ?_
              exact XK.aL [(10, .pointer (some ⟨gC, 0, none⟩)), (8, .int .i64 k), (3, .int .i64 1), (7, .string ⟨#[112, 100, 103, 109, 103]⟩), (6, .pointer (some ⟨g4, 0, none⟩)), (4, .slice (some ⟨g2, 0, none⟩) 120 120), (2, .pointer (some ⟨g1, 0, none⟩))] (XK.meet ⟨⟨kb.toNat, [dv ds (11 + 3 * k) % cs.length], 0, 0, 0, 0⟩, some ⟨gF, 0, none⟩, 1, gC, ⟨fun f hf => by simp at hf; subst hf; exact f0, .inr (.inr (.inr (.inl ⟨by dsimp only; omega, rfl, rfl, rfl, rfl, rfl⟩)))⟩, rfl, rfl, rfl⟩)
      rintro _ _ _ ⟨cl, Af, cf, gC, aER, rfl, rfl, rfl⟩
      refine XK.region ?_
      refine aW (off := 0) (by kernel_rfl) rfl (by decide) ?_
      refine fI (by kernel_rfl) rfl (by first | exact Rd.eC (dd _ (by omega)) | exact Rd.ld) (by decide) ?_
      refine gB 6 rfl ?_
      refine eZ (el := 118) (sz := 6) (zs := [.int .u8 0, .slice none 0 0, .int .u64 0, .int .i64 0, .int .i64 0, .int .i64 0]) (by kernel_rfl) (aM (by kernel_rfl)) (by kernel_rfl) rfl (by decide) (by decide) rfl (by simp [aS, aT, Value.cells, List.range_succ, List.set]; rfl) (by decide) fun g8 => ?_
      refine fA 4 6 64 1 (n' := cs.length + 1) (el := 118) (by kernel_rfl) (by kernel_rfl) (by decide) rfl rfl rfl (jY 0 rfl rfl) (by simp [Value.oneCell']) rfl (by omega) (by omega) (by decide) fun A1n c1n => ?_
      refine aW (off := 0) (by kernel_rfl) rfl (by decide) ?_
      refine pL rfl rfl ?_; dsimp only [List.set]
      refine XK.aA ?_
      refine XK.region ?_
      refine aF rfl (by decide) ?_
      refine dD rfl rfl (aY (by omega)) (by decide) ?_
      refine aH rfl (by decide) ?_
      refine XK.aA ?_
      refine XK.still [q] [2] [3, 4, 5, 6] (by simp) rfl (by decide) (by simp) fun q2 qV Fs qA => ?_
      have hle := Fs q (by simp)
      have mB := qA (by simp) (by simp; exact hq)
      have oL := aI.own (qV 2 _ (by simp) rfl)
      exact XK.weak [0, 1, 2, 3] rfl (by decide) (by simp) (XK.aL [(8, .int .i64 (k + 1)), (3, .int .i64 1), (7, .string ⟨#[112, 100, 103, 109, 103]⟩), (6, .pointer (some ⟨g4, 0, none⟩)), (4, .slice (some ⟨g2, 0, none⟩) 120 120), (2, .pointer (some ⟨g1, 0, none⟩))] (XK.round (9 - (k + 1)) (by omega) ⟨k + 1, cs ++ [cl], A1n, c1n, q2, jB ++ [_], by omega, rfl, by simp [fD], Cf.snoc aER, (tR.mono (fun c r => iO.mono (fV hle))).snoc (r := [.int .u8 cl.kind, .slice Af cl.src.length cf, .int .u64 cl.rate, .int .i64 cl.mul, .int .i64 cl.div, .int .i64 cl.lock]) rfl ⟨Af, _, cf, rfl, rfl, oL⟩, mB, rfl, rfl, by simp⟩))
    ·
      refine XK.exit ?_
      refine XK.norm ?_
      exact XK.aL [(6, .pointer (some ⟨g4, 0, none⟩)), (4, .slice (some ⟨g2, 0, none⟩) 120 120), (2, .pointer (some ⟨g1, 0, none⟩))] (XK.meet ⟨cs, A1, c1, q, jB, by omega, by omega, Cf, tR, hq, rfl, rfl, rfl⟩)
  rintro _ _ _ ⟨cs, A1, c1, q, jB, Ri, Zj, Cf, tR, hq, rfl, rfl, rfl⟩
  have dd := hd.at_
  have b2 := hd.bd 2
  have b3 := hd.bd 3
  have b4 := hd.bd 4
  refine XK.cut (fun e R H => ∃ (dm : List Dom) (A2 : Option Addr) (c2 : Nat) (lF : List (List Value)), 1 ≤ dm.length ∧ dm.length ≤ 4 ∧ Fits Dom.fit dm ∧ Rows sV 3 dm lF ∧ e = [(6, .pointer (some ⟨g4, 0, none⟩)), (4, .slice (some ⟨g2, 0, none⟩) 120 120), (2, .pointer (some ⟨g1, 0, none⟩))] ∧ R = [q, all w] ∧ H = [HP.aE g4 29 [.slice A1 cs.length c1, .slice A2 dm.length c2, .slice none 0 0, .slice none 0 0], HP.own 75 3 (.slice A2 dm.length c2) dm.length lF.flatten, HP.own 118 6 (.slice A1 cs.length c1) cs.length jB.flatten, HP.aE g2 3 (aR ds), HP.aE g1 29 [.slice none 0 0, .slice none 0 0, .slice none 0 0, .slice none 0 0]]) ?_ ?_
  ·
    refine XK.seq ?_
    refine XK.region ?_
    refine aH rfl (by decide) ?_
    refine XK.aA ?_
    refine XK.kA 75 3 ?_
    refine XK.weak [1, 0, 2, 3, 4] rfl (by decide) (fun _ h => h) ?_
    refine XK.aL [(11, .int .i64 0), (6, .pointer (some ⟨g4, 0, none⟩)), (4, .slice (some ⟨g2, 0, none⟩) 120 120), (2, .pointer (some ⟨g1, 0, none⟩))] ?_
    refine XK.block ?_
    refine XK.loop (fun m e R H => ∃ (dm : List Dom) (A2 : Option Addr) (c2 : Nat) (lF : List (List Value)), (dm.length : Int) ≤ 1 + dv ds 2 % 4 ∧ m = 5 - dm.length ∧ Fits Dom.fit dm ∧ Rows sV 3 dm lF ∧ e = [(11, .int .i64 dm.length), (6, .pointer (some ⟨g4, 0, none⟩)), (4, .slice (some ⟨g2, 0, none⟩) 120 120), (2, .pointer (some ⟨g1, 0, none⟩))] ∧ R = [q, all w] ∧ H = [HP.aE g4 29 [.slice A1 cs.length c1, .slice A2 dm.length c2, .slice none 0 0, .slice none 0 0], HP.own 75 3 (.slice A2 dm.length c2) dm.length lF.flatten, HP.own 118 6 (.slice A1 cs.length c1) cs.length jB.flatten, HP.aE g2 3 (aR ds), HP.aE g1 29 [.slice none 0 0, .slice none 0 0, .slice none 0 0, .slice none 0 0]]) 5 ⟨[], none, 0, [], by simp; omega, rfl, Fits.nil _, trivial, rfl, rfl, rfl⟩ fun m e R H hI => ?_
    obtain ⟨dm, A2, c2, lF, hk, rfl, hdf, Ld, rfl, rfl, rfl⟩ := hI
    refine XK.seq ?_
    refine XK.seq ?_
    refine XK.region ?_
    refine aF rfl (by decide) ?_
    refine aF rfl (by decide) ?_
    refine dB 2 2 (el := 3) (sz := 1) (by kernel_rfl) (by kernel_rfl) rfl rfl (by rfl) (by omega) (by omega) (by decide) ?_
    refine fI (by kernel_rfl) rfl (by first | exact Rd.eC (dd _ (by omega)) | exact Rd.ld) (by decide) ?_
    refine pN rfl rfl (by omega) (rem_in (by omega)) (by decide) ?_
    refine dD rfl rfl (aY (by omega)) (by decide) ?_
    refine fB rfl rfl (by decide) ?_
    refine XK.aA ?_
    refine XK.if_ rfl (fun h => ?_) (fun h => ?_)
    ·
      refine XK.skip ?_
      refine XK.norm ?_
      refine XK.seq ?_
      refine XK.block ?_
      refine XK.seq ?_
      have hk2 : dm.length < 4 := by omega
      have p1 := hd.bd (40 + dm.length)
      have p2 := hd.bd (44 + dm.length)
      refine XK.draw 16 (by kernel_rfl) (by kernel_rfl) ?_
      refine XA.dA 0 rfl rfl rfl (cE rfl) ?_
      refine XA.dA 1 rfl rfl rfl (cE rfl) ?_
      refine XA.dA 2 rfl rfl rfl (lS rfl rfl (aY (by omega))) ?_
      refine XA.dA 3 rfl rfl rfl (nS (40 + dm.length) (40 + dm.length) (el := 3) (sz := 1) (by kernel_rfl) (by kernel_rfl) rfl rfl (by omega) (by omega) (by omega)) ?_
      refine XA.dA 4 rfl rfl rfl (iG (by kernel_rfl) rfl (by first | exact Rd.eC (dd _ (by omega)) | exact Rd.ld)) ?_
      refine XA.dA 5 rfl rfl rfl (oU rfl rfl (by omega) (rem_in (by omega))) ?_
      refine XA.dA 6 rfl rfl rfl (cE rfl) ?_
      refine XA.dA 7 rfl rfl rfl (cE rfl) ?_
      refine XA.dA 8 rfl rfl rfl (lS rfl rfl (aY (by omega))) ?_
      refine XA.dA 9 rfl rfl rfl (nS (40 + dm.length) (40 + dm.length) (el := 3) (sz := 1) (by kernel_rfl) (by kernel_rfl) rfl rfl (by omega) (by omega) (by omega)) ?_
      refine XA.dA 10 rfl rfl rfl (iG (by kernel_rfl) rfl (by first | exact Rd.eC (dd _ (by omega)) | exact Rd.ld)) ?_
      refine XA.dA 11 rfl rfl rfl (Gz rfl rfl (by omega) (yU (by omega) (by omega) (by omega))) ?_
      refine XA.dA 12 rfl rfl rfl (oU rfl rfl (by omega) (rem_in (by omega))) ?_
      refine XA.dA 13 rfl rfl rfl (Au rfl rfl) ?_
      refine XA.dA 14 rfl rfl rfl (fS (zs := [.int .i64 0, .int .i64 0, .bool false]) (L := [(0, 1), (1, 1), (2, 1)]) (aM (by kernel_rfl)) (by kernel_rfl) rfl (by simp [aS, aT, Value.cells]; rfl)) ?_
      refine XA.next 15 rfl (by kernel_rfl) ?_
      refine cD (cs := [.int .i64 0, .int .i64 0, .bool false]) (aM (by kernel_rfl)) (by decide) fun g9 => ?_
      refine XA.bk ?_
      refine XA.next 16 rfl (by kernel_rfl) ?_
      refine eA rfl rfl ?_; simp only [bZ, Value.cells, List.set, List.take, List.drop, List.nil_append, List.append_nil, List.length_cons, List.length_nil, List.cons_append, Nat.reduceAdd]
      refine XA.bt ?_
      refine XA.done (by kernel_rfl) ?_
      refine XK.norm ?_
      refine XK.cut (fun e R H => ∃ ab : Int, (ab = -1 ∨ (0 ≤ ab ∧ ab < dm.length)) ∧ e = [(12, .pointer (some ⟨g9, 0, none⟩)), (11, .int .i64 dm.length), (6, .pointer (some ⟨g4, 0, none⟩)), (4, .slice (some ⟨g2, 0, none⟩) 120 120), (2, .pointer (some ⟨g1, 0, none⟩))] ∧ R = [q, all w] ∧ H = [HP.aE g9 75 [.int .i64 ab, .int .i64 (dv ds (40 + dm.length) % 4), .bool (decide (dv ds (40 + dm.length) / 4 % 2 = 1))], HP.aE g4 29 [.slice A1 cs.length c1, .slice A2 dm.length c2, .slice none 0 0, .slice none 0 0], HP.own 75 3 (.slice A2 dm.length c2) dm.length lF.flatten, HP.own 118 6 (.slice A1 cs.length c1) cs.length jB.flatten, HP.aE g2 3 (aR ds), HP.aE g1 29 [.slice none 0 0, .slice none 0 0, .slice none 0 0, .slice none 0 0]]) ?_ ?_
      ·
        refine XK.seq ?_
        refine XK.region ?_
        refine aF rfl (by decide) ?_
        refine qM rfl rfl (by decide) ?_
        refine aF rfl (by decide) ?_
        refine bO (t := 172) rfl (fun hg => ?_) (fun hg => ?_)
        ·
          refine aO rfl rfl ?_; refine aF rfl (by decide) ?_
          refine aO rfl rfl ?_; refine aF rfl (by decide) ?_
          refine aO rfl rfl ?_; refine dD rfl rfl (aY (by omega)) (by decide) ?_
          refine aO rfl rfl ?_; refine dB (44 + dm.length) (44 + dm.length) (el := 3) (sz := 1) (by kernel_rfl) (by kernel_rfl) rfl rfl (by omega) (by omega) (by omega) (by decide) ?_
          refine aO rfl rfl ?_; refine fI (by kernel_rfl) rfl (by first | exact Rd.eC (dd _ (by omega)) | exact Rd.ld) (by decide) ?_
          refine aO rfl rfl ?_; refine pN rfl rfl (by omega) (rem_in (by omega)) (by decide) ?_
          refine aO rfl rfl ?_; refine qM rfl rfl (by decide) ?_
          (first | refine bJ rfl rfl (by decide) ?_ | refine bK rfl rfl (by decide) ?_)
          refine XK.aA ?_
          refine XK.if_ rfl (fun h => ?_) (fun h => ?_)
          ·
            refine XK.region ?_
            refine aF rfl (by decide) ?_
            refine aF rfl (by decide) ?_
            refine dD rfl rfl (aY (by omega)) (by decide) ?_
            refine dB (44 + dm.length) (44 + dm.length) (el := 3) (sz := 1) (by kernel_rfl) (by kernel_rfl) rfl rfl (by omega) (by omega) (by omega) (by decide) ?_
            refine fI (by kernel_rfl) rfl (by first | exact Rd.eC (dd _ (by omega)) | exact Rd.ld) (by decide) ?_
            refine Dv rfl rfl (by omega) (yU (by omega) (by omega) (by omega)) (by decide) ?_
            refine aF rfl (by decide) ?_
            refine pN rfl rfl (by omega) (rem_in (by omega)) (by decide) ?_
            refine aW (off := 0) (by kernel_rfl) rfl (by decide) ?_
            refine pL rfl rfl ?_; dsimp only [List.set]
            refine XK.aA ?_
            exact XK.aL [(12, .pointer (some ⟨g9, 0, none⟩)), (11, .int .i64 dm.length), (6, .pointer (some ⟨g4, 0, none⟩)), (4, .slice (some ⟨g2, 0, none⟩) 120 120), (2, .pointer (some ⟨g1, 0, none⟩))] (XK.meet ⟨dv ds (44 + dm.length) / 3 % dm.length, .inr (wH _ hg), rfl, rfl, rfl⟩)
          ·
            refine XK.skip ?_
            refine XK.norm ?_
            exact XK.aL [(12, .pointer (some ⟨g9, 0, none⟩)), (11, .int .i64 dm.length), (6, .pointer (some ⟨g4, 0, none⟩)), (4, .slice (some ⟨g2, 0, none⟩) 120 120), (2, .pointer (some ⟨g1, 0, none⟩))] (XK.meet ⟨-1, .inl rfl, rfl, rfl, rfl⟩)
        ·
          refine aN rfl rfl rfl (by decide) ?_
          refine aN rfl rfl rfl (by decide) ?_
          refine aN rfl rfl rfl (by decide) ?_
          refine aN rfl rfl rfl (by decide) ?_
          refine aN rfl rfl rfl (by decide) ?_
          refine aN rfl rfl rfl (by decide) ?_
          refine aN rfl rfl rfl (by decide) ?_
          (first | refine bJ rfl rfl (by decide) ?_ | refine bK rfl rfl (by decide) ?_)
          refine XK.aA ?_
          refine XK.cond rfl (fun h => by cases h) (fun _ => ?_)
          refine XK.skip ?_
          refine XK.norm ?_
          exact XK.aL [(12, .pointer (some ⟨g9, 0, none⟩)), (11, .int .i64 dm.length), (6, .pointer (some ⟨g4, 0, none⟩)), (4, .slice (some ⟨g2, 0, none⟩) 120 120), (2, .pointer (some ⟨g1, 0, none⟩))] (XK.meet ⟨-1, .inl rfl, rfl, rfl, rfl⟩)
      rintro _ _ _ ⟨ab, hab, rfl, rfl, rfl⟩
      refine XK.region ?_
      refine aW (off := 1) (by kernel_rfl) rfl (by decide) ?_
      refine fI (by kernel_rfl) rfl (by first | exact Rd.eC (dd _ (by omega)) | exact Rd.ld) (by decide) ?_
      refine gB 3 rfl ?_
      refine eZ (el := 75) (sz := 3) (zs := [.int .i64 0, .int .i64 0, .bool false]) (by kernel_rfl) (aM (by kernel_rfl)) (by kernel_rfl) rfl (by decide) (by decide) rfl (by simp [aS, aT, Value.cells, List.range_succ, List.set]; rfl) (by decide) fun g10 => ?_
      refine fA 3 3 24 1 (n' := dm.length + 1) (el := 75) (by kernel_rfl) (by kernel_rfl) (by decide) rfl rfl rfl (jY 0 rfl rfl) (by simp [Value.oneCell']) rfl (by omega) (by omega) (by decide) fun A2n c2n => ?_
      refine aW (off := 1) (by kernel_rfl) rfl (by decide) ?_
      refine pL rfl rfl ?_; dsimp only [List.set]
      refine XK.aA ?_
      refine XK.region ?_
      refine aF rfl (by decide) ?_
      refine dD rfl rfl (aY (by omega)) (by decide) ?_
      refine aH rfl (by decide) ?_
      refine XK.aA ?_
      exact XK.weak [2, 3, 4, 5, 6] rfl (by decide) (fun _ h => h) (XK.aL [(11, .int .i64 (dm.length + 1)), (6, .pointer (some ⟨g4, 0, none⟩)), (4, .slice (some ⟨g2, 0, none⟩) 120 120), (2, .pointer (some ⟨g1, 0, none⟩))] (XK.round (5 - (dm.length + 1)) (by omega) ⟨dm ++ [⟨ab, dv ds (40 + dm.length) % 4, decide (dv ds (40 + dm.length) / 4 % 2 = 1)⟩], A2n, c2n, lF ++ [_], by simp; omega, by simp, hdf.snoc ⟨hab, by dsimp only; omega, by dsimp only; omega⟩, Ld.snoc (r := [.int .i64 ab, .int .i64 (dv ds (40 + dm.length) % 4), .bool (decide (dv ds (40 + dm.length) / 4 % 2 = 1))]) rfl rfl, by simp, rfl, by simp⟩))
    ·
      refine XK.exit ?_
      refine XK.norm ?_
      exact XK.aL [(6, .pointer (some ⟨g4, 0, none⟩)), (4, .slice (some ⟨g2, 0, none⟩) 120 120), (2, .pointer (some ⟨g1, 0, none⟩))] (XK.meet ⟨dm, A2, c2, lF, by omega, by omega, hdf, Ld, rfl, rfl, rfl⟩)
  rintro _ _ _ ⟨dm, A2, c2, lF, fR, Zd, hdf, Ld, rfl, rfl, rfl⟩
  refine XK.cut (fun e R H => ∃ (rs : List Int) (A3 : Option Addr) (c3 : Nat) (nJ : List (List Value)), 1 ≤ rs.length ∧ rs.length ≤ 3 ∧ (∀ r ∈ rs, 0 ≤ r ∧ r ≤ 3) ∧ Rows sQ 1 rs nJ ∧ e = [(6, .pointer (some ⟨g4, 0, none⟩)), (4, .slice (some ⟨g2, 0, none⟩) 120 120), (2, .pointer (some ⟨g1, 0, none⟩))] ∧ R = [q, all w] ∧ H = [HP.aE g4 29 [.slice A1 cs.length c1, .slice A2 dm.length c2, .slice A3 rs.length c3, .slice none 0 0], HP.own 120 1 (.slice A3 rs.length c3) rs.length nJ.flatten, HP.own 75 3 (.slice A2 dm.length c2) dm.length lF.flatten, HP.own 118 6 (.slice A1 cs.length c1) cs.length jB.flatten, HP.aE g2 3 (aR ds), HP.aE g1 29 [.slice none 0 0, .slice none 0 0, .slice none 0 0, .slice none 0 0]]) ?_ ?_
  ·
    refine XK.seq ?_
    refine XK.region ?_
    refine aH rfl (by decide) ?_
    refine XK.aA ?_
    refine XK.kA 120 1 ?_
    refine XK.weak [1, 0, 2, 3, 4, 5] rfl (by decide) (fun _ h => h) ?_
    refine XK.aL [(13, .int .i64 0), (6, .pointer (some ⟨g4, 0, none⟩)), (4, .slice (some ⟨g2, 0, none⟩) 120 120), (2, .pointer (some ⟨g1, 0, none⟩))] ?_
    refine XK.block ?_
    refine XK.loop (fun m e R H => ∃ (rs : List Int) (A3 : Option Addr) (c3 : Nat) (nJ : List (List Value)), (rs.length : Int) ≤ 1 + dv ds 3 % 3 ∧ m = 4 - rs.length ∧ (∀ r ∈ rs, 0 ≤ r ∧ r ≤ 3) ∧ Rows sQ 1 rs nJ ∧ e = [(13, .int .i64 rs.length), (6, .pointer (some ⟨g4, 0, none⟩)), (4, .slice (some ⟨g2, 0, none⟩) 120 120), (2, .pointer (some ⟨g1, 0, none⟩))] ∧ R = [q, all w] ∧ H = [HP.aE g4 29 [.slice A1 cs.length c1, .slice A2 dm.length c2, .slice A3 rs.length c3, .slice none 0 0], HP.own 120 1 (.slice A3 rs.length c3) rs.length nJ.flatten, HP.own 75 3 (.slice A2 dm.length c2) dm.length lF.flatten, HP.own 118 6 (.slice A1 cs.length c1) cs.length jB.flatten, HP.aE g2 3 (aR ds), HP.aE g1 29 [.slice none 0 0, .slice none 0 0, .slice none 0 0, .slice none 0 0]]) 4 ⟨[], none, 0, [], by simp; omega, rfl, by simp, trivial, rfl, rfl, rfl⟩ fun m e R H hI => ?_
    obtain ⟨rs, A3, c3, nJ, hk, rfl, qU, cM, rfl, rfl, rfl⟩ := hI
    refine XK.seq ?_
    refine XK.seq ?_
    refine XK.region ?_
    refine aF rfl (by decide) ?_
    refine aF rfl (by decide) ?_
    refine dB 3 3 (el := 3) (sz := 1) (by kernel_rfl) (by kernel_rfl) rfl rfl (by rfl) (by omega) (by omega) (by decide) ?_
    refine fI (by kernel_rfl) rfl (by first | exact Rd.eC (dd _ (by omega)) | exact Rd.ld) (by decide) ?_
    refine pN rfl rfl (by omega) (rem_in (by omega)) (by decide) ?_
    refine dD rfl rfl (aY (by omega)) (by decide) ?_
    refine fB rfl rfl (by decide) ?_
    refine XK.aA ?_
    refine XK.if_ rfl (fun h => ?_) (fun h => ?_)
    ·
      refine XK.skip ?_
      refine XK.norm ?_
      refine XK.seq ?_
      refine XK.block ?_
      have hk2 : rs.length < 3 := by omega
      have p1 := hd.bd (50 + rs.length)
      refine XK.draw 10 (by kernel_rfl) (by kernel_rfl) ?_
      refine XA.dA 0 rfl rfl rfl (iV (off := 2) (by kernel_rfl) rfl) ?_
      refine XA.dA 1 rfl rfl rfl (iG (by kernel_rfl) rfl (by first | exact Rd.eC (dd _ (by omega)) | exact Rd.ld)) ?_
      refine XA.dA 2 rfl rfl rfl (cE rfl) ?_
      refine XA.dA 3 rfl rfl rfl (cE rfl) ?_
      refine XA.dA 4 rfl rfl rfl (lS rfl rfl (aY (by omega))) ?_
      refine XA.dA 5 rfl rfl rfl (nS (50 + rs.length) (50 + rs.length) (el := 3) (sz := 1) (by kernel_rfl) (by kernel_rfl) rfl rfl (by omega) (by omega) (by omega)) ?_
      refine XA.dA 6 rfl rfl rfl (iG (by kernel_rfl) rfl (by first | exact Rd.eC (dd _ (by omega)) | exact Rd.ld)) ?_
      refine XA.dA 7 rfl rfl rfl (oU rfl rfl (by omega) (rem_in (by omega))) ?_
      refine XA.dA 8 rfl rfl rfl (fS (zs := [.int .i64 0]) (L := [(0, 1)]) (aM (by kernel_rfl)) (by kernel_rfl) rfl (by simp [aS, aT, Value.cells]; rfl)) ?_
      refine XA.next 9 rfl (by kernel_rfl) ?_
      refine eZ (el := 120) (sz := 1) (zs := [.int .i64 0]) (by kernel_rfl) (aM (by kernel_rfl)) (by kernel_rfl) rfl (by decide) (by decide) rfl (by simp [aS, aT, Value.cells, List.range_succ, List.set]; rfl) (by decide) fun g11 => ?_
      refine XA.bk ?_
      refine XA.next 10 rfl (by kernel_rfl) ?_
      refine fA 2 1 8 1 (n' := rs.length + 1) (el := 120) (by kernel_rfl) (by kernel_rfl) (by decide) rfl rfl rfl (jY 0 rfl rfl) (by simp [Value.oneCell']) rfl (by omega) (by omega) (by decide) fun A3n c3n => ?_
      refine XA.bt ?_
      refine XA.next 11 rfl (by kernel_rfl) ?_
      refine aW (off := 2) (by kernel_rfl) rfl (by decide) ?_
      refine XA.bt ?_
      refine XA.next 12 rfl (by kernel_rfl) ?_
      refine pL rfl rfl ?_; dsimp only [List.set]
      refine XA.bt ?_
      refine XA.done (by kernel_rfl) ?_
      refine XK.norm ?_
      refine XK.region ?_
      refine aF rfl (by decide) ?_
      refine dD rfl rfl (aY (by omega)) (by decide) ?_
      refine aH rfl (by decide) ?_
      refine XK.aA ?_
      exact XK.weak [1, 2, 3, 4, 5, 6] rfl (by decide) (fun _ h => h) (XK.aL [(13, .int .i64 (rs.length + 1)), (6, .pointer (some ⟨g4, 0, none⟩)), (4, .slice (some ⟨g2, 0, none⟩) 120 120), (2, .pointer (some ⟨g1, 0, none⟩))] (XK.round (4 - (rs.length + 1)) (by omega) ⟨rs ++ [dv ds (50 + rs.length) % 4], A3n, c3n, nJ ++ [_], by simp; omega, by simp, by intro r hr; simp at hr; rcases hr with hr | hr; exact qU r hr; omega, cM.snoc (r := [.int .i64 (dv ds (50 + rs.length) % 4)]) rfl rfl, by simp, rfl, by simp⟩))
    ·
      refine XK.exit ?_
      refine XK.norm ?_
      exact XK.aL [(6, .pointer (some ⟨g4, 0, none⟩)), (4, .slice (some ⟨g2, 0, none⟩) 120 120), (2, .pointer (some ⟨g1, 0, none⟩))] (XK.meet ⟨rs, A3, c3, nJ, by omega, by omega, qU, cM, rfl, rfl, rfl⟩)
  rintro _ _ _ ⟨rs, A3, c3, nJ, cT, oM, qU, cM, rfl, rfl, rfl⟩
  refine XK.cut (fun e R H => ∃ (vs : List bN) (A4 : Option Addr) (c4 : Nat) (q : Piece) (pV : List (List Value)), 1 ≤ vs.length ∧ vs.length ≤ 4 ∧ Rows (iO (dR q)) 6 cs jB ∧ Fits (bN.fit cs.length dm.length rs.length) vs ∧ Rows (jF (dR q)) 6 vs pV ∧ kM w q ∧ e = [(6, .pointer (some ⟨g4, 0, none⟩)), (4, .slice (some ⟨g2, 0, none⟩) 120 120), (2, .pointer (some ⟨g1, 0, none⟩))] ∧ R = [q, all w] ∧ H = [HP.aE g4 29 [.slice A1 cs.length c1, .slice A2 dm.length c2, .slice A3 rs.length c3, .slice A4 vs.length c4], HP.own 78 6 (.slice A4 vs.length c4) vs.length pV.flatten, HP.own 120 1 (.slice A3 rs.length c3) rs.length nJ.flatten, HP.own 75 3 (.slice A2 dm.length c2) dm.length lF.flatten, HP.own 118 6 (.slice A1 cs.length c1) cs.length jB.flatten, HP.aE g2 3 (aR ds), HP.aE g1 29 [.slice none 0 0, .slice none 0 0, .slice none 0 0, .slice none 0 0]]) ?_ ?_
  ·
    refine XK.seq ?_
    refine XK.region ?_
    refine aH rfl (by decide) ?_
    refine XK.aA ?_
    refine XK.kA 78 6 ?_
    refine XK.weak [1, 0, 2, 3, 4, 5, 6] rfl (by decide) (fun _ h => h) ?_
    refine XK.aL [(14, .int .i64 0), (6, .pointer (some ⟨g4, 0, none⟩)), (4, .slice (some ⟨g2, 0, none⟩) 120 120), (2, .pointer (some ⟨g1, 0, none⟩))] ?_
    refine XK.block ?_
    refine XK.loop (fun m e R H => ∃ (vs : List bN) (A4 : Option Addr) (c4 : Nat) (q : Piece) (pV : List (List Value)), (vs.length : Int) ≤ 1 + dv ds 4 % 4 ∧ m = 5 - vs.length ∧ Rows (iO (dR q)) 6 cs jB ∧ Fits (bN.fit cs.length dm.length rs.length) vs ∧ Rows (jF (dR q)) 6 vs pV ∧ kM w q ∧ e = [(14, .int .i64 vs.length), (6, .pointer (some ⟨g4, 0, none⟩)), (4, .slice (some ⟨g2, 0, none⟩) 120 120), (2, .pointer (some ⟨g1, 0, none⟩))] ∧ R = [q, all w] ∧ H = [HP.aE g4 29 [.slice A1 cs.length c1, .slice A2 dm.length c2, .slice A3 rs.length c3, .slice A4 vs.length c4], HP.own 78 6 (.slice A4 vs.length c4) vs.length pV.flatten, HP.own 120 1 (.slice A3 rs.length c3) rs.length nJ.flatten, HP.own 75 3 (.slice A2 dm.length c2) dm.length lF.flatten, HP.own 118 6 (.slice A1 cs.length c1) cs.length jB.flatten, HP.aE g2 3 (aR ds), HP.aE g1 29 [.slice none 0 0, .slice none 0 0, .slice none 0 0, .slice none 0 0]]) 5 ⟨[], none, 0, q, [], by simp; omega, rfl, tR, Fits.nil _, trivial, hq, rfl, rfl, rfl⟩ fun m e R H hI => ?_
    obtain ⟨vs, A4, c4, q, pV, hk, rfl, tR, Kn, Km, hq, rfl, rfl, rfl⟩ := hI
    refine XK.seq ?_
    refine XK.seq ?_
    refine XK.region ?_
    refine aF rfl (by decide) ?_
    refine aF rfl (by decide) ?_
    refine dB 4 4 (el := 3) (sz := 1) (by kernel_rfl) (by kernel_rfl) rfl rfl (by rfl) (by omega) (by omega) (by decide) ?_
    refine fI (by kernel_rfl) rfl (by first | exact Rd.eC (dd _ (by omega)) | exact Rd.ld) (by decide) ?_
    refine pN rfl rfl (by omega) (rem_in (by omega)) (by decide) ?_
    refine dD rfl rfl (aY (by omega)) (by decide) ?_
    refine fB rfl rfl (by decide) ?_
    refine XK.aA ?_
    refine XK.if_ rfl (fun h => ?_) (fun h => ?_)
    ·
      refine XK.skip ?_
      refine XK.norm ?_
      refine XK.seq ?_
      refine XK.block ?_
      refine XK.seq ?_
      have hk2 : vs.length < 4 := by omega
      have p0 := hd.bd (60 + 12 * vs.length)
      have p1 := hd.bd (61 + 12 * vs.length)
      have p2 := hd.bd (62 + 12 * vs.length)
      have p3 := hd.bd (63 + 12 * vs.length)
      have p4 := hd.bd (64 + 12 * vs.length)
      have p9 := hd.bd (69 + 12 * vs.length)
      have p10 := hd.bd (70 + 12 * vs.length)
      have p11 := hd.bd (71 + 12 * vs.length)
      have q0 := wH (dv ds (60 + 12 * vs.length)) (n := (cs.length : Int)) (by omega)
      have q1 := wH (dv ds (61 + 12 * vs.length)) (n := (dm.length : Int)) (by omega)
      have q2 := wH (dv ds (62 + 12 * vs.length)) (n := (rs.length : Int)) (by omega)
      refine XK.region ?_
      refine aF rfl (by decide) ?_
      refine Mz rfl rfl (aY (by omega)) (by decide) ?_
      refine dD rfl rfl (aY (by omega)) (by decide) ?_
      refine aH rfl (by decide) ?_
      refine XK.aA ?_
      refine XK.seq ?_
      refine XK.draw 35 (by kernel_rfl) (by kernel_rfl) ?_
      refine XA.dA 0 rfl rfl rfl (cE rfl) ?_
      refine XA.dA 1 rfl rfl rfl (cE rfl) ?_
      refine XA.dA 2 rfl rfl rfl (nS (60 + 12 * vs.length) (60 + 12 * vs.length) (el := 3) (sz := 1) (by kernel_rfl) (by kernel_rfl) rfl rfl (by omega) (by omega) (by omega)) ?_
      refine XA.dA 3 rfl rfl rfl (iG (by kernel_rfl) rfl (by first | exact Rd.eC (dd _ (by omega)) | exact Rd.ld)) ?_
      refine XA.dA 4 rfl rfl rfl (iV (off := 0) (by kernel_rfl) rfl) ?_
      refine XA.dA 5 rfl rfl rfl (iG (by kernel_rfl) rfl (by first | exact Rd.eC (dd _ (by omega)) | exact Rd.ld)) ?_
      refine XA.dA 6 rfl rfl rfl (uE (el := 118) (by kernel_rfl) rfl) ?_
      refine XA.dA 7 rfl rfl rfl (oU rfl rfl (by omega) (rem_in (by omega))) ?_
      refine XA.dA 8 rfl rfl rfl (cE rfl) ?_
      refine XA.dA 9 rfl rfl rfl (cE rfl) ?_
      refine XA.dA 10 rfl rfl rfl (lS rfl rfl (aY (by omega))) ?_
      refine XA.dA 11 rfl rfl rfl (nS (61 + 12 * vs.length) (61 + 12 * vs.length) (el := 3) (sz := 1) (by kernel_rfl) (by kernel_rfl) rfl rfl (by omega) (by omega) (by omega)) ?_
      refine XA.dA 12 rfl rfl rfl (iG (by kernel_rfl) rfl (by first | exact Rd.eC (dd _ (by omega)) | exact Rd.ld)) ?_
      refine XA.dA 13 rfl rfl rfl (iV (off := 1) (by kernel_rfl) rfl) ?_
      refine XA.dA 14 rfl rfl rfl (iG (by kernel_rfl) rfl (by first | exact Rd.eC (dd _ (by omega)) | exact Rd.ld)) ?_
      refine XA.dA 15 rfl rfl rfl (uE (el := 75) (by kernel_rfl) rfl) ?_
      refine XA.dA 16 rfl rfl rfl (oU rfl rfl (by omega) (rem_in (by omega))) ?_
      refine XA.dA 17 rfl rfl rfl (cE rfl) ?_
      refine XA.dA 18 rfl rfl rfl (cE rfl) ?_
      refine XA.dA 19 rfl rfl rfl (lS rfl rfl (aY (by omega))) ?_
      refine XA.dA 20 rfl rfl rfl (nS (62 + 12 * vs.length) (62 + 12 * vs.length) (el := 3) (sz := 1) (by kernel_rfl) (by kernel_rfl) rfl rfl (by omega) (by omega) (by omega)) ?_
      refine XA.dA 21 rfl rfl rfl (iG (by kernel_rfl) rfl (by first | exact Rd.eC (dd _ (by omega)) | exact Rd.ld)) ?_
      refine XA.dA 22 rfl rfl rfl (iV (off := 2) (by kernel_rfl) rfl) ?_
      refine XA.dA 23 rfl rfl rfl (iG (by kernel_rfl) rfl (by first | exact Rd.eC (dd _ (by omega)) | exact Rd.ld)) ?_
      refine XA.dA 24 rfl rfl rfl (uE (el := 120) (by kernel_rfl) rfl) ?_
      refine XA.dA 25 rfl rfl rfl (oU rfl rfl (by omega) (rem_in (by omega))) ?_
      refine XA.dA 26 rfl rfl rfl (cE rfl) ?_
      refine XA.dA 27 rfl rfl rfl (cE rfl) ?_
      refine XA.dA 28 rfl rfl rfl (lS rfl rfl (aY (by omega))) ?_
      refine XA.dA 29 rfl rfl rfl (nS (63 + 12 * vs.length) (63 + 12 * vs.length) (el := 3) (sz := 1) (by kernel_rfl) (by kernel_rfl) rfl rfl (by omega) (by omega) (by omega)) ?_
      refine XA.dA 30 rfl rfl rfl (iG (by kernel_rfl) rfl (by first | exact Rd.eC (dd _ (by omega)) | exact Rd.ld)) ?_
      refine XA.dA 31 rfl rfl rfl (oU rfl rfl (by omega) (rem_in (by omega))) ?_
      refine XA.dA 32 rfl rfl rfl (Cu (ds := .int .i64) (by kernel_rfl) (by kernel_rfl) rfl (wrap_u32 (by omega))) ?_
      refine XA.dA 33 rfl rfl rfl (fS (zs := [.int .i64 0, .int .i64 0, .int .i64 0, .int .u32 0, .slice none 0 0, .slice none 0 0]) (L := [(0, 1), (1, 1), (2, 1), (3, 1), (4, 1), (5, 1)]) (aM (by kernel_rfl)) (by kernel_rfl) rfl (by simp [aS, aT, Value.cells]; rfl)) ?_
      refine XA.next 34 rfl (by kernel_rfl) ?_
      refine cD (cs := [.int .i64 0, .int .i64 0, .int .i64 0, .int .u32 0, .slice none 0 0, .slice none 0 0]) (aM (by kernel_rfl)) (by decide) fun g12 => ?_
      refine XA.bk ?_
      refine XA.next 35 rfl (by kernel_rfl) ?_
      refine eA rfl rfl ?_; simp only [bZ, Value.cells, List.set, List.take, List.drop, List.nil_append, List.append_nil, List.length_cons, List.length_nil, List.cons_append, Nat.reduceAdd]
      refine XA.bt ?_
      refine XA.done (by kernel_rfl) ?_
      refine XK.norm ?_
      refine XK.cut (fun e R H => ∃ (rg : List Rg) (A5 : Option Addr) (c5 : Nat), rg.length ≤ 4 ∧ (∀ r ∈ rg, 0 ≤ r.reset ∧ r.reset ≤ 6) ∧ e = [(16, .pointer (some ⟨g12, 0, none⟩)), (15, .int .i64 (60 + 12 * vs.length)), (14, .int .i64 vs.length), (6, .pointer (some ⟨g4, 0, none⟩)), (4, .slice (some ⟨g2, 0, none⟩) 120 120), (2, .pointer (some ⟨g1, 0, none⟩))] ∧ R = [q, all w] ∧ H = [HP.aE g12 78 [.int .i64 (dv ds (60 + 12 * vs.length) % cs.length), .int .i64 (dv ds (61 + 12 * vs.length) % dm.length), .int .i64 (dv ds (62 + 12 * vs.length) % rs.length), .int .u32 (dv ds (63 + 12 * vs.length) % 3), .slice A5 rg.length c5, .slice none 0 0], HP.own 92 2 (.slice A5 rg.length c5) rg.length (rg.flatMap Rg.cells), HP.aE g4 29 [.slice A1 cs.length c1, .slice A2 dm.length c2, .slice A3 rs.length c3, .slice A4 vs.length c4], HP.own 78 6 (.slice A4 vs.length c4) vs.length pV.flatten, HP.own 120 1 (.slice A3 rs.length c3) rs.length nJ.flatten, HP.own 75 3 (.slice A2 dm.length c2) dm.length lF.flatten, HP.own 118 6 (.slice A1 cs.length c1) cs.length jB.flatten, HP.aE g2 3 (aR ds), HP.aE g1 29 [.slice none 0 0, .slice none 0 0, .slice none 0 0, .slice none 0 0]]) ?_ ?_
      ·
        refine XK.seq ?_
        refine XK.region ?_
        refine aH rfl (by decide) ?_
        refine XK.aA ?_
        refine XK.kA 92 2 ?_
        refine XK.weak [1, 0, 2, 3, 4, 5, 6, 7, 8] rfl (by decide) (fun _ h => h) ?_
        refine XK.aL [(17, .int .i64 0), (16, .pointer (some ⟨g12, 0, none⟩)), (15, .int .i64 (60 + 12 * vs.length)), (14, .int .i64 vs.length), (6, .pointer (some ⟨g4, 0, none⟩)), (4, .slice (some ⟨g2, 0, none⟩) 120 120), (2, .pointer (some ⟨g1, 0, none⟩))] ?_
        refine XK.block ?_
        refine XK.loop (fun m e R H => ∃ (rg : List Rg) (A5 : Option Addr) (c5 : Nat), (rg.length : Int) ≤ dv ds (64 + 12 * vs.length) % 5 ∧ m = 5 - rg.length ∧ (∀ r ∈ rg, 0 ≤ r.reset ∧ r.reset ≤ 6) ∧ e = [(17, .int .i64 rg.length), (16, .pointer (some ⟨g12, 0, none⟩)), (15, .int .i64 (60 + 12 * vs.length)), (14, .int .i64 vs.length), (6, .pointer (some ⟨g4, 0, none⟩)), (4, .slice (some ⟨g2, 0, none⟩) 120 120), (2, .pointer (some ⟨g1, 0, none⟩))] ∧ R = [q, all w] ∧ H = [HP.aE g12 78 [.int .i64 (dv ds (60 + 12 * vs.length) % cs.length), .int .i64 (dv ds (61 + 12 * vs.length) % dm.length), .int .i64 (dv ds (62 + 12 * vs.length) % rs.length), .int .u32 (dv ds (63 + 12 * vs.length) % 3), .slice A5 rg.length c5, .slice none 0 0], HP.own 92 2 (.slice A5 rg.length c5) rg.length (rg.flatMap Rg.cells), HP.aE g4 29 [.slice A1 cs.length c1, .slice A2 dm.length c2, .slice A3 rs.length c3, .slice A4 vs.length c4], HP.own 78 6 (.slice A4 vs.length c4) vs.length pV.flatten, HP.own 120 1 (.slice A3 rs.length c3) rs.length nJ.flatten, HP.own 75 3 (.slice A2 dm.length c2) dm.length lF.flatten, HP.own 118 6 (.slice A1 cs.length c1) cs.length jB.flatten, HP.aE g2 3 (aR ds), HP.aE g1 29 [.slice none 0 0, .slice none 0 0, .slice none 0 0, .slice none 0 0]]) 5 ⟨[], none, 0, by simp; omega, rfl, by simp, rfl, rfl, rfl⟩ fun m e R H hI => ?_
        obtain ⟨rg, A5, c5, hj, rfl, La, rfl, rfl, rfl⟩ := hI
        refine XK.seq ?_
        refine XK.seq ?_
        refine XK.region ?_
        refine aF rfl (by decide) ?_
        refine aF rfl (by decide) ?_
        refine aF rfl (by decide) ?_
        refine dD rfl rfl (aY (by omega)) (by decide) ?_
        refine dB (64 + 12 * vs.length) (64 + 12 * vs.length) (el := 3) (sz := 1) (by kernel_rfl) (by kernel_rfl) rfl rfl (by omega) (by omega) (by omega) (by decide) ?_
        refine fI (by kernel_rfl) rfl (by first | exact Rd.eC (dd _ (by omega)) | exact Rd.ld) (by decide) ?_
        refine pN rfl rfl (by omega) (rem_in (by omega)) (by decide) ?_
        refine fB rfl rfl (by decide) ?_
        refine XK.aA ?_
        refine XK.if_ rfl (fun h => ?_) (fun h => ?_)
        ·
          refine XK.skip ?_
          refine XK.norm ?_
          refine XK.seq ?_
          refine XK.block ?_
          have hj2 : rg.length < 4 := by omega
          have r1 := hd.bd (65 + 12 * vs.length + rg.length)
          refine XK.draw 23 (by kernel_rfl) (by kernel_rfl) ?_
          refine XA.dA 0 rfl rfl rfl (iV (off := 4) (by kernel_rfl) rfl) ?_
          refine XA.dA 1 rfl rfl rfl (iG (by kernel_rfl) rfl (by first | exact Rd.eC (dd _ (by omega)) | exact Rd.ld)) ?_
          refine XA.dA 2 rfl rfl rfl (cE rfl) ?_
          refine XA.dA 3 rfl rfl rfl (cE rfl) ?_
          refine XA.dA 4 rfl rfl rfl (lS rfl rfl (aY (by omega))) ?_
          refine XA.dA 5 rfl rfl rfl (cE rfl) ?_
          refine XA.dA 6 rfl rfl rfl (lS rfl rfl (aY (by omega))) ?_
          refine XA.dA 7 rfl rfl rfl (nS (65 + 12 * vs.length + rg.length) (65 + 12 * vs.length + rg.length) (el := 3) (sz := 1) (by kernel_rfl) (by kernel_rfl) rfl rfl (by omega) (by omega) (by omega)) ?_
          refine XA.dA 8 rfl rfl rfl (iG (by kernel_rfl) rfl (by first | exact Rd.eC (dd _ (by omega)) | exact Rd.ld)) ?_
          refine XA.dA 9 rfl rfl rfl (oU rfl rfl (by omega) (rem_in (by omega))) ?_
          refine XA.dA 10 rfl rfl rfl (Cu (ds := .int .i64) (by kernel_rfl) (by kernel_rfl) rfl (wrap_u32 (by omega))) ?_
          refine XA.dA 11 rfl rfl rfl (cE rfl) ?_
          refine XA.dA 12 rfl rfl rfl (cE rfl) ?_
          refine XA.dA 13 rfl rfl rfl (lS rfl rfl (aY (by omega))) ?_
          refine XA.dA 14 rfl rfl rfl (cE rfl) ?_
          refine XA.dA 15 rfl rfl rfl (lS rfl rfl (aY (by omega))) ?_
          refine XA.dA 16 rfl rfl rfl (nS (65 + 12 * vs.length + rg.length) (65 + 12 * vs.length + rg.length) (el := 3) (sz := 1) (by kernel_rfl) (by kernel_rfl) rfl rfl (by omega) (by omega) (by omega)) ?_
          refine XA.dA 17 rfl rfl rfl (iG (by kernel_rfl) rfl (by first | exact Rd.eC (dd _ (by omega)) | exact Rd.ld)) ?_
          refine XA.dA 18 rfl rfl rfl (Gz rfl rfl (by omega) (yU (by omega) (by omega) (by omega))) ?_
          refine XA.dA 19 rfl rfl rfl (oU rfl rfl (by omega) (rem_in (by omega))) ?_
          refine XA.dA 20 rfl rfl rfl (Au rfl rfl) ?_
          refine XA.dA 21 rfl rfl rfl (fS (zs := [.int .u32 0, .bool false]) (L := [(0, 1), (1, 1)]) (aM (by kernel_rfl)) (by kernel_rfl) rfl (by simp [aS, aT, Value.cells]; rfl)) ?_
          refine XA.next 22 rfl (by kernel_rfl) ?_
          refine eZ (el := 92) (sz := 2) (zs := [.int .u32 0, .bool false]) (by kernel_rfl) (aM (by kernel_rfl)) (by kernel_rfl) rfl (by decide) (by decide) rfl (by simp [aS, aT, Value.cells, List.range_succ, List.set]; rfl) (by decide) fun g13 => ?_
          refine XA.bk ?_
          refine XA.next 23 rfl (by kernel_rfl) ?_
          refine fA 2 2 8 1 (n' := rg.length + 1) (el := 92) (by kernel_rfl) (by kernel_rfl) (by decide) rfl rfl rfl (jY 0 rfl rfl) (by simp [Value.oneCell']) rfl (by omega) (by omega) (by decide) fun A5n c5n => ?_
          refine XA.bt ?_
          refine XA.next 24 rfl (by kernel_rfl) ?_
          refine aW (off := 4) (by kernel_rfl) rfl (by decide) ?_
          refine XA.bt ?_
          refine XA.next 25 rfl (by kernel_rfl) ?_
          refine pL rfl rfl ?_; dsimp only [List.set]
          refine XA.bt ?_
          refine XA.done (by kernel_rfl) ?_
          refine XK.norm ?_
          refine XK.region ?_
          refine aF rfl (by decide) ?_
          refine dD rfl rfl (aY (by omega)) (by decide) ?_
          refine aH rfl (by decide) ?_
          refine XK.aA ?_
          exact XK.weak [1, 2, 3, 4, 5, 6, 7, 8, 9] rfl (by decide) (fun _ h => h) (XK.aL [(17, .int .i64 (rg.length + 1)), (16, .pointer (some ⟨g12, 0, none⟩)), (15, .int .i64 (60 + 12 * vs.length)), (14, .int .i64 vs.length), (6, .pointer (some ⟨g4, 0, none⟩)), (4, .slice (some ⟨g2, 0, none⟩) 120 120), (2, .pointer (some ⟨g1, 0, none⟩))] (XK.round (5 - (rg.length + 1)) (by omega) ⟨rg ++ [⟨dv ds (65 + 12 * vs.length + rg.length) % 7, decide (dv ds (65 + 12 * vs.length + rg.length) / 7 % 2 = 0)⟩], A5n, c5n, by simp; omega, by simp, by intro r hr; simp at hr; rcases hr with hr | hr; exact La r hr; subst hr; dsimp only; omega, by simp, rfl, by simp [Rg.cells]⟩))
        ·
          refine XK.exit ?_
          refine XK.norm ?_
          exact XK.aL [(16, .pointer (some ⟨g12, 0, none⟩)), (15, .int .i64 (60 + 12 * vs.length)), (14, .int .i64 vs.length), (6, .pointer (some ⟨g4, 0, none⟩)), (4, .slice (some ⟨g2, 0, none⟩) 120 120), (2, .pointer (some ⟨g1, 0, none⟩))] (XK.meet ⟨rg, A5, c5, by omega, La, rfl, rfl, rfl⟩)
      rintro _ _ _ ⟨rg, A5, c5, hg4, La, rfl, rfl, rfl⟩
      refine XK.kA 3 1 ?_
      refine XK.weak [1, 0, 2, 3, 4, 5, 6, 7, 8, 9] rfl (by decide) (fun _ h => h) ?_
      refine XK.cut (fun e R H => ∃ (nd : List Int) (A6 : Option Addr) (c6 : Nat), nd.length ≤ 1 ∧ (∀ f ∈ nd, 0 ≤ f ∧ f < vs.length) ∧ e = [(16, .pointer (some ⟨g12, 0, none⟩)), (15, .int .i64 (60 + 12 * vs.length)), (14, .int .i64 vs.length), (6, .pointer (some ⟨g4, 0, none⟩)), (4, .slice (some ⟨g2, 0, none⟩) 120 120), (2, .pointer (some ⟨g1, 0, none⟩))] ∧ R = [q, all w] ∧ H = [HP.aE g12 78 [.int .i64 (dv ds (60 + 12 * vs.length) % cs.length), .int .i64 (dv ds (61 + 12 * vs.length) % dm.length), .int .i64 (dv ds (62 + 12 * vs.length) % rs.length), .int .u32 (dv ds (63 + 12 * vs.length) % 3), .slice A5 rg.length c5, .slice A6 nd.length c6], HP.own 3 1 (.slice A6 nd.length c6) nd.length (aR nd), HP.own 92 2 (.slice A5 rg.length c5) rg.length (rg.flatMap Rg.cells), HP.aE g4 29 [.slice A1 cs.length c1, .slice A2 dm.length c2, .slice A3 rs.length c3, .slice A4 vs.length c4], HP.own 78 6 (.slice A4 vs.length c4) vs.length pV.flatten, HP.own 120 1 (.slice A3 rs.length c3) rs.length nJ.flatten, HP.own 75 3 (.slice A2 dm.length c2) dm.length lF.flatten, HP.own 118 6 (.slice A1 cs.length c1) cs.length jB.flatten, HP.aE g2 3 (aR ds), HP.aE g1 29 [.slice none 0 0, .slice none 0 0, .slice none 0 0, .slice none 0 0]]) ?_ ?_
      ·
        refine XK.seq ?_
        refine XK.region ?_
        refine aF rfl (by decide) ?_
        refine qM rfl rfl (by decide) ?_
        refine aF rfl (by decide) ?_
        refine bO (t := 300) rfl (fun hg => ?_) (fun hg => ?_)
        ·
          refine aO rfl rfl ?_; refine aF rfl (by decide) ?_
          refine aO rfl rfl ?_; refine aF rfl (by decide) ?_
          refine aO rfl rfl ?_; refine dD rfl rfl (aY (by omega)) (by decide) ?_
          refine aO rfl rfl ?_; refine dB (69 + 12 * vs.length) (69 + 12 * vs.length) (el := 3) (sz := 1) (by kernel_rfl) (by kernel_rfl) rfl rfl (by omega) (by omega) (by omega) (by decide) ?_
          refine aO rfl rfl ?_; refine fI (by kernel_rfl) rfl (by first | exact Rd.eC (dd _ (by omega)) | exact Rd.ld) (by decide) ?_
          refine aO rfl rfl ?_; refine pN rfl rfl (by omega) (rem_in (by omega)) (by decide) ?_
          refine aO rfl rfl ?_; refine eH rfl rfl (by decide) ?_
          (first | refine bJ rfl rfl (by decide) ?_ | refine bK rfl rfl (by decide) ?_)
          refine XK.aA ?_
          refine XK.if_ rfl (fun h => ?_) (fun h => ?_)
          ·
            refine XK.draw 10 (by kernel_rfl) (by kernel_rfl) ?_
            refine XA.dA 0 rfl rfl rfl (iV (off := 5) (by kernel_rfl) rfl) ?_
            refine XA.dA 1 rfl rfl rfl (iG (by kernel_rfl) rfl (by first | exact Rd.eC (dd _ (by omega)) | exact Rd.ld)) ?_
            refine XA.dA 2 rfl rfl rfl (cE rfl) ?_
            refine XA.dA 3 rfl rfl rfl (cE rfl) ?_
            refine XA.dA 4 rfl rfl rfl (lS rfl rfl (aY (by omega))) ?_
            refine XA.dA 5 rfl rfl rfl (nS (70 + 12 * vs.length) (70 + 12 * vs.length) (el := 3) (sz := 1) (by kernel_rfl) (by kernel_rfl) rfl rfl (by omega) (by omega) (by omega)) ?_
            refine XA.dA 6 rfl rfl rfl (iG (by kernel_rfl) rfl (by first | exact Rd.eC (dd _ (by omega)) | exact Rd.ld)) ?_
            refine XA.dA 7 rfl rfl rfl (cE rfl) ?_
            refine XA.dA 8 rfl rfl rfl (oU rfl rfl (by omega) (rem_in (by omega))) ?_
            refine XA.next 9 rfl (by kernel_rfl) ?_
            refine eZ (el := 3) (sz := 1) (zs := [.int .i64 0]) (by kernel_rfl) (aM (by kernel_rfl)) (by kernel_rfl) rfl (by decide) (by decide) rfl (by simp [aS, aT, Value.cells, List.range_succ, List.set]; rfl) (by decide) fun g14 => ?_
            refine XA.bk ?_
            refine XA.next 10 rfl (by kernel_rfl) ?_
            refine fA 2 1 8 1 (n' := 1) (el := 3) (by kernel_rfl) (by kernel_rfl) (by decide) rfl rfl rfl (jY 0 rfl rfl) (by simp [Value.oneCell']) rfl (by omega) (by omega) (by decide) fun A6 c6 => ?_
            refine XA.bt ?_
            refine XA.next 11 rfl (by kernel_rfl) ?_
            refine aW (off := 5) (by kernel_rfl) rfl (by decide) ?_
            refine XA.bt ?_
            refine XA.next 12 rfl (by kernel_rfl) ?_
            refine pL rfl rfl ?_; dsimp only [List.set]
            refine XA.bt ?_
            refine XA.done (by kernel_rfl) ?_
            refine XK.norm ?_
            exact XK.weak [1, 2, 3, 4, 5, 6, 7, 8, 9, 10] rfl (by decide) (by simp) (XK.aL [(16, .pointer (some ⟨g12, 0, none⟩)), (15, .int .i64 (60 + 12 * vs.length)), (14, .int .i64 vs.length), (6, .pointer (some ⟨g4, 0, none⟩)), (4, .slice (some ⟨g2, 0, none⟩) 120 120), (2, .pointer (some ⟨g1, 0, none⟩))] (XK.meet ⟨[dv ds (70 + 12 * vs.length) % vs.length], A6, c6, by simp, by intro f hf; simp at hf; subst hf; exact wH _ hg, rfl, rfl, rfl⟩))
          ·
            refine XK.skip ?_
            refine XK.norm ?_
            exact XK.aL [(16, .pointer (some ⟨g12, 0, none⟩)), (15, .int .i64 (60 + 12 * vs.length)), (14, .int .i64 vs.length), (6, .pointer (some ⟨g4, 0, none⟩)), (4, .slice (some ⟨g2, 0, none⟩) 120 120), (2, .pointer (some ⟨g1, 0, none⟩))] (XK.meet ⟨[], none, 0, by simp, by simp, rfl, rfl, rfl⟩)
        ·
          refine aN rfl rfl rfl (by decide) ?_
          refine aN rfl rfl rfl (by decide) ?_
          refine aN rfl rfl rfl (by decide) ?_
          refine aN rfl rfl rfl (by decide) ?_
          refine aN rfl rfl rfl (by decide) ?_
          refine aN rfl rfl rfl (by decide) ?_
          refine aN rfl rfl rfl (by decide) ?_
          (first | refine bJ rfl rfl (by decide) ?_ | refine bK rfl rfl (by decide) ?_)
          refine XK.aA ?_
          refine XK.cond rfl (fun h => by cases h) (fun _ => ?_)
          refine XK.skip ?_
          refine XK.norm ?_
          exact XK.aL [(16, .pointer (some ⟨g12, 0, none⟩)), (15, .int .i64 (60 + 12 * vs.length)), (14, .int .i64 vs.length), (6, .pointer (some ⟨g4, 0, none⟩)), (4, .slice (some ⟨g2, 0, none⟩) 120 120), (2, .pointer (some ⟨g1, 0, none⟩))] (XK.meet ⟨[], none, 0, by simp, by simp, rfl, rfl, rfl⟩)
      rintro _ _ _ ⟨nd, A6, c6, oP, hnf, rfl, rfl, rfl⟩
      refine XK.cut (fun e R H => ∃ (nd : List Int) (A6 : Option Addr) (c6 : Nat), nd.length ≤ 2 ∧ (∀ f ∈ nd, 0 ≤ f ∧ f < vs.length) ∧ e = [(16, .pointer (some ⟨g12, 0, none⟩)), (15, .int .i64 (60 + 12 * vs.length)), (14, .int .i64 vs.length), (6, .pointer (some ⟨g4, 0, none⟩)), (4, .slice (some ⟨g2, 0, none⟩) 120 120), (2, .pointer (some ⟨g1, 0, none⟩))] ∧ R = [q, all w] ∧ H = [HP.aE g12 78 [.int .i64 (dv ds (60 + 12 * vs.length) % cs.length), .int .i64 (dv ds (61 + 12 * vs.length) % dm.length), .int .i64 (dv ds (62 + 12 * vs.length) % rs.length), .int .u32 (dv ds (63 + 12 * vs.length) % 3), .slice A5 rg.length c5, .slice A6 nd.length c6], HP.own 3 1 (.slice A6 nd.length c6) nd.length (aR nd), HP.own 92 2 (.slice A5 rg.length c5) rg.length (rg.flatMap Rg.cells), HP.aE g4 29 [.slice A1 cs.length c1, .slice A2 dm.length c2, .slice A3 rs.length c3, .slice A4 vs.length c4], HP.own 78 6 (.slice A4 vs.length c4) vs.length pV.flatten, HP.own 120 1 (.slice A3 rs.length c3) rs.length nJ.flatten, HP.own 75 3 (.slice A2 dm.length c2) dm.length lF.flatten, HP.own 118 6 (.slice A1 cs.length c1) cs.length jB.flatten, HP.aE g2 3 (aR ds), HP.aE g1 29 [.slice none 0 0, .slice none 0 0, .slice none 0 0, .slice none 0 0]]) ?_ ?_
      ·
        refine XK.seq ?_
        refine XK.region ?_
        refine aF rfl (by decide) ?_
        refine qM rfl rfl (by decide) ?_
        refine aF rfl (by decide) ?_
        refine bO (t := 323) rfl (fun hg => ?_) (fun hg => ?_)
        ·
          refine aO rfl rfl ?_; refine aF rfl (by decide) ?_
          refine aO rfl rfl ?_; refine aF rfl (by decide) ?_
          refine aO rfl rfl ?_; refine dD rfl rfl (aY (by omega)) (by decide) ?_
          refine aO rfl rfl ?_; refine dB (71 + 12 * vs.length) (71 + 12 * vs.length) (el := 3) (sz := 1) (by kernel_rfl) (by kernel_rfl) rfl rfl (by omega) (by omega) (by omega) (by decide) ?_
          refine aO rfl rfl ?_; refine fI (by kernel_rfl) rfl (by first | exact Rd.eC (dd _ (by omega)) | exact Rd.ld) (by decide) ?_
          refine aO rfl rfl ?_; refine pN rfl rfl (by omega) (rem_in (by omega)) (by decide) ?_
          refine aO rfl rfl ?_; refine eH rfl rfl (by decide) ?_
          (first | refine bJ rfl rfl (by decide) ?_ | refine bK rfl rfl (by decide) ?_)
          refine XK.aA ?_
          refine XK.if_ rfl (fun h => ?_) (fun h => ?_)
          ·
            refine XK.draw 11 (by kernel_rfl) (by kernel_rfl) ?_
            refine XA.dA 0 rfl rfl rfl (iV (off := 5) (by kernel_rfl) rfl) ?_
            refine XA.dA 1 rfl rfl rfl (iG (by kernel_rfl) rfl (by first | exact Rd.eC (dd _ (by omega)) | exact Rd.ld)) ?_
            refine XA.dA 2 rfl rfl rfl (cE rfl) ?_
            refine XA.dA 3 rfl rfl rfl (cE rfl) ?_
            refine XA.dA 4 rfl rfl rfl (lS rfl rfl (aY (by omega))) ?_
            refine XA.dA 5 rfl rfl rfl (nS (71 + 12 * vs.length) (71 + 12 * vs.length) (el := 3) (sz := 1) (by kernel_rfl) (by kernel_rfl) rfl rfl (by omega) (by omega) (by omega)) ?_
            refine XA.dA 6 rfl rfl rfl (iG (by kernel_rfl) rfl (by first | exact Rd.eC (dd _ (by omega)) | exact Rd.ld)) ?_
            refine XA.dA 7 rfl rfl rfl (Gz rfl rfl (by omega) (yU (by omega) (by omega) (by omega))) ?_
            refine XA.dA 8 rfl rfl rfl (cE rfl) ?_
            refine XA.dA 9 rfl rfl rfl (oU rfl rfl (by omega) (rem_in (by omega))) ?_
            refine XA.next 10 rfl (by kernel_rfl) ?_
            refine eZ (el := 3) (sz := 1) (zs := [.int .i64 0]) (by kernel_rfl) (aM (by kernel_rfl)) (by kernel_rfl) rfl (by decide) (by decide) rfl (by simp [aS, aT, Value.cells, List.range_succ, List.set]; rfl) (by decide) fun g15 => ?_
            refine XA.bk ?_
            refine XA.next 11 rfl (by kernel_rfl) ?_
            refine fA 2 1 8 1 (n' := nd.length + 1) (el := 3) (by kernel_rfl) (by kernel_rfl) (by decide) rfl rfl rfl (jY 0 rfl rfl) (by simp [Value.oneCell']) rfl (by omega) (by omega) (by decide) fun A6n c6n => ?_
            refine XA.bt ?_
            refine XA.next 12 rfl (by kernel_rfl) ?_
            refine aW (off := 5) (by kernel_rfl) rfl (by decide) ?_
            refine XA.bt ?_
            refine XA.next 13 rfl (by kernel_rfl) ?_
            refine pL rfl rfl ?_; dsimp only [List.set]
            refine XA.bt ?_
            refine XA.done (by kernel_rfl) ?_
            refine XK.norm ?_
            exact XK.weak [1, 2, 3, 4, 5, 6, 7, 8, 9, 10] rfl (by decide) (by simp) (XK.aL [(16, .pointer (some ⟨g12, 0, none⟩)), (15, .int .i64 (60 + 12 * vs.length)), (14, .int .i64 vs.length), (6, .pointer (some ⟨g4, 0, none⟩)), (4, .slice (some ⟨g2, 0, none⟩) 120 120), (2, .pointer (some ⟨g1, 0, none⟩))] (XK.meet ⟨nd ++ [dv ds (71 + 12 * vs.length) / 3 % vs.length], A6n, c6n, by simp; omega, by intro f hf; simp at hf; rcases hf with hf | hf; exact hnf f hf; subst hf; exact wH _ (by omega), rfl, rfl, by simp [aR]⟩))
          ·
            refine XK.skip ?_
            refine XK.norm ?_
            exact XK.aL [(16, .pointer (some ⟨g12, 0, none⟩)), (15, .int .i64 (60 + 12 * vs.length)), (14, .int .i64 vs.length), (6, .pointer (some ⟨g4, 0, none⟩)), (4, .slice (some ⟨g2, 0, none⟩) 120 120), (2, .pointer (some ⟨g1, 0, none⟩))] (XK.meet ⟨nd, A6, c6, by omega, hnf, rfl, rfl, rfl⟩)
        ·
          refine aN rfl rfl rfl (by decide) ?_
          refine aN rfl rfl rfl (by decide) ?_
          refine aN rfl rfl rfl (by decide) ?_
          refine aN rfl rfl rfl (by decide) ?_
          refine aN rfl rfl rfl (by decide) ?_
          refine aN rfl rfl rfl (by decide) ?_
          refine aN rfl rfl rfl (by decide) ?_
          (first | refine bJ rfl rfl (by decide) ?_ | refine bK rfl rfl (by decide) ?_)
          refine XK.aA ?_
          refine XK.cond rfl (fun h => by cases h) (fun _ => ?_)
          refine XK.skip ?_
          refine XK.norm ?_
          exact XK.aL [(16, .pointer (some ⟨g12, 0, none⟩)), (15, .int .i64 (60 + 12 * vs.length)), (14, .int .i64 vs.length), (6, .pointer (some ⟨g4, 0, none⟩)), (4, .slice (some ⟨g2, 0, none⟩) 120 120), (2, .pointer (some ⟨g1, 0, none⟩))] (XK.meet ⟨nd, A6, c6, by omega, hnf, rfl, rfl, rfl⟩)
      rintro _ _ _ ⟨nd, A6, c6, aE4, hnf, rfl, rfl, rfl⟩
      refine XK.region ?_
      refine aW (off := 3) (by kernel_rfl) rfl (by decide) ?_
      refine fI (by kernel_rfl) rfl (by first | exact Rd.eC (dd _ (by omega)) | exact Rd.ld) (by decide) ?_
      refine gB 6 rfl ?_
      refine eZ (el := 78) (sz := 6) (zs := [.int .i64 0, .int .i64 0, .int .i64 0, .int .u32 0, .slice none 0 0, .slice none 0 0]) (by kernel_rfl) (aM (by kernel_rfl)) (by kernel_rfl) rfl (by decide) (by decide) rfl (by simp [aS, aT, Value.cells, List.range_succ, List.set]; rfl) (by decide) fun g16 => ?_
      refine fA 5 6 80 1 (n' := vs.length + 1) (el := 78) (by kernel_rfl) (by kernel_rfl) (by decide) rfl rfl rfl (jY 0 rfl rfl) (by simp [Value.oneCell']) rfl (by omega) (by omega) (by decide) fun A4n c4n => ?_
      refine aW (off := 3) (by kernel_rfl) rfl (by decide) ?_
      refine pL rfl rfl ?_; dsimp only [List.set]
      refine XK.aA ?_
      refine XK.region ?_
      refine aF rfl (by decide) ?_
      refine dD rfl rfl (aY (by omega)) (by decide) ?_
      refine aH rfl (by decide) ?_
      refine XK.aA ?_
      refine XK.still [q] [2, 3] [4, 5, 6, 7, 8, 9, 10] (by simp) rfl (by decide) (by simp) fun qn qV Fs qA => ?_
      have hle := Fs q (by simp)
      have mB := qA (by simp) (by simp; exact hq)
      have hs1 := aI.own (qV 3 _ (by simp) rfl)
      have eV := aI.own (qV 2 _ (by simp) rfl)
      exact XK.weak [0, 1, 2, 3, 4, 5, 6] rfl (by decide) (by simp) (XK.aL [(14, .int .i64 (vs.length + 1)), (6, .pointer (some ⟨g4, 0, none⟩)), (4, .slice (some ⟨g2, 0, none⟩) 120 120), (2, .pointer (some ⟨g1, 0, none⟩))] (XK.round (5 - (vs.length + 1)) (by omega) ⟨vs ++ [⟨dv ds (60 + 12 * vs.length) % cs.length, dv ds (61 + 12 * vs.length) % dm.length, dv ds (62 + 12 * vs.length) % rs.length, dv ds (63 + 12 * vs.length) % 3, rg, nd⟩], A4n, c4n, qn, pV ++ [_], by simp; omega, by simp, tR.mono (fun c r => iO.mono (fV hle)), Kn.snoc ⟨q0.1, q0.2, q1.1, q1.2, q2.1, q2.2, by dsimp only; omega, by dsimp only; omega, hg4, La, aE4, hnf⟩, (Km.mono (fun c r => jF.mono (fV hle))).snoc (r := [.int .i64 (dv ds (60 + 12 * vs.length) % cs.length), .int .i64 (dv ds (61 + 12 * vs.length) % dm.length), .int .i64 (dv ds (62 + 12 * vs.length) % rs.length), .int .u32 (dv ds (63 + 12 * vs.length) % 3), .slice A5 rg.length c5, .slice A6 nd.length c6]) rfl ⟨A5, _, c5, A6, _, c6, rfl, rfl, rfl, hs1, eV⟩, mB, by simp, rfl, by simp⟩))
    ·
      refine XK.exit ?_
      refine XK.norm ?_
      exact XK.aL [(6, .pointer (some ⟨g4, 0, none⟩)), (4, .slice (some ⟨g2, 0, none⟩) 120 120), (2, .pointer (some ⟨g1, 0, none⟩))] (XK.meet ⟨vs, A4, c4, q, pV, by omega, by omega, tR, Kn, Km, hq, rfl, rfl, rfl⟩)
  rintro _ _ _ ⟨vs, A4, c4, q, pV, Fm, Yb, tR, Kn, Km, hq, rfl, rfl, rfl⟩
  refine XK.seq ?_
  refine XK.region ?_
  refine gB 4 rfl ?_
  refine eA rfl rfl ?_; simp only [bZ, Value.cells, List.set, List.take, List.drop, List.nil_append, List.append_nil, List.length_cons, List.length_nil, List.cons_append, Nat.reduceAdd]
  refine XK.aA ?_
  refine XK.ret ?_
  refine XK.norm ?_
  refine XK.still [q] [1, 2, 3, 4] [6] (by simp) rfl (by decide) (by simp) fun qn qV Fs qA => ?_
  have hle := Fs q (by simp)
  have mB := qA (by simp) (by simp; exact hq)
  have lK := aI.own (qV 1 _ (by simp) rfl)
  have kL := aI.own (qV 2 _ (by simp) rfl)
  have eV := aI.own (qV 3 _ (by simp) rfl)
  have hs1 := aI.own (qV 4 _ (by simp) rfl)
  have hS : mJ (dR qn) ⟨cs, dm, rs, vs⟩ #[.slice A1 cs.length c1, .slice A2 dm.length c2, .slice A3 rs.length c3, .slice A4 vs.length c4] :=
    ⟨A1, _, c1, A2, _, c2, A3, _, c3, A4, _, c4, rfl, ⟨jB, tR.mono (fun c r => iO.mono (fV hle)), rfl, hs1⟩, ⟨lF, Ld, rfl, eV⟩, ⟨nJ, cM, rfl, kL⟩, ⟨pV, Km.mono (fun c r => jF.mono (fV hle)), rfl, lK⟩⟩
  exact XK.Bo rfl (by kernel_rfl) rfl rfl (aC.whole 0 rfl) fun w1 st => ⟨⟨_, rfl, _, ⟨cs, dm, rs, vs⟩, rfl, hS.mono (fV (st.kX (by simp) mB)), ⟨Cf, hdf, qU, Kn, ⟨Ri, Zj⟩, ⟨fR, Zd⟩, ⟨cT, oM⟩, ⟨Fm, Yb⟩⟩⟩, st.below (by simp)⟩
end
section
structure yK where
 a1 : Int
 a2 : Int
 a3 : Int
 a4 : Int
 a5 : Int
 a6 : Int
def yK.cells (a : yK) : List Value := [.int .i64 a.a1, .int .i64 a.a2, .int .i64 a.a3, .int .i64 a.a4, .int .i64 a.a5, .int .i64 a.a6]
def Dj (a : Int) : Prop := -9223372036854775808 ≤ a ∧ a ≤ 9223372036854775807
structure yK.ok (a : yK) : Prop where
 h1 : Dj a.a1
 h2 : Dj a.a2
 h3 : Dj a.a3
 h4 : Dj a.a4
 h5 : Dj a.a5
 h6 : Dj a.a6
theorem aI.ask {w : World} {A : Option Addr} {n : Nat} {qs : List yK} (h : aI (all w) 6 A n (qs.flatMap yK.cells)) {k : Nat} {a : yK} (hk : qs[k]? = some a) (hn : k < n) : ∃ b off, A = some ⟨b, off, none⟩ ∧ cX w b (off + k * 6) a.cells := by
 obtain ⟨b, off, hA, hz, hc⟩ := aI.at_ h hn
 refine ⟨b, off, hA, hz, fun f u hu => hc f u ?_⟩
 have hf : f < 6 := by
  rcases Nat.lt_or_ge f a.cells.length with h | h
  ·exact h
  ·rw [List.getElem?_eq_none h] at hu; cases hu
 rw [Aj yK.cells 6 qs (fun x _ => rfl) k f a hk hf, hu]
theorem aCk (x : bR) (k id : Int) : (dL x k id).d.length = x.d.length ∧ (dL x k id).c.length = x.c.length ∧ (dL x k id).l.length = x.l.length := by
 unfold dL
 split
 ·exact ⟨xB _ _ _, rfl, rfl⟩
 ·split
  ·exact ⟨rfl, xB _ _ _, rfl⟩
  ·split
   ·exact ⟨rfl, rfl, xB _ _ _⟩
   ·exact ⟨rfl, rfl, rfl⟩
theorem Vl {x : bR} (h : x.sm) (k id : Int) : (dL x k id).sm := by
 obtain ⟨h1, h2, h3⟩ := aCk x k id
 exact ⟨by rw [h1]; exact h.d, by rw [h2]; exact h.c, by rw [h3]; exact h.l⟩
theorem aA0 {x : bR} (h : x.sm) (ag : Nat) (k id : Int) : (cG x ag k id).sm := by
 unfold cG; split
 ·exact Vl h k id
 ·exact h
theorem aAz {x : bR} (h : x.sm) (ag : Nat) (k id : Int) : (cF x ag k id).sm := by
 unfold cF; split
 ·exact h
 ·exact Vl h k id
end
section
theorem aEW (n : Nat) (i : Nat) : hasB (List.replicate n false) i = false := by
 unfold hasB
 rw [List.getElem?_replicate]
 split <;> rfl
theorem Ur (s : aD) (k id : Int) : kF (bG s) k id = false := by
 unfold kF vU bG
 have h : ∀ n i, hasB (List.replicate n false) i = false := aEW
 split
 ·rw [h]; simp
 ·split
  ·rw [h]; simp
  ·split
   ·rw [h]; simp
   ·simp [hasB]
section
variable {s : aD} {r : Nat} {p m on off kn kf n : Int}
theorem aGq {x y : bR} {wt : List Int} {ag : Nat} {l : List Int} {k id : Int} (hr : dV s l = (0, k, id)) (hk : fJ k) (xM : k ≠ 0) (hw : kF (if ag = 0 then x else y) k id = false) :
  fT s x y wt ag l = if k = 117 ∧ (s.domains[id.toNat]?).any (fun d => decide (d.above ≠ -1) && !lW x y 117 d.above) = true then (-3, 0, 0) else (0, k, id) := by
 unfold fT
 rw [hr]
 dsimp only
 rw [hw, if_neg (by simp [xM, hk]), if_pos hk]
theorem aGp {x y : bR} {wt : List Int} {ag : Nat} {l : List Int} {k id : Int} (hr : dV s l = (0, k, id)) (hw : kF (if ag = 0 then x else y) k id = decide (fJ k)) : fT s x y wt ag l = (0, 0, 0) := by
 unfold fT
 rw [hr]
 dsimp only
 rw [if_pos (.inr (.inr hw))]
end
section
variable {s : aD} {r : Nat} {p m on off kn kf n : Int} {a b : Nat}
end
end
section
section
variable {s : aD}
theorem aAG (hm : s.made) : ∀ (k c : Nat), ∀ i ∈ lU s k c, i ≤ c
 | 0, c, i, h => by simp [lU] at h
 | k + 1, c, i, h => by
  unfold lU at h
  cases hc : s.aB[c]? with
  | none => rw [hc] at h; simp at h
  | some x =>
   rw [hc] at h
   dsimp only at h
   cases hs : x.src with
   | nil => rw [hs] at h; simp at h; omega
   | cons f fs =>
    rw [hs] at h
    rcases List.mem_cons.1 h with rfl | h
    ·exact Nat.le_refl _
    ·have := aAG hm k _ i h
     have hf := ((hm.aB c x hc).1) f (by rw [hs]; simp)
     omega
theorem aGM (hm : s.made) {c i : Nat} (hi : i ∈ iH s c) : i ≤ c := aAG hm _ c i hi
end
theorem Li (l : List Bool) (i : Nat) : hasB l i = l[i]?.getD false := rfl
structure bR.cl (x : bR) (s : aD) : Prop where
 of : x.of s
 up : ∀ (i : Nat) d, hasB x.d i = true → s.domains[i]? = some d → 0 ≤ d.above → hasB x.d d.above.toNat = true
 ch : ∀ i j : Nat, hasB x.c i = true → j ∈ iH s i → Vc s j = true → hasB x.c j = true
 sw : ∀ i : Nat, hasB x.c i = true → Vc s i = true
section
variable {s : aD} {x : bR} {k i : Nat}
end
section
variable {s : aD} {x y : bR}
end
def apart (p q : rJ) : Prop := ¬ (p.pr = q.pr ∧ p.id = q.id)
theorem oX.join {q : Piece} {x y : bR} {v1 v2 v3 v4 v5 v6 : Value} (h1 : oX q x (.agg #[v1, v2, v3])) (h2 : oX q y (.agg #[v4, v5, v6])) : iN q x y (.agg #[v1, v2, v3, v4, v5, v6]) := by
 obtain ⟨A1, k1, A2, k2, A3, k3, e1, a1, a2, a3⟩ := h1
 obtain ⟨B1, m1, B2, m2, B3, m3, e2, b1, b2, b3⟩ := h2
 simp only [Value.agg.injEq, Array.mk.injEq, List.cons.injEq] at e1 e2
 obtain ⟨rfl, rfl, rfl, _⟩ := e1
 obtain ⟨rfl, rfl, rfl, _⟩ := e2
 exact ⟨A1, k1, A2, k2, A3, k3, B1, m1, B2, m2, B3, m3, rfl, a1, a2, a3, b1, b2, b3⟩
theorem iN.split {q : Piece} {x y : bR} {v1 v2 v3 v4 v5 v6 : Value} (h : iN q x y (.agg #[v1, v2, v3, v4, v5, v6])) : oX q x (.agg #[v1, v2, v3]) ∧ oX q y (.agg #[v4, v5, v6]) := by
 obtain ⟨A1, k1, A2, k2, A3, k3, B1, m1, B2, m2, B3, m3, e, a1, a2, a3, b1, b2, b3⟩ := h
 simp only [Value.agg.injEq, Array.mk.injEq, List.cons.injEq] at e
 obtain ⟨rfl, rfl, rfl, rfl, rfl, rfl, _⟩ := e
 exact ⟨⟨A1, k1, A2, k2, A3, k3, rfl, a1, a2, a3⟩, ⟨B1, m1, B2, m2, B3, m3, rfl, b1, b2, b3⟩⟩
section
variable {w0 : World} {R : List Piece} {H : List HP}
theorem aC.three (i : Nat) {b : Nat} {t : TypeId} {v1 v2 v3 : Value} {cs : List Value} (hi : H[i]? = some (HP.aE b t (v1 :: v2 :: v3 :: cs))) : aC w0 R H b 0 [v1, v2, v3] := .of fun j v hv => by
 rw [Nat.zero_add]
 refine Rd.aE i hi ?_
 match j, hv with
 | 0, hv => exact hv
 | 1, hv => exact hv
 | 2, hv => exact hv
end
end
section
set_option maxHeartbeats 4000000
set_option maxRecDepth 20000
theorem Ej {α : Type} {l : List α} {i : Nat} {x : α} (h : l[i]? = some x) : l.set i x = l := by
 refine List.ext_getElem? fun j => ?_
 rw [List.getElem?_set]
 by_cases he : i = j
 ·subst he; rw [if_pos rfl, if_pos (List.getElem?_eq_some_iff.1 h).1, h]
 ·rw [if_neg he]
def nK (s : aD) (st : List cR) (i : Nat) : List Value := (List.range s.aB.length).map fun j => .bool (decide (j < i) && runs s st j)
theorem aCP (s : aD) (st : List cR) : List.replicate s.aB.length (Value.bool false) = nK s st 0 := by
 refine List.ext_getElem? fun j => ?_
 rw [nK, List.getElem?_replicate, List.getElem?_map]
 by_cases hl : j < s.aB.length
 ·rw [List.getElem?_range hl]; simp [hl]
 ·rw [List.getElem?_eq_none (l := List.range s.aB.length) (by simp; omega)]; simp [hl]
theorem aCQ (s : aD) (st : List cR) (i : Nat) : (nK s st i).set i (.bool (runs s st i)) = nK s st (i + 1) := by
 refine List.ext_getElem? fun j => ?_
 simp only [nK, List.getElem?_set, List.getElem?_map, List.length_map, List.length_range]
 by_cases he : i = j
 ·subst he
  by_cases hl : i < s.aB.length
  ·rw [if_pos rfl, if_pos hl, List.getElem?_range hl]; simp
  ·rw [if_pos rfl, if_neg hl, List.getElem?_eq_none (by simp; omega)]; rfl
 ·rw [if_neg he]
  by_cases hl : j < s.aB.length
  ·rw [List.getElem?_range hl]
   have : decide (j < i) = decide (j < i + 1) := by simp; omega
   simp [this]
  ·rw [List.getElem?_eq_none (by simp; omega)]; rfl
theorem aCR {s : aD} {st : List cR} {j : Nat} (h : j < s.aB.length) : (nK s st s.aB.length)[j]? = some (.bool (runs s st j)) := by
 simp [nK, h]
def kK (s : aD) (st : List cR) (i : Nat) : List cR := (gE s st).take i ++ st.drop i
theorem aDK (s : aD) (st : List cR) : kK s st 0 = st := by simp [kK]
theorem aDO {s : aD} {st : List cR} (hok : lB s st) : kK s st s.aB.length = gE s st := by
 have hl := hok.len
 rw [kK, List.drop_eq_nil_of_le (by omega), List.append_nil, List.take_of_length_le (by simp [gE]; omega)]
theorem aDN {s : aD} {st : List cR} (hok : lB s st) {i : Nat} (hi : i < s.aB.length) : (kK s st i)[i]? = st[i]? := by
 have hl := hok.len
 have : ((gE s st).take i).length = i := by simp [gE]; omega
 rw [kK, List.getElem?_append_right (by omega), this, Nat.sub_self, List.getElem?_drop, Nat.add_zero]
theorem Pa {s : aD} {st : List cR} (hok : lB s st) {i : Nat} (hi : i ≤ s.aB.length) : (kK s st i).length = s.aB.length := by
 have hl := hok.len
 simp [kK, gE]; omega
theorem aDL {s : aD} {st : List cR} (hok : lB s st) {i : Nat} {c : cZ} {x : cR} (hc : s.aB[i]? = some c) (hx : st[i]? = some x) : (kK s st i).set i (nY s st c x) = kK s st (i + 1) := by
 have hl := hok.len
 have hi := (List.getElem?_eq_some_iff.1 hc).1
 have ht : (gE s st)[i]? = some (nY s st c x) := by rw [gE, List.getElem?_zipWith, hc, hx]
 have vW : (gE s st).length = s.aB.length := by simp [gE]; omega
 refine List.ext_getElem? fun j => ?_
 rw [List.getElem?_set]
 by_cases he : i = j
 ·subst he
  rw [if_pos rfl, if_pos (by rw [Pa hok (by omega)]; exact hi), kK, List.getElem?_append_left (by rw [List.length_take]; omega), List.getElem?_take_of_lt (by omega), ht]
 ·rw [if_neg he, kK, kK]
  rcases Nat.lt_or_ge j i with hj | hj
  ·rw [List.getElem?_append_left (by rw [List.length_take]; omega), List.getElem?_append_left (by rw [List.length_take]; omega), List.getElem?_take_of_lt hj, List.getElem?_take_of_lt (by omega)]
  ·rw [List.getElem?_append_right (by rw [List.length_take]; omega), List.getElem?_append_right (by rw [List.length_take]; omega), List.getElem?_drop, List.getElem?_drop, List.length_take, List.length_take]
   congr 1
   omega
theorem aBV {s : aD} {st : List cR} (hH : s.cK) (hok : lB s st) {i : Nat} {c : cZ} {x : cR} (hc : s.aB[i]? = some c) (hx : x ∈ st) : 0 ≤ (nY s st c x).left ∧ (nY s st c x).left ≤ 3 := by
 have h1 := hok.left x hx
 have h2 := (hH.t.aB i c hc).2
 have h3 : 0 ≤ c.lock ∧ c.lock ≤ 3 := by omega
 unfold nY
 split
 ·split
  ·exact h3
  ·split
   ·dsimp only; omega
   ·exact h1
 ·exact h1
theorem Nv {s : aD} {st : List cR} (hH : s.cK) (hok : lB s st) : lB s (gE s st) := by
 have hl := hok.len
 refine ⟨by simp [gE]; omega, fun x hx => ?_⟩
 obtain ⟨j, hj⟩ := List.getElem?_of_mem hx
 rw [gE, List.getElem?_zipWith] at hj
 cases hc : s.aB[j]? with
 | none => rw [hc] at hj; cases hj
 | some c =>
  cases hy : st[j]? with
  | none => rw [hc, hy] at hj; cases hj
  | some y =>
   rw [hc, hy] at hj
   cases hj
   exact aBV hH hok hc (List.mem_of_getElem? hy)
theorem aDM {s : aD} {st : List cR} (hH : s.cK) (hok : lB s st) {i : Nat} (hi : i ≤ s.aB.length) : lB s (kK s st i) := ⟨Pa hok hi, fun x hx => by
 rcases List.mem_append.1 hx with h | h
 ·exact (Nv hH hok).left x (List.mem_of_mem_take h)
 ·exact hok.left x (List.mem_of_mem_drop h)⟩
theorem aG0 (L : TL) (s : aD) (st : List cR) (hH : s.cK) (hfl : L.fa.length = s.aB.length) (hok : lB s st) (w : World) (F : Nat → Prop) (hp : (iW L s st).sat F w) (hF : ∀ b, F b → b < w.heap.size) :
  Calls Tryz.prog 83 #[.pointer (some ⟨L.t, 0, none⟩)] w (fun y w' => y = .returned (.tuple #[]) ∧ ∃ F', (iW L s (gE s st)).sat F' w' ∧ bX w w' F F') := by
 have hnc := hH.t.nc
 have hl := hok.len
 refine XK.dY (p := iW L s st) (F := F) (vs := [.pointer (some ⟨L.t, 0, none⟩)]) Tryz.func83 rfl Tryz.ntmps83 (by simp) hp hF ?_
 have Qn : Rd w [⟨w, fun b => b < w.heap.size ∧ ¬ F b⟩] [iW L s st] L.t 0 (.slice L.A s.aB.length L.c) := Rd.tree 0 rfl hfl hok
 refine XK.go ?_
 refine jQ (n := s.aB.length) 1 (el := 4) (z := .bool false) (by kernel_rfl) (by kernel_rfl) rfl rfl rfl (by omega) (by omega) (by decide) fun g1 => ?_
 have aHj : Rd w [⟨w, fun b => b < w.heap.size ∧ ¬ F b⟩] [HP.aE g1 4 (List.replicate s.aB.length (.bool false)), iW L s st] L.t 0 (.slice L.A s.aB.length L.c) := Rd.tree 1 rfl hfl hok
 refine XK.go ?_
 rw [aCP s st]
 refine XK.aL [(19, .int .i64 0), (18, .int .i64 s.aB.length), (2, .slice (some ⟨g1, 0, none⟩) s.aB.length s.aB.length), (0, .pointer (some ⟨L.t, 0, none⟩))] ?_
 refine XK.loop (fun m e R H => ∃ i : Nat, i ≤ s.aB.length ∧ m = s.aB.length - i ∧ e = [(19, .int .i64 i), (18, .int .i64 s.aB.length), (2, .slice (some ⟨g1, 0, none⟩) s.aB.length s.aB.length), (0, .pointer (some ⟨L.t, 0, none⟩))] ∧ R = [⟨w, fun b => b < w.heap.size ∧ ¬ F b⟩] ∧ H = [HP.aE g1 4 (nK s st i), iW L s st]) s.aB.length ⟨0, by omega, rfl, rfl, rfl, rfl⟩ fun m e R H hI => ?_
 obtain ⟨i, hi, rfl, rfl, rfl, rfl⟩ := hI
 refine XK.go ?_
 refine XK.if_ rfl (fun hlt => ?_) (fun hge => ?_)
 ·have hlt : i < s.aB.length := by omega
  have mW : (nK s st i).length = s.aB.length := by simp [nK]
  refine XK.go ?_
  refine bB (fun w1 t => Hl L s st hH i w1 (t.Nt 1 rfl hfl hok)) ?_
  rw [show lE s st (i : Int) = runs s st i by simp [lE, cL, hlt]]
  refine kd (dat i i) ?_
  refine XK.go ?_
  rw [aCQ]
  refine XK.aL [(19, .int .i64 (i + 1 : Nat)), (18, .int .i64 s.aB.length), (2, .slice (some ⟨g1, 0, none⟩) s.aB.length s.aB.length), (0, .pointer (some ⟨L.t, 0, none⟩))] ?_
  exact XK.round (s.aB.length - (i + 1)) (by omega) ⟨i + 1, hlt, rfl, rfl, rfl, rfl⟩
 ·obtain rfl : i = s.aB.length := by omega
  have aHi : Rd w [⟨w, fun b => b < w.heap.size ∧ ¬ F b⟩] [HP.aE g1 4 (nK s st s.aB.length), iW L s st] L.t 0 (.slice L.A s.aB.length L.c) := Rd.tree 1 rfl hfl hok
  refine XK.go ?_
  refine XK.aL [(34, .int .i64 0), (33, .int .i64 s.aB.length), (2, .slice (some ⟨g1, 0, none⟩) s.aB.length s.aB.length), (0, .pointer (some ⟨L.t, 0, none⟩))] ?_
  refine XK.loop (fun m e R H => ∃ i : Nat, i ≤ s.aB.length ∧ m = s.aB.length - i ∧ e = [(34, .int .i64 i), (33, .int .i64 s.aB.length), (2, .slice (some ⟨g1, 0, none⟩) s.aB.length s.aB.length), (0, .pointer (some ⟨L.t, 0, none⟩))] ∧ R = [⟨w, fun b => b < w.heap.size ∧ ¬ F b⟩] ∧ H = [HP.aE g1 4 (nK s st s.aB.length), iW L s (kK s st i)]) s.aB.length ⟨0, by omega, rfl, rfl, rfl, by rw [aDK]⟩ fun m e R H hI => ?_
  obtain ⟨i, hi, rfl, rfl, rfl, rfl⟩ := hI
  refine XK.go ?_
  refine XK.if_ rfl (fun hlt => ?_) (fun hge => ?_)
  ·have hlt : i < s.aB.length := by omega
   obtain ⟨c, hc⟩ := get_some hlt
   obtain ⟨a, ha⟩ := get_some (l := L.fa) (i := i) (by omega)
   obtain ⟨x, hx⟩ := get_some (l := st) (i := i) (by omega)
   have tJ := aDM hH hok hi
   have hml := Pa hok hi
   have zN : (kK s st i)[i]? = some x := by rw [aDN hok hlt]; exact hx
   obtain ⟨iT, gS⟩ := Ou hfl tJ
   have Fy := hok.left x (List.mem_of_getElem? hx)
   have mW : (nK s st s.aB.length).length = s.aB.length := by simp [nK]
   have hpq : (fK s L.fa (kK s st i)).set i (lX c a (nY s st c x)) = fK s L.fa (kK s st (i + 1)) := by rw [Wt hc ha (by omega), aDL hok hc hx]
   refine XK.Wo 1 rfl (by omega) fun g cs hA h1 h2 h3 h4 => ?_
   dsimp only [List.set]
   rw [hA]
   have hs := Ai h2 iT gS (Bu hc ha zN)
   have hu := qH.refl cs (i * 11) 11
   have hrd : Rd w [⟨w, fun b => b < w.heap.size ∧ ¬ F b⟩] [HP.aE g 227 cs, HP.aE g1 4 (nK s st s.aB.length), HP.many [HP.aE L.t 225 [.slice (some ⟨g, 0, none⟩) s.aB.length L.c], HP.emp, HP.dM (nE s L.fa) (nE.le (s := s) (fa := L.fa))]] L.t 0 (.slice (some ⟨g, 0, none⟩) s.aB.length L.c) := Rd.aEp 2 0 rfl rfl rfl
   refine XK.go ?_
   refine kd (dat i (i * 11)) ?_
   obtain ⟨hsrc, hfit⟩ := hH.t.aB i c hc
   obtain ⟨kd, src, rate, mul, dv, lock⟩ := c
   obtain ⟨on, left⟩ := x
   dsimp only at hfit hsrc Fy
   dsimp only [lX] at hs
   have Fo : kd ≠ 112 ∨ on = false → fK s L.fa (kK s st i) = fK s L.fa (kK s st (i + 1)) := fun hh => by
    rw [← hpq]
    have : nY s st ⟨kd, src, rate, mul, dv, lock⟩ ⟨on, left⟩ = ⟨on, left⟩ := by
     unfold nY
     rw [if_neg]
     rintro ⟨h1, h2⟩
     rcases hh with hh | hh
     ·exact hh h1
     ·rw [hh] at h2; cases h2
    rw [this, Ej (Bu hc ha zN)]
   rcases hfit with ⟨rfl, _⟩ | ⟨rfl, oL, _⟩ | ⟨rfl, _⟩ | ⟨rfl, _⟩ | ⟨rfl, _⟩
   ·rw [Fo (.inl (by decide))] at h2
    refine XK.go ?_
    refine XK.jD ?_
    refine XQ.end_ ?_
    refine XK.go ?_
    refine XK.sL 1 hA h1 h2 h3 h4 rfl ?_
    refine XK.aL [(34, .int .i64 (i + 1 : Nat)), (33, .int .i64 s.aB.length), (2, .slice (some ⟨g1, 0, none⟩) s.aB.length s.aB.length), (0, .pointer (some ⟨L.t, 0, none⟩))] ?_
    exact XK.round (s.aB.length - (i + 1)) (by omega) ⟨i + 1, hlt, rfl, rfl, rfl, rfl⟩
   ·cases on
    ·rw [Fo (.inr rfl)] at h2
     refine XK.go ?_
     refine XK.jD ?_
     refine XQ.end_ ?_
     refine XK.go ?_
     refine XK.sL 1 hA h1 h2 h3 h4 rfl ?_
     refine XK.aL [(34, .int .i64 (i + 1 : Nat)), (33, .int .i64 s.aB.length), (2, .slice (some ⟨g1, 0, none⟩) s.aB.length s.aB.length), (0, .pointer (some ⟨L.t, 0, none⟩))] ?_
     exact XK.round (s.aB.length - (i + 1)) (by omega) ⟨i + 1, hlt, rfl, rfl, rfl, rfl⟩
    ·obtain ⟨f, fs, hf⟩ : ∃ (f : Nat) (fs : List Int), src = (f : Int) :: fs := by
      cases hs0 : src with
      | nil => rw [hs0] at oL; simp at oL
      | cons f fs => exact ⟨f.toNat, fs, by have := (hsrc f (by rw [hs0]; simp)).1; rw [Int.toNat_of_nonneg this]⟩
     have zP : f < i := by have := (hsrc f (by rw [hf]; simp)).2; omega
     subst hf
     have hrun := aCR (s := s) (st := st) (j := f) (by omega)
     have cM : Rd w [⟨w, fun b => b < w.heap.size ∧ ¬ F b⟩] [HP.aE g 227 cs, HP.aE g1 4 (nK s st s.aB.length), HP.many [HP.aE L.t 225 [.slice (some ⟨g, 0, none⟩) s.aB.length L.c], HP.emp, HP.dM (nE s L.fa) (nE.le (s := s) (fa := L.fa))]] g1 f (.bool (runs s st f)) := Rd.aE 1 rfl hrun
     refine XK.go ?_
     refine bB (fun w1 t => Cz L s (kK s st i) i f _ fs w1 (t.aBT 0 2 rfl rfl hA h2 hfl tJ) hc rfl) ?_
     refine XK.go ?_
     refine kd (dat f f) ?_
     have zC : nY s st ⟨112, (f : Int) :: fs, rate, mul, dv, lock⟩ ⟨true, left⟩ = if runs s st f = false then ⟨true, lock⟩ else if 0 < left then ⟨true, left - 1⟩ else ⟨true, left⟩ := by
      simp [nY, Bm]
     rw [zC] at hpq
     cases qU : runs s st f
     ·rw [qU] at cM
      rw [if_pos qU] at hpq
      have hs1 := hs.set 7 (.int .i64 lock) (by simp) (by omega)
      have oK := hu.set 7 (.int .i64 lock) (by decide)
      have eR := wG (r' := lX ⟨112, (f : Int) :: fs, rate, mul, dv, lock⟩ a ⟨true, lock⟩) h2 iT gS hlt (by omega) rfl hs1 oK
      rw [hpq] at eR
      refine XK.go ?_
      refine XK.sL 1 hA (by simpa using h1) eR h3 h4 rfl ?_
      refine XK.aL [(34, .int .i64 (i + 1 : Nat)), (33, .int .i64 s.aB.length), (2, .slice (some ⟨g1, 0, none⟩) s.aB.length s.aB.length), (0, .pointer (some ⟨L.t, 0, none⟩))] ?_
      exact XK.round (s.aB.length - (i + 1)) (by omega) ⟨i + 1, hlt, rfl, rfl, rfl, rfl⟩
     ·rw [qU] at cM
      rw [if_neg (by rw [qU]; decide)] at hpq
      refine XK.go ?_
      refine XK.if_ rfl (fun hp => ?_) (fun hp => ?_)
      ·rw [if_pos hp] at hpq
       have hs1 := hs.set 7 (.int .i64 (left - 1)) (by simp) (by omega)
       have oK := hu.set 7 (.int .i64 (left - 1)) (by decide)
       have eR := wG (r' := lX ⟨112, (f : Int) :: fs, rate, mul, dv, lock⟩ a ⟨true, left - 1⟩) h2 iT gS hlt (by omega) rfl hs1 oK
       rw [hpq] at eR
       refine XK.go ?_
       refine XK.sL 1 hA (by simpa using h1) eR h3 h4 rfl ?_
       refine XK.aL [(34, .int .i64 (i + 1 : Nat)), (33, .int .i64 s.aB.length), (2, .slice (some ⟨g1, 0, none⟩) s.aB.length s.aB.length), (0, .pointer (some ⟨L.t, 0, none⟩))] ?_
       exact XK.round (s.aB.length - (i + 1)) (by omega) ⟨i + 1, hlt, rfl, rfl, rfl, rfl⟩
      ·rw [if_neg hp, Ej (Bu hc ha zN)] at hpq
       rw [hpq] at h2
       refine XK.go ?_
       refine XK.jD ?_
       refine XQ.end_ ?_
       refine XK.go ?_
       refine XK.sL 1 hA h1 h2 h3 h4 rfl ?_
       refine XK.aL [(34, .int .i64 (i + 1 : Nat)), (33, .int .i64 s.aB.length), (2, .slice (some ⟨g1, 0, none⟩) s.aB.length s.aB.length), (0, .pointer (some ⟨L.t, 0, none⟩))] ?_
       exact XK.round (s.aB.length - (i + 1)) (by omega) ⟨i + 1, hlt, rfl, rfl, rfl, rfl⟩
   ·rw [Fo (.inl (by decide))] at h2
    refine XK.go ?_
    refine XK.jD ?_
    refine XQ.end_ ?_
    refine XK.go ?_
    refine XK.sL 1 hA h1 h2 h3 h4 rfl ?_
    refine XK.aL [(34, .int .i64 (i + 1 : Nat)), (33, .int .i64 s.aB.length), (2, .slice (some ⟨g1, 0, none⟩) s.aB.length s.aB.length), (0, .pointer (some ⟨L.t, 0, none⟩))] ?_
    exact XK.round (s.aB.length - (i + 1)) (by omega) ⟨i + 1, hlt, rfl, rfl, rfl, rfl⟩
   ·rw [Fo (.inl (by decide))] at h2
    refine XK.go ?_
    refine XK.jD ?_
    refine XQ.end_ ?_
    refine XK.go ?_
    refine XK.sL 1 hA h1 h2 h3 h4 rfl ?_
    refine XK.aL [(34, .int .i64 (i + 1 : Nat)), (33, .int .i64 s.aB.length), (2, .slice (some ⟨g1, 0, none⟩) s.aB.length s.aB.length), (0, .pointer (some ⟨L.t, 0, none⟩))] ?_
    exact XK.round (s.aB.length - (i + 1)) (by omega) ⟨i + 1, hlt, rfl, rfl, rfl, rfl⟩
   ·rw [Fo (.inl (by decide))] at h2
    refine XK.go ?_
    refine XK.jD ?_
    refine XQ.end_ ?_
    refine XK.go ?_
    refine XK.sL 1 hA h1 h2 h3 h4 rfl ?_
    refine XK.aL [(34, .int .i64 (i + 1 : Nat)), (33, .int .i64 s.aB.length), (2, .slice (some ⟨g1, 0, none⟩) s.aB.length s.aB.length), (0, .pointer (some ⟨L.t, 0, none⟩))] ?_
    exact XK.round (s.aB.length - (i + 1)) (by omega) ⟨i + 1, hlt, rfl, rfl, rfl, rfl⟩
  ·obtain rfl : i = s.aB.length := by omega
   rw [aDO hok]
   refine XK.go ?_
   exact XK.kI (.inr rfl) rfl fun w1 t => ⟨rfl, t.turns hF (by simp) (i := 1) rfl⟩
end
section
set_option maxHeartbeats 4000000
set_option maxRecDepth 20000
section
variable {N : cJ} {w0 w : World} {e : Env} {R : List Piece} {H : List HP} {K : Act → World → Prop} {L : RL} {s : aD} {st : List gM}
theorem XK.openLines (i : Nat) (hi : H[i]? = some (jO L s st)) (h : XK N w0 K e R (HP.map L.g (jS s st) :: HP.aE L.t 235 [.map (some L.g)] :: H.set i (HP.many [HP.emp, HP.emp]))) : XK N w0 K e R H := by
 have hlt := sD hi
 refine XK.take i 0 hi rfl ?_
 refine XK.take (i + 1) 1 (by rw [List.getElem?_cons_succ, List.getElem?_set_self hlt]) rfl ?_
 simpa [List.set_cons_succ, List.set_set] using h
theorem XK.Hi (i : Nat) (hi : H[i]? = some (HP.many [HP.emp, HP.emp])) (h : XK N w0 K e R (H.set i (jO L s st))) : XK N w0 K e R (HP.map L.g (jS s st) :: HP.aE L.t 235 [.map (some L.g)] :: H) := by
 have hlt := sD hi
 refine XK.bF (i + 1) 1 (by rw [List.getElem?_cons_succ]; exact hi) rfl ?_
 dsimp only [List.set]
 refine XK.bF i 0 (by rw [List.getElem?_set_self hlt]) rfl ?_
 simpa [List.set_set, jO] using h
end
theorem aC5 (L : RL) (s : aD) (st : List gM) (hok : Bf s st) (i : Int) (w : World) (F : Nat → Prop) (hp : (jO L s st).sat F w) (hF : ∀ b, F b → b < w.heap.size) :
  Calls Tryz.prog 248 #[.pointer (some ⟨L.t, 0, none⟩), .int .i64 i] w (fun y w' => y = .returned (.int .i64 (oA st i).1) ∧ ∃ F', (jO L s (oA st i).2).sat F' w' ∧ bX w w' F F') := by
 have hl := hok.len
 cases hi : cL st.length i
 ·have hr : oA st i = (4, st) := by simp [oA, hi]
  have hv : sG s st i = fL 0 ⟨0, false, false⟩ := by simp [sG, hi]
  rw [hr]
  refine XK.dY (p := jO L s st) (F := F) (vs := [.pointer (some ⟨L.t, 0, none⟩), .int .i64 i]) Tryz.func248 rfl Tryz.ntmps248 (by simp) hp hF ?_
  refine XK.go ?_
  refine bB (fun w1 t => Oe L s st i w1 (t.Kc 0 rfl)) ?_
  rw [hi, hv]
  unfold fL
  refine XK.go ?_
  refine cD (cs := [.int .i64 0, .int .i64 0, .bool false, .bool false]) (aM (by kernel_rfl)) (by decide) fun g1 => ?_
  refine XK.go ?_
  exact XK.aK rfl rfl fun w1 t => ⟨rfl, t.turns hF (by simp) (i := 1) rfl⟩
 ·obtain ⟨n, rfl⟩ : ∃ n : Nat, i = n := ⟨i.toNat, by have := of_decide_eq_true hi; omega⟩
  have hlt : n < st.length := by have := of_decide_eq_true hi; omega
  obtain ⟨r, cM⟩ := get_some (l := s.aU) (i := n) (by omega)
  obtain ⟨x, hx⟩ := get_some hlt
  have hrd : s.aU.getD n 0 = r := by rw [List.getD_eq_getElem?_getD, cM]; rfl
  have hr : oA st (n : Int) = if x.held = false then (6, st) else (0, st.set n ⟨x.left, x.held, true⟩) := by simp [oA, hi, hx]
  have hv : sG s st (n : Int) = fL r x := by simp [sG, hi, List.getD_eq_getElem?_getD, cM, hx]
  rw [hr]
  refine XK.dY (p := jO L s st) (F := F) (vs := [.pointer (some ⟨L.t, 0, none⟩), .int .i64 (n : Int)]) Tryz.func248 rfl Tryz.ntmps248 (by simp) hp hF ?_
  refine XK.go ?_
  refine bB (fun w1 t => Oe L s st n w1 (t.Kc 0 rfl)) ?_
  rw [hi, hv]
  obtain ⟨left, held, wanted⟩ := x
  unfold fL
  refine XK.go ?_
  refine cD (cs := [.int .i64 0, .int .i64 0, .bool false, .bool false]) (aM (by kernel_rfl)) (by decide) fun g1 => ?_
  cases held
  ·refine XK.go ?_
   exact XK.aK rfl rfl fun w1 t => ⟨rfl, t.turns hF (by simp) (i := 1) rfl⟩
  ·refine XK.go ?_
   refine XK.openLines 1 rfl ?_
   dsimp only [List.set]
   refine XK.draw 6 (by kernel_rfl) (by kernel_rfl) ?_
   refine XA.q 0 ?_
   refine XA.q 1 ?_
   refine XA.q 2 ?_
   refine XA.q 3 ?_
   refine XA.q 4 ?_
   refine XA.q 5 ?_
   refine XA.next 6 rfl (by kernel_rfl) ?_
   refine Bi (kt := 3) (et := 237) (kd := .i64) (l := jS s st) (v := fL r ⟨left, true, true⟩) 0 (by kernel_rfl) (by kernel_rfl) rfl rfl rfl rfl ?_
   rw [Xa hrd hlt]
   dsimp only [List.set]
   refine XA.bt ?_
   refine XA.done (by kernel_rfl) ?_
   refine XK.Hi 1 rfl ?_
   refine XK.go ?_
   exact XK.aK rfl rfl fun w1 t => ⟨rfl, t.turns hF (by simp) (i := 1) rfl⟩
end
section
set_option maxHeartbeats 4000000
set_option maxRecDepth 20000
theorem aDT {α : Type} (f : α → α) (st : List α) {i : Nat} {x : α} (hx : st[i]? = some x) (hs : f x = x) : (st.map f).take i ++ st.drop i = (st.map f).take (i + 1) ++ st.drop (i + 1) := by
 have h1 := Ox f st hx
 rw [hs, Vk (by rw [Oy f st (List.getElem?_eq_some_iff.1 hx).1]; exact hx)] at h1
 exact h1
theorem aC4 (L : RL) (s : aD) (st : List gM) (hH : s.cK) (hok : Bf s st) (w : World) (F : Nat → Prop) (hp : (jO L s st).sat F w) (hF : ∀ b, F b → b < w.heap.size) :
  Calls Tryz.prog 86 #[.pointer (some ⟨L.t, 0, none⟩)] w (fun y w' => ∃ a : Option Addr × Nat × Nat, y = .returned (.slice a.1 a.2.1 a.2.2) ∧ True ∧ ∃ F', (jO L s (uM st)).sat F' w' ∧ bX w w' F F') := by
 have hl := hok.len
 have gS := hH.t.nr
 refine XK.dY (p := jO L s st) (F := F) (vs := [.pointer (some ⟨L.t, 0, none⟩)]) Tryz.func86 rfl Tryz.ntmps86 (by simp) hp hF ?_
 have Qn : Rd w [⟨w, fun b => b < w.heap.size ∧ ¬ F b⟩] [jO L s st] L.t 0 (.map (some L.g)) := fun w1 t => (t.Kc 0 rfl).r0.2
 refine XK.go ?_
 refine kd (aGb (kt := 3) (et := 237) (l := jS s st) (by kernel_rfl) rfl (fun w1 t => (t.Kc 0 rfl).m)) ?_
 rw [show (jS s st).length = st.length by simp [jS]]
 refine XK.go ?_
 refine XK.kA 3 1 ?_
 refine XK.aL [(14, .int .i64 0), (13, .int .i64 st.length), (3, .slice none 0 0), (0, .pointer (some ⟨L.t, 0, none⟩))] ?_
 refine XK.loop (fun m e R H => ∃ (i n : Nat) (A : Option Addr) (k : Nat) (xs : List Value), i ≤ st.length ∧ n ≤ i ∧ m = st.length - i ∧ e = [(14, .int .i64 i), (13, .int .i64 st.length), (3, .slice A n k), (0, .pointer (some ⟨L.t, 0, none⟩))] ∧ R = [⟨w, fun b => b < w.heap.size ∧ ¬ F b⟩] ∧ H = [HP.own 3 1 (.slice A n k) n xs, jO L s ((st.map gD).take i ++ st.drop i)]) st.length ⟨0, 0, none, 0, [], by omega, by omega, rfl, rfl, rfl, by simp⟩ fun m e R H hI => ?_
 obtain ⟨i, n, A, k, xs, hi, hni, rfl, rfl, rfl, rfl⟩ := hI
 refine XK.go ?_
 refine XK.if_ rfl (fun hlt => ?_) (fun hge => ?_)
 ·have hlt : i < st.length := by omega
  obtain ⟨r, cM⟩ := get_some (l := s.aU) (i := i) (by omega)
  obtain ⟨x, hx⟩ := get_some hlt
  have Fy := hok.left x (List.mem_of_getElem? hx)
  have hrd : s.aU.getD i 0 = r := by rw [List.getD_eq_getElem?_getD, cM]; rfl
  have hml : ((st.map gD).take i ++ st.drop i).length = st.length := by simp; omega
  have zN : ((st.map gD).take i ++ st.drop i)[i]? = some x := by rw [Oy _ st hlt]; exact hx
  have hin : cL ((st.map gD).take i ++ st.drop i).length (i : Int) = true := by rw [hml]; exact decide_eq_true (by omega)
  have zO : jK (jS s ((st.map gD).take i ++ st.drop i)) (i : Int) = some (fL r x) := by
   rw [Xd, if_pos hin, Int.toNat_natCast, hrd, List.getD_eq_getElem?_getD, zN]; rfl
  have jT : kQ (jS s ((st.map gD).take i ++ st.drop i)) (i : Int) (fL r (gD x)) = jS s ((st.map gD).take (i + 1) ++ st.drop (i + 1)) := by
   rw [Xa hrd (by omega), Ox gD st hx]
  refine XK.openLines 1 rfl ?_
  dsimp only [List.set]
  refine XK.go ?_
  refine Nb (kt := 3) (et := 237) (kd := .i64) (z := fL 0 ⟨0, false, false⟩) (l := jS s ((st.map gD).take i ++ st.drop i)) true (by kernel_rfl) (by kernel_rfl) Xl rfl rfl (fun w1 t => t.map (i := 0) rfl) (by decide) ?_
  simp only [if_true, zO, Option.getD_some, Option.isSome_some]
  obtain ⟨left, held, wanted⟩ := x
  dsimp only at Fy
  dsimp only [fL]
  refine XK.go ?_
  refine cD (cs := [.int .i64 0, .int .i64 0, .bool false, .bool false]) (aM (by kernel_rfl)) (by decide) fun g1 => ?_
  cases held
  ·have hsame : gD ⟨left, false, wanted⟩ = ⟨left, false, wanted⟩ := rfl
   rw [aDT gD st hx hsame]
   refine XK.go ?_
   refine XK.weak [1, 2, 3, 4] rfl (by decide) (fun _ h => h) ?_
   refine XK.Hi 1 rfl ?_
   refine XK.aL [(14, .int .i64 (i + 1 : Nat)), (13, .int .i64 st.length), (3, .slice A n k), (0, .pointer (some ⟨L.t, 0, none⟩))] ?_
   exact XK.round (st.length - (i + 1)) (by omega) ⟨i + 1, n, A, k, xs, hlt, by omega, rfl, rfl, rfl, rfl⟩
  ·refine XK.go ?_
   refine XK.if_ rfl (fun hp => ?_) (fun hp => ?_)
   ·have zC : gD ⟨left, true, wanted⟩ = ⟨left - 1, true, wanted⟩ := by simp [gD, hp]
    rw [zC] at jT
    refine XK.go ?_
    refine XK.draw 6 (by kernel_rfl) (by kernel_rfl) ?_
    refine XA.q 0 ?_
    refine XA.q 1 ?_
    refine XA.q 2 ?_
    refine XA.q 3 ?_
    refine XA.q 4 ?_
    refine XA.q 5 ?_
    refine XA.next 6 rfl (by kernel_rfl) ?_
    refine Bi (kt := 3) (et := 237) (kd := .i64) (l := jS s ((st.map gD).take i ++ st.drop i)) (v := fL r ⟨left - 1, true, wanted⟩) 1 (by kernel_rfl) (by kernel_rfl) rfl rfl rfl rfl ?_
    rw [jT]
    dsimp only [List.set]
    refine XA.bt ?_
    refine XA.done (by kernel_rfl) ?_
    refine XK.go ?_
    refine XK.weak [1, 2, 3, 4] rfl (by decide) (fun _ h => h) ?_
    refine XK.Hi 1 rfl ?_
    refine XK.aL [(14, .int .i64 (i + 1 : Nat)), (13, .int .i64 st.length), (3, .slice A n k), (0, .pointer (some ⟨L.t, 0, none⟩))] ?_
    exact XK.round (st.length - (i + 1)) (by omega) ⟨i + 1, n, A, k, xs, hlt, by omega, rfl, rfl, rfl, rfl⟩
   ·cases wanted
    ·have zC : gD ⟨left, true, false⟩ = ⟨left, true, false⟩ := by simp [gD, hp]
     rw [zC] at jT
     refine XK.go ?_
     refine XK.draw 6 (by kernel_rfl) (by kernel_rfl) ?_
     refine XA.q 0 ?_
     refine XA.q 1 ?_
     refine XA.q 2 ?_
     refine XA.q 3 ?_
     refine XA.q 4 ?_
     refine XA.q 5 ?_
     refine XA.next 6 rfl (by kernel_rfl) ?_
     refine Bi (kt := 3) (et := 237) (kd := .i64) (l := jS s ((st.map gD).take i ++ st.drop i)) (v := fL r ⟨left, true, false⟩) 1 (by kernel_rfl) (by kernel_rfl) rfl rfl rfl rfl ?_
     rw [jT]
     dsimp only [List.set]
     refine XA.bt ?_
     refine XA.done (by kernel_rfl) ?_
     refine XK.go ?_
     refine XK.weak [1, 2, 3, 4] rfl (by decide) (fun _ h => h) ?_
     refine XK.Hi 1 rfl ?_
     refine XK.aL [(14, .int .i64 (i + 1 : Nat)), (13, .int .i64 st.length), (3, .slice A n k), (0, .pointer (some ⟨L.t, 0, none⟩))] ?_
     exact XK.round (st.length - (i + 1)) (by omega) ⟨i + 1, n, A, k, xs, hlt, by omega, rfl, rfl, rfl, rfl⟩
    ·have zC : gD ⟨left, true, true⟩ = ⟨left, false, false⟩ := by simp [gD, hp]
     rw [zC] at jT
     refine XK.go ?_
     refine eZ (el := 3) (sz := 1) (zs := [.int .i64 0]) (by kernel_rfl) (aM (by kernel_rfl)) (by kernel_rfl) rfl (by decide) (by decide) rfl (by simp [aS, aT, Value.cells, List.range_succ, List.set]; rfl) (by decide) fun g2 => ?_
     refine fA 4 1 8 1 (el := 3) (by kernel_rfl) (by kernel_rfl) (by decide) rfl rfl rfl (jY 0 rfl rfl) (by simp [Value.oneCell']) rfl (by omega) (by omega) (by decide) fun A' k' => ?_
     dsimp only [List.set]
     refine XK.go ?_
     refine XK.draw 6 (by kernel_rfl) (by kernel_rfl) ?_
     refine XA.q 0 ?_
     refine XA.q 1 ?_
     refine XA.q 2 ?_
     refine XA.q 3 ?_
     refine XA.q 4 ?_
     refine XA.q 5 ?_
     refine XA.next 6 rfl (by kernel_rfl) ?_
     refine Bi (kt := 3) (et := 237) (kd := .i64) (l := jS s ((st.map gD).take i ++ st.drop i)) (v := fL r ⟨left, false, false⟩) 2 (by kernel_rfl) (by kernel_rfl) rfl rfl rfl rfl ?_
     rw [jT]
     dsimp only [List.set]
     refine XA.bt ?_
     refine XA.done (by kernel_rfl) ?_
     refine XK.go ?_
     refine XK.weak [2, 3, 4, 5] rfl (by decide) (fun _ h => h) ?_
     refine XK.Hi 1 rfl ?_
     refine XK.aL [(14, .int .i64 (i + 1 : Nat)), (13, .int .i64 st.length), (3, .slice A' (n + 1) k'), (0, .pointer (some ⟨L.t, 0, none⟩))] ?_
     exact XK.round (st.length - (i + 1)) (by omega) ⟨i + 1, n + 1, A', k', _, hlt, by omega, rfl, rfl, rfl, rfl⟩
 ·obtain rfl : i = st.length := by omega
  have tN : (st.map gD).take st.length ++ st.drop st.length = uM st := by
   rw [List.drop_eq_nil_of_le (by omega), List.append_nil, List.take_of_length_le (by simp)]
   rfl
  rw [tN]
  refine XK.go ?_
  exact XK.aK rfl rfl fun w1 t => ⟨(A, n, k), rfl, trivial, t.turns hF (by simp) (i := 1) rfl⟩
end
section
set_option maxHeartbeats 4000000
set_option maxRecDepth 20000
section
variable {N : cJ} {w0 w : World} {e : Env} {R : List Piece} {H : List HP} {K : Act → World → Prop} {L : HL} {s : aD} {x : aV}
theorem Rd.hard (i : Nat) {o : Nat} {v : Value} (hi : H[i]? = some (dG L s x)) (hv : (Gk L s.aG.length)[o]? = some v) : Rd w0 R H L.h o v := fun w t => by
 obtain ⟨F, ⟨G, g1, g2, _⟩, h2, _⟩ := t.chunk hi
 have := (vG (g1 0 _ rfl).2).at_ (j := o) hv
 rw [Nat.zero_add] at this
 exact this.2
end
variable (L : HL) (s : aD) (x : aV) (w : World)
theorem aEL (hH : s.cK) (aX : gZ L s) (hok : cH s x) (i : Int) (on : Bool) (F : Nat → Prop) (hp : (dG L s x).sat F w) (hF : ∀ b, F b → b < w.heap.size) :
  Calls Tryz.prog 23 #[.pointer (some ⟨L.h, 0, none⟩), .int .i64 i, .bool on] w (fun y w' => y = .returned (.int .i64 (iR s x.ck i on).1) ∧ ∃ F', (dG L s { x with ck := (iR s x.ck i on).2 }).sat F' w' ∧ bX w w' F F') := by
 have rB := hH.t.nd
 refine XK.dY (p := dG L s x) (F := F) (vs := [.pointer (some ⟨L.h, 0, none⟩), .int .i64 i, .bool on]) Tryz.func23 rfl Tryz.ntmps23 (by simp) hp hF ?_
 refine XK.go ?_
 refine bB (fun w1 t => wB L s x w1 (t.iM 0 rfl aX hok)) ?_
 refine XK.go ?_
 refine kd (dS rfl (Rd.hard 0 rfl rfl)) ?_
 refine XK.go ?_
 refine XK.take 0 1 rfl rfl ?_
 dsimp only [List.set]
 refine iL 0 (iW L.T s (iR s x.ck i on).2) (fun w1 F1 t h1 h2 h3 => aG3 L.T s x.ck aX.fa hok.ck i on w1 F1 h1 h2) ?_
 dsimp only [List.set]
 refine XK.go ?_
 refine XK.bF 0 1 rfl rfl ?_
 dsimp only [List.set]
 exact XK.aK rfl rfl fun w1 t => ⟨rfl, t.turns hF (by simp) (i := 0) rfl⟩
theorem Yz (hH : s.cK) (aX : gZ L s) (hok : cH s x) (i : Int) (F : Nat → Prop) (hp : (dG L s x).sat F w) (hF : ∀ b, F b → b < w.heap.size) :
  Calls Tryz.prog 24 #[.pointer (some ⟨L.h, 0, none⟩), .int .i64 i] w (fun y w' => y = .returned (.int .i64 (nH s x.dm i).1) ∧ ∃ F', (dG L s { x with dm := (nH s x.dm i).2 }).sat F' w' ∧ bX w w' F F') := by
 have rB := hH.t.nd
 refine XK.dY (p := dG L s x) (F := F) (vs := [.pointer (some ⟨L.h, 0, none⟩), .int .i64 i]) Tryz.func24 rfl Tryz.ntmps24 (by simp) hp hF ?_
 refine XK.go ?_
 refine bB (fun w1 t => wB L s x w1 (t.iM 0 rfl aX hok)) ?_
 refine XK.go ?_
 refine kd (dS rfl (Rd.hard 0 rfl rfl)) ?_
 refine XK.go ?_
 refine XK.take 0 2 rfl rfl ?_
 dsimp only [List.set]
 refine iL 0 (pG L.G s (nH s x.dm i).2) (fun w1 F1 t h1 h2 h3 => aCZ L.G s x.dm hH hok.dm i w1 F1 h1 h2) ?_
 dsimp only [List.set]
 refine XK.go ?_
 refine XK.bF 0 2 rfl rfl ?_
 dsimp only [List.set]
 exact XK.aK rfl rfl fun w1 t => ⟨rfl, t.turns hF (by simp) (i := 0) rfl⟩
theorem aEI (hH : s.cK) (aX : gZ L s) (hok : cH s x) (i : Int) (F : Nat → Prop) (hp : (dG L s x).sat F w) (hF : ∀ b, F b → b < w.heap.size) :
  Calls Tryz.prog 223 #[.pointer (some ⟨L.h, 0, none⟩), .int .i64 i] w (fun y w' => y = .returned (.int .i64 (oA x.ln i).1) ∧ ∃ F', (dG L s { x with ln := (oA x.ln i).2 }).sat F' w' ∧ bX w w' F F') := by
 have rB := hH.t.nd
 refine XK.dY (p := dG L s x) (F := F) (vs := [.pointer (some ⟨L.h, 0, none⟩), .int .i64 i]) Tryz.func223 rfl Tryz.ntmps223 (by simp) hp hF ?_
 refine XK.go ?_
 refine bB (fun w1 t => wB L s x w1 (t.iM 0 rfl aX hok)) ?_
 refine XK.go ?_
 refine kd (dS rfl (Rd.hard 0 rfl rfl)) ?_
 refine XK.go ?_
 refine XK.take 0 3 rfl rfl ?_
 dsimp only [List.set]
 refine iL 0 (jO L.R s (oA x.ln i).2) (fun w1 F1 t h1 h2 h3 => aC5 L.R s x.ln hok.ln i w1 F1 h1 h2) ?_
 dsimp only [List.set]
 refine XK.go ?_
 refine XK.bF 0 3 rfl rfl ?_
 dsimp only [List.set]
 exact XK.aK rfl rfl fun w1 t => ⟨rfl, t.turns hF (by simp) (i := 0) rfl⟩
end
section
def wK (dN : Int) (i : Nat) : Bool := decide (Mp (dN.fdiv (2 ^ min i 32)) 1 = 1)
def rU (x : aV) (dN : Int) (n : Nat) : List (cP × dP) := x.dv.mapIdx fun i p => if i < n then (p.1, nI p.2 (decide (0 < fP x.wt i)) (wK dN i)) else p
def wM (k : Int) (d : bN) (f : cP) : cP := if k = 115 then pT d f else if k = 114 then xD d f else if k = 108 ∨ k = 110 then Ho d f else f
def vC (s : aD) (e : Int × Nat) (i : Nat) (p : cP × dP) : cP × dP := match s.aG[i]? with
 | some d => if d.domain = (e.2 : Int) then (wM e.1 d p.1, p.2) else p
 | none => p
def tG (s : aD) (dv : List (cP × dP)) (e : Int × Nat) (n : Nat) : List (cP × dP) := dv.mapIdx fun i p => if i < n then vC s e i p else p
def mH (s : aD) (dv : List (cP × dP)) (e : Int × Nat) : List (cP × dP) := tG s dv e s.aG.length
def iZ (s : aD) (x : aV) (dN : Int) : aV := ⟨gE s x.ck, kG x.dm, uM x.ln, (gL x.dm s.domains.length).foldl (mH s) (rU x dN s.aG.length), x.wt, x.iQ⟩
theorem Pe {α : Type} (l : List α) (f : Nat → α → α) : (l.mapIdx fun i p => if i < 0 then f i p else p) = l := by
 refine List.ext_getElem? fun i => ?_
 simp
theorem Pf {α : Type} {l : List α} {f : Nat → α → α} {n : Nat} {p : α} (hp : l[n]? = some p) : (l.mapIdx fun i p => if i < n then f i p else p).set n (f n p) = l.mapIdx fun i p => if i < n + 1 then f i p else p := by
 refine List.ext_getElem? fun i => ?_
 have hlt := (List.getElem?_eq_some_iff.1 hp).1
 rw [List.getElem?_set]
 by_cases he : n = i
 ·subst he
  rw [if_pos rfl, if_pos (by simpa using hlt), List.getElem?_mapIdx, hp]
  simp
 ·rw [if_neg he, List.getElem?_mapIdx, List.getElem?_mapIdx]
  cases l[i]? with
  | none => rfl
  | some q =>
   simp only [Option.map_some, Option.some.injEq]
   by_cases h : i < n
   ·rw [if_pos h, if_pos (by omega)]
   ·rw [if_neg h, if_neg (by omega)]
theorem Pg {α : Type} {l : List α} {f : Nat → α → α} {n : Nat} {p : α} (hp : l[n]? = some p) : (l.mapIdx fun i p => if i < n then f i p else p)[n]? = some p := by
 rw [List.getElem?_mapIdx, hp]
 simp
theorem Lr {ds : List bN} {ls : List (FL × Nat)} {xs : List (cP × dP)} {i : Nat} {d : bN} {l : FL × Nat} {p : cP × dP} (hd : ds[i]? = some d) (hl : ls[i]? = some l) (hp : xs[i]? = some p) : (rG ds ls xs)[i]? = some (Co d (l, p)) := by
 have hq : (ls.zip xs)[i]? = some (l, p) := List.getElem?_zip_eq_some.2 ⟨hl, hp⟩
 rw [rG, List.getElem?_zipWith, hd, hq]
theorem aFQ {ds : List bN} {ls : List (FL × Nat)} {xs : List (cP × dP)} {i : Nat} {d : bN} {l : FL × Nat} {p : cP × dP} (hd : ds[i]? = some d) (hl : ls[i]? = some l) (hp : xs[i]? = some p) (p' : cP × dP) : (rG ds ls xs).set i (Co d (l, p')) = rG ds ls (xs.set i p') := by
 refine List.ext_getElem? fun j => ?_
 have hlt := (List.getElem?_eq_some_iff.1 (Lr hd hl hp)).1
 rw [List.getElem?_set]
 by_cases he : i = j
 ·subst he
  rw [if_pos rfl, if_pos hlt]
  exact (Lr hd hl (List.getElem?_set_self (List.getElem?_eq_some_iff.1 hp).1)).symm
 ·rw [if_neg he]
  simp only [rG, List.getElem?_zipWith, List.zip, List.getElem?_set_ne he]
theorem Sk {ds : List bN} {ls : List (FL × Nat)} {i : Nat} {d : bN} {l : FL × Nat} (hd : ds[i]? = some d) (hl : ls[i]? = some l) : (qE ds ls)[i]? = some (Cp d l) := by
 rw [qE, List.getElem?_zipWith, hd, hl]
theorem Sj {ds : List bN} {ls : List (FL × Nat)} : ∀ r ∈ qE ds ls, r.length = 6 := fun r hr => by
 obtain ⟨i, hi⟩ := List.getElem?_of_mem hr
 rw [qE, List.getElem?_zipWith] at hi
 split at hi
 ·cases hi; rfl
 ·cases hi
theorem aBW {x : dP} (h : wT x) (a b : Bool) : wT (nI x a b) := by
 unfold nI
 unfold wT at h ⊢
 split
 ·exact h
 ·split
  ·exact ⟨(by show (0 : Int) ≤ 3; omega), (by show (3 : Int) ≤ 3; omega)⟩
  ·split
   ·exact h
   ·exact ⟨(by show (0 : Int) ≤ 2; omega), (by show (2 : Int) ≤ 3; omega)⟩
theorem aCp {r : Rg} {p : Int × Int} (h1 : 0 ≤ p.1 ∧ p.1 < 4294967296) (h2 : 0 ≤ p.2 ∧ p.2 < 4294967296) : 0 ≤ yT r p ∧ yT r p < 4294967296 := by
 unfold yT
 split <;> assumption
theorem aGo {d : bN} {f : cP} (k : Int) (hr : ∀ r ∈ d.aQ, 0 ≤ r.reset ∧ r.reset ≤ 6) (h : yH d f) : yH d (wM k d f) := by
 have hres : ∀ v ∈ d.aQ.map (·.reset), 0 ≤ v ∧ v < 4294967296 := fun v hv => by
  obtain ⟨r, cT, rfl⟩ := List.mem_map.1 hv
  have := hr r cT
  omega
 have h1 := h.now
 have h2 := h.saved
 unfold wM
 split
 ·refine ⟨h1, by simp [pT]; omega, h.u.1, fun v hv => ?_⟩
  obtain ⟨i, hi⟩ := List.getElem?_of_mem hv
  simp only [pT, List.getElem?_zipWith] at hi
  split at hi
  ·rename_i r p cT jU
   cases hi
   obtain ⟨hp2, hp3⟩ := List.getElem?_zip_eq_some.1 jU
   exact aCp (h.u.1 _ (List.mem_of_getElem? hp2)) (h.u.2 _ (List.mem_of_getElem? hp3))
  ·cases hi
 ·split
  ·refine ⟨by simp [xD]; omega, h2, fun v hv => ?_, h.u.2⟩
   obtain ⟨i, hi⟩ := List.getElem?_of_mem hv
   simp only [xD, List.getElem?_zipWith] at hi
   split at hi
   ·rename_i r p cT jU
    cases hi
    unfold Jn
    split
    ·exact h.u.2 _ (List.mem_of_getElem? jU)
    ·have := hr r (List.mem_of_getElem? cT)
     omega
   ·cases hi
  ·split
   ·exact ⟨by simp [Ho], h2, hres, h.u.2⟩
   ·exact h
theorem Oq {s : aD} {x : aV} (hH : s.cK) (hok : cH s x) {dv : List (cP × dP)} (hl : dv.length = x.dv.length) (h : ∀ (i : Nat) (d : bN) (p : cP × dP), s.aG[i]? = some d → dv[i]? = some p → yH d p.1 ∧ wT p.2) : cH s { x with dv := dv } := ⟨hok.ck, hok.dm, hok.ln, hl.trans hok.dv, h, hok.wt⟩
theorem Oz {s : aD} {x : aV} (hH : s.cK) (hok : cH s x) (dN : Int) (n : Nat) : cH s { x with dv := rU x dN n } := Oq hH hok (by simp [rU]) fun i d p hd hp => by
 rw [rU, List.getElem?_mapIdx] at hp
 cases hq : x.dv[i]? with
 | none => rw [hq] at hp; cases hp
 | some q =>
  rw [hq] at hp
  obtain ⟨h1, h2⟩ := hok.each i d q hd hq
  simp only [Option.map_some, Option.some.injEq] at hp
  subst hp
  split
  ·exact ⟨h1, aBW h2 _ _⟩
  ·exact ⟨h1, h2⟩
theorem Xb {s : aD} {x : aV} (hH : s.cK) (hok : cH s x) (e : Int × Nat) (n : Nat) : cH s { x with dv := tG s x.dv e n } := Oq hH hok (by simp [tG]) fun i d p hd hp => by
 rw [tG, List.getElem?_mapIdx] at hp
 cases hq : x.dv[i]? with
 | none => rw [hq] at hp; cases hp
 | some q =>
  rw [hq] at hp
  obtain ⟨h1, h2⟩ := hok.each i d q hd hq
  simp only [Option.map_some, Option.some.injEq] at hp
  subst hp
  split
  ·unfold vC
   rw [hd]
   dsimp only
   split
   ·exact ⟨aGo _ (hH.t.aG i d hd).2.2.2.2.2.2.2.2.2.1 h1, h2⟩
   ·exact ⟨h1, h2⟩
  ·exact ⟨h1, h2⟩
theorem Sc {s : aD} (hH : s.cK) : ∀ (es : List (Int × Nat)) (x : aV), cH s x → cH s { x with dv := es.foldl (mH s) x.dv }
 | [], x, h => h
 | e :: es, x, h => Sc hH es { x with dv := mH s x.dv e } (Xb hH h e _)
theorem aDI {s : aD} {dv : List (cP × dP)} {e : Int × Nat} (h : ¬ (e.1 = 115 ∨ e.1 = 114 ∨ e.1 = 108 ∨ e.1 = 110)) : mH s dv e = dv := by
 unfold mH tG
 refine List.ext_getElem? fun i => ?_
 rw [List.getElem?_mapIdx]
 cases dv[i]? with
 | none => rfl
 | some p =>
  simp only [Option.map_some, Option.some.injEq]
  split
  ·unfold vC
   split
   ·split
    ·have : wM e.1 (by assumption) p.1 = p.1 := by
      unfold wM
      rw [if_neg (by omega), if_neg (by omega), if_neg (by omega)]
     rw [this]
    ·rfl
   ·rfl
  ·rfl
theorem aBX {s : aD} {st : List gM} (h : Bf s st) : Bf s (uM st) := by
 refine ⟨by simp [uM, h.len], fun x hx => ?_⟩
 obtain ⟨y, hy, rfl⟩ := List.mem_map.1 hx
 have := h.left y hy
 unfold gD
 split
 ·exact this
 ·split
  ·dsimp only; omega
  ·split
   ·exact this
   ·exact this
theorem Is {s : aD} {x : aV} (hH : s.cK) (hok : cH s x) (dN : Int) : cH s (iZ s x dN) := by
 have h1 := Sc hH (gL x.dm s.domains.length) _ (Oz hH hok dN s.aG.length)
 exact ⟨Nv hH hok.ck, Nu hok.dm, aBX hok.ln, h1.dv, h1.each, hok.wt⟩
section
variable {N : cJ} {w0 w : World} {e : Env} {R : List Piece} {H : List HP} {K : Act → World → Prop} {L : HL} {s : aD} {x : aV}
def Zc (L : HL) (s : aD) (x : aV) : HP := HP.many [HP.aE L.h 134 (Gk L s.aG.length), iW L.T s x.ck, pG L.G s x.dm, jO L.R s x.ln, Dm L.B (iD s) x.wt x.iQ, HP.own 141 6 (.slice L.A s.aG.length L.c) s.aG.length (qE s.aG L.ds).flatten, HP.emp]
def aAx (L : HL) (s : aD) (x : aV) (i : Nat) : HP := HP.many ((rG s.aG L.ds x.dv).set i HP.emp)
theorem XK.Om (j i : Nat) {d : bN} {l : FL × Nat} {p : cP × dP} (hj : H[j]? = some (dG L s x)) (hd : s.aG[i]? = some d) (hl : L.ds[i]? = some l) (hp : x.dv[i]? = some p)
  (k : XK N w0 K e R (HP.many [dK l.1 d p.1, qJ l.2 p.2] :: aAx L s x i :: H.set j (Zc L s x))) : XK N w0 K e R H := by
 refine XK.take j 6 hj rfl ?_
 refine XK.take 0 i rfl (Lr hd hl hp) ?_
 exact k
theorem XK.Sx (j i : Nat) {d : bN} {l : FL × Nat} {p p' : cP × dP} (hj : H[j]? = some (Zc L s x)) (hd : s.aG[i]? = some d) (hl : L.ds[i]? = some l) (hp : x.dv[i]? = some p)
  (k : XK N w0 K e R (H.set j (dG L s { x with dv := x.dv.set i p' }))) : XK N w0 K e R (HP.many [dK l.1 d p'.1, qJ l.2 p'.2] :: aAx L s x i :: H) := by
 have hlt := (List.getElem?_eq_some_iff.1 (Lr hd hl hp)).1
 refine XK.bF 0 i rfl (by rw [List.getElem?_set_self (by simpa using hlt)]) ?_
 dsimp only [List.set]
 refine XK.bF j 6 hj rfl ?_
 rw [List.set_set, show HP.many [dK l.1 d p'.1, qJ l.2 p'.2] = Co d (l, p') from rfl, aFQ hd hl hp p']
 exact k
theorem XK.rows (j : Nat) (hj : H[j]? = some (dG L s x)) (aX : gZ L s) (hok : cH s x) (hn : 0 < s.aG.length) (k : ∀ b off, L.A = some ⟨b, off, none⟩ → XK N w0 K e R H) : XK N w0 K e R H := fun a w hr st => by
 obtain ⟨b, off, hA, _⟩ := (st.iM j hj aX hok).rows.2 hn
 exact k b off hA a w hr st
theorem aC.dev (j : Nat) {i b off o : Nat} {d : bN} {l : FL × Nat} (hj : H[j]? = some (dG L s x)) (aX : gZ L s) (hok : cH s x) (hA : L.A = some ⟨b, off, none⟩) (hd : s.aG[i]? = some d) (hl : L.ds[i]? = some l) (ho : o = off + i * 6) : aC w0 R H b o (Cp d l) := .of fun k v hv w st => by
 obtain ⟨b', off', nA, hr⟩ := aI.row (st.iM j hj aX hok).rows (rows := qE s.aG L.ds) (fun r hr => Sj r hr) (Sk hd hl) (List.getElem?_eq_some_iff.1 hd).1
 rw [hA] at nA
 cases nA
 subst ho
 exact (hr.2 k v hv)
end
end
section
set_option maxHeartbeats 4000000
set_option maxRecDepth 20000
section
variable {P : Program} {N : cJ} {w0 : World} {e : Env} {R : List Piece} {H : List HP} {d : Nat} {ty : TypeId} {pos : String} {aJ : Array Edge}
def Zz (P : Program) (t : TypeId) : Bool := match P.underlying t with
 | some (.func ..) => true
 | _ => false
theorem aC0 (w : World) (n : Nat) (t : TypeId) {f1 f2 : Array TypeId} {f3 : Bool} (hu : P.underlying t = some (.func f1 f2 f3)) : (Op.equalIn (n + 1) t .nilFunc .nilFunc).run P w = .ok true w := by simp [Op.equalIn, run_underlying hu]
theorem aC1 (w : World) (n : Nat) (t : TypeId) {f1 f2 : Array TypeId} {f3 : Bool} (f : Fn) (fi ca : Array Value) (hu : P.underlying t = some (.func f1 f2 f3)) : (Op.equalIn (n + 1) t (.func f fi ca) .nilFunc).run P w = .ok false w := by simp [Op.equalIn, run_underlying hu]
theorem aA6 {x : Operand} {t u : TypeId} {v : Value} {b : Bool} (hx : e.ev x = some v) (hv : (v = .nilFunc ∧ b = true) ∨ (∃ f a c, v = .func f a c) ∧ b = false) (ht : Zz P t = true := by kernel_rfl) : bL P N w0 e R H ⟨some d, .binOp .eql t x (.const .nilFunc) u, ty, pos, aJ, none⟩ (.bool b) := fN fun a w hr => by
 have h2 := hr.ev (show e.ev (.const .nilFunc) = some .nilFunc from rfl)
 unfold Zz at ht
 split at ht
 ·rename_i f1 f2 f3 hu
  rcases hv with ⟨rfl, rfl⟩ | ⟨⟨f, fi, ca, rfl⟩, rfl⟩
  ·have h4 : (Op.equal t .nilFunc .nilFunc).run P w = .ok true w := aC0 w 9999 t hu
   simp [execOp, hr.ev hx, h2, eqGuard, binOp, h4]
  ·have h4 : (Op.equal t (.func f fi ca) .nilFunc).run P w = .ok false w := aC1 w 9999 t f fi ca hu
   simp [execOp, hr.ev hx, h2, eqGuard, binOp, h4]
 ·cases ht
end
def wL (k : Int) : Value := if k = 115 then .func (.func 169) #[] #[] else if k = 114 then .func (.func 170) #[] #[] else if k = 108 ∨ k = 110 then .func (.func 142) #[] #[] else .nilFunc
theorem aEM (k : Int) (w : World) : Calls Tryz.prog 85 #[.int .u8 k] w (Rt (wL k) w) := by
 refine XK.enter (vs := [.int .u8 k]) Tryz.func85 rfl Tryz.ntmps85 (by simp) ?_
 refine XK.go ?_
 refine XK.if_ rfl (fun h1 => ?_) (fun h1 => ?_)
 ·refine XK.go ?_
  exact XK.bP (by simp) (by rw [wL, if_pos h1])
 refine XK.go ?_
 refine XK.if_ rfl (fun h2 => ?_) (fun h2 => ?_)
 ·refine XK.go ?_
  exact XK.bP (by simp) (by rw [wL, if_neg h1, if_pos h2])
 refine XK.go ?_
 refine XK.if_ rfl (fun h3 => ?_) (fun h3 => ?_)
 ·refine XK.go ?_
  refine XK.if_ rfl (fun _ => ?_) (fun h => absurd h3 h)
  refine XK.go ?_
  exact XK.bP (by simp) (by rw [wL, if_neg h1, if_neg h2, if_pos (.inl h3)])
 ·refine XK.go ?_
  refine XK.if_ rfl (fun h4 => ?_) (fun h4 => ?_)
  ·refine XK.go ?_
   exact XK.bP (by simp) (by rw [wL, if_neg h1, if_neg h2, if_pos (.inr h4)])
  ·refine XK.go ?_
   exact XK.bP (by simp) (by rw [wL, if_neg h1, if_neg h2, if_neg (by omega)])
theorem aGn {k : Int} (hk : k = 115 ∨ k = 114 ∨ k = 108 ∨ k = 110) : ∃ f : FuncId, wL k = .func (.func f) #[] #[] ∧ eY Tryz.prog f = true ∧ ∀ (L : FL) (d : bN) (x : cP) (hrl : d.aQ.length ≤ 100) (hok : yH d x) (w : World) (F : Nat → Prop) (hp : (dK L d x).sat F w) (hF : ∀ b, F b → b < w.heap.size),
  Calls Tryz.prog f #[.pointer (some ⟨L.f, 0, none⟩)] w (fun y w' => y = .returned (.tuple #[]) ∧ ∃ F', (dK L d (wM k d x)).sat F' w' ∧ bX w w' F F') := by
 rcases hk with rfl | rfl | rfl | rfl
 ·exact ⟨_, rfl, (by kernel_rfl), aCE⟩
 ·exact ⟨_, rfl, (by kernel_rfl), aCF⟩
 ·exact ⟨_, rfl, (by kernel_rfl), Oi⟩
 ·exact ⟨_, rfl, (by kernel_rfl), Oi⟩
theorem aGU (L : BL) (ms : List Int) (ws : List (Option oY)) (iQ : Int) (i : Nat) (hi : i < ms.length) (h0 : fP ws i = 0) (w : World) (hR : yJ w L ms ws iQ) :
  Calls Tryz.prog 163 #[.pointer (some ⟨L.b, 0, none⟩), .int .i64 (i : Int)] w (Rt (.tuple #[.agg #[.int .i64 0, .bool false, .int .i64 0, .int .u32 0], .bool false]) w) := by
 have k1 := hR.r0.at_ (j := 1) rfl
 obtain ⟨A, c, k2⟩ := hR.wt i hi
 rw [h0] at k2
 have hin : cL ms.length (i : Int) = true := decide_eq_true (by omega)
 refine XK.enter (vs := [.pointer (some ⟨L.b, 0, none⟩), .int .i64 (i : Int)]) Tryz.func163 rfl Tryz.ntmps163 (by simp) ?_
 refine XK.go ?_
 refine cD (cs := [.int .i64 0, .bool false, .int .i64 0, .int .u32 0]) (aM (by kernel_rfl)) (by decide) fun g1 => ?_
 refine XK.go ?_
 refine bB (fun w1 t => aAI L ms ws iQ i w1 (hR.below (t.below (by simp)))) ?_
 rw [hin]
 refine XK.go ?_
 refine kd (dat i i) ?_
 refine XK.go ?_
 refine dJ (zs := [.int .i64 0, .bool false, .int .i64 0, .int .u32 0]) (L := [(0, 1), (1, 1), (2, 1), (3, 1)]) (aM (by kernel_rfl)) (by kernel_rfl) rfl (by simp [aS, aT, Value.cells]; rfl) (by decide) ?_
 refine XK.go ?_
 exact XK.Em (vs := [.int .i64 0, .bool false, .int .i64 0, .int .u32 0]) rfl (by kernel_rfl) rfl rfl (aC.whole 0 rfl) rfl fun w1 t => ⟨rfl, t.below (by simp)⟩
theorem aEN (L : HL) (s : aD) (x : aV) (i : Nat) (hi : i < s.aG.length) (h0 : fP x.wt i = 0) (w : World) (hR : nD w L s x) :
  Calls Tryz.prog 80 #[.pointer (some ⟨L.h, 0, none⟩), .int .i64 (i : Int)] w (Rt (.tuple #[.agg #[.int .i64 0, .int .i64 0, .bool false, .int .u32 0], .bool false]) w) := by
 have k3 := hR.r0.at_ (j := 3) rfl
 refine XK.enter (vs := [.pointer (some ⟨L.h, 0, none⟩), .int .i64 (i : Int)]) Tryz.func80 rfl Tryz.ntmps80 (by simp) ?_
 refine XK.go ?_
 refine cD (cs := [.int .i64 0, .int .i64 0, .bool false, .int .u32 0]) (aM (by kernel_rfl)) (by decide) fun g1 => ?_
 refine XK.go ?_
 refine bB (fun w1 t => aGU L.B (iD s) x.wt x.iQ i (by rw [Jy]; exact hi) h0 w1 (hR.Mm.below (t.below (by simp)))) ?_
 refine XK.go ?_
 refine cD (cs := [.int .i64 0, .bool false, .int .i64 0, .int .u32 0]) (aM (by kernel_rfl)) (by decide) fun g2 => ?_
 refine XK.go ?_
 refine dJ (zs := [.int .i64 0, .int .i64 0, .bool false, .int .u32 0]) (L := [(0, 1), (1, 1), (2, 1), (3, 1)]) (aM (by kernel_rfl)) (by kernel_rfl) rfl (by simp [aS, aT, Value.cells]; rfl) (by decide) ?_
 refine XK.go ?_
 exact XK.Em (vs := [.int .i64 0, .int .i64 0, .bool false, .int .u32 0]) rfl (by kernel_rfl) rfl rfl (aC.whole 1 rfl) rfl fun w1 t => ⟨rfl, t.below (by simp)⟩
end
section
set_option maxHeartbeats 4000000
set_option maxRecDepth 20000
def Hw (s : aD) (x : aV) (i : Nat) : Bool := match s.aG[i]? with
 | some d => lE s x.ck d.clock && (decide (mT x.dm d.domain = 49) && !sE x.ln d.reset)
 | none => false
def yQ (x : aV) (i : Nat) : Int := ((x.dv[i]?).map fun p => vS p.2.at_).getD 0
theorem Rd.ofN {w0 : World} {R : List Piece} {H : List HP} {b o : Nat} {vs : List Value} {v : Value} (j : Nat) (h : aC w0 R H b o vs) (hv : vs[j]? = some v) : Rd w0 R H b (o + j) v := fun w st => h w st j v hv
section
variable (L : HL) (s : aD) (x : aV) (w : World)
theorem Zb (hH : s.cK) (i : Int) (hR : nD w L s x) : Calls Tryz.prog 222 #[.pointer (some ⟨L.h, 0, none⟩), .int .i64 i] w (Rt (.bool (lE s x.ck i)) w) := by
 have k0 := hR.r0.at_ (j := 0) rfl
 refine XK.enter (vs := [.pointer (some ⟨L.h, 0, none⟩), .int .i64 i]) Tryz.func222 rfl Tryz.ntmps222 (by simp) ?_
 refine XK.go ?_
 refine bB (fun w1 t => wB L s x w1 (hR.below (t.below (by simp)))) ?_
 refine XK.go ?_
 refine bB (fun w1 t => Hl L.T s x.ck hH i w1 (hR.tree.below (t.below (by simp)))) ?_
 refine XK.go ?_
 exact XK.bP (by simp) rfl
theorem aEP (hH : s.cK) (aX : gZ L s) (hok : cH s x) (i : Nat) (hi : i < s.aG.length) (hR : nD w L s x) : Calls Tryz.prog 30 #[.pointer (some ⟨L.h, 0, none⟩), .int .i64 (i : Int)] w (Rt (.bool (Hw s x i)) w) := by
 have k0 := hR.r0.at_ (j := 0) rfl
 have k1 := hR.r0.at_ (j := 1) rfl
 have k2 := hR.r0.at_ (j := 2) rfl
 have k4 := hR.r0.at_ (j := 4) rfl
 have hls := aX.ds
 obtain ⟨d, fR⟩ := get_some hi
 obtain ⟨l, jL⟩ := get_some (l := L.ds) (i := i) (by omega)
 obtain ⟨b, off, hA, hr⟩ := aI.row hR.rows (rows := qE s.aG L.ds) (fun r hr => Sj r hr) (Sk fR jL) hi
 have hin : cL s.aG.length (i : Int) = true := decide_eq_true (by omega)
 have hal : Hw s x i = (lE s x.ck d.clock && (decide (mT x.dm d.domain = 49) && !sE x.ln d.reset)) := by
  unfold Hw
  rw [fR]
 rw [hal]
 refine XK.enter (vs := [.pointer (some ⟨L.h, 0, none⟩), .int .i64 (i : Int)]) Tryz.func30 rfl Tryz.ntmps30 (by simp) ?_
 refine XK.go ?_
 refine bB (fun w1 t => Gj L s x w1 i (hR.below (t.below (by simp)))) ?_
 rw [hin]
 refine XK.go ?_
 refine kd (dat i (off + i * 6) (hx := by rw [← hA]; rfl)) ?_
 refine kd (sI (vs := Cp d l) rfl (aC.eM (by simp) hr)) ?_
 refine cD (cs := [.int .i64 0, .int .i64 0, .int .i64 0, .int .u32 0, .pointer none, .pointer none]) (aM (by kernel_rfl)) (by decide) fun g1 => ?_
 refine XK.go ?_
 refine XK.jD ?_
 refine XQ.go ?_
 refine XQ.call (fun w1 t => Hl L.T s x.ck hH d.clock w1 (hR.tree.below (t.below (by simp)))) ?_
 cases hrun : lE s x.ck d.clock
 ·refine XQ.end_ ?_
  refine XK.go ?_
  exact XK.bP (by simp) rfl
 ·refine XQ.go ?_
  refine XQ.call (fun w1 t => We L.G s x.dm hok.dm d.domain w1 (uH.below hR.Sa (t.below (by simp)))) ?_
  refine XQ.go ?_
  refine XQ.split 32 rfl (fun hp => ?_) (fun hp => ?_)
  ·rw [decide_eq_true hp]
   refine XQ.go ?_
   refine XQ.call (fun w1 t => Vs L.R s x.ln d.reset w1 (hR.lines.below (t.below (by simp)))) ?_
   refine XQ.end_ ?_
   refine XK.go ?_
   exact XK.bP (by simp) rfl
  ·rw [decide_eq_false hp]
   refine XQ.end_ ?_
   refine XK.go ?_
   exact XK.bP (by simp) rfl
theorem Gh (aX : gZ L s) (hok : cH s x) (i : Nat) (hi : i < s.aG.length) (jW : Dg w) (hR : nD w L s x) : Calls Tryz.prog 31 #[.pointer (some ⟨L.h, 0, none⟩), .int .i64 (i : Int)] w (Rt (.int .u8 (yQ x i)) w) := by
 have k4 := hR.r0.at_ (j := 4) rfl
 have hls := aX.ds
 have mX := hok.dv
 obtain ⟨d, fR⟩ := get_some hi
 obtain ⟨l, jL⟩ := get_some (l := L.ds) (i := i) (by omega)
 obtain ⟨p, jU⟩ := get_some (l := x.dv) (i := i) (by omega)
 obtain ⟨b, off, hA, hr⟩ := aI.row hR.rows (rows := qE s.aG L.ds) (fun r hr => Sj r hr) (Sk fR jL) hi
 have k5 := hr.at_ (j := 5) rfl
 have hin : cL s.aG.length (i : Int) = true := decide_eq_true (by omega)
 have hst : yQ x i = vS p.2.at_ := by
  unfold yQ
  rw [jU]
  rfl
 rw [hst]
 refine XK.enter (vs := [.pointer (some ⟨L.h, 0, none⟩), .int .i64 (i : Int)]) Tryz.func31 rfl Tryz.ntmps31 (by simp) ?_
 refine XK.go ?_
 refine bB (fun w1 t => Gj L s x w1 i (hR.below (t.below (by simp)))) ?_
 rw [hin]
 refine XK.go ?_
 refine kd (dat i (off + i * 6) (hx := by rw [← hA]; rfl)) ?_
 refine XK.go ?_
 refine bB (fun w1 t => aCU l.2 p.2 (hok.each i d p fR jU).2 w1 (jW.below (t.below (by simp))) ((hR.below (t.below (by simp))).each i d l p fR jL jU).2) ?_
 refine XK.go ?_
 exact XK.bP (by simp) rfl
def Bz (x : aV) (i : Nat) : aV := { x with dv := match x.dv[i]? with | some p => x.dv.set i (p.1, (lZ p.2).2) | none => x.dv }
theorem aEK (hH : s.cK) (aX : gZ L s) (hok : cH s x) (i : Nat) (hi : i < s.aG.length) (F : Nat → Prop) (hp : (dG L s x).sat F w) (hF : ∀ b, F b → b < w.heap.size) :
  Calls Tryz.prog 219 #[.pointer (some ⟨L.h, 0, none⟩), .int .i64 (i : Int)] w (fun y w' => ∃ r : Int, y = .returned (.int .i64 r) ∧ True ∧ ∃ F', (dG L s (Bz x i)).sat F' w' ∧ bX w w' F F') := by
 have hls := aX.ds
 have mX := hok.dv
 obtain ⟨d, fR⟩ := get_some hi
 obtain ⟨l, jL⟩ := get_some (l := L.ds) (i := i) (by omega)
 obtain ⟨p, jU⟩ := get_some (l := x.dv) (i := i) (by omega)
 have hin : cL s.aG.length (i : Int) = true := decide_eq_true (by omega)
 have hX : Bz x i = { x with dv := x.dv.set i (p.1, (lZ p.2).2) } := by
  unfold Bz
  rw [jU]
 rw [hX]
 refine XK.dY (p := dG L s x) (F := F) (vs := [.pointer (some ⟨L.h, 0, none⟩), .int .i64 (i : Int)]) Tryz.func219 rfl Tryz.ntmps219 (by simp) hp hF ?_
 refine XK.go ?_
 refine bB (fun w1 t => Gj L s x w1 i (t.iM 0 rfl aX hok)) ?_
 rw [hin]
 refine XK.go ?_
 refine kd (dS rfl (Rd.hard 0 rfl rfl)) ?_
 refine XK.rows 0 rfl aX hok (by omega) fun b off hA => ?_
 refine XK.go ?_
 refine kd (dat i (off + i * 6) (hx := by rw [← hA]; rfl)) ?_
 refine XK.go ?_
 refine kd (dS rfl (Rd.ofN (vs := Cp d l) 5 (aC.dev 0 rfl aX hok hA fR jL rfl) rfl)) ?_
 refine XK.Om 0 i rfl fR jL jU ?_
 dsimp only [List.set]
 refine XK.take 0 1 rfl rfl ?_
 dsimp only [List.set]
 refine iL 0 (qJ l.2 (lZ p.2).2) (fun w1 F1 t h1 h2 h3 => aCV h1 h2) ?_
 dsimp only [List.set]
 refine XK.bF 0 1 rfl rfl ?_
 dsimp only [List.set]
 refine XK.Sx 0 i rfl fR jL jU (p' := (p.1, (lZ p.2).2)) ?_
 dsimp only [List.set]
 refine XK.go ?_
 exact XK.aK rfl rfl fun w1 t => ⟨_, rfl, trivial, t.turns hF (by simp) (i := 0) rfl⟩
end
end
section
def zA (s : aD) (l : Int) : bH := ⟨bG s, bG s, 0, 0, [], [], l, -1, 0, 0⟩
def zQ (s : aD) (l : Int) (b : Nat) (m : List Int) : bH := kJ (zA s l) b 1 m
section
variable {s : aD} {x : aV} {l : Int} {b : Nat} {m a : List Int}
theorem aBs (hb : b < 2) : kN (zA s l) b m = (0, zQ s l b m) := by
 obtain rfl | rfl : b = 0 ∨ b = 1 := by omega
 ·simp [kN, cL, zA, zQ, kJ]
 ·simp [kN, cL, zA, zQ, kJ]
theorem Uf (hl : l = 0 ∨ l = 1) (hb : b < 2) : lH (zQ s l b m) = some b := by
 obtain rfl | rfl : b = 0 ∨ b = 1 := by omega
 ·rcases hl with rfl | rfl <;> rfl
 ·rcases hl with rfl | rfl <;> rfl
theorem Ug (hb : b < 2) : eS (zQ s l b m) b = m := by
 obtain rfl | rfl : b = 0 ∨ b = 1 := by omega
 ·rfl
 ·rfl
theorem Ue : (zQ s l b m).x = bG s ∧ (zQ s l b m).y = bG s ∧ (zQ s l b m).at_ = -1 := by
 unfold zQ kJ
 split <;> exact ⟨rfl, rfl, rfl⟩
theorem Mw (hH : s.iS) (hl : l = 0 ∨ l = 1) (hu : fO m) (hm : m.length ≤ 1000000) : qK s (zQ s l b m) := by
 unfold zQ kJ
 split
 ·exact ⟨hl, hu, by simp [zA, fO], hm, by simp [zA], mN hH, mN hH⟩
 ·exact ⟨hl, by simp [zA, fO], hu, by simp [zA], hm, mN hH, mN hH⟩
theorem aBu (hb : b < 2) : eP (kJ (zA s l) b 2 a) b = some a := by
 obtain rfl | rfl : b = 0 ∨ b = 1 := by omega
 ·rfl
 ·rfl
theorem aBt (hb : b < 2) : eN (kJ (zA s l) b 2 a) b = zA s l := by
 obtain rfl | rfl : b = 0 ∨ b = 1 := by omega
 ·rfl
 ·rfl
end
theorem On {s : aD} {st : List cR} (hH : s.cK) (h : lB s st) (i : Int) (b : Bool) : lB s (iR s st i b).2 := by
 unfold iR
 split
 ·exact h
 ·split
  ·rename_i c x hc hx
   split
   ·exact h
   ·refine ⟨by simp [h.len], fun y hy => ?_⟩
    rcases List.mem_or_eq_of_mem_set hy with hy | rfl
    ·exact h.left y hy
    ·have h1 := (hH.t.aB i.toNat c hc).2
     have h2 := h.left x (List.mem_of_getElem? hx)
     unfold Bt
     dsimp only
     split
     ·omega
     ·exact h2
  ·exact h
theorem Ut {s : aD} {st : List eG} (hH : s.cK) (h : rN s st) (i : Int) : rN s (nH s st i).2 := by
 unfold nH
 split
 ·exact h
 ·split
  ·rename_i c x hc hx
   split
   ·exact h
   ·have h1 := (hH.domains i.toNat c hc).2
    refine ⟨by simp [h.len], fun y hy => ?_, fun y hy => ?_⟩
    ·rcases List.mem_or_eq_of_mem_set hy with hy | rfl
     ·exact h.left y hy
     ·exact h1
    ·rcases List.mem_or_eq_of_mem_set hy with hy | rfl
     ·exact h.phase y hy
     ·exact ⟨by show (0 : Int) ≤ 114; omega, by show (114 : Int) < 256; omega⟩
  ·exact h
end
section
set_option maxHeartbeats 4000000
set_option maxRecDepth 20000
def pF (p : Piece) : Prop := ∀ (i : Nat) (v : Int), [(114 : Int), 97, 115, 100][i]? = some v → p.Z 0 ∧ p.w.cell? ⟨0, i, none⟩ = some (.int .u8 v)
theorem pF.at_ {p : Piece} {w : World} (h : pF p) (hl : p.Le (all w)) : Dg w := fun i v hv => by
 obtain ⟨h1, h2⟩ := h i v hv
 obtain ⟨h3, h4⟩ := hl 0 h1
 refine ⟨h3, ?_⟩
 rw [← h2]
 exact World.cell?_of_block h4
theorem pF.le {p q : Piece} (h : pF p) (hl : p.Le q) : pF q := fun i v hv => by
 obtain ⟨h1, h2⟩ := h i v hv
 obtain ⟨h3, h4⟩ := hl 0 h1
 exact ⟨h3, (World.cell?_of_block h4).trans h2⟩
def vT (s : aD) (d : Int) (k : Nat) (p : cP × dP) : cP × dP := match s.aG[k]? with
 | some dv => if dv.domain = d then (p.1, (lZ p.2).2) else p
 | none => p
def nN (s : aD) (x : aV) (d : Int) (n : Nat) : List (cP × dP) := x.dv.mapIdx fun k p => if k < n then vT s d k p else p
def vN (s : aD) (x : aV) (d : Int) : aV × Bool :=
 if mT x.dm d = 48 ∨ mT x.dm d = 116 then ({ x with dm := (nH s x.dm d).2 }, false)
 else if mT x.dm d = 49 then ({ x with dv := nN s x d s.aG.length }, true) else (x, false)
def yA (s : aD) (x : aV) (c : Nat) : aV × Bool :=
 ({ x with ck := (iR s x.ck c true).2 }, lE s (iR s x.ck c true).2 c || (decide ((iH s c).length < 2) || !lE s (iR s x.ck c true).2 ((iH s c).getD 1 0 : Nat)))
def xE (x : aV) (i : Int) : aV × Bool := if sE x.ln i then ({ x with ln := (oA x.ln i).2 }, false) else (x, true)
theorem aEg {x : dP} (h : wT x) : wT (lZ x).2 := by
 unfold lZ
 split
 ·exact h
 ·exact ⟨by show (0 : Int) ≤ 0; omega, by show (0 : Int) ≤ 3; omega⟩
theorem Po {s : aD} {x : aV} (hH : s.cK) (hok : cH s x) (d : Int) (n : Nat) : cH s { x with dv := nN s x d n } := Oq hH hok (by simp [nN]) fun i e p hd hp => by
 rw [nN, List.getElem?_mapIdx] at hp
 cases hq : x.dv[i]? with
 | none => rw [hq] at hp; cases hp
 | some q =>
  rw [hq] at hp
  obtain ⟨h1, h2⟩ := hok.each i e q hd hq
  simp only [Option.map_some, Option.some.injEq] at hp
  subst hp
  split
  ·unfold vT
   rw [hd]
   dsimp only
   split
   ·exact ⟨h1, aEg h2⟩
   ·exact ⟨h1, h2⟩
  ·exact ⟨h1, h2⟩
section
variable {N : cJ} {w0 w : World} {e : Env} {R : List Piece} {H : List HP} {Q : Exit → Act → World → Prop} {ops : Array Oper} {rest : List Oper} {K : Act → World → Prop}
variable {d : Nat} {ty : TypeId} {pos : String} {aJ : Array Edge} {f h : Nat} {L : eE} {s : aD} {z : bH}
theorem aBA (n : Nat) (Φ : List Value → Prop) {x : Operand} {t : TypeId} {b o : Nat} [hT : kC t n] (hx : e.ev x = some (.pointer (some ⟨b, o, none⟩))) (h : ∀ w, St w0 R H w → ∃ vs, cX w b o vs ∧ vs.length = n ∧ Φ vs) (k : ∀ vs, Φ vs → XK N w0 (wpList Tryz.prog ops Q rest) ((d, .agg vs.toArray) :: e) R H) (hd : d < N.n := by decide) :
  XK N w0 (wpList Tryz.prog ops Q (⟨some d, .load t x, ty, pos, aJ, none⟩ :: rest)) e R H := pM rfl fun a w hr st => by
 obtain ⟨vs, h1, h2, h3⟩ := h w st
 exact ⟨.agg vs.toArray, w, So (N := N) (w0 := w) (R := [all w]) (H := []) (d := d) (ty := ty) (pos := pos) (aJ := aJ) n hT.h hx (aC.eM (by simp) h1) h2 a w hr (St.start w), k vs h3 _ _ (hr.put hd _) st⟩
theorem XK.aCg (j : Nat) (hj : H[j]? = some (eF f h L s z)) (hn : 0 < s.aG.length) (k : ∀ b off, L.a4.1 = some ⟨b, off, none⟩ → XK N w0 K e R H) : XK N w0 K e R H := fun a w hr st => by
 obtain ⟨b, off, r, hA, _⟩ := fG.row (st.nR j hj).so.dev (List.getElem?_eq_getElem hn)
 exact k b off hA a w hr st
def aBj (d : bN) (vs : List Value) : Prop := ∃ A n k A' n' k', vs = [.int .i64 d.clock, .int .i64 d.domain, .int .i64 d.reset, .int .u32 d.eX, .slice A n k, .slice A' n' k']
theorem aF7 {i b off : Nat} {d : bN} (kf : pH w f h L s z) (hA : L.a4.1 = some ⟨b, off, none⟩) (hd : s.aG[i]? = some d) : ∃ vs, cX w b (off + i * 6) vs ∧ vs.length = 6 ∧ aBj d vs := by
 obtain ⟨b', off', r, nA, hl, ⟨A, n, k, A', n', k', he, _⟩, hro⟩ := fG.row kf.so.dev hd
 rw [hA] at nA
 cases nA
 exact ⟨r, hro, hl, A, n, k, A', n', k', he⟩
end
variable (f : Nat) (hL : HL) (s : aD) (z : bH) (x : aV) (w : World)
theorem aF3 (hH : s.cK) (aX : gZ hL s) (hok : cH s x) (d : Int) (F : Nat → Prop) (hp : (cO f hL s z x).sat F w) (hF : ∀ b, F b → b < w.heap.size) (jW : pF ⟨w, fun b => b < w.heap.size ∧ ¬ F b⟩) :
  Calls Tryz.prog 152 #[.pointer (some ⟨f, 0, none⟩), .int .i64 d] w (fun y w' => y = .returned (.bool (vN s x d).2) ∧ ∃ F', (cO f hL s z (vN s x d).1).sat F' w' ∧ bX w w' F F') := by
 have Fu := hH.t.nv
 have mX := hok.dv
 refine XK.dY (p := cO f hL s z x) (F := F) (vs := [.pointer (some ⟨f, 0, none⟩), .int .i64 d]) Tryz.func152 rfl Tryz.ntmps152 (by simp) hp hF ?_
 generalize kW : (⟨w, fun b => b < w.heap.size ∧ ¬ F b⟩ : Piece) = R0 at jW ⊢
 refine XK.take 0 0 rfl rfl ?_
 dsimp only [List.set]
 refine XK.oB 0 rfl fun L => ?_
 dsimp only [List.set]
 refine XK.take 1 1 rfl rfl ?_
 dsimp only [List.set]
 refine XK.go ?_
 refine kd (dS rfl (Rd.jM 1 rfl rfl)) ?_
 refine XK.go ?_
 refine bB (fun w1 t => Gi hL s x w1 hok.dm d (t.iM 0 rfl aX hok)) ?_
 unfold vN
 generalize mC : mT x.dm d = ph
 by_cases h48 : ph = 48
 ·subst h48
  rw [if_pos (.inl rfl)]
  refine XK.go ?_
  refine kd (dS rfl (Rd.jM 1 rfl rfl)) ?_
  refine XK.go ?_
  refine iL 0 (dG hL s { x with dm := (nH s x.dm d).2 }) (fun w1 F1 t h1 h2 h3 => Yz hL s x w1 hH aX hok d F1 h1 h2) ?_
  dsimp only [List.set]
  refine XK.go ?_
  refine XK.bF 1 1 rfl rfl ?_
  dsimp only [List.set]
  refine XK.lC 0 (f := fun L : eE => eF f hL.h L s z) L rfl ?_
  dsimp only [List.set]
  refine XK.bF 0 0 rfl rfl ?_
  dsimp only [List.set]
  subst kW
  exact XK.aK rfl rfl fun w1 t => ⟨rfl, t.turns hF (by simp) (i := 0) rfl⟩
 by_cases Zw : ph = 116
 ·subst Zw
  rw [if_pos (.inr rfl)]
  refine XK.go ?_
  refine kd (dS rfl (Rd.jM 1 rfl rfl)) ?_
  refine XK.go ?_
  refine iL 0 (dG hL s { x with dm := (nH s x.dm d).2 }) (fun w1 F1 t h1 h2 h3 => Yz hL s x w1 hH aX hok d F1 h1 h2) ?_
  dsimp only [List.set]
  refine XK.go ?_
  refine XK.bF 1 1 rfl rfl ?_
  dsimp only [List.set]
  refine XK.lC 0 (f := fun L : eE => eF f hL.h L s z) L rfl ?_
  dsimp only [List.set]
  refine XK.bF 0 0 rfl rfl ?_
  dsimp only [List.set]
  subst kW
  exact XK.aK rfl rfl fun w1 t => ⟨rfl, t.turns hF (by simp) (i := 0) rfl⟩
 rw [if_neg (by omega)]
 by_cases uX : ph = 49
 ·subst uX
  rw [if_pos rfl]
  refine XK.go ?_
  refine kd (dS rfl (Rd.jM 1 rfl rfl)) ?_
  refine XK.go ?_
  have hm0 : nN s x d 0 = x.dv := Pe _ _
  refine XK.aL [(31, .int .i64 (0)), (30, .int .i64 s.aG.length), (29, .slice L.a4.1 s.aG.length L.a4.2), (0, .pointer (some ⟨f, 0, none⟩)), (1, .int .i64 d)] ?_
  refine XK.loop (fun m e R H => ∃ i : Nat, i ≤ s.aG.length ∧ m = s.aG.length - i ∧ e = [(31, .int .i64 (i : Int)), (30, .int .i64 s.aG.length), (29, .slice L.a4.1 s.aG.length L.a4.2), (0, .pointer (some ⟨f, 0, none⟩)), (1, .int .i64 d)] ∧ R = [R0] ∧ H = [dG hL s { x with dv := nN s x d i }, eF f hL.h L s z, HP.many [HP.emp, HP.emp]]) s.aG.length ⟨0, by omega, rfl, rfl, rfl, by rw [hm0]⟩ fun m e R H hI => ?_
  obtain ⟨i, hi, rfl, rfl, rfl, rfl⟩ := hI
  have sC := Po hH hok d i
  refine XK.go ?_
  refine XK.if_ rfl (fun hlt => ?_) (fun hge => ?_)
  ·have hlt : i < s.aG.length := by omega
   obtain ⟨dv, fR⟩ := get_some hlt
   obtain ⟨p, jU⟩ := get_some (l := x.dv) (i := i) (by omega)
   have qW : (nN s x d i)[i]? = some p := Pg jU
   have hstep : (nN s x d i).set i (vT s d i p) = nN s x d (i + 1) := Pf (f := vT s d) jU
   obtain ⟨q1, q2⟩ := (sC.each i dv p fR qW).2
   refine XK.aCg 1 rfl (by omega) fun b off hA => ?_
   refine XK.go ?_
   refine kd (dat i (off + i * 6) (hx := by rw [← hA]; rfl)) ?_
   refine aBA 6 (aBj dv) rfl (fun w1 t => aF7 (t.nR 1 rfl) hA fR) ?_
   rintro _ ⟨A, n, k, A', n', k', rfl⟩
   refine cD (cs := [.int .i64 0, .int .i64 0, .int .i64 0, .int .u32 0, .slice none 0 0, .slice none 0 0]) (aM (by kernel_rfl)) (by decide) fun g1 => ?_
   refine XK.go ?_
   refine XK.if_ rfl (fun he => ?_) (fun he => ?_)
   ·have xO : vT s d i p = p := by
     unfold vT
     rw [fR]
     exact if_neg he
    rw [xO, Ej qW] at hstep
    rw [hstep]
    refine XK.go ?_
    refine XK.weak [1, 2, 3] rfl (by decide) (fun _ h => h) ?_
    refine XK.aL [(31, .int .i64 ((i + 1 : Nat) : Int)), (30, .int .i64 s.aG.length), (29, .slice L.a4.1 s.aG.length L.a4.2), (0, .pointer (some ⟨f, 0, none⟩)), (1, .int .i64 d)] ?_
    exact XK.round (s.aG.length - (i + 1)) (by omega) ⟨i + 1, hlt, rfl, rfl, rfl, rfl⟩
   ·have he : dv.domain = d := by simpa using he
    have xO : vT s d i p = (p.1, (lZ p.2).2) := by
     unfold vT
     rw [fR]
     exact if_pos he
    have hst : yQ { x with dv := nN s x d i } i = vS p.2.at_ := by
     unfold yQ
     dsimp only
     rw [qW]
     rfl
    refine XK.go ?_
    refine kd (dS rfl (Rd.jM 2 rfl rfl)) ?_
    refine XK.go ?_
    refine bB (fun w1 t => Gh hL s _ w1 aX sC i hlt (jW.at_ (t.le (by simp))) (t.iM 1 rfl aX sC)) ?_
    rw [hst]
    by_cases ha : p.2.at_ = 2 ∨ p.2.at_ = 3
    ·have hlf : vS p.2.at_ = 115 ∨ vS p.2.at_ = 100 := by
      rcases ha with ha | ha <;> rw [ha]
      ·exact .inl rfl
      ·exact .inr rfl
     rcases hlf with hlf | hlf <;> rw [hlf]
     all_goals
      refine XK.go ?_
      refine kd (dS rfl (Rd.jM 2 rfl rfl)) ?_
      refine XK.go ?_
      refine wX (α := Int) 1 (f := 219) (fi := []) (ca := []) (fun r => .int .i64 r) (fun _ => dG hL s (Bz { x with dv := nN s x d i } i)) (fun _ => True) (by kernel_rfl) rfl rfl rfl (by decide) (fun w1 F1 t h1 h2 h3 => aEK hL s _ w1 hH aX sC i hlt F1 h1 h2) ?_
      rintro _ _
      dsimp only [List.set]
      have hX : Bz { x with dv := nN s x d i } i = { x with dv := nN s x d (i + 1) } := by
       unfold Bz
       dsimp only
       rw [qW, ← hstep, xO]
      rw [hX]
      refine XK.go ?_
      refine XK.weak [1, 2, 3] rfl (by decide) (fun _ h => h) ?_
      refine XK.aL [(31, .int .i64 ((i + 1 : Nat) : Int)), (30, .int .i64 s.aG.length), (29, .slice L.a4.1 s.aG.length L.a4.2), (0, .pointer (some ⟨f, 0, none⟩)), (1, .int .i64 d)] ?_
      exact XK.round (s.aG.length - (i + 1)) (by omega) ⟨i + 1, hlt, rfl, rfl, rfl, rfl⟩
    ·have hq : (lZ p.2).2 = p.2 := by
      unfold lZ
      rw [if_pos (by omega)]
     have hlf : vS p.2.at_ = 114 ∨ vS p.2.at_ = 97 := by
      have : p.2.at_ = 0 ∨ p.2.at_ = 1 := by omega
      rcases this with ha | ha <;> rw [ha]
      ·exact .inl rfl
      ·exact .inr rfl
     rw [xO, hq, Ej qW] at hstep
     rcases hlf with hlf | hlf <;> rw [hlf, hstep]
     all_goals
      refine XK.go ?_
      refine XK.weak [1, 2, 3] rfl (by decide) (fun _ h => h) ?_
      refine XK.aL [(31, .int .i64 ((i + 1 : Nat) : Int)), (30, .int .i64 s.aG.length), (29, .slice L.a4.1 s.aG.length L.a4.2), (0, .pointer (some ⟨f, 0, none⟩)), (1, .int .i64 d)] ?_
      exact XK.round (s.aG.length - (i + 1)) (by omega) ⟨i + 1, hlt, rfl, rfl, rfl, rfl⟩
  obtain rfl : i = s.aG.length := by omega
  refine XK.go ?_
  refine XK.bF 1 1 rfl rfl ?_
  dsimp only [List.set]
  refine XK.lC 0 (f := fun L : eE => eF f hL.h L s z) L rfl ?_
  dsimp only [List.set]
  refine XK.bF 0 0 rfl rfl ?_
  dsimp only [List.set]
  subst kW
  exact XK.aK rfl rfl fun w1 t => ⟨rfl, t.turns hF (by simp) (i := 0) rfl⟩
 ·rw [if_neg uX]
  refine XK.go ?_
  refine XK.if_ rfl (fun h => absurd h h48) (fun _ => ?_)
  refine XK.go ?_
  refine XK.if_ rfl (fun h => absurd h Zw) (fun _ => ?_)
  refine XK.go ?_
  refine XK.if_ rfl (fun h => absurd h uX) (fun _ => ?_)
  refine XK.go ?_
  refine XK.bF 1 1 rfl rfl ?_
  dsimp only [List.set]
  refine XK.lC 0 (f := fun L : eE => eF f hL.h L s z) L rfl ?_
  dsimp only [List.set]
  refine XK.bF 0 0 rfl rfl ?_
  dsimp only [List.set]
  subst kW
  exact XK.aK rfl rfl fun w1 t => ⟨rfl, t.turns hF (by simp) (i := 0) rfl⟩
theorem aF2 (hH : s.cK) (aX : gZ hL s) (hok : cH s x) (i : Int) (F : Nat → Prop) (hp : (cO f hL s z x).sat F w) (hF : ∀ b, F b → b < w.heap.size) :
  Calls Tryz.prog 156 #[.pointer (some ⟨f, 0, none⟩), .int .i64 i] w (fun y w' => y = .returned (.bool (xE x i).2) ∧ ∃ F', (cO f hL s z (xE x i).1).sat F' w' ∧ bX w w' F F') := by
 refine XK.dY (p := cO f hL s z x) (F := F) (vs := [.pointer (some ⟨f, 0, none⟩), .int .i64 i]) Tryz.func156 rfl Tryz.ntmps156 (by simp) hp hF ?_
 generalize kW : (⟨w, fun b => b < w.heap.size ∧ ¬ F b⟩ : Piece) = R0
 refine XK.take 0 0 rfl rfl ?_
 dsimp only [List.set]
 refine XK.oB 0 rfl fun L => ?_
 dsimp only [List.set]
 refine XK.take 1 1 rfl rfl ?_
 dsimp only [List.set]
 refine XK.go ?_
 refine kd (dS rfl (Rd.jM 1 rfl rfl)) ?_
 refine XK.go ?_
 refine bB (fun w1 t => Rh hL s x w1 i (t.iM 0 rfl aX hok)) ?_
 unfold xE
 cases hh : sE x.ln i
 ·refine XK.go ?_
  refine XK.bF 1 1 rfl rfl ?_
  dsimp only [List.set]
  refine XK.lC 0 (f := fun L : eE => eF f hL.h L s z) L rfl ?_
  dsimp only [List.set]
  refine XK.bF 0 0 rfl rfl ?_
  dsimp only [List.set]
  subst kW
  exact XK.aK rfl rfl fun w1 t => ⟨rfl, t.turns hF (by simp) (i := 0) rfl⟩
 ·refine XK.go ?_
  refine kd (dS rfl (Rd.jM 1 rfl rfl)) ?_
  refine XK.go ?_
  refine iL 0 (dG hL s { x with ln := (oA x.ln i).2 }) (fun w1 F1 t h1 h2 h3 => aEI hL s x w1 hH aX hok i F1 h1 h2) ?_
  dsimp only [List.set]
  refine XK.go ?_
  refine XK.bF 1 1 rfl rfl ?_
  dsimp only [List.set]
  refine XK.lC 0 (f := fun L : eE => eF f hL.h L s z) L rfl ?_
  dsimp only [List.set]
  refine XK.bF 0 0 rfl rfl ?_
  dsimp only [List.set]
  subst kW
  exact XK.aK rfl rfl fun w1 t => ⟨rfl, t.turns hF (by simp) (i := 0) rfl⟩
theorem aF5 (hH : s.cK) (aX : gZ hL s) (hok : cH s x) (c : Nat) (hc : c < s.aB.length) (F : Nat → Prop) (hp : (cO f hL s z x).sat F w) (hF : ∀ b, F b → b < w.heap.size) :
  Calls Tryz.prog 154 #[.pointer (some ⟨f, 0, none⟩), .int .i64 (c : Int)] w (fun y w' => y = .returned (.bool (yA s x c).2) ∧ ∃ F', (cO f hL s z (yA s x c).1).sat F' w' ∧ bX w w' F F') := by
 refine XK.dY (p := cO f hL s z x) (F := F) (vs := [.pointer (some ⟨f, 0, none⟩), .int .i64 (c : Int)]) Tryz.func154 rfl Tryz.ntmps154 (by simp) hp hF ?_
 generalize kW : (⟨w, fun b => b < w.heap.size ∧ ¬ F b⟩ : Piece) = R0
 refine XK.take 0 0 rfl rfl ?_
 dsimp only [List.set]
 refine XK.oB 0 rfl fun L => ?_
 dsimp only [List.set]
 refine XK.take 1 1 rfl rfl ?_
 dsimp only [List.set]
 refine XK.go ?_
 refine kd (dS rfl (Rd.jM 1 rfl rfl)) ?_
 refine XK.go ?_
 refine iL 0 (dG hL s { x with ck := (iR s x.ck c true).2 }) (fun w1 F1 t h1 h2 h3 => aEL hL s x w1 hH aX hok c true F1 h1 h2) ?_
 dsimp only [List.set]
 have qB : cH s { x with ck := (iR s x.ck c true).2 } := ⟨On hH hok.ck _ _, hok.dm, hok.ln, hok.dv, hok.each, hok.wt⟩
 unfold yA
 generalize xL : ({ x with ck := (iR s x.ck c true).2 } : aV) = x2 at qB ⊢
 have wC : (iR s x.ck c true).2 = x2.ck := by rw [← xL]
 rw [wC]
 refine XK.go ?_
 refine kd (dS rfl (Rd.jM 1 rfl rfl)) ?_
 refine XK.go ?_
 refine bB (fun w1 t => Zb hL s x2 w1 hH c (t.iM 0 rfl aX qB)) ?_
 cases hr : lE s x2.ck c
 ·refine XK.go ?_
  refine kd (sI rfl (aC.jM 1 rfl (vs := [.slice L.a1.1 s.aB.length L.a1.2, .slice L.a2.1 s.domains.length L.a2.2, .slice L.a3.1 s.aU.length L.a3.2, .slice L.a4.1 s.aG.length L.a4.2]) rfl)) ?_
  refine XK.go ?_
  refine jX [] (f := 89) (fi := []) (ca := []) (by kernel_rfl) rfl rfl (by decide) (by simp) (Di (iH s c)) (fun w1 t => Sz (all w1) s _ _ _ _ _ L.a1.2 _ L.a2.2 _ L.a3.2 _ L.a4.2 c w1 (t.nR 1 rfl).so hH.t (Piece.Le.refl _) hc) ?_
  rintro _ w1 qm ⟨Ac, cc, rfl, fD⟩ hf _ _
  have fD := fD.le hf
  clear hf
  refine XK.go ?_
  rcases fX : iH s c with _ | ⟨c0, _ | ⟨c1, cr⟩⟩
  ·refine XK.jD ?_
   refine XQ.end_ ?_
   refine XK.go ?_
   refine XK.bF 1 1 rfl rfl ?_
   dsimp only [List.set]
   refine XK.lC 0 (f := fun L : eE => eF f hL.h L s z) L rfl ?_
   dsimp only [List.set]
   refine XK.bF 0 0 rfl rfl ?_
   dsimp only [List.set]
   subst kW
   exact XK.aK rfl rfl fun w1 t => ⟨rfl, t.turns hF (by simp) (i := 0) rfl⟩
  ·refine XK.jD ?_
   refine XQ.end_ ?_
   refine XK.go ?_
   refine XK.bF 1 1 rfl rfl ?_
   dsimp only [List.set]
   refine XK.lC 0 (f := fun L : eE => eF f hL.h L s z) L rfl ?_
   dsimp only [List.set]
   refine XK.bF 0 0 rfl rfl ?_
   dsimp only [List.set]
   subst kW
   exact XK.aK rfl rfl fun w1 t => ⟨rfl, t.turns hF (by simp) (i := 0) rfl⟩
  ·rw [fX] at fD
   obtain ⟨b, off, hA, hb, tT⟩ := fD.2 (by simp)
   have r1 : Rd w [qm, R0] [dG hL s x2, eF f hL.h L s z, HP.many [HP.emp, HP.emp]] b (off + 1) (.int .i64 (c1 : Int)) := Rd.ro (p := qm) (by simp) hb (tT 1 _ rfl)
   have hlen : decide ((c0 :: c1 :: cr).length < 2) = false := by simp
   rw [hlen]
   refine XK.jD ?_
   refine XQ.go ?_
   refine XQ.split 27 rfl (fun h => absurd h (by simp; omega)) (fun _ => ?_)
   refine XQ.go ?_
   refine XQ.kd (dS rfl (Rd.jM 1 rfl rfl)) ?_
   refine XQ.go ?_
   refine XQ.kd (dat 1 (off + 1) (hx := by rw [← hA]; rfl) (hlt := by simp)) ?_
   refine XQ.go ?_
   refine XQ.call (fun w1 t => Zb hL s x2 w1 hH c1 (t.iM 0 rfl aX qB)) ?_
   refine XQ.end_ ?_
   refine XK.go ?_
   refine XK.bF 1 1 rfl rfl ?_
   dsimp only [List.set]
   refine XK.lC 0 (f := fun L : eE => eF f hL.h L s z) L rfl ?_
   dsimp only [List.set]
   refine XK.bF 0 0 rfl rfl ?_
   dsimp only [List.set]
   subst kW
   exact XK.aK rfl rfl fun w1 t => ⟨rfl, t.turns hF (by simp) (i := 0) rfl⟩
 ·refine XK.go ?_
  refine XK.bF 1 1 rfl rfl ?_
  dsimp only [List.set]
  refine XK.lC 0 (f := fun L : eE => eF f hL.h L s z) L rfl ?_
  dsimp only [List.set]
  refine XK.bF 0 0 rfl rfl ?_
  dsimp only [List.set]
  subst kW
  exact XK.aK rfl rfl fun w1 t => ⟨rfl, t.turns hF (by simp) (i := 0) rfl⟩
end
section
set_option maxHeartbeats 4000000
set_option maxRecDepth 20000
def wJ (k : Int) : Value :=
 if k = 117 then .func (.func 152) #[] #[] else if k = 100 ∨ k = 107 then .func (.func 153) #[] #[]
 else if k = 99 then .func (.func 154) #[] #[] else if k = 111 then .func (.func 155) #[] #[]
 else if k = 114 then .func (.func 156) #[] #[] else .func (.func 157) #[] #[]
theorem aA3 (k : Int) (w : World) : Calls Tryz.prog 75 #[.int .u8 k] w (Rt (wJ k) w) := by
 refine XK.enter (vs := [.int .u8 k]) Tryz.func75 rfl Tryz.ntmps75 (by simp) ?_
 refine XK.go ?_
 refine XK.if_ rfl (fun h1 => ?_) (fun h1 => ?_)
 ·refine XK.go ?_
  exact XK.bP (by simp) (by rw [wJ, if_pos h1])
 refine XK.go ?_
 refine XK.if_ rfl (fun h2 => ?_) (fun h2 => ?_)
 ·refine XK.go ?_
  refine XK.if_ rfl (fun _ => ?_) (fun h => absurd h2 h)
  refine XK.go ?_
  exact XK.bP (by simp) (by rw [wJ, if_neg h1, if_pos (.inl h2)])
 refine XK.go ?_
 refine XK.if_ rfl (fun h3 => ?_) (fun h3 => ?_)
 ·refine XK.go ?_
  exact XK.bP (by simp) (by rw [wJ, if_neg h1, if_pos (.inr h3)])
 have h23 : ¬ (k = 100 ∨ k = 107) := by omega
 refine XK.go ?_
 refine XK.if_ rfl (fun h4 => ?_) (fun h4 => ?_)
 ·refine XK.go ?_
  exact XK.bP (by simp) (by rw [wJ, if_neg h1, if_neg h23, if_pos h4])
 refine XK.go ?_
 refine XK.if_ rfl (fun h5 => ?_) (fun h5 => ?_)
 ·refine XK.go ?_
  exact XK.bP (by simp) (by rw [wJ, if_neg h1, if_neg h23, if_neg h4, if_pos h5])
 refine XK.go ?_
 refine XK.if_ rfl (fun h6 => ?_) (fun h6 => ?_)
 ·refine XK.go ?_
  exact XK.bP (by simp) (by rw [wJ, if_neg h1, if_neg h23, if_neg h4, if_neg h5, if_pos h6])
 refine XK.go ?_
 exact XK.bP (by simp) (by rw [wJ, if_neg h1, if_neg h23, if_neg h4, if_neg h5, if_neg h6])
theorem Pm {P : Program} {fn : Func} {R : Ending → World → Prop} (hr : fn.results = #[]) {t1 t2 : Array Value} : ∀ (ds : List Deferred) (u : FrameMode) (w : World), Leaves P fn t1 R ds u w → Leaves P fn t2 R ds u w
 | [], .returning, w, h => by
  obtain ⟨v, h1, h2⟩ := h
  rw [results_none hr] at h1
  cases h1
  exact ⟨_, results_none hr _ _ _, h2⟩
 | [], .panicking _, _, h => h
 | [], .run, _, h => h
 | d :: ds, u, w, h => by
  obtain ⟨h1, fv, cap, f, args, h2, h3, h4⟩ := h
  refine ⟨h1, fv, cap, f, args, h2, h3, h4.mono fun y u' w' hy => ?_⟩
  cases y with
  | returned v => exact Pm hr ds _ _ hy
  | panicked c => exact Pm hr ds _ _ hy
  | outgrown => exact hy
theorem jZ {P : Program} {fn : Func} {R : Ending → World → Prop} {c : List PanicEntry} {a : Act} {d : Option Nat} {v : Value} {w : World} (hr : fn.results = #[]) (h : bodyPostD P fn R (.panic c) (a.put d v) w) : bodyPostD P fn R (.panic c) a w := by
 have hd : (a.put d v).defers = a.defers := by cases d <;> rfl
 have h2 : Leaves P fn (a.put d v).tmps R (a.put d v).defers (.panicking c) w := h
 rw [hd] at h2
 exact Pm hr _ _ _ h2
def Ua (f : Nat) (hL : HL) (s : aD) (z : bH) (x : aV) (r : aV × Bool) : Prop :=
 ∃ fn : FuncId, wJ z.kind = .func (.func fn) #[] #[] ∧ eY Tryz.prog fn = true ∧ cH s r.1 ∧ ∀ (w : World) (F : Nat → Prop), (cO f hL s z x).sat F w → (∀ b, F b → b < w.heap.size) → pF ⟨w, fun b => b < w.heap.size ∧ ¬ F b⟩ →
  Calls Tryz.prog fn #[.pointer (some ⟨f, 0, none⟩), .int .i64 z.id] w (fun y w' => y = .returned (.bool r.2) ∧ ∃ F', (cO f hL s z r.1).sat F' w' ∧ bX w w' F F')
def rF (s : aD) (z : bH) (r : aV × Bool) : bH := if r.2 then gQ s r.1 { z with at_ := -1 } z.at_.toNat 0 else z
section
variable (f : Nat) (hL : HL) (s : aD) (z : bH) (x : aV) (w : World)
theorem aFv (hH : s.cK) (aX : gZ hL s) (hok : cH s x) (hz : qK s z) (a : Nat) (ha : z.at_ = (a : Int)) (uW : a < 2) (r : aV × Bool) (hact : Ua f hL s z x r) (kV : mK (eS z a)) (F : Nat → Prop) (hp : (cO f hL s z x).sat F w) (hF : ∀ b, F b → b < w.heap.size) (jW : pF ⟨w, fun b => b < w.heap.size ∧ ¬ F b⟩) :
  Calls Tryz.prog 20 #[.pointer (some ⟨f, 0, none⟩)] w (fun y w' => y = .returned (.tuple #[]) ∧ ∃ F', (cO f hL s (rF s z r) r.1).sat F' w' ∧ bX w w' F F') := by
 obtain ⟨fn, eD, hcb, Ft, uV⟩ := hact
 refine XK.Si (vs := [.pointer (some ⟨f, 0, none⟩)]) (p := cO f hL s z x) Tryz.func20 rfl Tryz.ntmps20 (by simp) hp hF ?_
 generalize kW : (⟨w, fun b => b < w.heap.size ∧ ¬ F b⟩ : Piece) = R0 at jW ⊢
 refine XK.go ?_
 refine Nf (f := 73) (fi := []) (ca := []) rfl ?_
 refine XK.go ?_
 refine kd (dS rfl (Rd.vQ 0 rfl fun _ => rfl)) ?_
 refine XK.go ?_
 refine bO (t := 8) rfl (fun h => absurd h (by omega)) (fun _ => ?_)
 refine XK.go ?_
 refine XK.eJ [1, 2, 3, 4, 8, 9, 10, 11] ?_
 refine XB.mv 0 ?_ (hQ := fun _ _ _ h => jZ rfl h)
 refine XB.mv 6 ?_ (hQ := fun _ _ _ h => jZ rfl h)
 refine XB.mv 7 ?_ (hQ := fun _ _ _ h => jZ rfl h)
 refine XB.q 1 ?_ (hQ := fun _ _ _ h => jZ rfl h)
 refine XB.q 2 ?_ (hQ := fun _ _ _ h => jZ rfl h)
 refine XB.q 3 ?_ (hQ := fun _ _ _ h => jZ rfl h)
 refine XB.q 4 ?_ (hQ := fun _ _ _ h => jZ rfl h) (eD := dS rfl (Rd.vQ 0 rfl fun _ => rfl))
 refine XB.q 8 ?_ (hQ := fun _ _ _ h => jZ rfl h)
 refine XB.q 9 ?_ (hQ := fun _ _ _ h => jZ rfl h)
 refine XB.q 10 ?_ (hQ := fun _ _ _ h => jZ rfl h)
 refine XB.q 11 ?_ (hQ := fun _ _ _ h => jZ rfl h) (eD := dS rfl (Rd.vQ 0 rfl fun _ => rfl))
 refine XB.next 5 rfl (by kernel_rfl) ?_
 refine bB (fun w1 t => aA3 z.kind w1) ?_
 rw [eD]
 refine XB.bk ?_
 refine XB.next 12 rfl (by kernel_rfl) ?_
 refine Kh 0 (fi := []) (ca := []) (cO f hL s z r.1) (fun w1 F1 t h1 h2 h3 => by simpa using uV w1 F1 h1 h2 (pF.le jW (h3 _ (by simp)))) ?_ (hf := hcb)
 dsimp only [List.set]
 refine XB.bt ?_
 refine XB.done (by kernel_rfl) ?_
 refine XK.go ?_
 obtain ⟨x', b⟩ := r
 dsimp only at Ft ⊢
 cases b
 ·refine XK.go ?_
  subst kW
  exact XK.Ez (.inr rfl) (by kernel_rfl) Gs rfl fun w1 t => ⟨rfl, t.turns hF (by simp) (i := 0) rfl⟩
 ·refine XK.go ?_
  refine kd (dS rfl (Rd.vQ 0 rfl fun _ => rfl)) ?_
  refine XK.go ?_
  refine XK.take 0 0 rfl rfl ?_
  dsimp only [List.set]
  refine XK.oB 0 rfl fun L => ?_
  dsimp only [List.set]
  refine XK.take 0 0 rfl rfl ?_
  dsimp only [List.set]
  refine gR rfl rfl ?_ (hs := gY.mk 0 rfl dQ.h rfl (by simp [cC]))
  dsimp only [List.set]
  rw [show (cC hL.h L s z).set (0 + 16) (.int .i64 (-1)) = cC hL.h L s { z with at_ := -1 } from rfl]
  refine XK.bF 0 0 rfl rfl ?_
  dsimp only [List.set]
  refine XK.lC 0 (f := fun L : eE => eF f hL.h L s { z with at_ := -1 }) L rfl ?_
  dsimp only [List.set]
  refine XK.bF 0 0 rfl rfl ?_
  dsimp only [List.set]
  refine XK.go ?_
  rw [ha]
  refine iL 0 (cO f hL s (gQ s x' { z with at_ := -1 } a 0) x') (fun w1 F1 t h1 h2 h3 => Se f hL s { z with at_ := -1 } x' hH aX Ft a uW 0 (fun _ => kV) w1 F1 h1 h2) ?_
  dsimp only [List.set]
  refine XK.go ?_
  have hend : rF s z (x', true) = gQ s x' { z with at_ := -1 } a 0 := by
   unfold rF
   rw [if_pos rfl, ha]
   rfl
  rw [hend]
  subst kW
  exact XK.Ez (.inr rfl) (by kernel_rfl) Gs rfl fun w1 t => ⟨rfl, t.turns hF (by simp) (i := 0) rfl⟩
end
end
section
set_option maxHeartbeats 4000000
set_option maxRecDepth 20000
def mI (s : aD) (x : aV) (k id : Int) : aV × Bool := if k = 117 then vN s x id else if k = 99 then yA s x id.toNat else if k = 114 then xE x id else (x, false)
structure Dh (s : aD) (k id : Int) : Prop where
 kd : k = 117 ∨ k = 99 ∨ k = 114
 c : k = 99 → 0 ≤ id ∧ id < (s.aB.length : Int)
theorem Vx {s : aD} {st : List gM} (h : Bf s st) (i : Int) : Bf s (oA st i).2 := by
 unfold oA
 split
 ·exact h
 ·split
  ·rename_i x hx
   split
   ·exact h
   ·refine ⟨by simp [h.len], fun y hy => ?_⟩
    rcases List.mem_or_eq_of_mem_set hy with hy | rfl
    ·exact h.left y hy
    ·exact h.left x (List.mem_of_getElem? hx)
  ·exact h
theorem aHc {s : aD} {x : aV} (hH : s.cK) (hok : cH s x) (k id : Int) : cH s (mI s x k id).1 := by
 unfold mI
 split
 ·unfold vN
  split
  ·exact ⟨hok.ck, Ut hH hok.dm _, hok.ln, hok.dv, hok.each, hok.wt⟩
  ·split
   ·exact Po hH hok _ _
   ·exact hok
 ·split
  ·exact ⟨On hH hok.ck _ _, hok.dm, hok.ln, hok.dv, hok.each, hok.wt⟩
  ·split
   ·unfold xE
    split
    ·exact ⟨hok.ck, hok.dm, Vx hok.ln _, hok.dv, hok.each, hok.wt⟩
    ·exact hok
   ·exact hok
section
variable (f : Nat) (hL : HL) (s : aD) (z : bH) (x : aV) (w : World)
theorem aAT (hH : s.cK) (aX : gZ hL s) (hok : cH s x) (hk : Dh s z.kind z.id) : Ua f hL s z x (mI s x z.kind z.id) := by
 have qB := aHc hH hok z.kind z.id
 rcases hk.kd with h | h | h
 ·refine ⟨_, by rw [h]; rfl, (by kernel_rfl), qB, fun w F hp hF jW => ?_⟩
  rw [h]
  exact aF3 f hL s z x w hH aX hok z.id F hp hF jW
 ·refine ⟨_, by rw [h]; rfl, (by kernel_rfl), qB, fun w F hp hF jW => ?_⟩
  obtain ⟨h0, h1⟩ := hk.c h
  obtain ⟨c, hc⟩ : ∃ c : Nat, z.id = c := ⟨z.id.toNat, by omega⟩
  rw [h, hc]
  exact aF5 f hL s z x w hH aX hok c (by omega) F hp hF
 ·refine ⟨_, by rw [h]; rfl, (by kernel_rfl), qB, fun w F hp hF jW => ?_⟩
  rw [h]
  exact aF2 f hL s z x w hH aX hok z.id F hp hF
theorem aFt (z0 : bH) (hH : s.cK) (aX : gZ hL s) (hok : cH s x) (hz : qK s z0) (iF : z0.at_ < 0) (kT : gN s x z0 = (z, true)) (hst : ∀ a, lH z0 = some a → (fZ s x z0 a).2.1 = 0 → (fZ s x z0 a).1 = 0 → mK (eS z0 a)) (a : Nat) (ha : z.at_ = (a : Int)) (uW : a < 2) (r : aV × Bool) (hact : Ua f hL s z x r) (kV : mK (eS z a)) (F : Nat → Prop) (hp : (cO f hL s z0 x).sat F w) (hF : ∀ b, F b → b < w.heap.size) (jW : pF ⟨w, fun b => b < w.heap.size ∧ ¬ F b⟩) :
  Calls Tryz.prog 20 #[.pointer (some ⟨f, 0, none⟩)] w (fun y w' => y = .returned (.tuple #[]) ∧ ∃ F', (cO f hL s (rF s z r) r.1).sat F' w' ∧ bX w w' F F') := by
 obtain ⟨fn, eD, hcb, Ft, uV⟩ := hact
 refine XK.Si (vs := [.pointer (some ⟨f, 0, none⟩)]) (p := cO f hL s z0 x) Tryz.func20 rfl Tryz.ntmps20 (by simp) hp hF ?_
 generalize kW : (⟨w, fun b => b < w.heap.size ∧ ¬ F b⟩ : Piece) = R0 at jW ⊢
 refine XK.go ?_
 refine Nf (f := 73) (fi := []) (ca := []) rfl ?_
 refine XK.go ?_
 refine kd (dS rfl (Rd.vQ 0 rfl fun _ => rfl)) ?_
 refine XK.go ?_
 refine bO (t := 8) rfl (fun _ => ?_) (fun h => absurd iF h)
 refine XK.go ?_
 refine iL 0 (cO f hL s z x) (fun w1 F1 t h1 h2 h3 => by
  have := aAg f hL s z0 x hH aX hok hz hst w1 F1 h1 h2
  rw [kT] at this
  exact this) ?_
 dsimp only [List.set]
 refine XK.go ?_
 refine XK.eJ [1, 2, 3, 4, 8, 9, 10, 11] ?_
 refine XB.mv 0 ?_ (hQ := fun _ _ _ h => jZ rfl h)
 refine XB.mv 6 ?_ (hQ := fun _ _ _ h => jZ rfl h)
 refine XB.mv 7 ?_ (hQ := fun _ _ _ h => jZ rfl h)
 refine XB.q 1 ?_ (hQ := fun _ _ _ h => jZ rfl h)
 refine XB.q 2 ?_ (hQ := fun _ _ _ h => jZ rfl h)
 refine XB.q 3 ?_ (hQ := fun _ _ _ h => jZ rfl h)
 refine XB.q 4 ?_ (hQ := fun _ _ _ h => jZ rfl h) (eD := dS rfl (Rd.vQ 0 rfl fun _ => rfl))
 refine XB.q 8 ?_ (hQ := fun _ _ _ h => jZ rfl h)
 refine XB.q 9 ?_ (hQ := fun _ _ _ h => jZ rfl h)
 refine XB.q 10 ?_ (hQ := fun _ _ _ h => jZ rfl h)
 refine XB.q 11 ?_ (hQ := fun _ _ _ h => jZ rfl h) (eD := dS rfl (Rd.vQ 0 rfl fun _ => rfl))
 refine XB.next 5 rfl (by kernel_rfl) ?_
 refine bB (fun w1 t => aA3 z.kind w1) ?_
 rw [eD]
 refine XB.bk ?_
 refine XB.next 12 rfl (by kernel_rfl) ?_
 refine Kh 0 (fi := []) (ca := []) (cO f hL s z r.1) (fun w1 F1 t h1 h2 h3 => by simpa using uV w1 F1 h1 h2 (pF.le jW (h3 _ (by simp)))) ?_ (hf := hcb)
 dsimp only [List.set]
 refine XB.bt ?_
 refine XB.done (by kernel_rfl) ?_
 refine XK.go ?_
 obtain ⟨x', b⟩ := r
 dsimp only at Ft ⊢
 cases b
 ·refine XK.go ?_
  subst kW
  exact XK.Ez (.inr rfl) (by kernel_rfl) Gs rfl fun w1 t => ⟨rfl, t.turns hF (by simp) (i := 0) rfl⟩
 ·refine XK.go ?_
  refine kd (dS rfl (Rd.vQ 0 rfl fun _ => rfl)) ?_
  refine XK.go ?_
  refine XK.take 0 0 rfl rfl ?_
  dsimp only [List.set]
  refine XK.oB 0 rfl fun L => ?_
  dsimp only [List.set]
  refine XK.take 0 0 rfl rfl ?_
  dsimp only [List.set]
  refine gR rfl rfl ?_ (hs := gY.mk 0 rfl dQ.h rfl (by simp [cC]))
  dsimp only [List.set]
  rw [show (cC hL.h L s z).set (0 + 16) (.int .i64 (-1)) = cC hL.h L s { z with at_ := -1 } from rfl]
  refine XK.bF 0 0 rfl rfl ?_
  dsimp only [List.set]
  refine XK.lC 0 (f := fun L : eE => eF f hL.h L s { z with at_ := -1 }) L rfl ?_
  dsimp only [List.set]
  refine XK.bF 0 0 rfl rfl ?_
  dsimp only [List.set]
  refine XK.go ?_
  rw [ha]
  refine iL 0 (cO f hL s (gQ s x' { z with at_ := -1 } a 0) x') (fun w1 F1 t h1 h2 h3 => Se f hL s { z with at_ := -1 } x' hH aX Ft a uW 0 (fun _ => kV) w1 F1 h1 h2) ?_
  dsimp only [List.set]
  refine XK.go ?_
  have hend : rF s z (x', true) = gQ s x' { z with at_ := -1 } a 0 := by
   unfold rF
   rw [if_pos rfl, ha]
   rfl
  rw [hend]
  subst kW
  exact XK.Ez (.inr rfl) (by kernel_rfl) Gs rfl fun w1 t => ⟨rfl, t.turns hF (by simp) (i := 0) rfl⟩
def fU (s : aD) (x : aV) (z : bH) : bH × aV :=
 let t := gN s x z
 let z1 := if z.at_ < 0 then t.1 else z
 if z.at_ < 0 ∧ t.2 = false then (t.1, x) else (rF s z1 (mI s x z1.kind z1.id), (mI s x z1.kind z1.id).1)
structure Ia (s : aD) (x : aV) (z : bH) : Prop where
 hok : cH s x
 fm : qK s z
 at_ : z.at_ < 0 ∨ (∃ a : Nat, z.at_ = (a : Int) ∧ a < 2 ∧ Dh s z.kind z.id ∧ mK (eS z a))
 ask : z.at_ < 0 → ∀ a, lH z = some a → (fZ s x z a).2.1 = 0 → (fZ s x z a).1 = 0 → mK (eS z a)
 new : z.at_ < 0 → ∀ a, lH z = some a → (fZ s x z a).2.1 ≠ 0 → Dh s (fZ s x z a).2.1 (fZ s x z a).2.2 ∧ mK (eS z a)
theorem aDB {z : bH} {a : Nat} (h : z.last = 0 ∨ z.last = 1) (hn : lH z = some a) : a < 2 := by
 unfold lH at hn
 split at hn
 ·cases hn; omega
 ·split at hn
  ·cases hn; omega
  ·cases hn
theorem aFu (hH : s.cK) (aX : gZ hL s) (h : Ia s x z) (F : Nat → Prop) (hp : (cO f hL s z x).sat F w) (hF : ∀ b, F b → b < w.heap.size) (jW : pF ⟨w, fun b => b < w.heap.size ∧ ¬ F b⟩) :
  Calls Tryz.prog 20 #[.pointer (some ⟨f, 0, none⟩)] w (fun y w' => y = .returned (.tuple #[]) ∧ ∃ F', (cO f hL s (fU s x z).1 (fU s x z).2).sat F' w' ∧ bX w w' F F') := by
 unfold fU
 dsimp only
 by_cases iF : z.at_ < 0
 ·cases kT : (gN s x z).2
  ·rw [if_pos ⟨iF, rfl⟩]
   exact aAh f hL s z x hH aX h.hok h.fm (h.ask iF) iF kT w F hp hF
  ·rw [if_neg (by simp), if_pos iF]
   have kS : gN s x z = ((gN s x z).1, true) := Prod.ext rfl kT
   have aEU : ∃ a, lH z = some a ∧ (fZ s x z a).2.1 ≠ 0 ∧ (gN s x z).1 = (rR s x z a).1 := by
    unfold gN at kT ⊢
    cases hn : lH z with
    | none => rw [hn] at kT; cases kT
    | some a =>
     rw [hn] at kT
     refine ⟨a, rfl, fun h0 => ?_, rfl⟩
     unfold rR at kT
     dsimp only at kT
     rw [if_pos h0] at kT
     cases kT
   obtain ⟨a, hn, hd, he⟩ := aEU
   have ha := aDB h.fm.la hn
   obtain ⟨hk, kV⟩ := h.new iF a hn hd
   have e : (rR s x z a).1 = { z with last := a, x := cG z.x a (fZ s x z a).2.1 (fZ s x z a).2.2, y := cF z.y a (fZ s x z a).2.1 (fZ s x z a).2.2, at_ := a, kind := (fZ s x z a).2.1, id := (fZ s x z a).2.2 } := by
    unfold rR
    dsimp only
    rw [if_neg hd]
   rw [e] at he
   have hb : eS (gN s x z).1 a = eS z a := by rw [he]; rfl
   have h1 : (gN s x z).1.at_ = (a : Int) := by rw [he]
   have h2 : (gN s x z).1.kind = (fZ s x z a).2.1 := by rw [he]
   have h3 : (gN s x z).1.id = (fZ s x z a).2.2 := by rw [he]
   exact aFt f hL s (gN s x z).1 x w z hH aX h.hok h.fm iF kS (h.ask iF) a h1 ha _ (aAT f hL s (gN s x z).1 x hH aX h.hok (by rw [h2, h3]; exact hk)) (by rw [hb]; exact kV) F hp hF jW
 ·rw [if_neg (fun hh => iF hh.1), if_neg iF]
  rcases h.at_ with h1 | ⟨a, ha, uW, hk, kV⟩
  ·exact absurd h1 iF
  ·exact aFv f hL s z x w hH aX h.hok h.fm a ha uW _ (aAT f hL s z x hH aX h.hok hk) kV F hp hF jW
end
end
section
set_option maxHeartbeats 4000000
set_option maxRecDepth 20000
theorem aC.ev {w0 : World} {R : List Piece} {H : List HP} {q : Piece} {A : Option Addr} {es : List (Int × Nat)} {j : Nat} {p : Int × Nat} (hq : q ∈ R) (hs : aI q 2 A es.length (es.flatMap vA)) (hj : es[j]? = some p) : ∃ b off, A = some ⟨b, off, none⟩ ∧ aC w0 R H b (off + j * 2) (vA p) := by
 have hlt := (List.getElem?_eq_some_iff.1 hj).1
 obtain ⟨b, off, hA, hz, hc⟩ := aI.vM (rows := es.map vA) (sz := 2) (k := j) (r := vA p) (n := es.length) (by rw [← List.flatMap_def]; exact hs) (fun r hr => by
  obtain ⟨x, _, rfl⟩ := List.mem_map.1 hr
  rfl) (by rw [List.getElem?_map, hj]; rfl) hlt
 exact ⟨b, off, hA, .of fun k v hv => Rd.ro hq hz (hc k v hv)⟩
theorem Za (L : HL) (s : aD) (x : aV) (w : World) (hH : s.cK) (aX : gZ L s) (hok : cH s x) (dN : Int) (hd : 0 ≤ dN ∧ dN < 4294967296) (mA : ∀ i, fP x.wt i = 0) (F : Nat → Prop) (hp : (dG L s x).sat F w) (hF : ∀ b, F b → b < w.heap.size) :
  Calls Tryz.prog 25 #[.pointer (some ⟨L.h, 0, none⟩), .int .u32 dN] w (fun y w' => y = .returned (.slice none 0 0) ∧ ∃ F', (dG L s (iZ s x dN)).sat F' w' ∧ bX w w' F F') := by
 have Fu := hH.t.nv
 have hnd := hH.t.nd
 have mX := hok.dv
 have hls := aX.ds
 refine XK.dY (p := dG L s x) (F := F) (vs := [.pointer (some ⟨L.h, 0, none⟩), .int .u32 dN]) Tryz.func25 rfl Tryz.ntmps25 (by simp) hp hF ?_
 generalize kW : (⟨w, fun b => b < w.heap.size ∧ ¬ F b⟩ : Piece) = R0
 refine XK.go ?_
 refine bB (fun w1 t => wB L s x w1 (t.iM 0 rfl aX hok)) ?_
 refine XK.go ?_
 refine kd (dS rfl (Rd.hard 0 rfl rfl)) ?_
 refine XK.go ?_
 refine XK.aL [(24, .int .i64 0), (23, .int .i64 s.aG.length), (5, .slice none 0 0), (0, .pointer (some ⟨L.h, 0, none⟩)), (1, .int .u32 dN)] ?_
 refine XK.loop (fun m e R H => ∃ i : Nat, i ≤ s.aG.length ∧ m = s.aG.length - i ∧ e = [(24, .int .i64 i), (23, .int .i64 s.aG.length), (5, .slice none 0 0), (0, .pointer (some ⟨L.h, 0, none⟩)), (1, .int .u32 dN)] ∧ R = [R0] ∧ H = [dG L s x]) s.aG.length ⟨0, by omega, rfl, rfl, rfl, rfl⟩ fun m e R H hI => ?_
 obtain ⟨i, hi, rfl, rfl, rfl, rfl⟩ := hI
 refine XK.go ?_
 refine XK.if_ rfl (fun hlt => ?_) (fun hge => ?_)
 ·have hlt : i < s.aG.length := by omega
  refine XK.go ?_
  refine bB (fun w1 t => aEN L s x i hlt (mA i) w1 (t.iM 0 rfl aX hok)) ?_
  refine XK.go ?_
  refine cD (cs := [.int .i64 0, .int .i64 0, .bool false, .int .u32 0]) (aM (by kernel_rfl)) (by decide) fun g1 => ?_
  refine XK.go ?_
  refine XK.weak [1] rfl (by decide) (fun _ h => h) ?_
  refine XK.aL [(24, .int .i64 (i + 1 : Nat)), (23, .int .i64 s.aG.length), (5, .slice none 0 0), (0, .pointer (some ⟨L.h, 0, none⟩)), (1, .int .u32 dN)] ?_
  exact XK.round (s.aG.length - (i + 1)) (by omega) ⟨i + 1, hlt, rfl, rfl, rfl, rfl⟩
 obtain rfl : i = s.aG.length := by omega
 refine XK.go ?_
 refine kd (dS rfl (Rd.hard 0 rfl rfl)) ?_
 refine XK.go ?_
 have hq0 : rU x dN 0 = x.dv := Pe _ _
 refine XK.aL [(44, .int .i64 0), (43, .int .i64 s.aG.length), (42, .slice L.A s.aG.length L.c), (5, .slice none 0 0), (0, .pointer (some ⟨L.h, 0, none⟩)), (1, .int .u32 dN)] ?_
 refine XK.loop (fun m e R H => ∃ i : Nat, i ≤ s.aG.length ∧ m = s.aG.length - i ∧ e = [(44, .int .i64 i), (43, .int .i64 s.aG.length), (42, .slice L.A s.aG.length L.c), (5, .slice none 0 0), (0, .pointer (some ⟨L.h, 0, none⟩)), (1, .int .u32 dN)] ∧ R = [R0] ∧ H = [dG L s { x with dv := rU x dN i }]) s.aG.length ⟨0, by omega, rfl, rfl, rfl, by rw [hq0]⟩ fun m e R H hI => ?_
 obtain ⟨i, hi, rfl, rfl, rfl, rfl⟩ := hI
 have sC := Oz hH hok dN i
 refine XK.go ?_
 refine XK.if_ rfl (fun hlt => ?_) (fun hge => ?_)
 ·have hlt : i < s.aG.length := by omega
  obtain ⟨d, fR⟩ := get_some hlt
  obtain ⟨l, jL⟩ := get_some (l := L.ds) (i := i) (by omega)
  obtain ⟨p, jU⟩ := get_some (l := x.dv) (i := i) (by omega)
  have qW : (rU x dN i)[i]? = some p := Pg jU
  have hstep : (rU x dN i).set i (p.1, nI p.2 (decide (0 < fP x.wt i)) (wK dN i)) = rU x dN (i + 1) := Pf (f := fun i p => (p.1, nI p.2 (decide (0 < fP x.wt i)) (wK dN i))) jU
  have hw0 : decide (0 < fP x.wt i) = false := by rw [mA i]; rfl
  rw [hw0] at hstep
  refine XK.rows 0 rfl aX sC (by omega) fun b off hA => ?_
  refine XK.go ?_
  refine kd (dat i (off + i * 6) (hx := by rw [← hA]; rfl)) ?_
  refine kd (sI rfl (aC.dev 0 rfl aX sC hA fR jL rfl)) ?_
  refine cD (cs := [.int .i64 0, .int .i64 0, .int .i64 0, .int .u32 0, .pointer none, .pointer none]) (aM (by kernel_rfl)) (by decide) fun g1 => ?_
  refine XK.go ?_
  refine XK.eJ [0, 1, 3, 4, 5, 11, 12, 13] ?_
  refine XB.mv 2 ?_
  refine XB.mv 6 ?_
  refine XB.mv 9 ?_
  refine XB.mv 10 ?_
  refine XB.q 0 ?_
  refine XB.q 1 ?_
  refine XB.q 3 ?_
  refine XB.q 4 ?_
  refine XB.q 5 ?_ (eD := dS rfl (Rd.hard 1 rfl rfl))
  refine XB.q 11 ?_ (eD := aA4 rfl rfl (c := dN.fdiv (2 ^ min i 32)) (by omega) rfl)
  refine XB.q 12 ?_ (eD := aA7 (c := Mp (dN.fdiv (2 ^ min i 32)) 1) rfl rfl (fun _ => rfl) (by simp))
  refine XB.q 13 ?_
  refine XB.next 7 rfl (by kernel_rfl) ?_
  refine bB (fun w1 t => aAH L.B (iD s) x.wt x.iQ i (by rw [Jy]; exact hlt) w1 (t.iM 1 rfl aX sC).Mm) ?_
  refine XB.bk ?_
  refine XB.next 8 rfl (by kernel_rfl) ?_
  refine bI ?_
  refine XB.bk ?_
  refine XB.next 14 rfl (by kernel_rfl) ?_
  refine XK.Om 1 i rfl fR jL qW ?_
  dsimp only [List.set]
  refine XK.take 0 1 rfl rfl ?_
  dsimp only [List.set]
  refine iL 0 (qJ l.2 (nI p.2 (decide ((fP x.wt i : Int) > 0)) (wK dN i))) (fun w1 F1 t h1 h2 h3 => aCT _ _ h1 h2) ?_
  dsimp only [List.set]
  refine XK.bF 0 1 rfl rfl ?_
  dsimp only [List.set]
  refine XK.Sx 1 i rfl fR jL qW (p' := (p.1, nI p.2 (decide ((fP x.wt i : Int) > 0)) (wK dN i))) ?_
  dsimp only [List.set]
  have hw1 : decide ((fP x.wt i : Int) > 0) = false := by rw [mA i]; rfl
  rw [hw1, hstep]
  refine XB.bt ?_
  refine XB.done (by kernel_rfl) ?_
  refine XK.go ?_
  refine XK.weak [1] rfl (by decide) (fun _ h => h) ?_
  refine XK.aL [(44, .int .i64 (i + 1 : Nat)), (43, .int .i64 s.aG.length), (42, .slice L.A s.aG.length L.c), (5, .slice none 0 0), (0, .pointer (some ⟨L.h, 0, none⟩)), (1, .int .u32 dN)] ?_
  exact XK.round (s.aG.length - (i + 1)) (by omega) ⟨i + 1, hlt, rfl, rfl, rfl, rfl⟩
 obtain rfl : i = s.aG.length := by omega
 have Qr := Oz hH hok dN s.aG.length
 generalize Rf : rU x dN s.aG.length = uD at Qr ⊢
 refine XK.go ?_
 refine kd (dS rfl (Rd.hard 0 rfl rfl)) ?_
 refine XK.go ?_
 refine XK.take 0 1 rfl rfl ?_
 dsimp only [List.set]
 refine iL 0 (iW L.T s (gE s x.ck)) (fun w1 F1 t h1 h2 h3 => aG0 L.T s x.ck hH aX.fa hok.ck w1 F1 h1 h2) ?_
 dsimp only [List.set]
 refine XK.bF 0 1 rfl rfl ?_
 dsimp only [List.set]
 change XK _ _ _ _ _ [dG L s { x with ck := gE s x.ck, dv := uD }]
 refine XK.go ?_
 refine kd (dS rfl (Rd.hard 0 rfl rfl)) ?_
 refine XK.go ?_
 refine XK.take 0 2 rfl rfl ?_
 dsimp only [List.set]
 refine wX (α := Option Addr × Nat) 0 (f := 84) (fi := []) (ca := []) (fun a => .slice a.1 (gL x.dm s.domains.length).length a.2) (fun a => HP.many [pG L.G s (kG x.dm), HP.own 166 2 (.slice a.1 (gL x.dm s.domains.length).length a.2) (gL x.dm s.domains.length).length ((gL x.dm s.domains.length).flatMap vA)]) (fun _ => True) (by kernel_rfl) rfl rfl rfl (by decide) (fun w1 F1 t h1 h2 h3 => aDa L.G s x.dm hok.dm (by omega) w1 F1 h1 h2) ?_
 rintro ⟨Ae, ce⟩ _
 dsimp only [List.set]
 refine XK.take 0 0 rfl rfl ?_
 dsimp only [List.set]
 refine XK.bF 1 2 rfl rfl ?_
 dsimp only [List.set]
 refine XK.take 0 1 rfl rfl ?_
 dsimp only [List.set]
 refine XK.still [] [0] [2] (by simp) rfl (by decide) (by decide) fun q hq _ hfr => ?_
 obtain ⟨F2, kH, kE⟩ := hq 0 _ (by simp) rfl
 have Yx : aI q 2 Ae (gL x.dm s.domains.length).length ((gL x.dm s.domains.length).flatMap vA) := aI.own ⟨F2, kH, kE⟩
 have qB : cH s { x with ck := gE s x.ck, dm := kG x.dm, dv := uD } := ⟨Nv hH hok.ck, Nu hok.dm, hok.ln, Qr.dv, Qr.each, hok.wt⟩
 have hel : (gL x.dm s.domains.length).length ≤ 1000 := Nat.le_trans (aAt x.dm s.domains.length) (by omega)
 generalize hes : gL x.dm s.domains.length = es at Yx hel ⊢
 change XK _ _ _ _ _ [dG L s { x with ck := gE s x.ck, dm := kG x.dm, dv := uD }]
 refine XK.go ?_
 refine XK.aL [(76, .int .i64 0), (75, .int .i64 es.length), (74, .slice Ae es.length ce), (5, .slice none 0 0), (0, .pointer (some ⟨L.h, 0, none⟩))] ?_
 refine XK.loop (fun m e R H => ∃ j : Nat, j ≤ es.length ∧ m = es.length - j ∧ e = [(76, .int .i64 j), (75, .int .i64 es.length), (74, .slice Ae es.length ce), (5, .slice none 0 0), (0, .pointer (some ⟨L.h, 0, none⟩))] ∧ R = [q, R0] ∧ H = [dG L s { x with ck := gE s x.ck, dm := kG x.dm, dv := (es.take j).foldl (mH s) uD }]) es.length ⟨0, by omega, rfl, rfl, rfl, rfl⟩ fun m e R H hI => ?_
 obtain ⟨j, hj, rfl, rfl, rfl, rfl⟩ := hI
 have zJ : cH s { x with ck := gE s x.ck, dm := kG x.dm, dv := (es.take j).foldl (mH s) uD } := Sc hH (es.take j) _ qB
 refine XK.go ?_
 refine XK.if_ rfl (fun hlt => ?_) (fun hge => ?_)
 ·have hlt : j < es.length := by omega
  obtain ⟨p, jU⟩ := get_some hlt
  have nP : (es.take (j + 1)).foldl (mH s) uD = mH s ((es.take j).foldl (mH s) uD) p := by
   rw [List.take_add_one, jU, List.foldl_append]
   rfl
  generalize hx3 : ({ x with ck := gE s x.ck, dm := kG x.dm, dv := (es.take j).foldl (mH s) uD } : aV) = x3 at zJ
  have Pv : ({ x with ck := gE s x.ck, dm := kG x.dm, dv := (es.take (j + 1)).foldl (mH s) uD } : aV) = { x3 with dv := mH s x3.dv p } := by rw [nP, ← hx3]
  have aHp := zJ.dv
  obtain ⟨be, aD1, hAe, hrd⟩ := aC.ev (w0 := w) (R := [q, R0]) (H := [dG L s x3]) (by simp) Yx jU
  obtain ⟨kn, dm⟩ := p
  refine XK.go ?_
  refine kd (dat j (aD1 + j * 2) (hx := by rw [← hAe]; rfl)) ?_
  refine kd (sI rfl hrd) ?_
  refine cD (cs := [.int .u8 0, .int .i64 0]) (aM (by kernel_rfl)) (by decide) fun g1 => ?_
  refine XK.go ?_
  refine bB (fun w1 t => aEM kn w1) ?_
  by_cases hk : kn = 115 ∨ kn = 114 ∨ kn = 108 ∨ kn = 110
  ·obtain ⟨f, Re, hcb, uV⟩ := aGn hk
   rw [Re]
   refine XK.go ?_
   refine kd (aA6 rfl (.inr ⟨⟨_, _, _, rfl⟩, rfl⟩)) ?_
   refine XK.go ?_
   refine kd (dS rfl (Rd.hard 1 rfl rfl)) ?_
   refine XK.go ?_
   have hm0 : tG s x3.dv (kn, dm) 0 = x3.dv := Pe _ _
   refine XK.aL [(90, .int .i64 0), (89, .int .i64 s.aG.length), (88, .slice L.A s.aG.length L.c), (13, .func (.func f) #[] #[]), (12, .pointer (some ⟨g1, 0, none⟩)), (76, .int .i64 j), (75, .int .i64 es.length), (74, .slice Ae es.length ce), (5, .slice none 0 0), (0, .pointer (some ⟨L.h, 0, none⟩))] ?_
   refine XK.loop (fun m e R H => ∃ i : Nat, i ≤ s.aG.length ∧ m = s.aG.length - i ∧ e = [(90, .int .i64 i), (89, .int .i64 s.aG.length), (88, .slice L.A s.aG.length L.c), (13, .func (.func f) #[] #[]), (12, .pointer (some ⟨g1, 0, none⟩)), (76, .int .i64 j), (75, .int .i64 es.length), (74, .slice Ae es.length ce), (5, .slice none 0 0), (0, .pointer (some ⟨L.h, 0, none⟩))] ∧ R = [q, R0] ∧ H = [HP.aE g1 166 [.int .u8 kn, .int .i64 (dm : Int)], dG L s { x3 with dv := tG s x3.dv (kn, dm) i }]) s.aG.length ⟨0, by omega, rfl, rfl, rfl, by rw [hm0]; rfl⟩ fun m e R H hI => ?_
   obtain ⟨i, hi, rfl, rfl, rfl, rfl⟩ := hI
   have sC := Xb hH zJ (kn, dm) i
   refine XK.go ?_
   refine XK.if_ rfl (fun hlt => ?_) (fun hge => ?_)
   ·have hlt : i < s.aG.length := by omega
    obtain ⟨d, fR⟩ := get_some hlt
    obtain ⟨l, jL⟩ := get_some (l := L.ds) (i := i) (by omega)
    obtain ⟨p, jU⟩ := get_some (l := x3.dv) (i := i) (by omega)
    have qW : (tG s x3.dv (kn, dm) i)[i]? = some p := Pg jU
    have hstep : (tG s x3.dv (kn, dm) i).set i (vC s (kn, dm) i p) = tG s x3.dv (kn, dm) (i + 1) := Pf (f := vC s (kn, dm)) jU
    have hfo := (sC.each i d p fR qW).1
    refine XK.rows 1 rfl aX sC (by omega) fun b off hA => ?_
    refine XK.go ?_
    refine kd (dat i (off + i * 6) (hx := by rw [← hA]; rfl)) ?_
    refine kd (sI rfl (aC.dev 1 rfl aX sC hA fR jL rfl)) ?_
    refine cD (cs := [.int .i64 0, .int .i64 0, .int .i64 0, .int .u32 0, .pointer none, .pointer none]) (aM (by kernel_rfl)) (by decide) fun g2 => ?_
    refine XK.go ?_
    refine XK.if_ rfl (fun he => ?_) (fun he => ?_)
    ·have xO : vC s (kn, dm) i p = (wM kn d p.1, p.2) := by
      unfold vC
      rw [fR]
      exact if_pos he
     refine XK.go ?_
     refine XK.Om 2 i rfl fR jL qW ?_
     dsimp only [List.set]
     refine XK.take 0 0 rfl rfl ?_
     dsimp only [List.set]
     refine Kh 0 (fi := []) (ca := []) (dK l.1 d (wM kn d p.1)) (fun w1 F1 t h1 h2 h3 => by simpa using uV l.1 d p.1 (by have := (hH.t.aG i d fR).2.2.2.2.2.2.2.2.1; omega) hfo w1 F1 h1 h2) ?_ (hf := hcb)
     dsimp only [List.set]
     refine XK.bF 0 0 rfl rfl ?_
     dsimp only [List.set]
     refine XK.Sx 2 i rfl fR jL qW (p' := (wM kn d p.1, p.2)) ?_
     dsimp only [List.set]
     rw [← xO, hstep]
     refine XK.go ?_
     refine XK.weak [1, 2] rfl (by decide) (fun _ h => h) ?_
     refine XK.aL [(90, .int .i64 (i + 1 : Nat)), (89, .int .i64 s.aG.length), (88, .slice L.A s.aG.length L.c), (13, .func (.func f) #[] #[]), (12, .pointer (some ⟨g1, 0, none⟩)), (76, .int .i64 j), (75, .int .i64 es.length), (74, .slice Ae es.length ce), (5, .slice none 0 0), (0, .pointer (some ⟨L.h, 0, none⟩))] ?_
     exact XK.round (s.aG.length - (i + 1)) (by omega) ⟨i + 1, hlt, rfl, rfl, rfl, rfl⟩
    ·have xO : vC s (kn, dm) i p = p := by
      unfold vC
      rw [fR]
      exact if_neg he
     rw [xO, Ej qW] at hstep
     rw [hstep]
     refine XK.go ?_
     refine XK.weak [1, 2] rfl (by decide) (fun _ h => h) ?_
     refine XK.aL [(90, .int .i64 (i + 1 : Nat)), (89, .int .i64 s.aG.length), (88, .slice L.A s.aG.length L.c), (13, .func (.func f) #[] #[]), (12, .pointer (some ⟨g1, 0, none⟩)), (76, .int .i64 j), (75, .int .i64 es.length), (74, .slice Ae es.length ce), (5, .slice none 0 0), (0, .pointer (some ⟨L.h, 0, none⟩))] ?_
     exact XK.round (s.aG.length - (i + 1)) (by omega) ⟨i + 1, hlt, rfl, rfl, rfl, rfl⟩
   obtain rfl : i = s.aG.length := by omega
   refine XK.go ?_
   refine XK.weak [1] rfl (by decide) (fun _ h => h) ?_
   refine XK.aL [(76, .int .i64 (j + 1 : Nat)), (75, .int .i64 es.length), (74, .slice Ae es.length ce), (5, .slice none 0 0), (0, .pointer (some ⟨L.h, 0, none⟩))] ?_
   exact XK.round (es.length - (j + 1)) (by omega) ⟨j + 1, by omega, rfl, rfl, rfl, by rw [Pv]; rfl⟩
  ·have Re : wL kn = .nilFunc := by
    rw [wL, if_neg (by omega), if_neg (by omega), if_neg (by omega)]
   rw [Re]
   refine XK.go ?_
   refine kd (aA6 rfl (.inl ⟨rfl, rfl⟩)) ?_
   refine XK.go ?_
   refine XK.weak [1] rfl (by decide) (fun _ h => h) ?_
   refine XK.aL [(76, .int .i64 (j + 1 : Nat)), (75, .int .i64 es.length), (74, .slice Ae es.length ce), (5, .slice none 0 0), (0, .pointer (some ⟨L.h, 0, none⟩))] ?_
   exact XK.round (es.length - (j + 1)) (by omega) ⟨j + 1, by omega, rfl, rfl, rfl, by rw [Pv, aDI hk, ← hx3]⟩
 obtain rfl : j = es.length := by omega
 rw [List.take_length]
 refine XK.go ?_
 refine kd (dS rfl (Rd.hard 0 rfl rfl)) ?_
 refine XK.go ?_
 refine XK.take 0 3 rfl rfl ?_
 dsimp only [List.set]
 refine wX (α := Option Addr × Nat × Nat) 0 (f := 86) (fi := []) (ca := []) (fun a => .slice a.1 a.2.1 a.2.2) (fun _ => jO L.R s (uM x.ln)) (fun _ => True) (by kernel_rfl) rfl rfl rfl (by decide) (fun w1 F1 t h1 h2 h3 => aC4 L.R s x.ln hH hok.ln w1 F1 h1 h2) ?_
 rintro _ _
 dsimp only [List.set]
 refine XK.bF 0 3 rfl rfl ?_
 dsimp only [List.set]
 change XK _ _ _ _ _ [dG L s { x with ck := gE s x.ck, dm := kG x.dm, ln := uM x.ln, dv := es.foldl (mH s) uD }]
 have tN : ({ x with ck := gE s x.ck, dm := kG x.dm, ln := uM x.ln, dv := es.foldl (mH s) uD } : aV) = iZ s x dN := by rw [iZ, Rf, hes]
 rw [tN]
 refine XK.go ?_
 subst kW
 exact XK.aK rfl rfl fun w1 t => ⟨rfl, t.turns hF (by simp) (i := 0) rfl⟩
end
section
set_option maxHeartbeats 4000000
set_option maxRecDepth 20000
def Tm (s : aD) : Nat → bH → aV → List Int → bH → aV → Prop
 | 0, _, _, _, _, _ => False
 | n + 1, z, x, a, z', x' => Ia s x z ∧ ((eP (fU s x z).1 0 = some a ∧ z' = eN (fU s x z).1 0 ∧ x' = (fU s x z).2) ∨
   (eP (fU s x z).1 0 = none ∧ cH s (fU s x z).2 ∧ (∀ i, fP (fU s x z).2.wt i = 0) ∧ Tm s n (eN (fU s x z).1 0) (iZ s (fU s x z).2 0) a z' x'))
end
section
structure Inv (s : aD) (X : bR) (bd bc bl : Option Nat) (x : aV) : Prop where
 ok : cH s x
 wt : ∀ i, fP x.wt i = 0
 of : X.of s
 dom : ∀ i m, x.dm[i]? = some m → bd ≠ some i → (hasB X.d i = true → m.phase = 49) ∧ (hasB X.d i = false → m.phase = 48 ∨ m.phase = 116)
 gX : ∀ i c y, s.aB[i]? = some c → x.ck[i]? = some y → hasB X.c i = true → bc ≠ some i → y.on = true ∧ (c.kind = 112 → y.left = 0)
 wO : ∀ i, hasB X.c i = true → ∀ j ∈ iH s i, gO s j → hasB X.c j = true
 Bv : ∀ c, bc = some c → ∀ i, hasB X.c i = true → i ≠ c → c ∉ iH s i
 yZ : ∀ i y, x.ln[i]? = some y → hasB X.l i = true → bl ≠ some i → y.held = false
 xG : ∀ (i : Nat) (p : cP × dP) (d : bN), x.dv[i]? = some p → s.aG[i]? = some d → (p.2.at_ = 0 ∨ p.2.at_ = 2 ∨ p.2.at_ = 1 ∧ bd = some d.domain.toNat) ∧ (hasB X.d d.domain.toNat = true → bd ≠ some d.domain.toNat → p.2.at_ = 0)
theorem aBY {m : eG} (h : m.phase = 49 ∨ m.phase = 48 ∨ m.phase = 116) : (eB m).2 = m := by
 unfold eB
 rw [if_neg (by omega), if_neg (by omega), if_neg (by omega)]
theorem aAF (s : aD) : ∀ (k c : Nat), ∀ j ∈ lU s k c, j < s.aB.length
 | 0, c, j, h => by simp [lU] at h
 | k + 1, c, j, h => by
  unfold lU at h
  cases hc : s.aB[c]? with
  | none => rw [hc] at h; simp at h
  | some x =>
   rw [hc] at h
   dsimp only at h
   rcases List.mem_cons.1 h with rfl | h
   ·exact (List.getElem?_eq_some_iff.1 hc).1
   ·cases hs : x.src with
    | nil => rw [hs] at h; simp at h
    | cons f fs => rw [hs] at h; exact aAF s k _ j h
theorem aGL {s : aD} {i j : Nat} (h : j ∈ iH s i) : j < s.aB.length := aAF s _ _ j h
theorem Fa {s : aD} {i : Nat} {c : cZ} (h : s.aB[i]? = some c) : kindOf s i = c.kind := by
 unfold kindOf
 rw [h]
 rfl
section
variable {s : aD} {X : bR} {bd bc bl : Option Nat} {x : aV}
theorem Inv.up (h : Inv s X bd bc bl x) {i j : Nat} (hi : hasB X.c i = true) (hj : j ∈ iH s i) (hb : bc ≠ some j) : Dy s x.ck j = true := by
 have hlt := aGL hj
 obtain ⟨c, hc⟩ := get_some hlt
 obtain ⟨y, hy⟩ := get_some (l := x.ck) (i := j) (by have := h.ok.ck.len; omega)
 unfold Dy
 rw [hc, hy]
 dsimp only
 unfold mR
 by_cases h1 : c.kind = 112
 ·rw [if_pos h1]
  obtain ⟨h2, h3⟩ := h.gX j c y hc hy (h.wO i hi j hj (.inl (by rw [Fa hc]; exact h1))) hb
  rw [h2, h3 h1]
  rfl
 ·rw [if_neg h1]
  by_cases h4 : c.kind = 103
  ·rw [if_pos h4]
   exact (h.gX j c y hc hy (h.wO i hi j hj (.inr (by rw [Fa hc]; exact h4))) hb).1
  ·rw [if_neg h4]
theorem Inv.src (hm : s.made) (h : Inv s X bd bc bl x) {i f : Nat} {c : cZ} {fs : List Int} (hc : s.aB[i]? = some c) (hs : c.src = (f : Int) :: fs) (hi : hasB X.c i = true) (hb : ∀ j, bc = some j → j ∉ iH s f) : runs s x.ck f = true := by
 have fX := Hq hm.aB hc
 rw [hs] at fX
 dsimp only at fX
 unfold runs
 rw [List.all_eq_true]
 intro j hj
 refine h.up hi (j := j) (by rw [fX]; exact List.mem_cons_of_mem _ (by simpa using hj)) fun hbj => hb j hbj hj
theorem Vg (hm : s.made) {i : Nat} {c : cZ} (hc : s.aB[i]? = some c) (mU : gO s i) : ∃ (f : Nat) (fs : List Int), c.src = (f : Int) :: fs ∧ f < i := by
 have hfit := hm.aB i c hc
 have hk := Fa hc
 unfold gO at mU
 rw [hk] at mU
 obtain ⟨h1, h2⟩ := hfit
 cases hs : c.src with
 | nil =>
  exfalso
  rw [hs] at h2
  simp at h2
  omega
 | cons f fs =>
  have := h1 f (by rw [hs]; simp)
  exact ⟨f.toNat, fs, by rw [Int.toNat_of_nonneg this.1], by omega⟩
theorem Inv.aD7 (hm : s.made) (h : Inv s X bd bc bl x) {i f : Nat} {c : cZ} {fs : List Int} (hc : s.aB[i]? = some c) (hs : c.src = (f : Int) :: fs) (hf : f < i) (hi : hasB X.c i = true) : ∀ j, bc = some j → j ∉ iH s f := fun j hj hmem => by
 have hle := aGM hm hmem
 have fX := Hq hm.aB hc
 rw [hs] at fX
 dsimp only at fX
 refine h.Bv j hj i hi (by omega) ?_
 rw [fX]
 exact List.mem_cons_of_mem _ (by simpa using hmem)
theorem aDG {dN : Int} {n i : Nat} {p' : cP × dP} (h : (rU x dN n)[i]? = some p') : ∃ p, x.dv[i]? = some p ∧ (p.2.at_ ≠ 1 → p'.2 = p.2) ∧ (i < n → p'.2 = nI p.2 (decide (0 < fP x.wt i)) (wK dN i)) := by
 rw [rU, List.getElem?_mapIdx] at h
 cases hq : x.dv[i]? with
 | none => rw [hq] at h; cases h
 | some q =>
  rw [hq] at h
  simp only [Option.map_some, Option.some.injEq] at h
  refine ⟨q, rfl, fun h0 => ?_, fun h0 => ?_⟩
  ·subst h
   split
   ·unfold nI
    rw [if_pos h0]
   ·rfl
  ·subst h
   rw [if_pos h0]
theorem aFR {dv : List (cP × dP)} {e : Int × Nat} {i : Nat} {p' : cP × dP} (h : (mH s dv e)[i]? = some p') : ∃ p, dv[i]? = some p ∧ p'.2 = p.2 := by
 rw [mH, tG, List.getElem?_mapIdx] at h
 cases hq : dv[i]? with
 | none => rw [hq] at h; cases h
 | some q =>
  rw [hq] at h
  simp only [Option.map_some, Option.some.injEq] at h
  refine ⟨q, rfl, ?_⟩
  subst h
  split
  ·unfold vC
   split
   ·split <;> rfl
   ·rfl
  ·rfl
theorem aAd : ∀ (es : List (Int × Nat)) (dv : List (cP × dP)) (i : Nat) (p' : cP × dP), (es.foldl (mH s) dv)[i]? = some p' → ∃ p, dv[i]? = some p ∧ p'.2 = p.2
 | [], _, _, p', h => ⟨p', h, rfl⟩
 | e :: es, dv, i, p', h => by
  obtain ⟨p1, h1, h2⟩ := aAd es _ i p' h
  obtain ⟨p, h3, h4⟩ := aFR h1
  exact ⟨p, h3, h2.trans h4⟩
theorem Uz {dN : Int} {i : Nat} {p' : cP × dP} (h : (iZ s x dN).dv[i]? = some p') : ∃ p, x.dv[i]? = some p ∧ (p.2.at_ ≠ 1 → p'.2 = p.2) ∧ (i < s.aG.length → p'.2 = nI p.2 (decide (0 < fP x.wt i)) (wK dN i)) := by
 obtain ⟨p1, h1, h2⟩ := aAd _ _ i p' h
 obtain ⟨p, h3, h4, h5⟩ := aDG h1
 exact ⟨p, h3, fun h0 => h2.trans (h4 h0), fun h0 => h2.trans (h5 h0)⟩
theorem aGl (i : Nat) : wK 0 i = false := by
 unfold wK
 simp
 decide +kernel
theorem aBU (mA : ∀ i, fP x.wt i = 0) {i : Nat} {p' : cP × dP} (hi : i < s.aG.length) (h : (iZ s x 0).dv[i]? = some p') : ∃ p, x.dv[i]? = some p ∧ (p.2.at_ ≠ 1 → p'.2 = p.2) ∧ (p.2.at_ = 1 → p'.2.at_ = 2) := by
 obtain ⟨p, h1, h2, h3⟩ := Uz h
 refine ⟨p, h1, h2, fun h0 => ?_⟩
 rw [h3 hi, mA, aGl]
 unfold nI
 rw [if_neg (by omega), if_neg (by simp), if_neg (by simp)]
theorem aCb {st : List cR} {i : Nat} {c : cZ} {y : cR} (hc : s.aB[i]? = some c) (hy : st[i]? = some y) : (gE s st)[i]? = some (nY s st c y) := by
 rw [gE, List.getElem?_zipWith, hc, hy]
theorem aCa {st : List cR} {i : Nat} {c : cZ} {y' : cR} (hc : s.aB[i]? = some c) (hy : (gE s st)[i]? = some y') : ∃ y, st[i]? = some y ∧ y' = nY s st c y := by
 rw [gE, List.getElem?_zipWith, hc] at hy
 cases hq : st[i]? with
 | none => rw [hq] at hy; cases hy
 | some y => rw [hq] at hy; cases hy; exact ⟨y, rfl, rfl⟩
theorem Inv.tick (hm : s.made) (h : Inv s X bd bc bl x) : Inv s X bd bc bl (iZ s x 0) := by
 refine ⟨Is hm.cK h.ok 0, h.wt, h.of, fun i m hi hb => ?_, fun i c y hc hy hi hb => ?_, h.wO, h.Bv, fun i y hy hi hb => ?_, fun i p d hp hd => ?_⟩
 ·simp only [iZ, kG, List.getElem?_map] at hi
  cases hq : x.dm[i]? with
  | none => rw [hq] at hi; cases hi
  | some m0 =>
   rw [hq] at hi
   simp only [Option.map_some, Option.some.injEq] at hi
   obtain ⟨h1, h2⟩ := h.dom i m0 hq hb
   have hr : m0.phase = 49 ∨ m0.phase = 48 ∨ m0.phase = 116 := by
    cases hX : hasB X.d i
    ·exact .inr (h2 hX)
    ·exact .inl (h1 hX)
   rw [aBY hr] at hi
   subst hi
   exact ⟨h1, h2⟩
 ·obtain ⟨y0, hy0, rfl⟩ := aCa hc hy
  obtain ⟨h1, h2⟩ := h.gX i c y0 hc hy0 hi hb
  unfold nY
  by_cases hk : c.kind = 112
  ·obtain ⟨f, fs, hs, hf⟩ := Vg hm hc (.inl (by rw [Fa hc]; exact hk))
   have hr := h.src hm hc hs hi (h.aD7 hm hc hs hf hi)
   have rZ : Bm c = f := by
    unfold Bm
    rw [hs]
    simp
   rw [if_pos ⟨hk, h1⟩, rZ, hr, if_neg (by simp), if_neg (by have := h2 hk; omega)]
   exact ⟨h1, h2⟩
  ·rw [if_neg (by simp [hk])]
   exact ⟨h1, h2⟩
 ·simp only [iZ, uM, List.getElem?_map] at hy
  cases hq : x.ln[i]? with
  | none => rw [hq] at hy; cases hy
  | some y0 =>
   rw [hq] at hy
   simp only [Option.map_some, Option.some.injEq] at hy
   have h1 := h.yZ i y0 hq hi hb
   subst hy
   unfold gD
   rw [if_pos h1]
   exact h1
 ·obtain ⟨p0, h0, h1, h1'⟩ := aBU h.wt (List.getElem?_eq_some_iff.1 hd).1 hp
  obtain ⟨h2, h3⟩ := h.xG i p0 d h0 hd
  by_cases h4 : p0.2.at_ = 1
  ·refine ⟨.inr (.inl (h1' h4)), fun h5 h6 => ?_⟩
   have := h3 h5 h6
   omega
  ·rw [h1 h4]
   exact ⟨h2, h3⟩
end
end
section
def Mu (s : aD) (X : bR) (m : List Int) (k id : Int) : bH := ⟨X, bG s, 1, 0, m, [], 0, 0, k, id⟩
def Ud (s : aD) (X : bR) (l k id : Int) : bH := ⟨X, bG s, 0, 0, [], [], l, -1, k, id⟩
structure Plain (m : List Int) : Prop where
 u : fO m
 n : m.length ≤ 1000000
 rep : mK m
 more : ∀ (s : aD) (x : aV), kB s x m 0 = [m.headD 0, IntKind.u32.wrap 0]
section
variable {s : aD} {X : bR} {x : aV} {m : List Int} {k id : Int}
theorem aBo (hm : s.made) (hX : X.of s) (hp : Plain m) : qK s (Mu s X m k id) := by
 have h1 := hm.nc
 have h2 := hm.nd
 have h3 := hm.nr
 refine ⟨.inl rfl, hp.u, by simp [Mu, fO], hp.n, by simp [Mu], ⟨?_, ?_, ?_⟩, mN hm.iS⟩
 ·show X.d.length ≤ _
  rw [hX.d]; omega
 ·show X.c.length ≤ _
  rw [hX.c]; omega
 ·show X.l.length ≤ _
  rw [hX.l]; omega
end
def uG (s : aD) (k id : Int) : Nat → aV → aV → Prop
 | 0, _, _ => False
 | n + 1, x, x' => cH s x ∧ (mI s x k id = (x', true) ∨ ∃ x1, mI s x k id = (x1, false) ∧ cH s x1 ∧ (∀ i, fP x1.wt i = 0) ∧ uG s k id n (iZ s x1 0) x')
theorem Jk {s : aD} {x x' : aV} {k id : Int} {n : Nat} (hok : cH s x) (hr : mI s x k id = (x', true)) : uG s k id (n + 1) x x' := ⟨hok, .inl hr⟩
theorem Jj {s : aD} {x x1 x' : aV} {k id : Int} {n : Nat} (hok : cH s x) (hr : mI s x k id = (x1, false)) (Qs : cH s x1) (mA : ∀ i, fP x1.wt i = 0) (h : uG s k id n (iZ s x1 0) x') : uG s k id (n + 1) x x' := ⟨hok, .inr ⟨x1, hr, Qs, mA, h⟩⟩
theorem aDi {st : List eG} {d : Nat} {y : eG} (hy : st[d]? = some y) : mT st (d : Int) = y.phase := by
 have hlt := (List.getElem?_eq_some_iff.1 hy).1
 unfold mT
 rw [if_pos (show cL st.length (d : Int) = true from decide_eq_true (by omega)), Int.toNat_natCast, hy]
 rfl
def rT (y : eG) : Nat := if y.phase = 49 then 0 else if y.phase = 104 then 1 else if y.phase = 114 then 2 + y.left.toNat else 7
theorem Wx (l : Int) (a b : Bool) : rT ⟨114, l, a, b⟩ = 2 + l.toNat := rfl
theorem Wy (l : Int) (a b : Bool) : rT ⟨104, l, a, b⟩ = 1 := rfl
theorem aDD (l : Int) (a b : Bool) : rT ⟨49, l, a, b⟩ = 0 := rfl
section
variable {s : aD} {X : bR}
theorem aEe {x : aV} {D : Int} {n i : Nat} {p' : cP × dP} {d : bN} (hd : s.aG[i]? = some d) (h : (nN s x D n)[i]? = some p') : ∃ p, x.dv[i]? = some p ∧ p'.2 = if i < n ∧ d.domain = D then (lZ p.2).2 else p.2 := by
 rw [nN, List.getElem?_mapIdx] at h
 cases hq : x.dv[i]? with
 | none => rw [hq] at h; cases h
 | some q =>
  rw [hq] at h
  simp only [Option.map_some, Option.some.injEq] at h
  refine ⟨q, rfl, ?_⟩
  subst h
  by_cases h1 : i < n
  ·rw [if_pos h1]
   unfold vT
   rw [hd]
   dsimp only
   by_cases h2 : d.domain = D
   ·rw [if_pos h2, if_pos ⟨h1, h2⟩]
   ·rw [if_neg h2, if_neg fun h => h2 h.2]
  ·rw [if_neg h1, if_neg fun h => h1 h.1]
theorem Od (hm : s.made) {d : Nat} {c : Dom} (hc : s.domains[d]? = some c) (hX : hasB X.d d = true) (hab : c.above = -1 ∨ (0 ≤ c.above ∧ hasB X.d c.above.toNat = true)) :
  ∀ (n : Nat) (x : aV) (y : eG), Inv s X (some d) none none x → (∀ (i : Nat) (p : cP × dP), x.dv[i]? = some p → p.2.at_ ≠ 1) → x.dm[d]? = some y → (y.phase = 49 ∨ y.phase = 104 ∨ y.phase = 114 ∨ y.phase = 48 ∨ y.phase = 116) → rT y < n →
   ∃ x', uG s 117 d n x x' ∧ Inv s X none none none x'
 | 0, _, _, _, _, _, _, h => absurd h (by omega)
 | n + 1, x, y, hi, hno, hy, mC, tK => by
  have Yp : ∀ x1 : aV, x1.dv = x.dv → ∀ (i : Nat) (p : cP × dP), (iZ s x1 0).dv[i]? = some p → p.2.at_ ≠ 1 := fun x1 he i p hp => by
   obtain ⟨p0, h0, h1, _⟩ := Uz hp
   have h2 := hno i p0 (by rw [← he]; exact h0)
   rw [h1 h2]
   exact h2
  have hlt := (List.getElem?_eq_some_iff.1 hy).1
  have hl := hi.ok.dm.left y (List.mem_of_getElem? hy)
  have hact : mI s x 117 d = vN s x d := rfl
  have Qp := aDi hy
  have Yd : ∀ x1 : aV, ∀ y1 : eG, x1.dm[d]? = some y1 → (iZ s x1 0).dm[d]? = some (eB y1).2 := fun x1 y1 h1 => by
   simp only [iZ, kG, List.getElem?_map, h1, Option.map_some]
  by_cases uX : y.phase = 49
  ·refine ⟨{ x with dv := nN s x d s.aG.length }, Jk hi.ok ?_, ?_⟩
   ·rw [hact, vN, Qp, if_neg (by omega), if_pos uX]
   ·refine ⟨Po hm.cK hi.ok _ _, hi.wt, hi.of, fun i m' hi' _ => ?_, hi.gX, hi.wO, hi.Bv, hi.yZ, fun i p' dd hp' dI => ?_⟩
    by_cases hid : i = d
    ·subst hid
     cases hy.symm.trans hi'
     exact ⟨fun _ => uX, fun h => by rw [hX] at h; cases h⟩
    ·exact hi.dom i m' hi' (by simp [Ne.symm hid])
    ·have aE6 := (List.getElem?_eq_some_iff.1 dI).1
     obtain ⟨p0, h0, h1⟩ := aEe dI hp'
     obtain ⟨h2, h3⟩ := hi.xG i p0 dd h0 dI
     rw [h1]
     by_cases hD : dd.domain = (d : Int)
     ·rw [if_pos ⟨aE6, hD⟩]
      have h4 : (lZ p0.2).2.at_ = 0 := by
       unfold lZ
       rcases h2 with h | h | h
       ·rw [if_pos (by omega)]
        exact h
       ·rw [if_neg (by omega)]
       ·exact absurd h.1 (hno i p0 h0)
      exact ⟨.inl h4, fun _ _ => h4⟩
     ·rw [if_neg fun h => hD h.2]
      have rB := (hm.aG i dd dI).2.2.1
      refine ⟨by have := hno i p0 h0; omega, fun h4 _ => h3 h4 fun h5 => hD ?_⟩
      have h5 := Option.some.inj h5
      omega
  ·by_cases hdn : y.phase = 48 ∨ y.phase = 116
   ·have oJ : (nH s x.dm d).2 = x.dm.set d ⟨114, c.delay, decide (y.phase = 116), y.keep⟩ := by
     unfold nH
     rw [show cL x.dm.length (d : Int) = true from decide_eq_true (by omega)]
     simp only [Bool.true_eq_false, if_false, Int.toNat_natCast, hc, hy]
     have h1 : Lt y = true := decide_eq_true hdn
     have h2 : Az x.dm c.above = true := by
      unfold Az
      rcases hab with h | ⟨h0, h1⟩
      ·rw [h]; rfl
      ·have hfit := (hm.domains d c hc).1
       have hal : c.above.toNat < x.dm.length := by omega
       obtain ⟨ya, Xt⟩ := get_some hal
       have := (hi.dom _ ya Xt (by simp; omega)).1 h1
       rw [Xt]
       simp [this]
     rw [h1, h2]
     simp
    have zZ : mI s x 117 d = ({ x with dm := x.dm.set d ⟨114, c.delay, decide (y.phase = 116), y.keep⟩ }, false) := by
     rw [hact, vN, Qp, if_pos hdn, oJ]
    have aHq := (hm.domains d c hc).2
    have hinv : Inv s X (some d) none none { x with dm := x.dm.set d ⟨114, c.delay, decide (y.phase = 116), y.keep⟩ } := by
     refine ⟨?_, hi.wt, hi.of, fun i m' hi' hb => ?_, hi.gX, hi.wO, hi.Bv, hi.yZ, hi.xG⟩
     ·have := Ut hm.cK hi.ok.dm d
      rw [oJ] at this
      exact ⟨hi.ok.ck, this, hi.ok.ln, hi.ok.dv, hi.ok.each, hi.ok.wt⟩
     ·have hid : d ≠ i := fun h => hb (by rw [h])
      rw [List.getElem?_set_ne hid] at hi'
      exact hi.dom i m' hi' hb
    have hy1 : ({ x with dm := x.dm.set d ⟨114, c.delay, decide (y.phase = 116), y.keep⟩ } : aV).dm[d]? = some ⟨114, c.delay, decide (y.phase = 116), y.keep⟩ := List.getElem?_set_self hlt
    have hmy : rT y = 7 := by
     unfold rT
     rw [if_neg uX, if_neg (by omega), if_neg (by omega)]
    obtain ⟨x', h1, h2⟩ := Od hm hc hX hab n _ _ (hinv.tick hm) (Yp _ rfl) (Yd _ _ hy1) (by
     unfold eB
     rw [if_pos rfl]
     split
     ·right; right; left; rfl
     ·right; left; rfl) (by
     unfold eB
     rw [if_pos rfl]
     split
     ·rw [Wx]
      dsimp only
      omega
     ·rw [Wy]
      omega)
    exact ⟨x', Jj hi.ok zZ hinv.ok hinv.wt h1, h2⟩
   ·have zZ : mI s x 117 d = (x, false) := by
     rw [hact, vN, Qp, if_neg hdn, if_neg uX]
    have Cd : y.phase = 104 ∨ y.phase = 114 := by omega
    obtain ⟨x', h1, h2⟩ := Od hm hc hX hab n _ _ (hi.tick hm) (Yp _ rfl) (Yd _ _ hy) (by
     unfold eB
     rcases Cd with h | h
     ·rw [if_neg (by omega), if_pos h]; left; rfl
     ·rw [if_pos h]
      split
      ·right; right; left; rfl
      ·right; left; rfl) (by
     unfold eB
     rcases Cd with h | h
     ·rw [if_neg (by omega), if_pos h]
      have : rT y = 1 := by
       unfold rT
       rw [if_neg uX, if_pos h]
      rw [aDD]
      omega
     ·have hmy : rT y = 2 + y.left.toNat := by
       unfold rT
       rw [if_neg uX, if_neg (by omega), if_pos h]
      rw [if_pos h]
      split
      ·rw [Wx]
       omega
      ·rw [Wy]
       omega)
    exact ⟨x', Jj hi.ok zZ hi.ok hi.wt h1, h2⟩
theorem Vp (hm : s.made) {r : Nat} (hr : r < s.aU.length) :
  ∀ (n : Nat) (x : aV) (y : gM), Inv s X none none (some r) x → x.ln[r]? = some y → (if y.held then y.left.toNat + 1 else 0) < n →
   ∃ x', uG s 114 r n x x' ∧ Inv s X none none none x'
 | 0, _, _, _, _, h => absurd h (by omega)
 | n + 1, x, y, hi, hy, tK => by
  have hlt := (List.getElem?_eq_some_iff.1 hy).1
  have hl := hi.ok.ln.left y (List.mem_of_getElem? hy)
  have hact : mI s x 114 r = xE x r := rfl
  have hin : cL x.ln.length (r : Int) = true := decide_eq_true (by omega)
  have Yv : sE x.ln r = y.held := by
   unfold sE
   rw [hin, Int.toNat_natCast, hy]
   rfl
  cases hh : y.held
  ·refine ⟨x, Jk hi.ok ?_, ?_⟩
   ·rw [hact, xE, Yv, hh]
    rfl
   ·refine ⟨hi.ok, hi.wt, hi.of, hi.dom, hi.gX, hi.wO, hi.Bv, fun i y' hi' hx _ => ?_, hi.xG⟩
    by_cases hid : i = r
    ·subst hid
     cases hy.symm.trans hi'
     exact hh
    ·exact hi.yZ i y' hi' hx (by simp [Ne.symm hid])
  ·rw [hh] at tK
   simp only [if_true] at tK
   have Yn : (oA x.ln r).2 = x.ln.set r ⟨y.left, true, true⟩ := by
    unfold oA
    rw [hin]
    simp only [Bool.true_eq_false, if_false, Int.toNat_natCast, hy, hh]
   have zZ : mI s x 114 r = ({ x with ln := x.ln.set r ⟨y.left, true, true⟩ }, false) := by
    rw [hact, xE, Yv, hh, if_pos rfl, Yn]
   have hinv : Inv s X none none (some r) { x with ln := x.ln.set r ⟨y.left, true, true⟩ } := by
    refine ⟨?_, hi.wt, hi.of, hi.dom, hi.gX, hi.wO, hi.Bv, fun i y' hi' hx hb => ?_, hi.xG⟩
    ·have := Vx hi.ok.ln r
     rw [Yn] at this
     exact ⟨hi.ok.ck, hi.ok.dm, this, hi.ok.dv, hi.ok.each, hi.ok.wt⟩
    ·have hid : r ≠ i := fun h => hb (by rw [h])
     rw [List.getElem?_set_ne hid] at hi'
     exact hi.yZ i y' hi' hx hb
   have hy1 : (iZ s { x with ln := x.ln.set r ⟨y.left, true, true⟩ } 0).ln[r]? = some (gD ⟨y.left, true, true⟩) := by
    simp only [iZ, uM, List.getElem?_map, List.getElem?_set_self hlt, Option.map_some]
   obtain ⟨x', h1, h2⟩ := Vp hm hr n _ _ (hinv.tick hm) hy1 (by
    by_cases h0 : 0 < y.left
    ·have ht : gD ⟨y.left, true, true⟩ = ⟨y.left - 1, true, true⟩ := by
      unfold gD
      rw [if_neg (by simp), if_pos h0]
     rw [ht]
     show (y.left - 1).toNat + 1 < n
     omega
    ·have ht : gD ⟨y.left, true, true⟩ = ⟨y.left, false, false⟩ := by
      unfold gD
      rw [if_neg (by simp), if_neg h0, if_pos rfl]
     rw [ht]
     show 0 < n
     omega)
   exact ⟨x', Jj hi.ok zZ hinv.ok hinv.wt h1, h2⟩
end
end
section
section
variable {s : aD} {X : bR}
end
section
variable {s : aD} {X : bR} {m : List Int}
def vK (s : aD) (X : bR) (l k id : Int) (m : List Int) : bH := ⟨X, bG s, 1, 0, m, [], l, -1, k, id⟩
theorem Mt {l k id : Int} (hl : l = 0 ∨ l = 1) : lH (vK s X l k id m) = some 0 := by
 rcases hl with rfl | rfl <;> rfl
theorem aBn {l k id : Int} (hm : s.made) (hX : X.of s) (hp : Plain m) (hl : l = 0 ∨ l = 1) : qK s (vK s X l k id m) := by
 obtain ⟨h1, h2, h3, h4, h5, h6, h7⟩ := aBo (k := k) (id := id) hm hX hp
 exact ⟨hl, h2, h3, h4, h5, h6, h7⟩
theorem aCj {x : aV} {l k0 i0 : Int} (hm : s.made) (hX : X.of s) (hp : Plain m) (hl : l = 0 ∨ l = 1) (hok : cH s x) (zT : ∀ wt, fT s X (bG s) wt 0 m = (0, 0, 0)) :
  Tm s 1 (vK s X l k0 i0 m) x [m.headD 0, IntKind.u32.wrap 0] (Ud s X 0 k0 i0) x := by
 have hd : fZ s x (vK s X l k0 i0 m) 0 = (0, 0, 0) := zT _
 have kT : gN s x (vK s X l k0 i0 m) = ({ vK s X 0 k0 i0 m with h0 := 2, w0 := [m.headD 0, IntKind.u32.wrap 0] }, false) := by
  unfold gN
  rw [Mt hl]
  dsimp only
  unfold rR
  dsimp only
  rw [hd, if_pos rfl]
  unfold gQ
  show (kJ _ 0 2 (kB s x m 0), false) = _
  rw [hp.more]
  rfl
 have hst : fU s x (vK s X l k0 i0 m) = ({ vK s X 0 k0 i0 m with h0 := 2, w0 := [m.headD 0, IntKind.u32.wrap 0] }, x) := by
  unfold fU
  dsimp only
  rw [kT, if_pos ⟨by show (-1 : Int) < 0; decide, rfl⟩]
 refine ⟨⟨hok, aBn hm hX hp hl, .inl (by show (-1 : Int) < 0; decide), fun _ a ha _ _ => ?_, fun _ a ha h0 => ?_⟩, .inl ?_⟩
 ·rw [Mt hl] at ha
  cases ha
  exact hp.rep
 ·rw [Mt hl] at ha
  cases ha
  rw [hd] at h0
  exact absurd rfl h0
 ·rw [hst]
  exact ⟨rfl, rfl, rfl⟩
theorem Gm {l : List Bool} {i : Nat} (hi : i < l.length) (j : Nat) : hasB (eT l i true) j = if j = i then true else hasB l j := by
 rw [eT, if_pos ⟨by omega, by omega⟩, Int.toNat_natCast, Li, Li, List.getElem?_set]
 by_cases h : i = j
 ·subst h
  rw [if_pos rfl, if_pos hi, if_pos rfl]
  rfl
 ·rw [if_neg h, if_neg (Ne.symm h)]
end
end
section
def stF (s : aD) (X : bR) (x : aV) (l k i : Int) (m : List Int) (X' : bR) : Prop :=
 ∃ (N : Nat) (l' k' i' : Int) (x' : aV), N ≤ 200 ∧ Tm s N (vK s X l k i m) x [m.headD 0, IntKind.u32.wrap 0] (Ud s X' l' k' i') x' ∧ (l' = 0 ∨ l' = 1) ∧ Inv s X' none none none x'
section
variable {s : aD} {X : bR} {x : aV} {l k0 i0 : Int}
theorem Inv.same (hm : s.made) (hl : l = 0 ∨ l = 1) (hi : Inv s X none none none x) {m : List Int} (hp : Plain m) (zT : ∀ wt, fT s X (bG s) wt 0 m = (0, 0, 0)) : stF s X x l k0 i0 m X :=
 ⟨1, 0, k0, i0, x, by omega, aCj hm hi.of hp hl hi.ok zT, .inl rfl, hi⟩
def Dw (X : bR) (d : Nat) : bR := ⟨eT X.d d true, X.c, X.l⟩
def Nj (X : bR) (r : Nat) : bR := ⟨X.d, X.c, eT X.l r true⟩
theorem Inv.rest (hi : Inv s X none none none x) : ∀ (i : Nat) (p : cP × dP), x.dv[i]? = some p → p.2.at_ ≠ 1 := fun i p hp => by
 obtain ⟨d, hd⟩ := get_some (l := s.aG) (i := i) (by have := (List.getElem?_eq_some_iff.1 hp).1; have := hi.ok.dv; omega)
 have := (hi.xG i p d hp hd).1
 simp at this
 omega
theorem aFg (hm : s.made) (hi : Inv s X none none none x) {d : Nat} {c : Dom} (hc : s.domains[d]? = some c) (hab : c.above = -1 ∨ (0 ≤ c.above ∧ hasB X.d c.above.toNat = true)) (hh : hasB X.d d = false) : ∃ x', uG s 117 d (8 + 1) x x' ∧ Inv s (Dw X d) none none none x' := by
 have hlt := (List.getElem?_eq_some_iff.1 hc).1
 have hX := hi.of
 have mX : d < X.d.length := by rw [hX.d]; exact hlt
 have hXd : hasB (Dw X d).d d = true := by
  show hasB (eT X.d d true) d = true
  rw [Gm mX, if_pos rfl]
 have hfit := (hm.domains d c hc).1
 have aFd : c.above = -1 ∨ (0 ≤ c.above ∧ hasB (Dw X d).d c.above.toNat = true) := by
  rcases hab with h | ⟨h0, h3⟩
  ·exact .inl h
  ·refine .inr ⟨h0, ?_⟩
   show hasB (eT X.d d true) _ = true
   rw [Gm mX, if_neg (by omega)]
   exact h3
 have hinv : Inv s (Dw X d) (some d) none none x := by
  refine ⟨hi.ok, hi.wt, ⟨by show (eT _ _ _).length = _; rw [xB]; exact hX.d, hX.c, hX.l⟩, fun i m' hi' hb => ?_, hi.gX, hi.wO, (fun _ h => by cases h), hi.yZ, fun i p dd hp' dI => ?_⟩
  have hid : i ≠ d := fun h => hb (by rw [h])
  have : hasB (Dw X d).d i = hasB X.d i := by
   show hasB (eT X.d d true) i = _
   rw [Gm mX, if_neg hid]
  rw [this]
  exact hi.dom i m' hi' (by simp)
  ·obtain ⟨h2, h3⟩ := hi.xG i p dd hp' dI
   refine ⟨by simp at h2; omega, fun h4 h5 => h3 ?_ (by simp)⟩
   have h6 : dd.domain.toNat ≠ d := fun h => h5 (by rw [h])
   have h7 : hasB (eT X.d d true) dd.domain.toNat = true := h4
   rw [Gm mX, if_neg h6] at h7
   exact h7
 obtain ⟨y, hy⟩ := get_some (l := x.dm) (i := d) (by have := hi.ok.dm.len; omega)
 have mC := (hi.dom d y hy (by simp)).2 hh
 have tK : rT y < 8 + 1 := by
  unfold rT
  rw [if_neg (by omega), if_neg (by omega), if_neg (by omega)]
  omega
 exact Od hm hc hXd aFd (8 + 1) x y hinv (hi.rest) hy (by omega) tK
theorem aFh (hm : s.made) (hi : Inv s X none none none x) {r : Nat} (hlt : r < s.aU.length) (hh : hasB X.l r = false) : ∃ x', uG s 114 r (8 + 1) x x' ∧ Inv s (Nj X r) none none none x' := by
 have hX := hi.of
 have fD : r < X.l.length := by rw [hX.l]; exact hlt
 have jT : ∀ j, hasB (Nj X r).l j = if j = r then true else hasB X.l j := fun j => Gm fD j
 have hinv : Inv s (Nj X r) none none (some r) x := by
  refine ⟨hi.ok, hi.wt, ⟨hX.d, hX.c, by show (eT _ _ _).length = _; rw [xB]; exact hX.l⟩, hi.dom, hi.gX, hi.wO, (fun _ h => by cases h), fun i y hy hx hb => ?_, hi.xG⟩
  have hid : i ≠ r := fun h => hb (by rw [h])
  rw [jT, if_neg hid] at hx
  exact hi.yZ i y hy hx (by simp)
 obtain ⟨y, hy⟩ := get_some (l := x.ln) (i := r) (by have := hi.ok.ln.len; omega)
 have hyl := hi.ok.ln.left y (List.mem_of_getElem? hy)
 exact Vp hm hlt (8 + 1) x y hinv hy (by split <;> omega)
theorem Xm (hm : s.made) : Inv s (bG s) none none none (hw0 s) := by
 have h0 : ∀ (n i : Nat), hasB (List.replicate n false) i = false := fun n i => by
  rw [Li, List.getElem?_replicate]
  split <;> rfl
 refine ⟨Py hm.cK, fun i => ?_, ⟨by simp [bG], by simp [bG], by simp [bG]⟩, fun i m hi' _ => ⟨fun h => ?_, fun _ => ?_⟩, fun i c y _ _ h _ => ?_, fun i h => ?_, (fun _ h => by cases h), fun i y _ h _ => ?_, fun i p d hp _ => ?_⟩
 ·unfold fP hw0
  simp only [List.getElem?_map]
  cases s.aG[i]? <;> rfl
 ·rw [show hasB (bG s).d i = false from h0 _ _] at h
  cases h
 ·simp only [hw0, List.getElem?_map] at hi'
  cases hq : s.domains[i]? with
  | none => rw [hq] at hi'; cases hi'
  | some q => rw [hq] at hi'; cases hi'; exact .inl rfl
 ·rw [show hasB (bG s).c i = false from h0 _ _] at h
  cases h
 ·rw [show hasB (bG s).c i = false from h0 _ _] at h
  cases h
 ·rw [show hasB (bG s).l i = false from h0 _ _] at h
  cases h
 ·have h1 : p.2.at_ = 0 := by
   simp only [hw0, List.getElem?_map] at hp
   cases hq : s.aG[i]? with
   | none => rw [hq] at hp; cases hp
   | some q => rw [hq] at hp; cases hp; rfl
  exact ⟨.inl h1, fun _ _ => h1⟩
end
end
end Go.Proofs.YticjkhagldkejaaGreatDoor
